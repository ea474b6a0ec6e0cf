/-
  The walk and the plain statement of WalEpoch, joined.
-/
import Derived.Test.YtoibofhmlokglaaPx0
import Derived.Test.YtoibofhmlokglaaC07c
import Derived.Test.YtoibofhmlokglaaC07a
import Derived.Test.YtoibofhmlokglaaC07b
import Derived.Test.YtoibofhmlokglaaC07d
set_option linter.unusedVariables false
set_option linter.unusedSimpArgs false
/-
  The walk of WalEpoch, by the print; the ways that would answer false are closed.
-/
namespace Go.Proofs.Ytoibofhmlokglaa.P
open Go.RowKit Go.Proofs.YtoibofhmlokglaaW.PrintWords Go.Proofs.YtoibofhmlokglaaW.PrintLast Go.Proofs.YtoibofhmlokglaaW.PrintMore
attribute [local go_sem] max2_int min2_int max_two min_two max_three min_three max_four min_four   -- for this text's walks alone
set_option linter.unusedVariables false
set_option linter.unusedSimpArgs false

/-! ### sextonlaw07_WalEpoch: function 10 -/
mutual
def sextonlaw07_WalEpoch.j0 : Nat → Int → Int → Int → List ByteArray → ByteArray → Bool → List ByteArray → List (S40) → Option (Bool)
  | 0, _, _, _, _, _, _, _, _ => none
  | k + 1, x1, x2, x3, x4, x5, x51, x429000, x429001 => if x51 = true then ((sextonlaw07_logged.f).bind fun t430 => (some t430)) else ((wal_All.f k x429000 x429001 x1 x2 x4 (-1)).bind fun bt431 => ((wal_Open.f bt431.1 bt431.2.1 x1 x3).bind fun bt440 => ((wal_Append.f bt431.1 bt431.2.1 x1 x3 x5).bind fun bt444 => (if bt431.2.2.2 = 0 then (sextonlaw07_WalEpoch.j1 k x1 x2 x3 x5 bt440.1 bt444.2.2 (bt440.2 != 0) bt444.1 bt444.2.1) else (sextonlaw07_WalEpoch.j1 k x1 x2 x3 x5 bt440.1 bt444.2.2 true bt444.1 bt444.2.1)))))
def sextonlaw07_WalEpoch.j1 : Nat → Int → Int → Int → ByteArray → List ByteArray → Int → Bool → List ByteArray → List (S40) → Option (Bool)
  | 0, _, _, _, _, _, _, _, _, _ => none
  | k + 1, x1, x2, x3, x5, x18, x21, x82, x452000, x452001 => if x82 = true then ((sextonlaw07_logged.f).bind fun t452 => (some t452)) else ((wal_Open.f x452000 x452001 x1 x3).bind fun bt453 => ((wal_Open.f x452000 x452001 x1 x2).bind fun bt457 => ((sextonlaw07_logged.f).bind fun t461 => (if t461 = true then (if (x18.length : Int) = 0 then (if x21 = 0 then (if bt453.2 = 0 then ((sextonref01_Texts.f k bt453.1 (([x5] : List ByteArray))).bind fun t465 => (if t465 = true then (if bt457.2 = 0 then (some ((bt457.1.length : Int) == 0)) else (some false)) else (some false))) else (some false)) else (some false)) else (some false)) else (some false)))))
end
def sextonlaw07_WalEpoch.f (k : Nat) (a0 : Int) (a1 : Int) (a2 : Int) (a3 : Int) (l4 : List ByteArray) (a5 : ByteArray) : Option (Bool) := (disk_New.f a0).bind fun bt421 => (if bt421.2.2 = 0 then (if a0 > 20 then (sextonlaw07_WalEpoch.j0 k a1 a2 a3 l4 a5 true bt421.1 bt421.2.1) else ((sextonlaw07_far.f k bt421.1 bt421.2.1 l4).bind fun t429 => (if t429 = true then (sextonlaw07_WalEpoch.j0 k a1 a2 a3 l4 a5 true bt421.1 bt421.2.1) else (if (a5.size : Int) > 200 then (sextonlaw07_WalEpoch.j0 k a1 a2 a3 l4 a5 true bt421.1 bt421.2.1) else (sextonlaw07_WalEpoch.j0 k a1 a2 a3 l4 a5 (a2 == a3) bt421.1 bt421.2.1))))) else (sextonlaw07_WalEpoch.j0 k a1 a2 a3 l4 a5 true bt421.1 bt421.2.1))
theorem sextonlaw07_WalEpoch.mono_l : ∀ k, (∀ y0 y1 y2 y3 y4 y5 y6 y7, LeO (sextonlaw07_WalEpoch.j0 k y0 y1 y2 y3 y4 y5 y6 y7) (sextonlaw07_WalEpoch.j0 (k + 1) y0 y1 y2 y3 y4 y5 y6 y7)) ∧ (∀ y0 y1 y2 y3 y4 y5 y6 y7 y8, LeO (sextonlaw07_WalEpoch.j1 k y0 y1 y2 y3 y4 y5 y6 y7 y8) (sextonlaw07_WalEpoch.j1 (k + 1) y0 y1 y2 y3 y4 y5 y6 y7 y8))
  | 0 => ⟨fun _ _ _ _ _ _ _ _ r h => by simp [sextonlaw07_WalEpoch.j0] at h, fun _ _ _ _ _ _ _ _ _ r h => by simp [sextonlaw07_WalEpoch.j1] at h⟩
  | k + 1 => by
    obtain ⟨ih0, ih1⟩ := sextonlaw07_WalEpoch.mono_l k
    refine ⟨?_, ?_⟩
    · intro y0 y1 y2 y3 y4 y5 y6 y7
      unfold sextonlaw07_WalEpoch.j0
      repeat' first
      | (with_reducible exact ih0 _ _ _ _ _ _ _ _)
      | (with_reducible exact ih1 _ _ _ _ _ _ _ _ _)
      | (with_reducible exact sextonlaw07_far.mono _ _ _ _)
      | (with_reducible exact sextonref01_Texts.mono _ _ _)
      | (with_reducible exact wal_All.mono _ _ _ _ _ _ _)
      | (with_reducible exact LeO.refl _)
      | (with_reducible exact LeO.none _)
      | (with_reducible refine LeO.ite ?_ ?_)
      | (with_reducible refine LeO.bind ?_ (fun _ => ?_))
      | exact ih0 _ _ _ _ _ _ _ _
      | exact ih1 _ _ _ _ _ _ _ _ _
      | exact sextonlaw07_far.mono _ _ _ _
      | exact sextonref01_Texts.mono _ _ _
      | exact wal_All.mono _ _ _ _ _ _ _
      | exact LeO.none _
      | refine LeO.ite ?_ ?_
      | refine LeO.bind ?_ (fun _ => ?_)
    · intro y0 y1 y2 y3 y4 y5 y6 y7 y8
      unfold sextonlaw07_WalEpoch.j1
      repeat' first
      | (with_reducible exact ih0 _ _ _ _ _ _ _ _)
      | (with_reducible exact ih1 _ _ _ _ _ _ _ _ _)
      | (with_reducible exact sextonlaw07_far.mono _ _ _ _)
      | (with_reducible exact sextonref01_Texts.mono _ _ _)
      | (with_reducible exact wal_All.mono _ _ _ _ _ _ _)
      | (with_reducible exact LeO.refl _)
      | (with_reducible exact LeO.none _)
      | (with_reducible refine LeO.ite ?_ ?_)
      | (with_reducible refine LeO.bind ?_ (fun _ => ?_))
      | exact ih0 _ _ _ _ _ _ _ _
      | exact ih1 _ _ _ _ _ _ _ _ _
      | exact sextonlaw07_far.mono _ _ _ _
      | exact sextonref01_Texts.mono _ _ _
      | exact wal_All.mono _ _ _ _ _ _ _
      | exact LeO.none _
      | refine LeO.ite ?_ ?_
      | refine LeO.bind ?_ (fun _ => ?_)
theorem sextonlaw07_WalEpoch.mono : ∀ a0 a1 a2 a3 a4 a5 k, LeO (sextonlaw07_WalEpoch.f k a0 a1 a2 a3 a4 a5) (sextonlaw07_WalEpoch.f (k + 1) a0 a1 a2 a3 a4 a5) := by
  intro a0 a1 a2 a3 a4 a5 k
  obtain ⟨ih0, ih1⟩ := sextonlaw07_WalEpoch.mono_l k
  unfold sextonlaw07_WalEpoch.f
  repeat' first
      | (with_reducible exact ih0 _ _ _ _ _ _ _ _)
      | (with_reducible exact ih1 _ _ _ _ _ _ _ _ _)
      | (with_reducible exact sextonlaw07_far.mono _ _ _ _)
      | (with_reducible exact sextonref01_Texts.mono _ _ _)
      | (with_reducible exact wal_All.mono _ _ _ _ _ _ _)
      | (with_reducible exact LeO.refl _)
      | (with_reducible exact LeO.none _)
      | (with_reducible refine LeO.ite ?_ ?_)
      | (with_reducible refine LeO.bind ?_ (fun _ => ?_))
      | exact ih0 _ _ _ _ _ _ _ _
      | exact ih1 _ _ _ _ _ _ _ _ _
      | exact sextonlaw07_far.mono _ _ _ _
      | exact sextonref01_Texts.mono _ _ _
      | exact wal_All.mono _ _ _ _ _ _ _
      | exact LeO.none _
      | refine LeO.ite ?_ ?_
      | refine LeO.bind ?_ (fun _ => ?_)
set_option maxHeartbeats 8000000 in
set_option maxRecDepth 100000 in
theorem sextonlaw07_WalEpoch.calls (k : Nat) (a0 : Int) (a1 : Int) (a2 : Int) (a3 : Int) (A4 : Option Addr) (c4 : Nat) (l4 : List ByteArray) (a5 : ByteArray) (r : Bool) (hrt : r = true := by rfl) (w : World) (hr4 : Kd.C Kd.string w A4 l4.length l4) (hc4 : l4.length ≤ c4) (h : sextonlaw07_WalEpoch.f k a0 a1 a2 a3 l4 a5 = some r) :
    Calls Try.prog 10 #[.int .i64 a0, .int .i64 a1, .int .i64 a2, .int .i64 a3, .slice A4 l4.length c4, .string a5] w fun e w' => e = .returned (.bool r) ∧ Below w.heap.size w w' := by
  have HRT := Aside0.mk hrt
  have hu25 := Try.underlying25
  have HR4 := Aside0.mk hr4
  have HC4 := Aside0.mk hc4
  clear hr4 hc4
  have HB := Aside0.mk (Below.refl w.heap.size w)
  have H : ((disk_New.f a0).bind fun bt421 => (if bt421.2.2 = 0 then (if a0 > 20 then (sextonlaw07_WalEpoch.j0 k a1 a2 a3 l4 a5 true bt421.1 bt421.2.1) else ((sextonlaw07_far.f k bt421.1 bt421.2.1 l4).bind fun t429 => (if t429 = true then (sextonlaw07_WalEpoch.j0 k a1 a2 a3 l4 a5 true bt421.1 bt421.2.1) else (if (a5.size : Int) > 200 then (sextonlaw07_WalEpoch.j0 k a1 a2 a3 l4 a5 true bt421.1 bt421.2.1) else (sextonlaw07_WalEpoch.j0 k a1 a2 a3 l4 a5 (a2 == a3) bt421.1 bt421.2.1))))) else (sextonlaw07_WalEpoch.j0 k a1 a2 a3 l4 a5 true bt421.1 bt421.2.1))) = some r := h
  clear h
  replace H := Option.bind_eq_some_iff.mp H
  obtain ⟨⟨t421, t424, t427⟩, A70, H⟩ := H
  replace H : (if t427 = 0 then (if a0 > 20 then (sextonlaw07_WalEpoch.j0 k a1 a2 a3 l4 a5 true t421 t424) else ((sextonlaw07_far.f k t421 t424 l4).bind fun t429 => (if t429 = true then (sextonlaw07_WalEpoch.j0 k a1 a2 a3 l4 a5 true t421 t424) else (if (a5.size : Int) > 200 then (sextonlaw07_WalEpoch.j0 k a1 a2 a3 l4 a5 true t421 t424) else (sextonlaw07_WalEpoch.j0 k a1 a2 a3 l4 a5 (a2 == a3) t421 t424))))) else (sextonlaw07_WalEpoch.j0 k a1 a2 a3 l4 a5 true t421 t424)) = some r := H
  have A7 := Aside0.mk A70
  clear A70
  have HC8 := Aside0.mk H
  clear H
  go_enter Try.func10, Try.ntmps10
  go_upto_region 2 with (first | ((with_reducible refine gate_callee (f := 21) rfl ?_); refine goesL_ (some 28) rfl rfl Try.func21 (by kernel_rfl) rfl #[.int .i64 a0] rfl (by (try simp only [List.map_toArray, List.map_cons, List.map_nil]); first | done | rfl | (simp only [List.length_drop, List.length_take]; rfl)) ?_; (with_reducible refine (disk_New.calls a0 t421 t424 t427 _ A7.out).mono ?_); rintro e w9 ⟨v422, v425, rfl, ho0, ho1, hb⟩; refine ⟨_, rfl, ?_⟩; have n0_ := Aside0.mk (Kd.R_lower ho0 (below_size (by repeat (first | (with_reducible first | exact HB.out | apply below_alloc | apply pw_below_drewN | apply below_drew1) | exact HB.out)))); have n1_ := Aside0.mk (Kd.R_lower ho1 (below_size (by repeat (first | (with_reducible first | exact HB.out | apply below_alloc | apply pw_below_drewN | apply below_drew1) | exact HB.out)))); have n2_ := Aside0.mk (below_step (by repeat (first | (with_reducible first | exact HB.out | apply below_alloc | apply pw_below_drewN | apply below_drew1) | exact HB.out)) hb); clear HB; have HO423 := n0_; have HO426 := n1_; have HB := n2_; clear n0_ n1_ n2_; (try clear hb); (try clear hb2); (try clear hk); (try clear hi); (try clear ho0); (try clear ho1)) | ((with_reducible refine gate_dst (N := 13) rfl ?_); (try (refine gate_guard (by rfl) ?_; dsimp only)); refine box_event ?hg (N := 13) ?hd (cs := #[.slice none 0 0, .slice none 0 0]) (t := 25) ?hr ?_; (case hd => rfl); (case hg => rfl); (case hr => first | (go_simp; done) | (go_simp; rfl)); intro gb428 hg w10 hbox hb; have n0_ := Aside0.mk (Kd.R_below (by (with_reducible repeat (first | apply Kd.R_alloc | apply Kd.R_drewN | apply Kd.R_drew)); exact HO423.out) hb); have n1_ := Aside0.mk (Kd.R_below (by (with_reducible repeat (first | apply Kd.R_alloc | apply Kd.R_drewN | apply Kd.R_drew)); exact HO426.out) hb); have n2_ := Aside0.mk (below_step (by repeat (first | (with_reducible first | exact HB.out | apply below_alloc | apply pw_below_drewN | apply below_drew1) | exact HB.out)) hb); have n3_ := Aside0.mk (hbox); have n4_ := Aside0.mk ((by rw [hg]; exact (below_size (by repeat (first | (with_reducible first | exact HB.out | apply below_alloc | apply pw_below_drewN | apply below_drew1) | exact HB.out))) : w.heap.size ≤ gb428)); have n5_ := Aside0.mk ((by rw [hg]; exact (below_size (by repeat (first | (with_reducible first | exact HB.out | apply below_alloc | apply pw_below_drewN | apply below_drew1) | exact HB.out))) : w.heap.size ≤ gb428)); clear HO423; clear HO426; clear HB; have HO423 := n0_; have HO426 := n1_; have HB := n2_; have BK428 := n3_; have GW428 := n4_; have GE428 := n5_; clear n0_ n1_ n2_ n3_ n4_ n5_; clear hb hbox hg; obtain ⟨Ao11, co11, eo11⟩ := Kd.R_slice HO423.out; subst eo11; have hcz12_0 : w10.cell? ⟨gb428, 0, none⟩ = some (.slice none 0 0) := (blk_cell BK428.out 0).trans rfl; have hcz12_1 : w10.cell? ⟨gb428, 1, none⟩ = some (.slice none 0 0) := (blk_cell BK428.out 1).trans rfl; have hfz12_0 := blk_frozen BK428.out 0; have hfz12_1 := blk_frozen BK428.out 1; obtain ⟨Ao13, co13, eo13⟩ := Kd.R_slice HO426.out; subst eo13))
  (try simp only [Act.put, List.setIfInBounds_toArray, List.set_cons_zero, List.set_cons_succ])
  go_cut [51] (fun v51 wc => ∃ (kq : Nat) (x51_7 : Bool), v51 = .bool x51_7 ∧ Aside0 (sextonlaw07_WalEpoch.j0 kq a1 a2 a3 l4 a5 x51_7 t421 t424 = some r) ∧ Aside0 (kq ≤ k) ∧ Aside0 (Kd.R Kd.string 9 wc w.heap.size (fun _ => True) (.slice Ao11 t421.length co11) t421) ∧ Aside0 (Kd.R k40 40 wc w.heap.size (fun _ => True) (.slice Ao13 t424.length co13) t424) ∧ Aside0 (wc.heap[gb428]? = some (.cells #[(.slice Ao11 t421.length co11), (.slice Ao13 t424.length co13)] 25 (0, 0))) ∧ Aside0 (Below w.heap.size w wc))
  case first =>
    have H := HC8.out
    clear HC8
    by_cases c14 : t427 = 0
    · rw [if_pos c14] at H
      have c14b0 : (t427 == 0) = true := beq_iff_eq.mpr c14
      have c14b1 : (t427 != 0) = false := bne_eq_false_iff_eq.mpr c14
      clear c14
      (first | rw [c14b0] | (simp only [i64_w, i32_w]; rw [c14b0]) | skip)
      by_cases c15 : a0 > 20
      · rw [if_pos c15] at H
        have c15b0 : decide (20 < a0) = true := decide_eq_true c15
        clear c15
        have H' := Aside0.mk H
        clear H
        go_wp2
        go_meet
        case rel => exact ⟨_, (true), (by first | rfl | (simp; done) | (simp [*]; done)), H', ⟨by first | omega | exact Nat.le_refl _⟩, ⟨by (with_reducible repeat (first | apply Kd.R_alloc | apply Kd.R_drewN | apply Kd.R_drew)); exact Kd.R_mono (Kd.R_far (p := ⟨gb428, 1, none⟩) (Kd.R_far (p := ⟨gb428, 0, none⟩) (Kd.R_types HO423.out BK428.out (by decide)) (fun _ hk => hk.2) (.slice Ao11 t421.length co11)) (fun _ hk => hk.2) (.slice Ao13 t424.length co13)) (fun _ hk => trivial)⟩, ⟨by (with_reducible repeat (first | apply Kd.R_alloc | apply Kd.R_drewN | apply Kd.R_drew)); exact Kd.R_mono (Kd.R_far (p := ⟨gb428, 1, none⟩) (Kd.R_far (p := ⟨gb428, 0, none⟩) (Kd.R_types HO426.out BK428.out (by decide)) (fun _ hk => hk.2) (.slice Ao11 t421.length co11)) (fun _ hk => hk.2) (.slice Ao13 t424.length co13)) (fun _ hk => trivial)⟩, ⟨by (with_reducible repeat (first | refine blk_drewN ?_ _ | refine blk_drew ?_ | refine blk_alloc ?_ _)); refine blk_put (cs := #[.slice Ao11 t421.length co11, .slice none 0 0]) ?_ 1 _ rfl; (with_reducible repeat (first | refine blk_drewN ?_ _ | refine blk_drew ?_ | refine blk_alloc ?_ _)); refine blk_put (cs := #[.slice none 0 0, .slice none 0 0]) ?_ 0 _ rfl; (with_reducible repeat (first | refine blk_drewN ?_ _ | refine blk_drew ?_ | refine blk_alloc ?_ _)); exact BK428.out⟩, ⟨by repeat (first | (with_reducible first | exact HB.out | apply below_alloc | apply pw_below_drewN | apply below_drew1 | refine below_set ?_ GE428.out) | exact HB.out)⟩⟩
      · rw [if_neg c15] at H
        have c15b0 : decide (20 < a0) = false := decide_eq_false c15
        clear c15
        replace H := Option.bind_eq_some_iff.mp H
        obtain ⟨t429, A160, H⟩ := H
        replace H : (if t429 = true then (sextonlaw07_WalEpoch.j0 k a1 a2 a3 l4 a5 true t421 t424) else (if (a5.size : Int) > 200 then (sextonlaw07_WalEpoch.j0 k a1 a2 a3 l4 a5 true t421 t424) else (sextonlaw07_WalEpoch.j0 k a1 a2 a3 l4 a5 (a2 == a3) t421 t424))) = some r := H
        have A16 := Aside0.mk A160
        clear A160
        by_cases c17 : t429 = true
        · subst c17
          have H1 : (sextonlaw07_WalEpoch.j0 k a1 a2 a3 l4 a5 true t421 t424) = some r := by rw [if_pos rfl] at H; exact H
          clear H
          have H := H1
          clear H1
          have H' := Aside0.mk H
          clear H
          have hcz18_0 : w10.cell? ⟨gb428, 0, none⟩ = some (.slice none 0 0) := (blk_cell BK428.out 0).trans rfl
          have hcz18_1 : w10.cell? ⟨gb428, 1, none⟩ = some (.slice none 0 0) := (blk_cell BK428.out 1).trans rfl
          have hfz18_0 := blk_frozen BK428.out 0
          have hfz18_1 := blk_frozen BK428.out 1
          go_wp2_with (first | (go_at_call 27; (with_reducible refine (sextonlaw07_far.calls k _ _ t421 _ _ t424 _ _ l4 true _ ?side1 ?side2 ?side3 ?side4 ?side5 ?side6 A16.out).mono ?_); (case side1 => refine (Kd.R_reads' (e := 9) (base := w.heap.size) (ok := fun k_ => True) (n := t421.length) (c := co11) ?_).2.2; exact (by (with_reducible repeat (first | apply Kd.R_alloc | apply Kd.R_drewN | apply Kd.R_drew)); exact (Kd.R_mono (Kd.R_far (p := ⟨gb428, 1, none⟩) (Kd.R_far (p := ⟨gb428, 0, none⟩) (Kd.R_types HO423.out BK428.out (by decide)) (fun _ hk => hk.2) (.slice Ao11 t421.length co11)) (fun _ hk => hk.2) (.slice Ao13 t424.length co13)) (fun _ h_ => h_.1)))); (case side2 => exact (Kd.R_reads' HO423.out).2.1); (case side3 => refine (Kd.R_reads' (e := 40) (base := w.heap.size) (ok := fun k_ => True) (n := t424.length) (c := co13) ?_).2.2; exact (by (with_reducible repeat (first | apply Kd.R_alloc | apply Kd.R_drewN | apply Kd.R_drew)); exact (Kd.R_mono (Kd.R_far (p := ⟨gb428, 1, none⟩) (Kd.R_far (p := ⟨gb428, 0, none⟩) (Kd.R_types HO426.out BK428.out (by decide)) (fun _ hk => hk.2) (.slice Ao11 t421.length co11)) (fun _ hk => hk.2) (.slice Ao13 t424.length co13)) (fun _ h_ => h_.1)))); (case side4 => exact (Kd.R_reads' HO426.out).2.1); (case side5 => exact Kd.C_below HR4.out (by repeat (first | (with_reducible first | exact HB.out | apply below_alloc | apply pw_below_drewN | apply below_drew1 | refine below_set ?_ GE428.out) | exact HB.out))); (case side6 => exact HC4.out); rintro e w19 ⟨rfl, hb⟩; have n0_ := Aside0.mk (Kd.R_below (by (with_reducible repeat (first | apply Kd.R_alloc | apply Kd.R_drewN | apply Kd.R_drew)); exact (Kd.R_mono (Kd.R_far (p := ⟨gb428, 1, none⟩) (Kd.R_far (p := ⟨gb428, 0, none⟩) (Kd.R_types HO423.out BK428.out (by decide)) (fun _ hk => hk.2) (.slice Ao11 t421.length co11)) (fun _ hk => hk.2) (.slice Ao13 t424.length co13)) (fun _ h_ => h_.1))) hb); have n1_ := Aside0.mk (Kd.R_below (by (with_reducible repeat (first | apply Kd.R_alloc | apply Kd.R_drewN | apply Kd.R_drew)); exact (Kd.R_mono (Kd.R_far (p := ⟨gb428, 1, none⟩) (Kd.R_far (p := ⟨gb428, 0, none⟩) (Kd.R_types HO426.out BK428.out (by decide)) (fun _ hk => hk.2) (.slice Ao11 t421.length co11)) (fun _ hk => hk.2) (.slice Ao13 t424.length co13)) (fun _ h_ => h_.1))) hb); have n2_ := Aside0.mk (blk_below (g := gb428) (o := .cells #[.slice Ao11 t421.length co11, .slice Ao13 t424.length co13] 25 (0, 0)) (by (with_reducible repeat (first | refine blk_drewN ?_ _ | refine blk_drew ?_ | refine blk_alloc ?_ _)); refine blk_put (cs := #[.slice Ao11 t421.length co11, .slice none 0 0]) ?_ 1 _ rfl; (with_reducible repeat (first | refine blk_drewN ?_ _ | refine blk_drew ?_ | refine blk_alloc ?_ _)); refine blk_put (cs := #[.slice none 0 0, .slice none 0 0]) ?_ 0 _ rfl; (with_reducible repeat (first | refine blk_drewN ?_ _ | refine blk_drew ?_ | refine blk_alloc ?_ _)); exact BK428.out) hb); have n3_ := Aside0.mk (below_step (by repeat (first | (with_reducible first | exact HB.out | apply below_alloc | apply pw_below_drewN | apply below_drew1 | refine below_set ?_ GE428.out) | exact HB.out)) hb); clear HO423; clear HO426; clear BK428; clear HB; have HO423 := n0_; have HO426 := n1_; have BK428 := n2_; have HB := n3_; clear n0_ n1_ n2_ n3_; (try clear hb); (try clear hb2); (try clear hk); (try clear hi)))
          go_meet
          case rel => exact ⟨_, (true), (by first | rfl | (simp; done) | (simp [*]; done)), H', ⟨by first | omega | exact Nat.le_refl _⟩, ⟨by (with_reducible repeat (first | apply Kd.R_alloc | apply Kd.R_drewN | apply Kd.R_drew)); exact HO423.out⟩, ⟨by (with_reducible repeat (first | apply Kd.R_alloc | apply Kd.R_drewN | apply Kd.R_drew)); exact HO426.out⟩, ⟨by (with_reducible repeat (first | refine blk_drewN ?_ _ | refine blk_drew ?_ | refine blk_alloc ?_ _)); exact BK428.out⟩, ⟨by repeat (first | (with_reducible first | exact HB.out | apply below_alloc | apply pw_below_drewN | apply below_drew1 | refine below_set ?_ GE428.out) | exact HB.out)⟩⟩
        · replace c17 := Bool.eq_false_iff.mpr c17
          subst c17
          have H1 : (if (a5.size : Int) > 200 then (sextonlaw07_WalEpoch.j0 k a1 a2 a3 l4 a5 true t421 t424) else (sextonlaw07_WalEpoch.j0 k a1 a2 a3 l4 a5 (a2 == a3) t421 t424)) = some r := by rw [if_neg (show ¬ (false = true) by decide)] at H; exact H
          clear H
          have H := H1
          clear H1
          by_cases c20 : (a5.size : Int) > 200
          · rw [if_pos c20] at H
            have c20b0 : decide (200 < (a5.size : Int)) = true := decide_eq_true c20
            have c20b1 : decide (200 < a5.size) = true := decide_eq_true (by omega)
            clear c20
            have H' := Aside0.mk H
            clear H
            have hcz21_0 : w10.cell? ⟨gb428, 0, none⟩ = some (.slice none 0 0) := (blk_cell BK428.out 0).trans rfl
            have hcz21_1 : w10.cell? ⟨gb428, 1, none⟩ = some (.slice none 0 0) := (blk_cell BK428.out 1).trans rfl
            have hfz21_0 := blk_frozen BK428.out 0
            have hfz21_1 := blk_frozen BK428.out 1
            go_wp2_with (first | (go_at_call 27; (with_reducible refine (sextonlaw07_far.calls k _ _ t421 _ _ t424 _ _ l4 false _ ?side1 ?side2 ?side3 ?side4 ?side5 ?side6 A16.out).mono ?_); (case side1 => refine (Kd.R_reads' (e := 9) (base := w.heap.size) (ok := fun k_ => True) (n := t421.length) (c := co11) ?_).2.2; exact (by (with_reducible repeat (first | apply Kd.R_alloc | apply Kd.R_drewN | apply Kd.R_drew)); exact (Kd.R_mono (Kd.R_far (p := ⟨gb428, 1, none⟩) (Kd.R_far (p := ⟨gb428, 0, none⟩) (Kd.R_types HO423.out BK428.out (by decide)) (fun _ hk => hk.2) (.slice Ao11 t421.length co11)) (fun _ hk => hk.2) (.slice Ao13 t424.length co13)) (fun _ h_ => h_.1)))); (case side2 => exact (Kd.R_reads' HO423.out).2.1); (case side3 => refine (Kd.R_reads' (e := 40) (base := w.heap.size) (ok := fun k_ => True) (n := t424.length) (c := co13) ?_).2.2; exact (by (with_reducible repeat (first | apply Kd.R_alloc | apply Kd.R_drewN | apply Kd.R_drew)); exact (Kd.R_mono (Kd.R_far (p := ⟨gb428, 1, none⟩) (Kd.R_far (p := ⟨gb428, 0, none⟩) (Kd.R_types HO426.out BK428.out (by decide)) (fun _ hk => hk.2) (.slice Ao11 t421.length co11)) (fun _ hk => hk.2) (.slice Ao13 t424.length co13)) (fun _ h_ => h_.1)))); (case side4 => exact (Kd.R_reads' HO426.out).2.1); (case side5 => exact Kd.C_below HR4.out (by repeat (first | (with_reducible first | exact HB.out | apply below_alloc | apply pw_below_drewN | apply below_drew1 | refine below_set ?_ GE428.out) | exact HB.out))); (case side6 => exact HC4.out); rintro e w22 ⟨rfl, hb⟩; have n0_ := Aside0.mk (Kd.R_below (by (with_reducible repeat (first | apply Kd.R_alloc | apply Kd.R_drewN | apply Kd.R_drew)); exact (Kd.R_mono (Kd.R_far (p := ⟨gb428, 1, none⟩) (Kd.R_far (p := ⟨gb428, 0, none⟩) (Kd.R_types HO423.out BK428.out (by decide)) (fun _ hk => hk.2) (.slice Ao11 t421.length co11)) (fun _ hk => hk.2) (.slice Ao13 t424.length co13)) (fun _ h_ => h_.1))) hb); have n1_ := Aside0.mk (Kd.R_below (by (with_reducible repeat (first | apply Kd.R_alloc | apply Kd.R_drewN | apply Kd.R_drew)); exact (Kd.R_mono (Kd.R_far (p := ⟨gb428, 1, none⟩) (Kd.R_far (p := ⟨gb428, 0, none⟩) (Kd.R_types HO426.out BK428.out (by decide)) (fun _ hk => hk.2) (.slice Ao11 t421.length co11)) (fun _ hk => hk.2) (.slice Ao13 t424.length co13)) (fun _ h_ => h_.1))) hb); have n2_ := Aside0.mk (blk_below (g := gb428) (o := .cells #[.slice Ao11 t421.length co11, .slice Ao13 t424.length co13] 25 (0, 0)) (by (with_reducible repeat (first | refine blk_drewN ?_ _ | refine blk_drew ?_ | refine blk_alloc ?_ _)); refine blk_put (cs := #[.slice Ao11 t421.length co11, .slice none 0 0]) ?_ 1 _ rfl; (with_reducible repeat (first | refine blk_drewN ?_ _ | refine blk_drew ?_ | refine blk_alloc ?_ _)); refine blk_put (cs := #[.slice none 0 0, .slice none 0 0]) ?_ 0 _ rfl; (with_reducible repeat (first | refine blk_drewN ?_ _ | refine blk_drew ?_ | refine blk_alloc ?_ _)); exact BK428.out) hb); have n3_ := Aside0.mk (below_step (by repeat (first | (with_reducible first | exact HB.out | apply below_alloc | apply pw_below_drewN | apply below_drew1 | refine below_set ?_ GE428.out) | exact HB.out)) hb); clear HO423; clear HO426; clear BK428; clear HB; have HO423 := n0_; have HO426 := n1_; have BK428 := n2_; have HB := n3_; clear n0_ n1_ n2_ n3_; (try clear hb); (try clear hb2); (try clear hk); (try clear hi)))
            go_meet
            case rel => exact ⟨_, (true), (by first | rfl | (simp; done) | (simp [*]; done)), H', ⟨by first | omega | exact Nat.le_refl _⟩, ⟨by (with_reducible repeat (first | apply Kd.R_alloc | apply Kd.R_drewN | apply Kd.R_drew)); exact HO423.out⟩, ⟨by (with_reducible repeat (first | apply Kd.R_alloc | apply Kd.R_drewN | apply Kd.R_drew)); exact HO426.out⟩, ⟨by (with_reducible repeat (first | refine blk_drewN ?_ _ | refine blk_drew ?_ | refine blk_alloc ?_ _)); exact BK428.out⟩, ⟨by repeat (first | (with_reducible first | exact HB.out | apply below_alloc | apply pw_below_drewN | apply below_drew1 | refine below_set ?_ GE428.out) | exact HB.out)⟩⟩
          · rw [if_neg c20] at H
            have c20b0 : decide (200 < (a5.size : Int)) = false := decide_eq_false c20
            have c20b1 : decide (200 < a5.size) = false := decide_eq_false (by omega)
            clear c20
            have H' := Aside0.mk H
            clear H
            have hcz23_0 : w10.cell? ⟨gb428, 0, none⟩ = some (.slice none 0 0) := (blk_cell BK428.out 0).trans rfl
            have hcz23_1 : w10.cell? ⟨gb428, 1, none⟩ = some (.slice none 0 0) := (blk_cell BK428.out 1).trans rfl
            have hfz23_0 := blk_frozen BK428.out 0
            have hfz23_1 := blk_frozen BK428.out 1
            go_wp2_with (first | (go_at_call 27; (with_reducible refine (sextonlaw07_far.calls k _ _ t421 _ _ t424 _ _ l4 false _ ?side1 ?side2 ?side3 ?side4 ?side5 ?side6 A16.out).mono ?_); (case side1 => refine (Kd.R_reads' (e := 9) (base := w.heap.size) (ok := fun k_ => True) (n := t421.length) (c := co11) ?_).2.2; exact (by (with_reducible repeat (first | apply Kd.R_alloc | apply Kd.R_drewN | apply Kd.R_drew)); exact (Kd.R_mono (Kd.R_far (p := ⟨gb428, 1, none⟩) (Kd.R_far (p := ⟨gb428, 0, none⟩) (Kd.R_types HO423.out BK428.out (by decide)) (fun _ hk => hk.2) (.slice Ao11 t421.length co11)) (fun _ hk => hk.2) (.slice Ao13 t424.length co13)) (fun _ h_ => h_.1)))); (case side2 => exact (Kd.R_reads' HO423.out).2.1); (case side3 => refine (Kd.R_reads' (e := 40) (base := w.heap.size) (ok := fun k_ => True) (n := t424.length) (c := co13) ?_).2.2; exact (by (with_reducible repeat (first | apply Kd.R_alloc | apply Kd.R_drewN | apply Kd.R_drew)); exact (Kd.R_mono (Kd.R_far (p := ⟨gb428, 1, none⟩) (Kd.R_far (p := ⟨gb428, 0, none⟩) (Kd.R_types HO426.out BK428.out (by decide)) (fun _ hk => hk.2) (.slice Ao11 t421.length co11)) (fun _ hk => hk.2) (.slice Ao13 t424.length co13)) (fun _ h_ => h_.1)))); (case side4 => exact (Kd.R_reads' HO426.out).2.1); (case side5 => exact Kd.C_below HR4.out (by repeat (first | (with_reducible first | exact HB.out | apply below_alloc | apply pw_below_drewN | apply below_drew1 | refine below_set ?_ GE428.out) | exact HB.out))); (case side6 => exact HC4.out); rintro e w24 ⟨rfl, hb⟩; have n0_ := Aside0.mk (Kd.R_below (by (with_reducible repeat (first | apply Kd.R_alloc | apply Kd.R_drewN | apply Kd.R_drew)); exact (Kd.R_mono (Kd.R_far (p := ⟨gb428, 1, none⟩) (Kd.R_far (p := ⟨gb428, 0, none⟩) (Kd.R_types HO423.out BK428.out (by decide)) (fun _ hk => hk.2) (.slice Ao11 t421.length co11)) (fun _ hk => hk.2) (.slice Ao13 t424.length co13)) (fun _ h_ => h_.1))) hb); have n1_ := Aside0.mk (Kd.R_below (by (with_reducible repeat (first | apply Kd.R_alloc | apply Kd.R_drewN | apply Kd.R_drew)); exact (Kd.R_mono (Kd.R_far (p := ⟨gb428, 1, none⟩) (Kd.R_far (p := ⟨gb428, 0, none⟩) (Kd.R_types HO426.out BK428.out (by decide)) (fun _ hk => hk.2) (.slice Ao11 t421.length co11)) (fun _ hk => hk.2) (.slice Ao13 t424.length co13)) (fun _ h_ => h_.1))) hb); have n2_ := Aside0.mk (blk_below (g := gb428) (o := .cells #[.slice Ao11 t421.length co11, .slice Ao13 t424.length co13] 25 (0, 0)) (by (with_reducible repeat (first | refine blk_drewN ?_ _ | refine blk_drew ?_ | refine blk_alloc ?_ _)); refine blk_put (cs := #[.slice Ao11 t421.length co11, .slice none 0 0]) ?_ 1 _ rfl; (with_reducible repeat (first | refine blk_drewN ?_ _ | refine blk_drew ?_ | refine blk_alloc ?_ _)); refine blk_put (cs := #[.slice none 0 0, .slice none 0 0]) ?_ 0 _ rfl; (with_reducible repeat (first | refine blk_drewN ?_ _ | refine blk_drew ?_ | refine blk_alloc ?_ _)); exact BK428.out) hb); have n3_ := Aside0.mk (below_step (by repeat (first | (with_reducible first | exact HB.out | apply below_alloc | apply pw_below_drewN | apply below_drew1 | refine below_set ?_ GE428.out) | exact HB.out)) hb); clear HO423; clear HO426; clear BK428; clear HB; have HO423 := n0_; have HO426 := n1_; have BK428 := n2_; have HB := n3_; clear n0_ n1_ n2_ n3_; (try clear hb); (try clear hb2); (try clear hk); (try clear hi)))
            go_meet
            case rel => exact ⟨_, ((a2 == a3)), (by first | rfl | (simp; done) | (simp [*]; done)), H', ⟨by first | omega | exact Nat.le_refl _⟩, ⟨by (with_reducible repeat (first | apply Kd.R_alloc | apply Kd.R_drewN | apply Kd.R_drew)); exact HO423.out⟩, ⟨by (with_reducible repeat (first | apply Kd.R_alloc | apply Kd.R_drewN | apply Kd.R_drew)); exact HO426.out⟩, ⟨by (with_reducible repeat (first | refine blk_drewN ?_ _ | refine blk_drew ?_ | refine blk_alloc ?_ _)); exact BK428.out⟩, ⟨by repeat (first | (with_reducible first | exact HB.out | apply below_alloc | apply pw_below_drewN | apply below_drew1 | refine below_set ?_ GE428.out) | exact HB.out)⟩⟩
    · rw [if_neg c14] at H
      have c14b0 : (t427 == 0) = false := beq_eq_false_iff_ne.mpr c14
      have c14b1 : (t427 != 0) = true := bne_iff_ne.mpr c14
      (first | rw [c14b0] | (simp only [i64_w, i32_w]; rw [c14b0]) | skip)
      have H' := Aside0.mk H
      clear H
      go_wp2
      go_meet
      case rel => exact ⟨_, (true), (by first | rfl | (simp; done) | (simp [*]; done)), H', ⟨by first | omega | exact Nat.le_refl _⟩, ⟨by (with_reducible repeat (first | apply Kd.R_alloc | apply Kd.R_drewN | apply Kd.R_drew)); exact Kd.R_mono (Kd.R_far (p := ⟨gb428, 1, none⟩) (Kd.R_far (p := ⟨gb428, 0, none⟩) (Kd.R_types HO423.out BK428.out (by decide)) (fun _ hk => hk.2) (.slice Ao11 t421.length co11)) (fun _ hk => hk.2) (.slice Ao13 t424.length co13)) (fun _ hk => trivial)⟩, ⟨by (with_reducible repeat (first | apply Kd.R_alloc | apply Kd.R_drewN | apply Kd.R_drew)); exact Kd.R_mono (Kd.R_far (p := ⟨gb428, 1, none⟩) (Kd.R_far (p := ⟨gb428, 0, none⟩) (Kd.R_types HO426.out BK428.out (by decide)) (fun _ hk => hk.2) (.slice Ao11 t421.length co11)) (fun _ hk => hk.2) (.slice Ao13 t424.length co13)) (fun _ hk => trivial)⟩, ⟨by (with_reducible repeat (first | refine blk_drewN ?_ _ | refine blk_drew ?_ | refine blk_alloc ?_ _)); refine blk_put (cs := #[.slice Ao11 t421.length co11, .slice none 0 0]) ?_ 1 _ rfl; (with_reducible repeat (first | refine blk_drewN ?_ _ | refine blk_drew ?_ | refine blk_alloc ?_ _)); refine blk_put (cs := #[.slice none 0 0, .slice none 0 0]) ?_ 0 _ rfl; (with_reducible repeat (first | refine blk_drewN ?_ _ | refine blk_drew ?_ | refine blk_alloc ?_ _)); exact BK428.out⟩, ⟨by repeat (first | (with_reducible first | exact HB.out | apply below_alloc | apply pw_below_drewN | apply below_drew1 | refine below_set ?_ GE428.out) | exact HB.out)⟩⟩
  case rest =>
    clear HC8
    try clear c1
    try clear c2
    try clear p2
    try clear c4
    try clear c10
    try clear c14
    try clear c14b0
    try clear c14b1
    try clear c15
    try clear c15b0
    try clear c17
    try clear c20
    try clear c20b0
    try clear c20b1
    try clear c21
    try clear hcz12_0
    try clear hcz12_1
    try clear hcz18_0
    try clear hcz18_1
    try clear hcz21_0
    try clear hcz21_1
    try clear hcz23_0
    try clear hcz23_1
    try clear hfz12_0
    try clear hfz12_1
    try clear hfz18_0
    try clear hfz18_1
    try clear hfz21_0
    try clear hfz21_1
    try clear hfz23_0
    try clear hfz23_1
    obtain ⟨kq, x51_7, rfl, HA, HJ7, HO_429000, HO_429001, BK428, HB⟩ := hcut
    cases kq with
    | zero => exact absurd HA.out (by simp [sextonlaw07_WalEpoch.j0])
    | succ kj7 =>
      have H := HA.out
      clear HA
      simp only [sextonlaw07_WalEpoch.j0] at H
      by_cases c25 : x51_7 = true
      · subst c25
        have H1 : ((sextonlaw07_logged.f).bind fun t430 => (some t430)) = some r := by rw [if_pos rfl] at H; exact H
        clear H
        have H := H1
        clear H1
        replace H := Option.bind_eq_some_iff.mp H
        obtain ⟨t430, A260, H⟩ := H
        replace H : (some t430) = some r := H
        have A26 := Aside0.mk A260
        clear A260
        obtain rfl := Option.some.inj H
        go_wp2_with (first | ((with_reducible refine gate_callee (f := 37) rfl ?_); refine goesL_ (some 52) rfl rfl Try.func37 (by kernel_rfl) rfl #[] rfl (by (try simp only [List.map_toArray, List.map_cons, List.map_nil]); first | done | rfl | (simp only [List.length_drop, List.length_take]; rfl)) ?_; (with_reducible refine (sextonlaw07_logged.calls  t430 _ A26.out).mono ?_); rintro e w27 ⟨rfl, hb⟩; refine ⟨_, rfl, ?_⟩; have n0_ := Aside0.mk (Kd.R_below (by (with_reducible repeat (first | apply Kd.R_alloc | apply Kd.R_drewN | apply Kd.R_drew)); exact HO_429000.out) hb); have n1_ := Aside0.mk (Kd.R_below (by (with_reducible repeat (first | apply Kd.R_alloc | apply Kd.R_drewN | apply Kd.R_drew)); exact HO_429001.out) hb); have n2_ := Aside0.mk (blk_below (g := gb428) (o := .cells #[.slice Ao11 t421.length co11, .slice Ao13 t424.length co13] 25 (0, 0)) (by (with_reducible repeat (first | refine blk_drewN ?_ _ | refine blk_drew ?_ | refine blk_alloc ?_ _)); exact BK428.out) hb); have n3_ := Aside0.mk (below_step (by repeat (first | (with_reducible first | exact HB.out | apply below_alloc | apply pw_below_drewN | apply below_drew1 | refine below_set ?_ GE428.out) | exact HB.out)) hb); clear HO_429000; clear HO_429001; clear BK428; clear HB; have HO_429000 := n0_; have HO_429001 := n1_; have BK428 := n2_; have HB := n3_; clear n0_ n1_ n2_ n3_; (try clear hb); (try clear hb2); (try clear hk); (try clear hi)))
        go_ret
        exact ⟨by first | rfl | (simp [errW_none, errW_some] <;> rfl) | (simp [*, errW_none, errW_some] <;> rfl), by repeat (first | (with_reducible first | exact HB.out | apply below_alloc | apply pw_below_drewN | apply below_drew1 | refine below_set ?_ GE428.out) | exact HB.out)⟩
      · replace c25 := Bool.eq_false_iff.mpr c25
        subst c25
        have H1 : ((wal_All.f kj7 t421 t424 a1 a2 l4 (-1)).bind fun bt431 => ((wal_Open.f bt431.1 bt431.2.1 a1 a3).bind fun bt440 => ((wal_Append.f bt431.1 bt431.2.1 a1 a3 a5).bind fun bt444 => (if bt431.2.2.2 = 0 then (sextonlaw07_WalEpoch.j1 kj7 a1 a2 a3 a5 bt440.1 bt444.2.2 (bt440.2 != 0) bt444.1 bt444.2.1) else (sextonlaw07_WalEpoch.j1 kj7 a1 a2 a3 a5 bt440.1 bt444.2.2 true bt444.1 bt444.2.1))))) = some r := by rw [if_neg (show ¬ (false = true) by decide)] at H; exact H
        clear H
        have H := H1
        clear H1
        replace H := Option.bind_eq_some_iff.mp H
        obtain ⟨⟨t431, t434, t437, t438⟩, A280, H⟩ := H
        replace H : ((wal_Open.f t431 t434 a1 a3).bind fun bt440 => ((wal_Append.f t431 t434 a1 a3 a5).bind fun bt444 => (if t438 = 0 then (sextonlaw07_WalEpoch.j1 kj7 a1 a2 a3 a5 bt440.1 bt444.2.2 (bt440.2 != 0) bt444.1 bt444.2.1) else (sextonlaw07_WalEpoch.j1 kj7 a1 a2 a3 a5 bt440.1 bt444.2.2 true bt444.1 bt444.2.1)))) = some r := H
        have A28 := Aside0.mk A280
        clear A280
        replace H := Option.bind_eq_some_iff.mp H
        obtain ⟨⟨t440, t443⟩, A290, H⟩ := H
        replace H : ((wal_Append.f t431 t434 a1 a3 a5).bind fun bt444 => (if t438 = 0 then (sextonlaw07_WalEpoch.j1 kj7 a1 a2 a3 a5 t440 bt444.2.2 (t443 != 0) bt444.1 bt444.2.1) else (sextonlaw07_WalEpoch.j1 kj7 a1 a2 a3 a5 t440 bt444.2.2 true bt444.1 bt444.2.1))) = some r := H
        have A29 := Aside0.mk A290
        clear A290
        replace H := Option.bind_eq_some_iff.mp H
        obtain ⟨⟨t444, t447, t450⟩, A300, H⟩ := H
        replace H : (if t438 = 0 then (sextonlaw07_WalEpoch.j1 kj7 a1 a2 a3 a5 t440 t450 (t443 != 0) t444 t447) else (sextonlaw07_WalEpoch.j1 kj7 a1 a2 a3 a5 t440 t450 true t444 t447)) = some r := H
        have A30 := Aside0.mk A300
        clear A300
        have HC31 := Aside0.mk H
        clear H
        have hcz32_0 : wc.cell? ⟨gb428, 0, none⟩ = some (.slice Ao11 t421.length co11) := (blk_cell BK428.out 0).trans rfl
        have hcz32_1 : wc.cell? ⟨gb428, 1, none⟩ = some (.slice Ao13 t424.length co13) := (blk_cell BK428.out 1).trans rfl
        have hfz32_0 := blk_frozen BK428.out 0
        have hfz32_1 := blk_frozen BK428.out 1
        go_upto_region 7 with (first | ((with_reducible refine gate_callee (f := 33) rfl ?_); refine goesL_ (some 58) rfl rfl Try.func33 (by kernel_rfl) rfl #[.agg #[.slice Ao11 t421.length co11, .slice Ao13 t424.length co13], .int .i64 a1, .int .i64 a2, .slice A4 l4.length c4, .int .i64 (-1)] rfl (by (try simp only [List.map_toArray, List.map_cons, List.map_nil]); first | done | rfl | (simp only [List.length_drop, List.length_take]; rfl)) ?_; (with_reducible refine (wal_All.calls kj7 _ _ t421 _ _ t424 a1 a2 _ _ l4 (-1) t431 t434 t437 t438 _ ?side1 ?side2 ?side3 ?side4 ?side5 ?side6 A28.out).mono ?_); (case side1 => repeat (first | exact (Kd.R_reads' HO_429000.out).2.2 | (with_reducible refine Kd.C_alloc ?_ _) | (with_reducible refine Kd.C_drewN ?_ _) | (with_reducible refine Kd.C_drew ?_))); (case side2 => exact (Kd.R_reads' HO_429000.out).2.1); (case side3 => repeat (first | exact (Kd.R_reads' HO_429001.out).2.2 | (with_reducible refine Kd.C_alloc ?_ _) | (with_reducible refine Kd.C_drewN ?_ _) | (with_reducible refine Kd.C_drew ?_))); (case side4 => exact (Kd.R_reads' HO_429001.out).2.1); (case side5 => repeat (first | exact (Kd.C_below HR4.out HB.out) | (with_reducible refine Kd.C_alloc ?_ _) | (with_reducible refine Kd.C_drewN ?_ _) | (with_reducible refine Kd.C_drew ?_))); (case side6 => exact HC4.out); rintro e w33 ⟨v432, v435, rfl, ho0, ho1, hb⟩; refine ⟨_, rfl, ?_⟩; have n0_ := Aside0.mk (Kd.R_elder' (by (with_reducible repeat (first | apply Kd.R_alloc | apply Kd.R_drewN | apply Kd.R_drew)); exact HO_429000.out) (Kd.R_base ho0) hb); have n1_ := Aside0.mk (Kd.R_elder' (by (with_reducible repeat (first | apply Kd.R_alloc | apply Kd.R_drewN | apply Kd.R_drew)); exact HO_429001.out) (Kd.R_base ho1) hb); have n2_ := Aside0.mk (Kd.R_lower (Kd.R_new' ho0 (Kd.R_lt (by (with_reducible repeat (first | apply Kd.R_alloc | apply Kd.R_drewN | apply Kd.R_drew)); exact HO_429000.out))) (below_size (by repeat (first | (with_reducible first | exact HB.out | apply below_alloc | apply pw_below_drewN | apply below_drew1 | refine below_set ?_ GE428.out) | exact HB.out)))); have n3_ := Aside0.mk (Kd.R_lower (Kd.R_new' ho1 (Kd.R_lt (by (with_reducible repeat (first | apply Kd.R_alloc | apply Kd.R_drewN | apply Kd.R_drew)); exact HO_429001.out))) (below_size (by repeat (first | (with_reducible first | exact HB.out | apply below_alloc | apply pw_below_drewN | apply below_drew1 | refine below_set ?_ GE428.out) | exact HB.out)))); have n4_ := Aside0.mk (blk_below (g := gb428) (o := .cells #[.slice Ao11 t421.length co11, .slice Ao13 t424.length co13] 25 (0, 0)) (by (with_reducible repeat (first | refine blk_drewN ?_ _ | refine blk_drew ?_ | refine blk_alloc ?_ _)); exact BK428.out) hb); have n5_ := Aside0.mk (below_step (by repeat (first | (with_reducible first | exact HB.out | apply below_alloc | apply pw_below_drewN | apply below_drew1 | refine below_set ?_ GE428.out) | exact HB.out)) hb); clear HO_429000; clear HO_429001; clear BK428; clear HB; have HO_429000 := n0_; have HO_429001 := n1_; have HO433 := n2_; have HO436 := n3_; have BK428 := n4_; have HB := n5_; clear n0_ n1_ n2_ n3_ n4_ n5_; (try clear hb); (try clear hb2); (try clear hk); (try clear hi); (try clear ho0); (try clear ho1)) | ((with_reducible refine gate_dst (N := 15) rfl ?_); (try (refine gate_guard (by rfl) ?_; dsimp only)); refine box_event ?hg (N := 15) ?hd (cs := #[.slice none 0 0, .slice none 0 0]) (t := 25) ?hr ?_; (case hd => rfl); (case hg => rfl); (case hr => first | (go_simp; done) | (go_simp; rfl)); intro gb439 hg w34 hbox hb; have n0_ := Aside0.mk (Kd.R_below (by (with_reducible repeat (first | apply Kd.R_alloc | apply Kd.R_drewN | apply Kd.R_drew)); exact HO_429000.out) hb); have n1_ := Aside0.mk (Kd.R_below (by (with_reducible repeat (first | apply Kd.R_alloc | apply Kd.R_drewN | apply Kd.R_drew)); exact HO_429001.out) hb); have n2_ := Aside0.mk (Kd.R_below (by (with_reducible repeat (first | apply Kd.R_alloc | apply Kd.R_drewN | apply Kd.R_drew)); exact HO433.out) hb); have n3_ := Aside0.mk (Kd.R_below (by (with_reducible repeat (first | apply Kd.R_alloc | apply Kd.R_drewN | apply Kd.R_drew)); exact HO436.out) hb); have n4_ := Aside0.mk (blk_below (g := gb428) (o := .cells #[.slice Ao11 t421.length co11, .slice Ao13 t424.length co13] 25 (0, 0)) (by (with_reducible repeat (first | refine blk_drewN ?_ _ | refine blk_drew ?_ | refine blk_alloc ?_ _)); exact BK428.out) hb); have n5_ := Aside0.mk (below_step (by repeat (first | (with_reducible first | exact HB.out | apply below_alloc | apply pw_below_drewN | apply below_drew1 | refine below_set ?_ GE428.out) | exact HB.out)) hb); have n6_ := Aside0.mk (hbox); have n7_ := Aside0.mk ((by rw [hg]; exact (below_size (by repeat (first | (with_reducible first | exact HB.out | apply below_alloc | apply pw_below_drewN | apply below_drew1 | refine below_set ?_ GE428.out) | exact HB.out))) : w.heap.size ≤ gb439)); have n8_ := Aside0.mk ((by rw [hg]; exact (below_size (by repeat (first | (with_reducible first | exact HB.out | apply below_alloc | apply pw_below_drewN | apply below_drew1 | refine below_set ?_ GE428.out) | exact HB.out))) : w.heap.size ≤ gb439)); have n9_ := Aside0.mk ((by rw [hg]; exact Nat.ne_of_lt (blk_lt (g := gb428) (o := .cells #[.slice Ao11 t421.length co11, .slice Ao13 t424.length co13] 25 (0, 0)) (by (with_reducible repeat (first | refine blk_drewN ?_ _ | refine blk_drew ?_ | refine blk_alloc ?_ _)); exact BK428.out)) : gb428 ≠ gb439)); have n10_ := Aside0.mk ((by rw [hg]; exact Nat.ne_of_gt (blk_lt (g := gb428) (o := .cells #[.slice Ao11 t421.length co11, .slice Ao13 t424.length co13] 25 (0, 0)) (by (with_reducible repeat (first | refine blk_drewN ?_ _ | refine blk_drew ?_ | refine blk_alloc ?_ _)); exact BK428.out)) : gb439 ≠ gb428)); clear HO_429000; clear HO_429001; clear HO433; clear HO436; clear BK428; clear HB; have HO_429000 := n0_; have HO_429001 := n1_; have HO433 := n2_; have HO436 := n3_; have BK428 := n4_; have HB := n5_; have BK439 := n6_; have GW439 := n7_; have GE439 := n8_; have NB428_439 := n9_; have NB439_428 := n10_; clear n0_ n1_ n2_ n3_ n4_ n5_ n6_ n7_ n8_ n9_ n10_; clear hb hbox hg; obtain ⟨Ao35, co35, eo35⟩ := Kd.R_slice HO433.out; subst eo35; have hnb36 := NB439_428.out; have hnc36 := NB428_439.out; have hcz37_0 : w34.cell? ⟨gb439, 0, none⟩ = some (.slice none 0 0) := (blk_cell BK439.out 0).trans rfl; have hcz37_1 : w34.cell? ⟨gb439, 1, none⟩ = some (.slice none 0 0) := (blk_cell BK439.out 1).trans rfl; have hfz37_0 := blk_frozen BK439.out 0; have hfz37_1 := blk_frozen BK439.out 1; obtain ⟨Ao38, co38, eo38⟩ := Kd.R_slice HO436.out; subst eo38) | ((with_reducible refine gate_callee (f := 29) rfl ?_); refine goesL_ (some 66) rfl rfl Try.func29 (by kernel_rfl) rfl #[.agg #[.slice Ao35 t431.length co35, .slice Ao38 t434.length co38], .int .i64 a1, .int .i64 a3] rfl (by (try simp only [List.map_toArray, List.map_cons, List.map_nil]); first | done | rfl | (simp only [List.length_drop, List.length_take]; rfl)) ?_; (with_reducible refine (wal_Open.calls _ _ t431 _ _ t434 a1 a3 t440 t443 _ ?side1 ?side2 ?side3 ?side4 A29.out).mono ?_); (case side1 => refine (Kd.R_reads' (e := 9) (base := w.heap.size) (ok := fun k_ => (True ∧ some k_ ≠ (.slice Ao11 t421.length co11 : Value).ownBlock)) (n := t431.length) (c := co35) ?_).2.2; exact (by (with_reducible repeat (first | apply Kd.R_alloc | apply Kd.R_drewN | apply Kd.R_drew)); exact (Kd.R_mono (Kd.R_far (p := ⟨gb439, 1, none⟩) (Kd.R_far (p := ⟨gb439, 0, none⟩) (Kd.R_types HO433.out BK439.out (by decide)) (fun _ hk => hk.2) (.slice Ao35 t431.length co35)) (fun _ hk => hk.2) (.slice Ao38 t434.length co38)) (fun _ h_ => h_.1)))); (case side2 => exact (Kd.R_reads' HO433.out).2.1); (case side3 => refine (Kd.R_reads' (e := 40) (base := w.heap.size) (ok := fun k_ => (True ∧ some k_ ≠ (.slice Ao13 t424.length co13 : Value).ownBlock)) (n := t434.length) (c := co38) ?_).2.2; exact (by (with_reducible repeat (first | apply Kd.R_alloc | apply Kd.R_drewN | apply Kd.R_drew)); exact (Kd.R_mono (Kd.R_far (p := ⟨gb439, 1, none⟩) (Kd.R_far (p := ⟨gb439, 0, none⟩) (Kd.R_types HO436.out BK439.out (by decide)) (fun _ hk => hk.2) (.slice Ao35 t431.length co35)) (fun _ hk => hk.2) (.slice Ao38 t434.length co38)) (fun _ h_ => h_.1)))); (case side4 => exact (Kd.R_reads' HO436.out).2.1); rintro e w39 ⟨v441, rfl, ho0, hb⟩; refine ⟨_, rfl, ?_⟩; have n0_ := Aside0.mk (Kd.R_elder' (by (with_reducible repeat (first | apply Kd.R_alloc | apply Kd.R_drewN | apply Kd.R_drew)); exact (Kd.R_mono (Kd.R_far (p := ⟨gb439, 1, none⟩) (Kd.R_far (p := ⟨gb439, 0, none⟩) (Kd.R_types HO_429000.out BK439.out (by decide)) (fun _ hk => hk.2) (.slice Ao35 t431.length co35)) (fun _ hk => hk.2) (.slice Ao38 t434.length co38)) (fun _ h_ => h_.1))) (Kd.R_base ho0) hb); have n1_ := Aside0.mk (Kd.R_below (by (with_reducible repeat (first | apply Kd.R_alloc | apply Kd.R_drewN | apply Kd.R_drew)); exact (Kd.R_mono (Kd.R_far (p := ⟨gb439, 1, none⟩) (Kd.R_far (p := ⟨gb439, 0, none⟩) (Kd.R_types HO_429001.out BK439.out (by decide)) (fun _ hk => hk.2) (.slice Ao35 t431.length co35)) (fun _ hk => hk.2) (.slice Ao38 t434.length co38)) (fun _ h_ => h_.1))) hb); have n2_ := Aside0.mk (Kd.R_elder' (by (with_reducible repeat (first | apply Kd.R_alloc | apply Kd.R_drewN | apply Kd.R_drew)); exact (Kd.R_mono (Kd.R_far (p := ⟨gb439, 1, none⟩) (Kd.R_far (p := ⟨gb439, 0, none⟩) (Kd.R_types HO433.out BK439.out (by decide)) (fun _ hk => hk.2) (.slice Ao35 t431.length co35)) (fun _ hk => hk.2) (.slice Ao38 t434.length co38)) (fun _ h_ => h_.1))) (Kd.R_base ho0) hb); have n3_ := Aside0.mk (Kd.R_below (by (with_reducible repeat (first | apply Kd.R_alloc | apply Kd.R_drewN | apply Kd.R_drew)); exact (Kd.R_mono (Kd.R_far (p := ⟨gb439, 1, none⟩) (Kd.R_far (p := ⟨gb439, 0, none⟩) (Kd.R_types HO436.out BK439.out (by decide)) (fun _ hk => hk.2) (.slice Ao35 t431.length co35)) (fun _ hk => hk.2) (.slice Ao38 t434.length co38)) (fun _ h_ => h_.1))) hb); have n4_ := Aside0.mk (Kd.R_lower (Kd.R_new' (Kd.R_new' ho0 (Kd.R_lt (by (with_reducible repeat (first | apply Kd.R_alloc | apply Kd.R_drewN | apply Kd.R_drew)); exact (Kd.R_mono (Kd.R_far (p := ⟨gb439, 1, none⟩) (Kd.R_far (p := ⟨gb439, 0, none⟩) (Kd.R_types HO_429000.out BK439.out (by decide)) (fun _ hk => hk.2) (.slice Ao35 t431.length co35)) (fun _ hk => hk.2) (.slice Ao38 t434.length co38)) (fun _ h_ => h_.1))))) (Kd.R_lt (by (with_reducible repeat (first | apply Kd.R_alloc | apply Kd.R_drewN | apply Kd.R_drew)); exact (Kd.R_mono (Kd.R_far (p := ⟨gb439, 1, none⟩) (Kd.R_far (p := ⟨gb439, 0, none⟩) (Kd.R_types HO433.out BK439.out (by decide)) (fun _ hk => hk.2) (.slice Ao35 t431.length co35)) (fun _ hk => hk.2) (.slice Ao38 t434.length co38)) (fun _ h_ => h_.1))))) (below_size (by repeat (first | (with_reducible first | exact HB.out | apply below_alloc | apply pw_below_drewN | apply below_drew1 | refine below_set ?_ GE428.out | refine below_set ?_ GE439.out) | exact HB.out)))); have n5_ := Aside0.mk (blk_below (g := gb428) (o := .cells #[.slice Ao11 t421.length co11, .slice Ao13 t424.length co13] 25 (0, 0)) (by (with_reducible repeat (first | refine blk_drewN ?_ _ | refine blk_drew ?_ | refine blk_alloc ?_ _)); refine blk_far ?_ NB428_439.out _; (with_reducible repeat (first | refine blk_drewN ?_ _ | refine blk_drew ?_ | refine blk_alloc ?_ _)); refine blk_far ?_ NB428_439.out _; (with_reducible repeat (first | refine blk_drewN ?_ _ | refine blk_drew ?_ | refine blk_alloc ?_ _)); exact BK428.out) hb); have n6_ := Aside0.mk (blk_below (g := gb439) (o := .cells #[.slice Ao35 t431.length co35, .slice Ao38 t434.length co38] 25 (0, 0)) (by (with_reducible repeat (first | refine blk_drewN ?_ _ | refine blk_drew ?_ | refine blk_alloc ?_ _)); refine blk_put (cs := #[.slice Ao35 t431.length co35, .slice none 0 0]) ?_ 1 _ rfl; (with_reducible repeat (first | refine blk_drewN ?_ _ | refine blk_drew ?_ | refine blk_alloc ?_ _)); refine blk_put (cs := #[.slice none 0 0, .slice none 0 0]) ?_ 0 _ rfl; (with_reducible repeat (first | refine blk_drewN ?_ _ | refine blk_drew ?_ | refine blk_alloc ?_ _)); exact BK439.out) hb); have n7_ := Aside0.mk (below_step (by repeat (first | (with_reducible first | exact HB.out | apply below_alloc | apply pw_below_drewN | apply below_drew1 | refine below_set ?_ GE428.out | refine below_set ?_ GE439.out) | exact HB.out)) hb); clear HO_429000; clear HO_429001; clear HO433; clear HO436; clear BK428; clear BK439; clear HB; have HO_429000 := n0_; have HO_429001 := n1_; have HO433 := n2_; have HO436 := n3_; have HO442 := n4_; have BK428 := n5_; have BK439 := n6_; have HB := n7_; clear n0_ n1_ n2_ n3_ n4_ n5_ n6_ n7_; (try clear hb); (try clear hb2); (try clear hk); (try clear hi); (try clear ho0); have hcz40_0 : w39.cell? ⟨gb439, 0, none⟩ = some (.slice Ao35 t431.length co35) := (blk_cell BK439.out 0).trans rfl; have hcz40_1 : w39.cell? ⟨gb439, 1, none⟩ = some (.slice Ao38 t434.length co38) := (blk_cell BK439.out 1).trans rfl; have hfz40_0 := blk_frozen BK439.out 0; have hfz40_1 := blk_frozen BK439.out 1) | ((with_reducible refine gate_callee (f := 31) rfl ?_); refine goesL_ (some 74) rfl rfl Try.func31 (by kernel_rfl) rfl #[.agg #[.slice Ao35 t431.length co35, .slice Ao38 t434.length co38], .int .i64 a1, .int .i64 a3, .string a5] rfl (by (try simp only [List.map_toArray, List.map_cons, List.map_nil]); first | done | rfl | (simp only [List.length_drop, List.length_take]; rfl)) ?_; (with_reducible refine (wal_Append.calls _ _ t431 _ _ t434 a1 a3 a5 t444 t447 t450 _ ?side1 ?side2 ?side3 ?side4 A30.out).mono ?_); (case side1 => repeat (first | exact (Kd.R_reads' HO433.out).2.2 | (with_reducible refine Kd.C_alloc ?_ _) | (with_reducible refine Kd.C_drewN ?_ _) | (with_reducible refine Kd.C_drew ?_))); (case side2 => exact (Kd.R_reads' HO433.out).2.1); (case side3 => repeat (first | exact (Kd.R_reads' HO436.out).2.2 | (with_reducible refine Kd.C_alloc ?_ _) | (with_reducible refine Kd.C_drewN ?_ _) | (with_reducible refine Kd.C_drew ?_))); (case side4 => exact (Kd.R_reads' HO436.out).2.1); rintro e w41 ⟨v445, v448, rfl, ho0, ho1, hb⟩; refine ⟨_, rfl, ?_⟩; have n0_ := Aside0.mk (Kd.R_elder' (by (with_reducible repeat (first | apply Kd.R_alloc | apply Kd.R_drewN | apply Kd.R_drew)); exact HO_429000.out) (Kd.R_base ho0) hb); have n1_ := Aside0.mk (Kd.R_elder' (by (with_reducible repeat (first | apply Kd.R_alloc | apply Kd.R_drewN | apply Kd.R_drew)); exact HO_429001.out) (Kd.R_base ho1) hb); have n2_ := Aside0.mk (Kd.R_elder' (by (with_reducible repeat (first | apply Kd.R_alloc | apply Kd.R_drewN | apply Kd.R_drew)); exact HO433.out) (Kd.R_base ho0) hb); have n3_ := Aside0.mk (Kd.R_elder' (by (with_reducible repeat (first | apply Kd.R_alloc | apply Kd.R_drewN | apply Kd.R_drew)); exact HO436.out) (Kd.R_base ho1) hb); have n4_ := Aside0.mk (Kd.R_elder' (by (with_reducible repeat (first | apply Kd.R_alloc | apply Kd.R_drewN | apply Kd.R_drew)); exact HO442.out) (Kd.R_base ho0) hb); have n5_ := Aside0.mk (Kd.R_lower (Kd.R_new' (Kd.R_new' (Kd.R_new' ho0 (Kd.R_lt (by (with_reducible repeat (first | apply Kd.R_alloc | apply Kd.R_drewN | apply Kd.R_drew)); exact HO_429000.out))) (Kd.R_lt (by (with_reducible repeat (first | apply Kd.R_alloc | apply Kd.R_drewN | apply Kd.R_drew)); exact HO433.out))) (Kd.R_lt (by (with_reducible repeat (first | apply Kd.R_alloc | apply Kd.R_drewN | apply Kd.R_drew)); exact HO442.out))) (below_size (by repeat (first | (with_reducible first | exact HB.out | apply below_alloc | apply pw_below_drewN | apply below_drew1 | refine below_set ?_ GE428.out | refine below_set ?_ GE439.out) | exact HB.out)))); have n6_ := Aside0.mk (Kd.R_lower (Kd.R_new' (Kd.R_new' ho1 (Kd.R_lt (by (with_reducible repeat (first | apply Kd.R_alloc | apply Kd.R_drewN | apply Kd.R_drew)); exact HO_429001.out))) (Kd.R_lt (by (with_reducible repeat (first | apply Kd.R_alloc | apply Kd.R_drewN | apply Kd.R_drew)); exact HO436.out))) (below_size (by repeat (first | (with_reducible first | exact HB.out | apply below_alloc | apply pw_below_drewN | apply below_drew1 | refine below_set ?_ GE428.out | refine below_set ?_ GE439.out) | exact HB.out)))); have n7_ := Aside0.mk (blk_below (g := gb428) (o := .cells #[.slice Ao11 t421.length co11, .slice Ao13 t424.length co13] 25 (0, 0)) (by (with_reducible repeat (first | refine blk_drewN ?_ _ | refine blk_drew ?_ | refine blk_alloc ?_ _)); exact BK428.out) hb); have n8_ := Aside0.mk (blk_below (g := gb439) (o := .cells #[.slice Ao35 t431.length co35, .slice Ao38 t434.length co38] 25 (0, 0)) (by (with_reducible repeat (first | refine blk_drewN ?_ _ | refine blk_drew ?_ | refine blk_alloc ?_ _)); exact BK439.out) hb); have n9_ := Aside0.mk (below_step (by repeat (first | (with_reducible first | exact HB.out | apply below_alloc | apply pw_below_drewN | apply below_drew1 | refine below_set ?_ GE428.out | refine below_set ?_ GE439.out) | exact HB.out)) hb); clear HO_429000; clear HO_429001; clear HO433; clear HO436; clear HO442; clear BK428; clear BK439; clear HB; have HO_429000 := n0_; have HO_429001 := n1_; have HO433 := n2_; have HO436 := n3_; have HO442 := n4_; have HO446 := n5_; have HO449 := n6_; have BK428 := n7_; have BK439 := n8_; have HB := n9_; clear n0_ n1_ n2_ n3_ n4_ n5_ n6_ n7_ n8_ n9_; (try clear hb); (try clear hb2); (try clear hk); (try clear hi); (try clear ho0); (try clear ho1)) | ((with_reducible refine gate_dst (N := 20) rfl ?_); (try (refine gate_guard (by rfl) ?_; dsimp only)); refine box_event ?hg (N := 20) ?hd (cs := #[.slice none 0 0, .slice none 0 0]) (t := 25) ?hr ?_; (case hd => rfl); (case hg => rfl); (case hr => first | (go_simp; done) | (go_simp; rfl)); intro gb451 hg w42 hbox hb; have n0_ := Aside0.mk (Kd.R_below (by (with_reducible repeat (first | apply Kd.R_alloc | apply Kd.R_drewN | apply Kd.R_drew)); exact HO_429000.out) hb); have n1_ := Aside0.mk (Kd.R_below (by (with_reducible repeat (first | apply Kd.R_alloc | apply Kd.R_drewN | apply Kd.R_drew)); exact HO_429001.out) hb); have n2_ := Aside0.mk (Kd.R_below (by (with_reducible repeat (first | apply Kd.R_alloc | apply Kd.R_drewN | apply Kd.R_drew)); exact HO433.out) hb); have n3_ := Aside0.mk (Kd.R_below (by (with_reducible repeat (first | apply Kd.R_alloc | apply Kd.R_drewN | apply Kd.R_drew)); exact HO436.out) hb); have n4_ := Aside0.mk (Kd.R_below (by (with_reducible repeat (first | apply Kd.R_alloc | apply Kd.R_drewN | apply Kd.R_drew)); exact HO442.out) hb); have n5_ := Aside0.mk (Kd.R_below (by (with_reducible repeat (first | apply Kd.R_alloc | apply Kd.R_drewN | apply Kd.R_drew)); exact HO446.out) hb); have n6_ := Aside0.mk (Kd.R_below (by (with_reducible repeat (first | apply Kd.R_alloc | apply Kd.R_drewN | apply Kd.R_drew)); exact HO449.out) hb); have n7_ := Aside0.mk (blk_below (g := gb428) (o := .cells #[.slice Ao11 t421.length co11, .slice Ao13 t424.length co13] 25 (0, 0)) (by (with_reducible repeat (first | refine blk_drewN ?_ _ | refine blk_drew ?_ | refine blk_alloc ?_ _)); exact BK428.out) hb); have n8_ := Aside0.mk (blk_below (g := gb439) (o := .cells #[.slice Ao35 t431.length co35, .slice Ao38 t434.length co38] 25 (0, 0)) (by (with_reducible repeat (first | refine blk_drewN ?_ _ | refine blk_drew ?_ | refine blk_alloc ?_ _)); exact BK439.out) hb); have n9_ := Aside0.mk (below_step (by repeat (first | (with_reducible first | exact HB.out | apply below_alloc | apply pw_below_drewN | apply below_drew1 | refine below_set ?_ GE428.out | refine below_set ?_ GE439.out) | exact HB.out)) hb); have n10_ := Aside0.mk (hbox); have n11_ := Aside0.mk ((by rw [hg]; exact (below_size (by repeat (first | (with_reducible first | exact HB.out | apply below_alloc | apply pw_below_drewN | apply below_drew1 | refine below_set ?_ GE428.out | refine below_set ?_ GE439.out) | exact HB.out))) : w.heap.size ≤ gb451)); have n12_ := Aside0.mk ((by rw [hg]; exact (below_size (by repeat (first | (with_reducible first | exact HB.out | apply below_alloc | apply pw_below_drewN | apply below_drew1 | refine below_set ?_ GE428.out | refine below_set ?_ GE439.out) | exact HB.out))) : w.heap.size ≤ gb451)); have n13_ := Aside0.mk ((by rw [hg]; exact Nat.ne_of_lt (blk_lt (g := gb428) (o := .cells #[.slice Ao11 t421.length co11, .slice Ao13 t424.length co13] 25 (0, 0)) (by (with_reducible repeat (first | refine blk_drewN ?_ _ | refine blk_drew ?_ | refine blk_alloc ?_ _)); exact BK428.out)) : gb428 ≠ gb451)); have n14_ := Aside0.mk ((by rw [hg]; exact Nat.ne_of_gt (blk_lt (g := gb428) (o := .cells #[.slice Ao11 t421.length co11, .slice Ao13 t424.length co13] 25 (0, 0)) (by (with_reducible repeat (first | refine blk_drewN ?_ _ | refine blk_drew ?_ | refine blk_alloc ?_ _)); exact BK428.out)) : gb451 ≠ gb428)); have n15_ := Aside0.mk ((by rw [hg]; exact Nat.ne_of_lt (blk_lt (g := gb439) (o := .cells #[.slice Ao35 t431.length co35, .slice Ao38 t434.length co38] 25 (0, 0)) (by (with_reducible repeat (first | refine blk_drewN ?_ _ | refine blk_drew ?_ | refine blk_alloc ?_ _)); exact BK439.out)) : gb439 ≠ gb451)); have n16_ := Aside0.mk ((by rw [hg]; exact Nat.ne_of_gt (blk_lt (g := gb439) (o := .cells #[.slice Ao35 t431.length co35, .slice Ao38 t434.length co38] 25 (0, 0)) (by (with_reducible repeat (first | refine blk_drewN ?_ _ | refine blk_drew ?_ | refine blk_alloc ?_ _)); exact BK439.out)) : gb451 ≠ gb439)); clear HO_429000; clear HO_429001; clear HO433; clear HO436; clear HO442; clear HO446; clear HO449; clear BK428; clear BK439; clear HB; have HO_429000 := n0_; have HO_429001 := n1_; have HO433 := n2_; have HO436 := n3_; have HO442 := n4_; have HO446 := n5_; have HO449 := n6_; have BK428 := n7_; have BK439 := n8_; have HB := n9_; have BK451 := n10_; have GW451 := n11_; have GE451 := n12_; have NB428_451 := n13_; have NB451_428 := n14_; have NB439_451 := n15_; have NB451_439 := n16_; clear n0_ n1_ n2_ n3_ n4_ n5_ n6_ n7_ n8_ n9_ n10_ n11_ n12_ n13_ n14_ n15_ n16_; clear hb hbox hg; obtain ⟨Ao43, co43, eo43⟩ := Kd.R_slice HO446.out; subst eo43; have hnb44 := NB451_428.out; have hnc44 := NB428_451.out; have hnb45 := NB451_439.out; have hnc45 := NB439_451.out; have hcz46_0 : w42.cell? ⟨gb451, 0, none⟩ = some (.slice none 0 0) := (blk_cell BK451.out 0).trans rfl; have hcz46_1 : w42.cell? ⟨gb451, 1, none⟩ = some (.slice none 0 0) := (blk_cell BK451.out 1).trans rfl; have hfz46_0 := blk_frozen BK451.out 0; have hfz46_1 := blk_frozen BK451.out 1; obtain ⟨Ao47, co47, eo47⟩ := Kd.R_slice HO449.out; subst eo47))
        (try simp only [Act.put, List.setIfInBounds_toArray, List.set_cons_zero, List.set_cons_succ])
        go_cut [82] (fun v82 wc => ∃ (kq : Nat) (x82_30 : Bool), v82 = .bool x82_30 ∧ Aside0 (sextonlaw07_WalEpoch.j1 kq a1 a2 a3 a5 t440 t450 x82_30 t444 t447 = some r) ∧ Aside0 (kq ≤ kj7) ∧ Aside0 (Kd.R Kd.string 9 wc w.heap.size (fun k_ => some k_ ≠ ((.slice Ao11 t421.length co11) : Value).ownBlock ∧ some k_ ≠ ((.slice Ao35 t431.length co35) : Value).ownBlock ∧ some k_ ≠ ((.slice Ao43 t444.length co43) : Value).ownBlock) v441 t440) ∧ Aside0 (Kd.R Kd.string 9 wc w.heap.size (fun k_ => some k_ ≠ (v441 : Value).ownBlock ∧ some k_ ≠ ((.slice Ao35 t431.length co35) : Value).ownBlock ∧ some k_ ≠ ((.slice Ao43 t444.length co43) : Value).ownBlock) (.slice Ao11 t421.length co11) t421) ∧ Aside0 (Kd.R k40 40 wc w.heap.size (fun k_ => some k_ ≠ ((.slice Ao38 t434.length co38) : Value).ownBlock ∧ some k_ ≠ ((.slice Ao47 t447.length co47) : Value).ownBlock) (.slice Ao13 t424.length co13) t424) ∧ Aside0 (Kd.R Kd.string 9 wc w.heap.size (fun k_ => some k_ ≠ (v441 : Value).ownBlock ∧ some k_ ≠ ((.slice Ao11 t421.length co11) : Value).ownBlock ∧ some k_ ≠ ((.slice Ao43 t444.length co43) : Value).ownBlock) (.slice Ao35 t431.length co35) t431) ∧ Aside0 (Kd.R k40 40 wc w.heap.size (fun k_ => some k_ ≠ ((.slice Ao13 t424.length co13) : Value).ownBlock ∧ some k_ ≠ ((.slice Ao47 t447.length co47) : Value).ownBlock) (.slice Ao38 t434.length co38) t434) ∧ Aside0 (Kd.R Kd.string 9 wc w.heap.size (fun k_ => some k_ ≠ (v441 : Value).ownBlock ∧ some k_ ≠ ((.slice Ao11 t421.length co11) : Value).ownBlock ∧ some k_ ≠ ((.slice Ao35 t431.length co35) : Value).ownBlock) (.slice Ao43 t444.length co43) t444) ∧ Aside0 (Kd.R k40 40 wc w.heap.size (fun k_ => some k_ ≠ ((.slice Ao13 t424.length co13) : Value).ownBlock ∧ some k_ ≠ ((.slice Ao38 t434.length co38) : Value).ownBlock) (.slice Ao47 t447.length co47) t447) ∧ Aside0 (wc.heap[gb428]? = some (.cells #[(.slice Ao11 t421.length co11), (.slice Ao13 t424.length co13)] 25 (0, 0))) ∧ Aside0 (wc.heap[gb439]? = some (.cells #[(.slice Ao35 t431.length co35), (.slice Ao38 t434.length co38)] 25 (0, 0))) ∧ Aside0 (wc.heap[gb451]? = some (.cells #[(.slice Ao43 t444.length co43), (.slice Ao47 t447.length co47)] 25 (0, 0))) ∧ Aside0 (Below w.heap.size w wc))
        case first =>
          have H := HC31.out
          clear HC31
          by_cases c48 : t438 = 0
          · rw [if_pos c48] at H
            have c48b0 : (t438 == 0) = true := beq_iff_eq.mpr c48
            have c48b1 : (t438 != 0) = false := bne_eq_false_iff_eq.mpr c48
            clear c48
            (first | rw [c48b0] | (simp only [i64_w, i32_w]; rw [c48b0]) | skip)
            have H' := Aside0.mk H
            clear H
            go_wp2
            go_meet
            case rel => exact ⟨_, ((t443 != 0)), (by first | rfl | (simp; done) | (simp [*]; done)), H', ⟨by have := HJ7.out; first | omega | exact Nat.le_refl _⟩, ⟨by (with_reducible repeat (first | apply Kd.R_alloc | apply Kd.R_drewN | apply Kd.R_drew)); exact Kd.R_mono (Kd.R_far (p := ⟨gb451, 1, none⟩) (Kd.R_far (p := ⟨gb451, 0, none⟩) (Kd.R_types HO442.out BK451.out (by decide)) (fun _ hk => hk.2) (.slice Ao43 t444.length co43)) (fun _ hk => hk.2) (.slice Ao47 t447.length co47)) (fun _ hk => ⟨hk.1.1.1.2, ⟨hk.1.1.2, hk.1.2⟩⟩)⟩, ⟨by (with_reducible repeat (first | apply Kd.R_alloc | apply Kd.R_drewN | apply Kd.R_drew)); exact Kd.R_mono (Kd.R_far (p := ⟨gb451, 1, none⟩) (Kd.R_far (p := ⟨gb451, 0, none⟩) (Kd.R_types HO_429000.out BK451.out (by decide)) (fun _ hk => hk.2) (.slice Ao43 t444.length co43)) (fun _ hk => hk.2) (.slice Ao47 t447.length co47)) (fun _ hk => ⟨hk.1.1.2, ⟨hk.1.1.1.2, hk.1.2⟩⟩)⟩, ⟨by (with_reducible repeat (first | apply Kd.R_alloc | apply Kd.R_drewN | apply Kd.R_drew)); exact Kd.R_mono (Kd.R_far (p := ⟨gb451, 1, none⟩) (Kd.R_far (p := ⟨gb451, 0, none⟩) (Kd.R_types HO_429001.out BK451.out (by decide)) (fun _ hk => hk.2) (.slice Ao43 t444.length co43)) (fun _ hk => hk.2) (.slice Ao47 t447.length co47)) (fun _ hk => ⟨hk.1.1.2, hk.1.2⟩)⟩, ⟨by (with_reducible repeat (first | apply Kd.R_alloc | apply Kd.R_drewN | apply Kd.R_drew)); exact Kd.R_mono (Kd.R_far (p := ⟨gb451, 1, none⟩) (Kd.R_far (p := ⟨gb451, 0, none⟩) (Kd.R_types HO433.out BK451.out (by decide)) (fun _ hk => hk.2) (.slice Ao43 t444.length co43)) (fun _ hk => hk.2) (.slice Ao47 t447.length co47)) (fun _ hk => ⟨hk.1.1.2, ⟨hk.1.1.1.2, hk.1.2⟩⟩)⟩, ⟨by (with_reducible repeat (first | apply Kd.R_alloc | apply Kd.R_drewN | apply Kd.R_drew)); exact Kd.R_mono (Kd.R_far (p := ⟨gb451, 1, none⟩) (Kd.R_far (p := ⟨gb451, 0, none⟩) (Kd.R_types HO436.out BK451.out (by decide)) (fun _ hk => hk.2) (.slice Ao43 t444.length co43)) (fun _ hk => hk.2) (.slice Ao47 t447.length co47)) (fun _ hk => ⟨hk.1.1.2, hk.1.2⟩)⟩, ⟨by (with_reducible repeat (first | apply Kd.R_alloc | apply Kd.R_drewN | apply Kd.R_drew)); exact Kd.R_mono (Kd.R_far (p := ⟨gb451, 1, none⟩) (Kd.R_far (p := ⟨gb451, 0, none⟩) (Kd.R_types HO446.out BK451.out (by decide)) (fun _ hk => hk.2) (.slice Ao43 t444.length co43)) (fun _ hk => hk.2) (.slice Ao47 t447.length co47)) (fun _ hk => ⟨hk.1.2, ⟨hk.1.1.1.2, hk.1.1.2⟩⟩)⟩, ⟨by (with_reducible repeat (first | apply Kd.R_alloc | apply Kd.R_drewN | apply Kd.R_drew)); exact Kd.R_mono (Kd.R_far (p := ⟨gb451, 1, none⟩) (Kd.R_far (p := ⟨gb451, 0, none⟩) (Kd.R_types HO449.out BK451.out (by decide)) (fun _ hk => hk.2) (.slice Ao43 t444.length co43)) (fun _ hk => hk.2) (.slice Ao47 t447.length co47)) (fun _ hk => ⟨hk.1.1.2, hk.1.2⟩)⟩, ⟨by (with_reducible repeat (first | refine blk_drewN ?_ _ | refine blk_drew ?_ | refine blk_alloc ?_ _)); refine blk_far ?_ NB428_451.out _; (with_reducible repeat (first | refine blk_drewN ?_ _ | refine blk_drew ?_ | refine blk_alloc ?_ _)); refine blk_far ?_ NB428_451.out _; (with_reducible repeat (first | refine blk_drewN ?_ _ | refine blk_drew ?_ | refine blk_alloc ?_ _)); exact BK428.out⟩, ⟨by (with_reducible repeat (first | refine blk_drewN ?_ _ | refine blk_drew ?_ | refine blk_alloc ?_ _)); refine blk_far ?_ NB439_451.out _; (with_reducible repeat (first | refine blk_drewN ?_ _ | refine blk_drew ?_ | refine blk_alloc ?_ _)); refine blk_far ?_ NB439_451.out _; (with_reducible repeat (first | refine blk_drewN ?_ _ | refine blk_drew ?_ | refine blk_alloc ?_ _)); exact BK439.out⟩, ⟨by (with_reducible repeat (first | refine blk_drewN ?_ _ | refine blk_drew ?_ | refine blk_alloc ?_ _)); refine blk_put (cs := #[.slice Ao43 t444.length co43, .slice none 0 0]) ?_ 1 _ rfl; (with_reducible repeat (first | refine blk_drewN ?_ _ | refine blk_drew ?_ | refine blk_alloc ?_ _)); refine blk_put (cs := #[.slice none 0 0, .slice none 0 0]) ?_ 0 _ rfl; (with_reducible repeat (first | refine blk_drewN ?_ _ | refine blk_drew ?_ | refine blk_alloc ?_ _)); exact BK451.out⟩, ⟨by repeat (first | (with_reducible first | exact HB.out | apply below_alloc | apply pw_below_drewN | apply below_drew1 | refine below_set ?_ GE428.out | refine below_set ?_ GE439.out | refine below_set ?_ GE451.out) | exact HB.out)⟩⟩
          · rw [if_neg c48] at H
            have c48b0 : (t438 == 0) = false := beq_eq_false_iff_ne.mpr c48
            have c48b1 : (t438 != 0) = true := bne_iff_ne.mpr c48
            (first | rw [c48b0] | (simp only [i64_w, i32_w]; rw [c48b0]) | skip)
            have H' := Aside0.mk H
            clear H
            go_wp2
            go_meet
            case rel => exact ⟨_, (true), (by first | rfl | (simp; done) | (simp [*]; done)), H', ⟨by have := HJ7.out; first | omega | exact Nat.le_refl _⟩, ⟨by (with_reducible repeat (first | apply Kd.R_alloc | apply Kd.R_drewN | apply Kd.R_drew)); exact Kd.R_mono (Kd.R_far (p := ⟨gb451, 1, none⟩) (Kd.R_far (p := ⟨gb451, 0, none⟩) (Kd.R_types HO442.out BK451.out (by decide)) (fun _ hk => hk.2) (.slice Ao43 t444.length co43)) (fun _ hk => hk.2) (.slice Ao47 t447.length co47)) (fun _ hk => ⟨hk.1.1.1.2, ⟨hk.1.1.2, hk.1.2⟩⟩)⟩, ⟨by (with_reducible repeat (first | apply Kd.R_alloc | apply Kd.R_drewN | apply Kd.R_drew)); exact Kd.R_mono (Kd.R_far (p := ⟨gb451, 1, none⟩) (Kd.R_far (p := ⟨gb451, 0, none⟩) (Kd.R_types HO_429000.out BK451.out (by decide)) (fun _ hk => hk.2) (.slice Ao43 t444.length co43)) (fun _ hk => hk.2) (.slice Ao47 t447.length co47)) (fun _ hk => ⟨hk.1.1.2, ⟨hk.1.1.1.2, hk.1.2⟩⟩)⟩, ⟨by (with_reducible repeat (first | apply Kd.R_alloc | apply Kd.R_drewN | apply Kd.R_drew)); exact Kd.R_mono (Kd.R_far (p := ⟨gb451, 1, none⟩) (Kd.R_far (p := ⟨gb451, 0, none⟩) (Kd.R_types HO_429001.out BK451.out (by decide)) (fun _ hk => hk.2) (.slice Ao43 t444.length co43)) (fun _ hk => hk.2) (.slice Ao47 t447.length co47)) (fun _ hk => ⟨hk.1.1.2, hk.1.2⟩)⟩, ⟨by (with_reducible repeat (first | apply Kd.R_alloc | apply Kd.R_drewN | apply Kd.R_drew)); exact Kd.R_mono (Kd.R_far (p := ⟨gb451, 1, none⟩) (Kd.R_far (p := ⟨gb451, 0, none⟩) (Kd.R_types HO433.out BK451.out (by decide)) (fun _ hk => hk.2) (.slice Ao43 t444.length co43)) (fun _ hk => hk.2) (.slice Ao47 t447.length co47)) (fun _ hk => ⟨hk.1.1.2, ⟨hk.1.1.1.2, hk.1.2⟩⟩)⟩, ⟨by (with_reducible repeat (first | apply Kd.R_alloc | apply Kd.R_drewN | apply Kd.R_drew)); exact Kd.R_mono (Kd.R_far (p := ⟨gb451, 1, none⟩) (Kd.R_far (p := ⟨gb451, 0, none⟩) (Kd.R_types HO436.out BK451.out (by decide)) (fun _ hk => hk.2) (.slice Ao43 t444.length co43)) (fun _ hk => hk.2) (.slice Ao47 t447.length co47)) (fun _ hk => ⟨hk.1.1.2, hk.1.2⟩)⟩, ⟨by (with_reducible repeat (first | apply Kd.R_alloc | apply Kd.R_drewN | apply Kd.R_drew)); exact Kd.R_mono (Kd.R_far (p := ⟨gb451, 1, none⟩) (Kd.R_far (p := ⟨gb451, 0, none⟩) (Kd.R_types HO446.out BK451.out (by decide)) (fun _ hk => hk.2) (.slice Ao43 t444.length co43)) (fun _ hk => hk.2) (.slice Ao47 t447.length co47)) (fun _ hk => ⟨hk.1.2, ⟨hk.1.1.1.2, hk.1.1.2⟩⟩)⟩, ⟨by (with_reducible repeat (first | apply Kd.R_alloc | apply Kd.R_drewN | apply Kd.R_drew)); exact Kd.R_mono (Kd.R_far (p := ⟨gb451, 1, none⟩) (Kd.R_far (p := ⟨gb451, 0, none⟩) (Kd.R_types HO449.out BK451.out (by decide)) (fun _ hk => hk.2) (.slice Ao43 t444.length co43)) (fun _ hk => hk.2) (.slice Ao47 t447.length co47)) (fun _ hk => ⟨hk.1.1.2, hk.1.2⟩)⟩, ⟨by (with_reducible repeat (first | refine blk_drewN ?_ _ | refine blk_drew ?_ | refine blk_alloc ?_ _)); refine blk_far ?_ NB428_451.out _; (with_reducible repeat (first | refine blk_drewN ?_ _ | refine blk_drew ?_ | refine blk_alloc ?_ _)); refine blk_far ?_ NB428_451.out _; (with_reducible repeat (first | refine blk_drewN ?_ _ | refine blk_drew ?_ | refine blk_alloc ?_ _)); exact BK428.out⟩, ⟨by (with_reducible repeat (first | refine blk_drewN ?_ _ | refine blk_drew ?_ | refine blk_alloc ?_ _)); refine blk_far ?_ NB439_451.out _; (with_reducible repeat (first | refine blk_drewN ?_ _ | refine blk_drew ?_ | refine blk_alloc ?_ _)); refine blk_far ?_ NB439_451.out _; (with_reducible repeat (first | refine blk_drewN ?_ _ | refine blk_drew ?_ | refine blk_alloc ?_ _)); exact BK439.out⟩, ⟨by (with_reducible repeat (first | refine blk_drewN ?_ _ | refine blk_drew ?_ | refine blk_alloc ?_ _)); refine blk_put (cs := #[.slice Ao43 t444.length co43, .slice none 0 0]) ?_ 1 _ rfl; (with_reducible repeat (first | refine blk_drewN ?_ _ | refine blk_drew ?_ | refine blk_alloc ?_ _)); refine blk_put (cs := #[.slice none 0 0, .slice none 0 0]) ?_ 0 _ rfl; (with_reducible repeat (first | refine blk_drewN ?_ _ | refine blk_drew ?_ | refine blk_alloc ?_ _)); exact BK451.out⟩, ⟨by repeat (first | (with_reducible first | exact HB.out | apply below_alloc | apply pw_below_drewN | apply below_drew1 | refine below_set ?_ GE428.out | refine below_set ?_ GE439.out | refine below_set ?_ GE451.out) | exact HB.out)⟩⟩
        case rest =>
          clear HC31
          try clear c1
          try clear c2
          try clear p2
          try clear c3
          try clear c4
          try clear c10
          try clear c14
          try clear c14b0
          try clear c14b1
          try clear c15
          try clear c15b0
          try clear c17
          try clear c20
          try clear c20b0
          try clear c20b1
          try clear c21
          try clear c25
          try clear c29
          try clear c31
          try clear c33
          try clear c36
          try clear c37
          try clear c44
          try clear c45
          try clear c48
          try clear c48b0
          try clear c48b1
          try clear hcz12_0
          try clear hcz12_1
          try clear hcz18_0
          try clear hcz18_1
          try clear hcz21_0
          try clear hcz21_1
          try clear hcz23_0
          try clear hcz23_1
          try clear hcz32_0
          try clear hcz32_1
          try clear hcz37_0
          try clear hcz37_1
          try clear hcz40_0
          try clear hcz40_1
          try clear hcz46_0
          try clear hcz46_1
          try clear hfz12_0
          try clear hfz12_1
          try clear hfz18_0
          try clear hfz18_1
          try clear hfz21_0
          try clear hfz21_1
          try clear hfz23_0
          try clear hfz23_1
          try clear hfz32_0
          try clear hfz32_1
          try clear hfz37_0
          try clear hfz37_1
          try clear hfz40_0
          try clear hfz40_1
          try clear hfz46_0
          try clear hfz46_1
          try clear p2
          obtain ⟨kq, x82_30, rfl, HA, HJ30, HO_18, HO_429000, HO_429001, HO_440000, HO_440001, HO_452000, HO_452001, BK428, BK439, BK451, HB⟩ := hcut
          cases kq with
          | zero => exact absurd HA.out (by simp [sextonlaw07_WalEpoch.j1])
          | succ kj30 =>
            have H := HA.out
            clear HA
            simp only [sextonlaw07_WalEpoch.j1] at H
            by_cases c49 : x82_30 = true
            · subst c49
              have H1 : ((sextonlaw07_logged.f).bind fun t452 => (some t452)) = some r := by rw [if_pos rfl] at H; exact H
              clear H
              have H := H1
              clear H1
              replace H := Option.bind_eq_some_iff.mp H
              obtain ⟨t452, A500, H⟩ := H
              replace H : (some t452) = some r := H
              have A50 := Aside0.mk A500
              clear A500
              obtain rfl := Option.some.inj H
              go_wp2_with (first | ((with_reducible refine gate_callee (f := 37) rfl ?_); refine goesL_ (some 83) rfl rfl Try.func37 (by kernel_rfl) rfl #[] rfl (by (try simp only [List.map_toArray, List.map_cons, List.map_nil]); first | done | rfl | (simp only [List.length_drop, List.length_take]; rfl)) ?_; (with_reducible refine (sextonlaw07_logged.calls  t452 _ A50.out).mono ?_); rintro e w51 ⟨rfl, hb⟩; refine ⟨_, rfl, ?_⟩; have n0_ := Aside0.mk (Kd.R_below (by (with_reducible repeat (first | apply Kd.R_alloc | apply Kd.R_drewN | apply Kd.R_drew)); exact HO_18.out) hb); have n1_ := Aside0.mk (Kd.R_below (by (with_reducible repeat (first | apply Kd.R_alloc | apply Kd.R_drewN | apply Kd.R_drew)); exact HO_429000.out) hb); have n2_ := Aside0.mk (Kd.R_below (by (with_reducible repeat (first | apply Kd.R_alloc | apply Kd.R_drewN | apply Kd.R_drew)); exact HO_429001.out) hb); have n3_ := Aside0.mk (Kd.R_below (by (with_reducible repeat (first | apply Kd.R_alloc | apply Kd.R_drewN | apply Kd.R_drew)); exact HO_440000.out) hb); have n4_ := Aside0.mk (Kd.R_below (by (with_reducible repeat (first | apply Kd.R_alloc | apply Kd.R_drewN | apply Kd.R_drew)); exact HO_440001.out) hb); have n5_ := Aside0.mk (Kd.R_below (by (with_reducible repeat (first | apply Kd.R_alloc | apply Kd.R_drewN | apply Kd.R_drew)); exact HO_452000.out) hb); have n6_ := Aside0.mk (Kd.R_below (by (with_reducible repeat (first | apply Kd.R_alloc | apply Kd.R_drewN | apply Kd.R_drew)); exact HO_452001.out) hb); have n7_ := Aside0.mk (blk_below (g := gb428) (o := .cells #[.slice Ao11 t421.length co11, .slice Ao13 t424.length co13] 25 (0, 0)) (by (with_reducible repeat (first | refine blk_drewN ?_ _ | refine blk_drew ?_ | refine blk_alloc ?_ _)); exact BK428.out) hb); have n8_ := Aside0.mk (blk_below (g := gb439) (o := .cells #[.slice Ao35 t431.length co35, .slice Ao38 t434.length co38] 25 (0, 0)) (by (with_reducible repeat (first | refine blk_drewN ?_ _ | refine blk_drew ?_ | refine blk_alloc ?_ _)); exact BK439.out) hb); have n9_ := Aside0.mk (blk_below (g := gb451) (o := .cells #[.slice Ao43 t444.length co43, .slice Ao47 t447.length co47] 25 (0, 0)) (by (with_reducible repeat (first | refine blk_drewN ?_ _ | refine blk_drew ?_ | refine blk_alloc ?_ _)); exact BK451.out) hb); have n10_ := Aside0.mk (below_step (by repeat (first | (with_reducible first | exact HB.out | apply below_alloc | apply pw_below_drewN | apply below_drew1 | refine below_set ?_ GE428.out | refine below_set ?_ GE439.out | refine below_set ?_ GE451.out) | exact HB.out)) hb); clear HO_18; clear HO_429000; clear HO_429001; clear HO_440000; clear HO_440001; clear HO_452000; clear HO_452001; clear BK428; clear BK439; clear BK451; clear HB; have HO_18 := n0_; have HO_429000 := n1_; have HO_429001 := n2_; have HO_440000 := n3_; have HO_440001 := n4_; have HO_452000 := n5_; have HO_452001 := n6_; have BK428 := n7_; have BK439 := n8_; have BK451 := n9_; have HB := n10_; clear n0_ n1_ n2_ n3_ n4_ n5_ n6_ n7_ n8_ n9_ n10_; (try clear hb); (try clear hb2); (try clear hk); (try clear hi)))
              go_ret
              exact ⟨by first | rfl | (simp [errW_none, errW_some] <;> rfl) | (simp [*, errW_none, errW_some] <;> rfl), by repeat (first | (with_reducible first | exact HB.out | apply below_alloc | apply pw_below_drewN | apply below_drew1 | refine below_set ?_ GE428.out | refine below_set ?_ GE439.out | refine below_set ?_ GE451.out) | exact HB.out)⟩
            · replace c49 := Bool.eq_false_iff.mpr c49
              subst c49
              have H1 : ((wal_Open.f t444 t447 a1 a3).bind fun bt453 => ((wal_Open.f t444 t447 a1 a2).bind fun bt457 => ((sextonlaw07_logged.f).bind fun t461 => (if t461 = true then (if (t440.length : Int) = 0 then (if t450 = 0 then (if bt453.2 = 0 then ((sextonref01_Texts.f kj30 bt453.1 (([a5] : List ByteArray))).bind fun t465 => (if t465 = true then (if bt457.2 = 0 then (some ((bt457.1.length : Int) == 0)) else (some false)) else (some false))) else (some false)) else (some false)) else (some false)) else (some false))))) = some r := by rw [if_neg (show ¬ (false = true) by decide)] at H; exact H
              clear H
              have H := H1
              clear H1
              replace H := Option.bind_eq_some_iff.mp H
              obtain ⟨⟨t453, t456⟩, A520, H⟩ := H
              replace H : ((wal_Open.f t444 t447 a1 a2).bind fun bt457 => ((sextonlaw07_logged.f).bind fun t461 => (if t461 = true then (if (t440.length : Int) = 0 then (if t450 = 0 then (if t456 = 0 then ((sextonref01_Texts.f kj30 t453 (([a5] : List ByteArray))).bind fun t465 => (if t465 = true then (if bt457.2 = 0 then (some ((bt457.1.length : Int) == 0)) else (some false)) else (some false))) else (some false)) else (some false)) else (some false)) else (some false)))) = some r := H
              have A52 := Aside0.mk A520
              clear A520
              replace H := Option.bind_eq_some_iff.mp H
              obtain ⟨⟨t457, t460⟩, A530, H⟩ := H
              replace H : ((sextonlaw07_logged.f).bind fun t461 => (if t461 = true then (if (t440.length : Int) = 0 then (if t450 = 0 then (if t456 = 0 then ((sextonref01_Texts.f kj30 t453 (([a5] : List ByteArray))).bind fun t465 => (if t465 = true then (if t460 = 0 then (some ((t457.length : Int) == 0)) else (some false)) else (some false))) else (some false)) else (some false)) else (some false)) else (some false))) = some r := H
              have A53 := Aside0.mk A530
              clear A530
              replace H := Option.bind_eq_some_iff.mp H
              obtain ⟨t461, A540, H⟩ := H
              replace H : (if t461 = true then (if (t440.length : Int) = 0 then (if t450 = 0 then (if t456 = 0 then ((sextonref01_Texts.f kj30 t453 (([a5] : List ByteArray))).bind fun t465 => (if t465 = true then (if t460 = 0 then (some ((t457.length : Int) == 0)) else (some false)) else (some false))) else (some false)) else (some false)) else (some false)) else (some false)) = some r := H
              have A54 := Aside0.mk A540
              clear A540
              by_cases c55 : t461 = true
              · subst c55
                have H1 : (if (t440.length : Int) = 0 then (if t450 = 0 then (if t456 = 0 then ((sextonref01_Texts.f kj30 t453 (([a5] : List ByteArray))).bind fun t465 => (if t465 = true then (if t460 = 0 then (some ((t457.length : Int) == 0)) else (some false)) else (some false))) else (some false)) else (some false)) else (some false)) = some r := by rw [if_pos rfl] at H; exact H
                clear H
                have H := H1
                clear H1
                by_cases c56 : (t440.length : Int) = 0
                · rw [if_pos c56] at H
                  have c56b0 : ((t440.length : Int) == 0) = true := beq_iff_eq.mpr c56
                  have c56b1 : ((t440.length : Int) != 0) = false := bne_eq_false_iff_eq.mpr c56
                  clear c56
                  by_cases c57 : t450 = 0
                  · rw [if_pos c57] at H
                    have c57b0 : (t450 == 0) = true := beq_iff_eq.mpr c57
                    have c57b1 : (t450 != 0) = false := bne_eq_false_iff_eq.mpr c57
                    clear c57
                    by_cases c58 : t456 = 0
                    · rw [if_pos c58] at H
                      have c58b0 : (t456 == 0) = true := beq_iff_eq.mpr c58
                      have c58b1 : (t456 != 0) = false := bne_eq_false_iff_eq.mpr c58
                      clear c58
                      obtain ⟨y462, hy462⟩ : ∃ y_ : List ByteArray, y_ = (([a5] : List ByteArray)) := ⟨_, rfl⟩
                      replace H : ((sextonref01_Texts.f kj30 t453 y462).bind fun t465 => (if t465 = true then (if t460 = 0 then (some ((t457.length : Int) == 0)) else (some false)) else (some false))) = some r := by first | (rw [hy462]; with_reducible exact H) | (have H2_ := (Option.bind_some _ _).symm.trans H; rw [hy462]; with_reducible exact H2_) | (have H2_ := (Option.bind_some _ _).symm.trans H; with_reducible exact H2_) | with_reducible exact H | (rw [hy462]; exact H) | exact H
                      have Ny462 := Aside0.mk hy462
                      clear hy462
                      replace H := Option.bind_eq_some_iff.mp H
                      obtain ⟨t465, A590, H⟩ := H
                      replace H : (if t465 = true then (if t460 = 0 then (some ((t457.length : Int) == 0)) else (some false)) else (some false)) = some r := H
                      have A59 := Aside0.mk A590
                      clear A590
                      by_cases c60 : t465 = true
                      · subst c60
                        have H1 : (if t460 = 0 then (some ((t457.length : Int) == 0)) else (some false)) = some r := by rw [if_pos rfl] at H; exact H
                        clear H
                        have H := H1
                        clear H1
                        by_cases c61 : t460 = 0
                        · rw [if_pos c61] at H
                          have c61b0 : (t460 == 0) = true := beq_iff_eq.mpr c61
                          have c61b1 : (t460 != 0) = false := bne_eq_false_iff_eq.mpr c61
                          clear c61
                          obtain rfl := Option.some.inj H
                          have hnb62 := NB451_428.out
                          have hnc62 := NB428_451.out
                          have hnb63 := NB451_439.out
                          have hnc63 := NB439_451.out
                          have hcz64_0 : wc.cell? ⟨gb451, 0, none⟩ = some (.slice Ao43 t444.length co43) := (blk_cell BK451.out 0).trans rfl
                          have hcz64_1 : wc.cell? ⟨gb451, 1, none⟩ = some (.slice Ao47 t447.length co47) := (blk_cell BK451.out 1).trans rfl
                          have hfz64_0 := blk_frozen BK451.out 0
                          have hfz64_1 := blk_frozen BK451.out 1
                          go_wp2_with (first | ((with_reducible refine gate_callee (f := 29) rfl ?_); refine goesL_ (some 88) rfl rfl Try.func29 (by kernel_rfl) rfl #[.agg #[.slice Ao43 t444.length co43, .slice Ao47 t447.length co47], .int .i64 a1, .int .i64 a3] rfl (by (try simp only [List.map_toArray, List.map_cons, List.map_nil]); first | done | rfl | (simp only [List.length_drop, List.length_take]; rfl)) ?_; (with_reducible refine (wal_Open.calls _ _ t444 _ _ t447 a1 a3 t453 t456 _ ?side1 ?side2 ?side3 ?side4 A52.out).mono ?_); (case side1 => repeat (first | exact (Kd.R_reads' HO_452000.out).2.2 | (with_reducible refine Kd.C_alloc ?_ _) | (with_reducible refine Kd.C_drewN ?_ _) | (with_reducible refine Kd.C_drew ?_))); (case side2 => exact (Kd.R_reads' HO_452000.out).2.1); (case side3 => repeat (first | exact (Kd.R_reads' HO_452001.out).2.2 | (with_reducible refine Kd.C_alloc ?_ _) | (with_reducible refine Kd.C_drewN ?_ _) | (with_reducible refine Kd.C_drew ?_))); (case side4 => exact (Kd.R_reads' HO_452001.out).2.1); rintro e w65 ⟨v454, rfl, ho0, hb⟩; refine ⟨_, rfl, ?_⟩; have n0_ := Aside0.mk (Kd.R_elder' (by (with_reducible repeat (first | apply Kd.R_alloc | apply Kd.R_drewN | apply Kd.R_drew)); exact HO_18.out) (Kd.R_base ho0) hb); have n1_ := Aside0.mk (Kd.R_elder' (by (with_reducible repeat (first | apply Kd.R_alloc | apply Kd.R_drewN | apply Kd.R_drew)); exact HO_429000.out) (Kd.R_base ho0) hb); have n2_ := Aside0.mk (Kd.R_below (by (with_reducible repeat (first | apply Kd.R_alloc | apply Kd.R_drewN | apply Kd.R_drew)); exact HO_429001.out) hb); have n3_ := Aside0.mk (Kd.R_elder' (by (with_reducible repeat (first | apply Kd.R_alloc | apply Kd.R_drewN | apply Kd.R_drew)); exact HO_440000.out) (Kd.R_base ho0) hb); have n4_ := Aside0.mk (Kd.R_below (by (with_reducible repeat (first | apply Kd.R_alloc | apply Kd.R_drewN | apply Kd.R_drew)); exact HO_440001.out) hb); have n5_ := Aside0.mk (Kd.R_elder' (by (with_reducible repeat (first | apply Kd.R_alloc | apply Kd.R_drewN | apply Kd.R_drew)); exact HO_452000.out) (Kd.R_base ho0) hb); have n6_ := Aside0.mk (Kd.R_below (by (with_reducible repeat (first | apply Kd.R_alloc | apply Kd.R_drewN | apply Kd.R_drew)); exact HO_452001.out) hb); have n7_ := Aside0.mk (Kd.R_lower (Kd.R_new' (Kd.R_new' (Kd.R_new' (Kd.R_new' ho0 (Kd.R_lt (by (with_reducible repeat (first | apply Kd.R_alloc | apply Kd.R_drewN | apply Kd.R_drew)); exact HO_18.out))) (Kd.R_lt (by (with_reducible repeat (first | apply Kd.R_alloc | apply Kd.R_drewN | apply Kd.R_drew)); exact HO_429000.out))) (Kd.R_lt (by (with_reducible repeat (first | apply Kd.R_alloc | apply Kd.R_drewN | apply Kd.R_drew)); exact HO_440000.out))) (Kd.R_lt (by (with_reducible repeat (first | apply Kd.R_alloc | apply Kd.R_drewN | apply Kd.R_drew)); exact HO_452000.out))) (below_size (by repeat (first | (with_reducible first | exact HB.out | apply below_alloc | apply pw_below_drewN | apply below_drew1 | refine below_set ?_ GE428.out | refine below_set ?_ GE439.out | refine below_set ?_ GE451.out) | exact HB.out)))); have n8_ := Aside0.mk (blk_below (g := gb428) (o := .cells #[.slice Ao11 t421.length co11, .slice Ao13 t424.length co13] 25 (0, 0)) (by (with_reducible repeat (first | refine blk_drewN ?_ _ | refine blk_drew ?_ | refine blk_alloc ?_ _)); exact BK428.out) hb); have n9_ := Aside0.mk (blk_below (g := gb439) (o := .cells #[.slice Ao35 t431.length co35, .slice Ao38 t434.length co38] 25 (0, 0)) (by (with_reducible repeat (first | refine blk_drewN ?_ _ | refine blk_drew ?_ | refine blk_alloc ?_ _)); exact BK439.out) hb); have n10_ := Aside0.mk (blk_below (g := gb451) (o := .cells #[.slice Ao43 t444.length co43, .slice Ao47 t447.length co47] 25 (0, 0)) (by (with_reducible repeat (first | refine blk_drewN ?_ _ | refine blk_drew ?_ | refine blk_alloc ?_ _)); exact BK451.out) hb); have n11_ := Aside0.mk (below_step (by repeat (first | (with_reducible first | exact HB.out | apply below_alloc | apply pw_below_drewN | apply below_drew1 | refine below_set ?_ GE428.out | refine below_set ?_ GE439.out | refine below_set ?_ GE451.out) | exact HB.out)) hb); clear HO_18; clear HO_429000; clear HO_429001; clear HO_440000; clear HO_440001; clear HO_452000; clear HO_452001; clear BK428; clear BK439; clear BK451; clear HB; have HO_18 := n0_; have HO_429000 := n1_; have HO_429001 := n2_; have HO_440000 := n3_; have HO_440001 := n4_; have HO_452000 := n5_; have HO_452001 := n6_; have HO455 := n7_; have BK428 := n8_; have BK439 := n9_; have BK451 := n10_; have HB := n11_; clear n0_ n1_ n2_ n3_ n4_ n5_ n6_ n7_ n8_ n9_ n10_ n11_; (try clear hb); (try clear hb2); (try clear hk); (try clear hi); (try clear ho0); have hcz66_0 : w65.cell? ⟨gb451, 0, none⟩ = some (.slice Ao43 t444.length co43) := (blk_cell BK451.out 0).trans rfl; have hcz66_1 : w65.cell? ⟨gb451, 1, none⟩ = some (.slice Ao47 t447.length co47) := (blk_cell BK451.out 1).trans rfl; have hfz66_0 := blk_frozen BK451.out 0; have hfz66_1 := blk_frozen BK451.out 1) | ((with_reducible refine gate_callee (f := 29) rfl ?_); refine goesL_ (some 95) rfl rfl Try.func29 (by kernel_rfl) rfl #[.agg #[.slice Ao43 t444.length co43, .slice Ao47 t447.length co47], .int .i64 a1, .int .i64 a2] rfl (by (try simp only [List.map_toArray, List.map_cons, List.map_nil]); first | done | rfl | (simp only [List.length_drop, List.length_take]; rfl)) ?_; (with_reducible refine (wal_Open.calls _ _ t444 _ _ t447 a1 a2 t457 t460 _ ?side1 ?side2 ?side3 ?side4 A53.out).mono ?_); (case side1 => repeat (first | exact (Kd.R_reads' HO_452000.out).2.2 | (with_reducible refine Kd.C_alloc ?_ _) | (with_reducible refine Kd.C_drewN ?_ _) | (with_reducible refine Kd.C_drew ?_))); (case side2 => exact (Kd.R_reads' HO_452000.out).2.1); (case side3 => repeat (first | exact (Kd.R_reads' HO_452001.out).2.2 | (with_reducible refine Kd.C_alloc ?_ _) | (with_reducible refine Kd.C_drewN ?_ _) | (with_reducible refine Kd.C_drew ?_))); (case side4 => exact (Kd.R_reads' HO_452001.out).2.1); rintro e w67 ⟨v458, rfl, ho0, hb⟩; refine ⟨_, rfl, ?_⟩; have n0_ := Aside0.mk (Kd.R_elder' (by (with_reducible repeat (first | apply Kd.R_alloc | apply Kd.R_drewN | apply Kd.R_drew)); exact HO_18.out) (Kd.R_base ho0) hb); have n1_ := Aside0.mk (Kd.R_elder' (by (with_reducible repeat (first | apply Kd.R_alloc | apply Kd.R_drewN | apply Kd.R_drew)); exact HO_429000.out) (Kd.R_base ho0) hb); have n2_ := Aside0.mk (Kd.R_below (by (with_reducible repeat (first | apply Kd.R_alloc | apply Kd.R_drewN | apply Kd.R_drew)); exact HO_429001.out) hb); have n3_ := Aside0.mk (Kd.R_elder' (by (with_reducible repeat (first | apply Kd.R_alloc | apply Kd.R_drewN | apply Kd.R_drew)); exact HO_440000.out) (Kd.R_base ho0) hb); have n4_ := Aside0.mk (Kd.R_below (by (with_reducible repeat (first | apply Kd.R_alloc | apply Kd.R_drewN | apply Kd.R_drew)); exact HO_440001.out) hb); have n5_ := Aside0.mk (Kd.R_elder' (by (with_reducible repeat (first | apply Kd.R_alloc | apply Kd.R_drewN | apply Kd.R_drew)); exact HO_452000.out) (Kd.R_base ho0) hb); have n6_ := Aside0.mk (Kd.R_below (by (with_reducible repeat (first | apply Kd.R_alloc | apply Kd.R_drewN | apply Kd.R_drew)); exact HO_452001.out) hb); have n7_ := Aside0.mk (Kd.R_elder' (by (with_reducible repeat (first | apply Kd.R_alloc | apply Kd.R_drewN | apply Kd.R_drew)); exact HO455.out) (Kd.R_base ho0) hb); have n8_ := Aside0.mk (Kd.R_lower (Kd.R_new' (Kd.R_new' (Kd.R_new' (Kd.R_new' (Kd.R_new' ho0 (Kd.R_lt (by (with_reducible repeat (first | apply Kd.R_alloc | apply Kd.R_drewN | apply Kd.R_drew)); exact HO_18.out))) (Kd.R_lt (by (with_reducible repeat (first | apply Kd.R_alloc | apply Kd.R_drewN | apply Kd.R_drew)); exact HO_429000.out))) (Kd.R_lt (by (with_reducible repeat (first | apply Kd.R_alloc | apply Kd.R_drewN | apply Kd.R_drew)); exact HO_440000.out))) (Kd.R_lt (by (with_reducible repeat (first | apply Kd.R_alloc | apply Kd.R_drewN | apply Kd.R_drew)); exact HO_452000.out))) (Kd.R_lt (by (with_reducible repeat (first | apply Kd.R_alloc | apply Kd.R_drewN | apply Kd.R_drew)); exact HO455.out))) (below_size (by repeat (first | (with_reducible first | exact HB.out | apply below_alloc | apply pw_below_drewN | apply below_drew1 | refine below_set ?_ GE428.out | refine below_set ?_ GE439.out | refine below_set ?_ GE451.out) | exact HB.out)))); have n9_ := Aside0.mk (blk_below (g := gb428) (o := .cells #[.slice Ao11 t421.length co11, .slice Ao13 t424.length co13] 25 (0, 0)) (by (with_reducible repeat (first | refine blk_drewN ?_ _ | refine blk_drew ?_ | refine blk_alloc ?_ _)); exact BK428.out) hb); have n10_ := Aside0.mk (blk_below (g := gb439) (o := .cells #[.slice Ao35 t431.length co35, .slice Ao38 t434.length co38] 25 (0, 0)) (by (with_reducible repeat (first | refine blk_drewN ?_ _ | refine blk_drew ?_ | refine blk_alloc ?_ _)); exact BK439.out) hb); have n11_ := Aside0.mk (blk_below (g := gb451) (o := .cells #[.slice Ao43 t444.length co43, .slice Ao47 t447.length co47] 25 (0, 0)) (by (with_reducible repeat (first | refine blk_drewN ?_ _ | refine blk_drew ?_ | refine blk_alloc ?_ _)); exact BK451.out) hb); have n12_ := Aside0.mk (below_step (by repeat (first | (with_reducible first | exact HB.out | apply below_alloc | apply pw_below_drewN | apply below_drew1 | refine below_set ?_ GE428.out | refine below_set ?_ GE439.out | refine below_set ?_ GE451.out) | exact HB.out)) hb); clear HO_18; clear HO_429000; clear HO_429001; clear HO_440000; clear HO_440001; clear HO_452000; clear HO_452001; clear HO455; clear BK428; clear BK439; clear BK451; clear HB; have HO_18 := n0_; have HO_429000 := n1_; have HO_429001 := n2_; have HO_440000 := n3_; have HO_440001 := n4_; have HO_452000 := n5_; have HO_452001 := n6_; have HO455 := n7_; have HO459 := n8_; have BK428 := n9_; have BK439 := n10_; have BK451 := n11_; have HB := n12_; clear n0_ n1_ n2_ n3_ n4_ n5_ n6_ n7_ n8_ n9_ n10_ n11_ n12_; (try clear hb); (try clear hb2); (try clear hk); (try clear hi); (try clear ho0)) | ((with_reducible refine gate_callee (f := 37) rfl ?_); refine goesL_ (some 98) rfl rfl Try.func37 (by kernel_rfl) rfl #[] rfl (by (try simp only [List.map_toArray, List.map_cons, List.map_nil]); first | done | rfl | (simp only [List.length_drop, List.length_take]; rfl)) ?_; (with_reducible refine (sextonlaw07_logged.calls  true _ A54.out).mono ?_); rintro e w68 ⟨rfl, hb⟩; refine ⟨_, rfl, ?_⟩; have n0_ := Aside0.mk (Kd.R_below (by (with_reducible repeat (first | apply Kd.R_alloc | apply Kd.R_drewN | apply Kd.R_drew)); exact HO_18.out) hb); have n1_ := Aside0.mk (Kd.R_below (by (with_reducible repeat (first | apply Kd.R_alloc | apply Kd.R_drewN | apply Kd.R_drew)); exact HO_429000.out) hb); have n2_ := Aside0.mk (Kd.R_below (by (with_reducible repeat (first | apply Kd.R_alloc | apply Kd.R_drewN | apply Kd.R_drew)); exact HO_429001.out) hb); have n3_ := Aside0.mk (Kd.R_below (by (with_reducible repeat (first | apply Kd.R_alloc | apply Kd.R_drewN | apply Kd.R_drew)); exact HO_440000.out) hb); have n4_ := Aside0.mk (Kd.R_below (by (with_reducible repeat (first | apply Kd.R_alloc | apply Kd.R_drewN | apply Kd.R_drew)); exact HO_440001.out) hb); have n5_ := Aside0.mk (Kd.R_below (by (with_reducible repeat (first | apply Kd.R_alloc | apply Kd.R_drewN | apply Kd.R_drew)); exact HO_452000.out) hb); have n6_ := Aside0.mk (Kd.R_below (by (with_reducible repeat (first | apply Kd.R_alloc | apply Kd.R_drewN | apply Kd.R_drew)); exact HO_452001.out) hb); have n7_ := Aside0.mk (Kd.R_below (by (with_reducible repeat (first | apply Kd.R_alloc | apply Kd.R_drewN | apply Kd.R_drew)); exact HO455.out) hb); have n8_ := Aside0.mk (Kd.R_below (by (with_reducible repeat (first | apply Kd.R_alloc | apply Kd.R_drewN | apply Kd.R_drew)); exact HO459.out) hb); have n9_ := Aside0.mk (blk_below (g := gb428) (o := .cells #[.slice Ao11 t421.length co11, .slice Ao13 t424.length co13] 25 (0, 0)) (by (with_reducible repeat (first | refine blk_drewN ?_ _ | refine blk_drew ?_ | refine blk_alloc ?_ _)); exact BK428.out) hb); have n10_ := Aside0.mk (blk_below (g := gb439) (o := .cells #[.slice Ao35 t431.length co35, .slice Ao38 t434.length co38] 25 (0, 0)) (by (with_reducible repeat (first | refine blk_drewN ?_ _ | refine blk_drew ?_ | refine blk_alloc ?_ _)); exact BK439.out) hb); have n11_ := Aside0.mk (blk_below (g := gb451) (o := .cells #[.slice Ao43 t444.length co43, .slice Ao47 t447.length co47] 25 (0, 0)) (by (with_reducible repeat (first | refine blk_drewN ?_ _ | refine blk_drew ?_ | refine blk_alloc ?_ _)); exact BK451.out) hb); have n12_ := Aside0.mk (below_step (by repeat (first | (with_reducible first | exact HB.out | apply below_alloc | apply pw_below_drewN | apply below_drew1 | refine below_set ?_ GE428.out | refine below_set ?_ GE439.out | refine below_set ?_ GE451.out) | exact HB.out)) hb); clear HO_18; clear HO_429000; clear HO_429001; clear HO_440000; clear HO_440001; clear HO_452000; clear HO_452001; clear HO455; clear HO459; clear BK428; clear BK439; clear BK451; clear HB; have HO_18 := n0_; have HO_429000 := n1_; have HO_429001 := n2_; have HO_440000 := n3_; have HO_440001 := n4_; have HO_452000 := n5_; have HO_452001 := n6_; have HO455 := n7_; have HO459 := n8_; have BK428 := n9_; have BK439 := n10_; have BK451 := n11_; have HB := n12_; clear n0_ n1_ n2_ n3_ n4_ n5_ n6_ n7_ n8_ n9_ n10_ n11_ n12_; (try clear hb); (try clear hb2); (try clear hk); (try clear hi); obtain ⟨Ao69, co69, eo69⟩ := Kd.R_slice HO_18.out; subst eo69) | ((with_reducible refine gate_dst (N := 115) rfl ?_); (try (refine gate_guard (by rfl) ?_; dsimp only)); refine Kd.R_lit Kd.string _ 9 ?hg (N := 115) ?hd (xs := ([a5] : List ByteArray)) (inner := [.string a5]) (ok := fun _ => True) (okp := fun _ => True) ?hr ?hp (fun _ hk => hk) trivial (Below.refl _ _) (Nat.le_refl _) (by simp) ?_; (case hd => rfl); (case hg => rfl); (case hr => first | (go_simp; done) | (go_simp; rfl)); (case hp => exact (Reps.one (show Kd.M Kd.string _ _ _ a5 [.string a5] from rfl) (Reps.none _ _))); intro v463 w70 ho71 hb hg_ hnew_; clear hg_ hnew_; (first | rw [← Ny462.out] at ho71 | (simp only [Int.reduceToNat] at ho71; rw [← Ny462.out] at ho71)); have n0_ := Aside0.mk (Kd.R_elder' (by (with_reducible repeat (first | apply Kd.R_alloc | apply Kd.R_drewN | apply Kd.R_drew)); exact HO_18.out) (Kd.R_base ho71) hb); have n1_ := Aside0.mk (Kd.R_elder' (by (with_reducible repeat (first | apply Kd.R_alloc | apply Kd.R_drewN | apply Kd.R_drew)); exact HO_429000.out) (Kd.R_base ho71) hb); have n2_ := Aside0.mk (Kd.R_below (by (with_reducible repeat (first | apply Kd.R_alloc | apply Kd.R_drewN | apply Kd.R_drew)); exact HO_429001.out) hb); have n3_ := Aside0.mk (Kd.R_elder' (by (with_reducible repeat (first | apply Kd.R_alloc | apply Kd.R_drewN | apply Kd.R_drew)); exact HO_440000.out) (Kd.R_base ho71) hb); have n4_ := Aside0.mk (Kd.R_below (by (with_reducible repeat (first | apply Kd.R_alloc | apply Kd.R_drewN | apply Kd.R_drew)); exact HO_440001.out) hb); have n5_ := Aside0.mk (Kd.R_elder' (by (with_reducible repeat (first | apply Kd.R_alloc | apply Kd.R_drewN | apply Kd.R_drew)); exact HO_452000.out) (Kd.R_base ho71) hb); have n6_ := Aside0.mk (Kd.R_below (by (with_reducible repeat (first | apply Kd.R_alloc | apply Kd.R_drewN | apply Kd.R_drew)); exact HO_452001.out) hb); have n7_ := Aside0.mk (Kd.R_elder' (by (with_reducible repeat (first | apply Kd.R_alloc | apply Kd.R_drewN | apply Kd.R_drew)); exact HO455.out) (Kd.R_base ho71) hb); have n8_ := Aside0.mk (Kd.R_elder' (by (with_reducible repeat (first | apply Kd.R_alloc | apply Kd.R_drewN | apply Kd.R_drew)); exact HO459.out) (Kd.R_base ho71) hb); have n9_ := Aside0.mk (Kd.R_lower (Kd.R_new' (Kd.R_new' (Kd.R_new' (Kd.R_new' (Kd.R_new' (Kd.R_new' ho71 (Kd.R_lt (by (with_reducible repeat (first | apply Kd.R_alloc | apply Kd.R_drewN | apply Kd.R_drew)); exact HO_18.out))) (Kd.R_lt (by (with_reducible repeat (first | apply Kd.R_alloc | apply Kd.R_drewN | apply Kd.R_drew)); exact HO_429000.out))) (Kd.R_lt (by (with_reducible repeat (first | apply Kd.R_alloc | apply Kd.R_drewN | apply Kd.R_drew)); exact HO_440000.out))) (Kd.R_lt (by (with_reducible repeat (first | apply Kd.R_alloc | apply Kd.R_drewN | apply Kd.R_drew)); exact HO_452000.out))) (Kd.R_lt (by (with_reducible repeat (first | apply Kd.R_alloc | apply Kd.R_drewN | apply Kd.R_drew)); exact HO455.out))) (Kd.R_lt (by (with_reducible repeat (first | apply Kd.R_alloc | apply Kd.R_drewN | apply Kd.R_drew)); exact HO459.out))) (below_size (by repeat (first | (with_reducible first | exact HB.out | apply below_alloc | apply pw_below_drewN | apply below_drew1 | refine below_set ?_ GE428.out | refine below_set ?_ GE439.out | refine below_set ?_ GE451.out) | exact HB.out)))); have n10_ := Aside0.mk (blk_below (g := gb428) (o := .cells #[.slice Ao11 t421.length co11, .slice Ao13 t424.length co13] 25 (0, 0)) (by (with_reducible repeat (first | refine blk_drewN ?_ _ | refine blk_drew ?_ | refine blk_alloc ?_ _)); exact BK428.out) hb); have n11_ := Aside0.mk (blk_below (g := gb439) (o := .cells #[.slice Ao35 t431.length co35, .slice Ao38 t434.length co38] 25 (0, 0)) (by (with_reducible repeat (first | refine blk_drewN ?_ _ | refine blk_drew ?_ | refine blk_alloc ?_ _)); exact BK439.out) hb); have n12_ := Aside0.mk (blk_below (g := gb451) (o := .cells #[.slice Ao43 t444.length co43, .slice Ao47 t447.length co47] 25 (0, 0)) (by (with_reducible repeat (first | refine blk_drewN ?_ _ | refine blk_drew ?_ | refine blk_alloc ?_ _)); exact BK451.out) hb); have n13_ := Aside0.mk (below_step (by repeat (first | (with_reducible first | exact HB.out | apply below_alloc | apply pw_below_drewN | apply below_drew1 | refine below_set ?_ GE428.out | refine below_set ?_ GE439.out | refine below_set ?_ GE451.out) | exact HB.out)) hb); clear HO_18; clear HO_429000; clear HO_429001; clear HO_440000; clear HO_440001; clear HO_452000; clear HO_452001; clear HO455; clear HO459; clear BK428; clear BK439; clear BK451; clear HB; have HO_18 := n0_; have HO_429000 := n1_; have HO_429001 := n2_; have HO_440000 := n3_; have HO_440001 := n4_; have HO_452000 := n5_; have HO_452001 := n6_; have HO455 := n7_; have HO459 := n8_; have HO464 := n9_; have BK428 := n10_; have BK439 := n11_; have BK451 := n12_; have HB := n13_; clear n0_ n1_ n2_ n3_ n4_ n5_ n6_ n7_ n8_ n9_ n10_ n11_ n12_ n13_; clear hb ho71; obtain ⟨Ao72, co72, eo72⟩ := Kd.R_slice HO455.out; subst eo72; obtain ⟨Ao73, co73, eo73⟩ := Kd.R_slice HO464.out; subst eo73) | (go_at_call 38; (with_reducible refine (sextonref01_Texts.calls kj30 _ _ t453 _ _ y462 true _ ?side1 ?side2 ?side3 ?side4 A59.out).mono ?_); (case side1 => repeat (first | exact (Kd.R_reads' HO455.out).2.2 | (with_reducible refine Kd.C_alloc ?_ _) | (with_reducible refine Kd.C_drewN ?_ _) | (with_reducible refine Kd.C_drew ?_))); (case side2 => exact (Kd.R_reads' HO455.out).2.1); (case side3 => repeat (first | exact (Kd.R_reads' HO464.out).2.2 | (with_reducible refine Kd.C_alloc ?_ _) | (with_reducible refine Kd.C_drewN ?_ _) | (with_reducible refine Kd.C_drew ?_))); (case side4 => exact (Kd.R_reads' HO464.out).2.1); rintro e w' ⟨rfl, ⟨nd, rfl⟩⟩; obtain ⟨Ao74, co74, eo74⟩ := Kd.R_slice HO459.out; subst eo74))
                          go_ret
                          exact ⟨by first | rfl | (simp [errW_none, errW_some] <;> rfl) | (simp [*, errW_none, errW_some] <;> rfl), by repeat (first | (with_reducible first | exact HB.out | apply below_alloc | apply pw_below_drewN | apply below_drew1 | refine below_set ?_ GE428.out | refine below_set ?_ GE439.out | refine below_set ?_ GE451.out) | exact HB.out)⟩
                        · rw [if_neg c61] at H
                          exact absurd (H.trans (congrArg some HRT.out)) (by decide)
                      · replace c60 := Bool.eq_false_iff.mpr c60
                        subst c60
                        have H1 : (some false) = some r := by rw [if_neg (show ¬ (false = true) by decide)] at H; exact H
                        exact absurd (H1.trans (congrArg some HRT.out)) (by decide)
                    · rw [if_neg c58] at H
                      exact absurd (H.trans (congrArg some HRT.out)) (by decide)
                  · rw [if_neg c57] at H
                    exact absurd (H.trans (congrArg some HRT.out)) (by decide)
                · rw [if_neg c56] at H
                  exact absurd (H.trans (congrArg some HRT.out)) (by decide)
              · replace c55 := Bool.eq_false_iff.mpr c55
                subst c55
                have H1 : (some false) = some r := by rw [if_neg (show ¬ (false = true) by decide)] at H; exact H
                exact absurd (H1.trans (congrArg some HRT.out)) (by decide)

end Go.Proofs.Ytoibofhmlokglaa.P
/-
  The plain statement of WalEpoch: of another epoch nothing of it is read; that one goes on from its beginning.
-/
namespace Go.Proofs.Ytoibofhmlokglaa.Pure
open Go.RowKit Go.Proofs Go.Proofs.CodecPlain Go.Proofs.YtoibofhmlokglaaW.PrintWords Go.Proofs.YtoibofhmlokglaaW.PrintLast Go.Proofs.Plain Go.Proofs.Ytoibofhmlokglaa.P Go.Proofs.Ytoibofhmlokglaa.Opens

theorem noRec_other {ep o a n : Int} {s : ByteArray} (h0 : 0 ≤ ep) (h1 : ep ≤ 1000000000) (h2 : 0 ≤ n) (h3 : n ≤ 1000) (hs : s.size ≤ 200) (ho : ep ≠ o) : noRec o a (recF ep n s) := fun h => by
  rw [recF_read h0 (by omega) h2 (by omega) hs] at h
  exact ho h.2.1
theorem WalEpoch (a0 : Int) (a1 : Int) (a2 : Int) (a3 : Int) (l4 : (List ByteArray)) (a5 : ByteArray) {ok0 : Prop} (h0 : ok0) {ok1 : Prop} (h1 : ok1) {ok2 : Prop} (h2 : ok2) {ok3 : Prop} (h3 : ok3) (h4 : (OkList OkStr) l4) {ok5 : Prop} (h5 : ok5) :
    ∃ k, sextonlaw07_WalEpoch.f k a0 a1 a2 a3 l4 a5 = some true := by
  have hl4 : l4.length ≤ 9223372036854775807 := by have := h4.1; unfold maxLen at this; omega
  unfold sextonlaw07_WalEpoch.f
  have out : ∀ k b u, sextonlaw07_WalEpoch.j0 (k + 1) a1 a2 a3 l4 a5 true b u = some true := fun k b u => by
    simp only [sextonlaw07_WalEpoch.j0, sextonlaw07_logged.f]
    rw [if_pos trivial]
    rfl
  have out1 : ∀ k m e b u, sextonlaw07_WalEpoch.j1 (k + 1) a1 a2 a3 a5 m e true b u = some true := fun k m e b u => by
    simp only [sextonlaw07_WalEpoch.j1, sextonlaw07_logged.f]
    rw [if_pos trivial]
    rfl
  by_cases hn : a0 < 1 ∨ 200 < a0
  · refine ⟨1, ?_⟩
    have : disk_New.f a0 = some ([], [], 1) := by
      unfold disk_New.f
      by_cases h : a0 < 1
      · rw [if_pos h]
      · rw [if_neg h, if_pos (by omega)]
    rw [this, Option.bind_some, if_neg (by decide)]
    exact out 0 _ _
  obtain ⟨n, rfl⟩ : ∃ n : Nat, a0 = (n : Int) := ⟨a0.toNat, by omega⟩
  have hnew : disk_New.f (n : Int) = some (newV n, [], 0) := by
    unfold disk_New.f
    rw [if_neg (by omega), if_neg (by omega), if_pos (by omega), if_pos (by omega), Int.toNat_natCast]
  rw [hnew]
  simp only [Option.bind_some, if_true]
  by_cases hbig : (n : Int) > 20
  · exact ⟨1, by rw [if_pos hbig]; exact out 0 _ _⟩
  simp only [if_neg hbig]
  obtain ⟨far, K, e⟩ := far7_ends (newV n) [] l4 hl4
  have e' := fun k (hk : K ≤ k) => e k hk
  simp only at e'
  cases far
  rotate_left
  · refine ⟨K + 1, ?_⟩
    rw [e' (K + 1) (by omega), Option.bind_some, if_pos rfl]
    exact out K _ _
  have hsh := far7_short _ _ _ hl4 ⟨K, e'⟩
  by_cases hk : (a5.size : Int) > 200
  · refine ⟨K + 1, ?_⟩
    rw [e' (K + 1) (by omega), Option.bind_some, if_neg (by decide), if_pos hk]
    exact out K _ _
  by_cases ho : a2 = a3
  · refine ⟨K + 1, ?_⟩
    rw [e' (K + 1) (by omega), Option.bind_some, if_neg (by decide), if_neg hk, show (a2 == a3) = true by rw [beq_iff_eq]; exact ho]
    exact out K _ _
  have hck0 := check_new (n := n) (by omega) (by omega)
  have hallev := all_ev (newV n) [] a1 a2 l4 hl4 (-1)
  obtain ⟨Z, hZ⟩ : ∃ Z, Z = allV (newV n) [] a1 a2 l4 (-1) := ⟨_, rfl⟩
  rw [← hZ] at hallev
  suffices H : Z.2.2.2 ≠ 0 ∨ (openV Z.1 Z.2.1 a1 a3).2 ≠ 0 ∨ (openV Z.1 Z.2.1 a1 a3 = ([], 0) ∧ ∃ y u, appendV Z.1 Z.2.1 a1 a3 a5 = (y, u, 0) ∧ openV y u a1 a3 = ([a5], 0) ∧ openV y u a1 a2 = ([], 0)) by
    obtain ⟨K2, e2⟩ := hallev
    simp only at e2
    have start : ∀ k, K + K2 ≤ k → sextonlaw07_WalEpoch.j0 (k + 1) a1 a2 a3 l4 a5 false (newV n) [] = (if Z.2.2.2 = 0 then (sextonlaw07_WalEpoch.j1 k a1 a2 a3 a5 (openV Z.1 Z.2.1 a1 a3).1 (appendV Z.1 Z.2.1 a1 a3 a5).2.2 ((openV Z.1 Z.2.1 a1 a3).2 != 0) (appendV Z.1 Z.2.1 a1 a3 a5).1 (appendV Z.1 Z.2.1 a1 a3 a5).2.1) else (sextonlaw07_WalEpoch.j1 k a1 a2 a3 a5 (openV Z.1 Z.2.1 a1 a3).1 (appendV Z.1 Z.2.1 a1 a3 a5).2.2 true (appendV Z.1 Z.2.1 a1 a3 a5).1 (appendV Z.1 Z.2.1 a1 a3 a5).2.1)) := fun k hk => by
      simp only [sextonlaw07_WalEpoch.j0]
      rw [if_neg (by decide), e2 _ (by omega)]
      simp only [Option.bind_some, wal_Open.f, wal_Append.f]
    by_cases hz : Z.2.2.2 = 0
    rotate_left
    · refine ⟨K + K2 + 2, ?_⟩
      rw [e' _ (by omega), Option.bind_some, if_neg (by decide), if_neg hk, show (a2 == a3) = false by rw [beq_eq_false_iff_ne]; exact ho, start _ (by omega), if_neg hz]
      exact out1 _ _ _ _ _
    rcases H with H | H | ⟨H1, y, u, H2, H3, H4⟩
    · exact absurd hz H
    · refine ⟨K + K2 + 2, ?_⟩
      rw [e' _ (by omega), Option.bind_some, if_neg (by decide), if_neg hk, show (a2 == a3) = false by rw [beq_eq_false_iff_ne]; exact ho, start _ (by omega), if_pos hz, show ((openV Z.1 Z.2.1 a1 a3).2 != 0) = true by rw [bne_iff_ne]; exact H]
      exact out1 _ _ _ _ _
    · obtain ⟨K3, e3⟩ := refTexts [a5] [a5] (by simp)
      rw [decide_eq_true rfl] at e3
      simp only at e3
      refine ⟨K + K2 + K3 + 2, ?_⟩
      rw [e' _ (by omega), Option.bind_some, if_neg (by decide), if_neg hk, show (a2 == a3) = false by rw [beq_eq_false_iff_ne]; exact ho, start _ (by omega), if_pos hz, H1, H2]
      simp only [sextonlaw07_WalEpoch.j1, sextonlaw07_logged.f, wal_Open.f, Option.bind_some, H3, H4]
      rw [if_neg (by decide), if_pos trivial, if_pos (by simp), if_pos trivial, if_pos trivial, e3 _ (by omega)]
      rfl
  by_cases hop : openE (newV n) [] a1 a2 = 0
  rotate_left
  · left
    rw [hZ]
    unfold allV
    rw [if_neg hop]
    exact hop
  obtain ⟨_, g1, g2, g3, g4⟩ := openE_ok hop
  rw [List.length_replicate] at g2
  have hmn : mn (mx (-1) (-1)) (wrap64 ((l4.length : Int) + 1)) = -1 := by
    rw [wrap_at (by omega) (by omega)]
    unfold mn mx
    split <;> split <;> omega
  have hnil : wuV a1 a2 0 [] = [] := rfl
  have hall := all_new (n := n) (ep := a2) (by omega) (by omega) g1 g2 g3 g4 l4 [] (-1) (by omega) (by omega) (by simp; omega) (by simp) (by rw [hnil]; exact hck0)
  unfold allV at hZ
  rw [if_pos hop, hmn] at hZ
  rw [hnil, ← hZ] at hall
  rcases hall with ⟨er, he, hZ⟩ | ⟨S, ⟨R, hR⟩, h3, h4, h5, h6⟩
  · left
    rw [hZ]
    exact he
  right
  rcases h6 with ⟨h6, _⟩ | ⟨hS, hZ⟩
  · omega
  rw [List.nil_append] at hR hS
  rw [hZ]
  simp only
  have hck : checkB (contV (newV n) (wuV a1 a2 0 S)) [] = true := crash_right _ h5
  have hln : (contV (newV n) (wuV a1 a2 0 S)).length = n := by unfold contV; rw [applyW_length, List.length_replicate]
  obtain ⟨Y, hY⟩ : ∃ Y, Y = contV (newV n) (wuV a1 a2 0 S) := ⟨_, rfl⟩
  have hat : ∀ i : Nat, a1 + i < n → Y[(a1 + i).toNat]? = some (if h : i < S.length then recF a2 i S[i] else ⟨#[]⟩) := fun i hi => by rw [hY]; exact wu_cont g1 S.length S rfl h3 i hi
  rw [← hY] at hck hln ⊢
  clear hY hZ
  have hcY : contV Y [] = Y := rfl
  by_cases hep : openE Y [] a1 a3 = 0
  rotate_left
  · left
    unfold openV
    rw [if_neg hep]
    exact hep
  right
  obtain ⟨_, _, _, f3, f4⟩ := openE_ok hep
  have hrec0 : recsV a3 0 (Y.drop a1.toNat) = [] := recs_all a3 _ [] 0 (Int.le_refl _) (by rw [List.length_drop]; omega) f3 (by omega) (by simp) (by simp) (fun i hi => by
    rw [List.length_drop] at hi
    refine .inr ⟨by simp, ?_⟩
    rw [cont_drop (h := by rw [List.length_drop]; exact hi) g1 (hat i (by omega))]
    by_cases hlt : i < S.length
    · rw [dif_pos hlt]
      exact noRec_other g3 g4 (by omega) (by omega) (h4 _ (List.getElem_mem _)) ho
    · rw [dif_neg hlt]
      exact noRec_nil _ _)
  refine ⟨by unfold openV; rw [if_pos hep, hcY, hrec0], Y, [⟨a1, recF a3 0 a5⟩], ?_, ?_⟩
  · unfold appendV
    rw [hep, hcY, hrec0, if_neg (by decide), if_neg (by omega), if_neg (by simp; omega)]
    have hlong := recF_size a3 0 (s := a5) (by omega)
    unfold recF at hlong
    unfold writeV recF
    simp only [List.length_nil]
    rw [hck, if_neg (by decide), if_neg (by omega)]
    simp only [Int.natCast_zero, Int.add_zero]
    rw [hlong, if_neg (by decide), if_neg (by decide)]
    rfl
  have hlong := recF_size a3 0 (s := a5) (by omega)
  have hck2 : checkB Y [⟨a1, recF a3 0 a5⟩] = true := check_write (l1 := []) hck (by omega) hlong (by decide)
  have hcv : contV Y [⟨a1, recF a3 0 a5⟩] = Y.set a1.toNat (recF a3 0 a5) := rfl
  have hb : ∀ (i : Nat) (h : i < ((Y.set a1.toNat (recF a3 0 a5)).drop a1.toNat).length), ((Y.set a1.toNat (recF a3 0 a5)).drop a1.toNat)[i] = if i = 0 then recF a3 0 a5 else if h : i < S.length then recF a2 i S[i] else ⟨#[]⟩ := fun i hi => by
    rw [List.length_drop, List.length_set] at hi
    refine cont_drop g1 ?_
    rw [List.getElem?_set]
    by_cases h : i = 0
    · subst h
      rw [if_pos (by omega), if_pos (by omega), if_pos rfl]
    · rw [if_neg (by omega), if_neg h]
      exact hat i (by omega)
  have hop2 : ∀ o : Int, 0 ≤ o → o ≤ 1000000000 → openE Y [⟨a1, recF a3 0 a5⟩] a1 o = 0 := fun o o1 o2 => by
    unfold openE
    rw [hck2, if_neg (by simp; omega), if_neg (by omega)]
  refine ⟨?_, ?_⟩
  · unfold openV
    rw [if_pos (hop2 a3 f3 f4), hcv]
    rw [recs_all a3 _ [a5] 0 (Int.le_refl _) (by rw [List.length_drop, List.length_set]; omega) f3 (by omega) (by simp; omega) (by rw [List.length_drop, List.length_set]; simp; omega) (fun i hi => by
      rw [hb i hi]
      rw [List.length_drop, List.length_set] at hi
      by_cases h : i = 0
      · subst h
        exact .inl ⟨by simp, by simp⟩
      · refine .inr ⟨by simp; omega, ?_⟩
        rw [if_neg h]
        by_cases hlt : i < S.length
        · rw [dif_pos hlt]
          exact noRec_other g3 g4 (by omega) (by omega) (h4 _ (List.getElem_mem _)) ho
        · rw [dif_neg hlt]
          exact noRec_nil _ _)]
  · unfold openV
    rw [if_pos (hop2 a2 g3 g4), hcv]
    have hl0 : 0 < ((Y.set a1.toNat (recF a3 0 a5)).drop a1.toNat).length := by rw [List.length_drop, List.length_set]; omega
    obtain ⟨x, M, hM⟩ : ∃ x M, (Y.set a1.toNat (recF a3 0 a5)).drop a1.toNat = x :: M := by
      cases hq : (Y.set a1.toNat (recF a3 0 a5)).drop a1.toNat with
      | nil => rw [hq] at hl0; simp at hl0
      | cons x M => exact ⟨x, M, rfl⟩
    have hx := hb 0 hl0
    rw [if_pos rfl] at hx
    simp only [hM, List.getElem_cons_zero] at hx
    rw [hM, hx, recsV, if_neg (noRec_other f3 f4 (by omega) (by omega) (by omega) (fun q => ho q.symm))]
end Go.Proofs.Ytoibofhmlokglaa.Pure
