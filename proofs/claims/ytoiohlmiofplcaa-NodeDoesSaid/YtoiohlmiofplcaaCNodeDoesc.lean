/-
  Texts of the claim NodeDoes, joined.
-/
import Derived.Test.YtoiohlmiofplcaaPx0
import Derived.Test.YtoiohlmiofplcaaCNodeDoesa
import Derived.Test.YtoiohlmiofplcaaCNodeDoesb
-- Written by a program of this session (xprint.py) over the kit's print.py.
namespace Go.Proofs.Ytoiohlmiofplcaa.P
open Go.RowKit Go.Proofs.YtoiohlmiofplcaaW.PrintWords Go.Proofs.YtoiohlmiofplcaaW.PrintLast Go.Proofs.YtoiohlmiofplcaaW.PrintMore
attribute [local go_sem] max2_int min2_int max_two min_two max_three min_three max_four min_four   -- for this text's walks alone
set_option linter.unusedVariables false
set_option linter.unusedSimpArgs false

/-! ### node_Is: function 26 -/
def node_Is.l0 : Nat → List (S26) → Int → Option (Bool)
  | 0, _, _ => none
  | k + 1, x0, x3 => if x3 < (x0.length : Int) then (if 0 ≤ (wrap64 (x3 - 1)) then (if (wrap64 (x3 - 1)) < (x0.length : Int) then (if 0 ≤ x3 then ((key_Less.f ((rd_T26 x0 (wrap64 (x3 - 1))).f0.f0) ((rd_T26 x0 (wrap64 (x3 - 1))).f0.f1) ((rd_T26 x0 x3).f0.f0) ((rd_T26 x0 x3).f0.f1)).bind fun t308 => (if t308 = true then (node_Is.l0 k x0 (wrap64 (x3 + 1))) else (some false))) else (none)) else (none)) else (none)) else (some true)
def node_Is.f (k : Nat) (l0 : List (S26)) : Option (Bool) := node_Is.l0 k l0 1
theorem node_Is.mono_l : ∀ k, (∀ y0 y1, LeO (node_Is.l0 k y0 y1) (node_Is.l0 (k + 1) y0 y1))
  | 0 => fun _ _ r h => by simp [node_Is.l0] at h
  | k + 1 => by
    have ih0 := node_Is.mono_l k
    · intro y0 y1
      unfold node_Is.l0
      repeat' first
      | (with_reducible exact ih0 _ _)
      | (with_reducible exact LeO.refl _)
      | (with_reducible exact LeO.none _)
      | (with_reducible refine LeO.ite ?_ ?_)
      | (with_reducible refine LeO.bind ?_ (fun _ => ?_))
      | exact ih0 _ _
      | exact LeO.none _
      | refine LeO.ite ?_ ?_
      | refine LeO.bind ?_ (fun _ => ?_)
theorem node_Is.mono : ∀ a0 k, LeO (node_Is.f k a0) (node_Is.f (k + 1) a0) := by
  intro a0 k
  have ih0 := node_Is.mono_l k
  unfold node_Is.f
  repeat' first
      | (with_reducible exact ih0 _ _)
      | (with_reducible exact LeO.refl _)
      | (with_reducible exact LeO.none _)
      | (with_reducible refine LeO.ite ?_ ?_)
      | (with_reducible refine LeO.bind ?_ (fun _ => ?_))
      | exact ih0 _ _
      | exact LeO.none _
      | refine LeO.ite ?_ ?_
      | refine LeO.bind ?_ (fun _ => ?_)
def node_Is.T4 : Bool × List (List Nat × List Nat) := (true, [([], []), ([], []), ([1], [1]), ([0, 2], [0, 2]), ([3], [3]), ([4], [4]), ([], []), ([], []), ([6, 7], [6, 7]), ([8], [8]), ([9], [9]), ([5, 10], [5, 10]), ([11], [11])])
def node_Is.B4 : List Nat := [0, 0, 2, 7, 15, 31, 0, 0, 192, 448, 960, 2047, 4095]
theorem node_Is.tab4 : rtab .any (opsOf Try.f26 4) = node_Is.T4 := by kernel_rfl
theorem node_Is.bits4 : waitsOk node_Is.T4.2 node_Is.B4 = true := by kernel_rfl
set_option maxHeartbeats 8000000 in
set_option maxRecDepth 100000 in
theorem node_Is.calls (k : Nat) (A0 : Option Addr) (c0 : Nat) (l0 : List (S26)) (r : Bool) (w : World) (hr0 : Kd.C k26 w A0 l0.length l0) (hc0 : l0.length ≤ c0) (h : node_Is.f k l0 = some r) :
    Calls Try.prog 26 #[.slice A0 l0.length c0] w fun e w' => e = .returned (.bool r) ∧ Below w.heap.size w w' := by
  have hu24 := Try.underlying24
  have HR0 := Aside0.mk hr0
  have HC0 := Aside0.mk hc0
  clear hr0 hc0
  have HB := Aside0.mk (Below.refl w.heap.size w)
  have H : (node_Is.l0 k l0 1) = some r := h
  clear h
  have H' := Aside0.mk H
  clear H
  go_enter Try.func26, Try.ntmps26
  go_wp2
  go_loopg [3] k (fun kq v3 w' => ∃ (x3_1 : Int), v3 = .int .i64 x3_1 ∧ Aside0 (node_Is.l0 kq l0 x3_1 = some r) ∧ Aside0 (kq ≤ k) ∧ Aside0 (Below w.heap.size w w'))
  case atStart => exact ⟨(1), (by first | rfl | (simp; done) | (simp [*]; done)), H', ⟨Nat.le_refl _⟩, ⟨by repeat (first | (with_reducible first | exact HB.out | apply below_alloc | apply pw_below_drewN | apply below_drew1) | exact HB.out)⟩⟩
  case round =>
    clear H'
    obtain ⟨x3_1, rfl, HA, HK1, HB⟩ := hrel
    cases gk with
    | zero => exact absurd HA.out (by simp [node_Is.l0])
    | succ k1 =>
      have H := HA.out
      clear HA
      simp only [node_Is.l0] at H
      by_cases c2 : x3_1 < (l0.length : Int)
      · rw [if_pos c2] at H
        have c2b0 : decide (x3_1 < (l0.length : Int)) = true := decide_eq_true c2
        clear c2
        obtain ⟨ji3, hji3⟩ : ∃ j_ : Int, (wrap64 (x3_1 - 1)) = j_ := ⟨_, rfl⟩
        replace H : (if 0 ≤ (ji3) then (if (ji3) < (l0.length : Int) then (if 0 ≤ x3_1 then ((key_Less.f ((rd_T26 l0 (ji3)).f0.f0) ((rd_T26 l0 (ji3)).f0.f1) ((rd_T26 l0 x3_1).f0.f0) ((rd_T26 l0 x3_1).f0.f1)).bind fun t308 => (if t308 = true then (node_Is.l0 k1 l0 (wrap64 (x3_1 + 1))) else (some false))) else (none)) else (none)) else (none)) = some r := by first | (rw [hji3] at H; exact H) | (simp only [hji3] at H ⊢; exact H)
        have hji3w : (IntKind.i64.wrap (x3_1 - 1)) = ji3 := (i64_w _).trans hji3
        by_cases c4 : 0 ≤ (ji3)
        · rw [if_pos c4] at H
          have c4b0 : decide (0 ≤ (ji3)) = true := decide_eq_true c4
          clear c4
          by_cases c5 : (ji3) < (l0.length : Int)
          · rw [if_pos c5] at H
            have c5b0 : decide ((ji3) < (l0.length : Int)) = true := decide_eq_true c5
            clear c5
            by_cases c6 : 0 ≤ x3_1
            · rw [if_pos c6] at H
              have c6b0 : decide (0 ≤ x3_1) = true := decide_eq_true c6
              clear c6
              replace H := Option.bind_eq_some_iff.mp H
              obtain ⟨t308, A70, H⟩ := H
              replace H : (if t308 = true then (node_Is.l0 k1 l0 (wrap64 (x3_1 + 1))) else (some false)) = some r := H
              have A7 := Aside0.mk A70
              clear A70
              by_cases c8 : t308 = true
              · subst c8
                have H1 : (node_Is.l0 k1 l0 (wrap64 (x3_1 + 1))) = some r := by rw [if_pos rfl] at H; exact H
                clear H
                have H := H1
                clear H1
                have H' := Aside0.mk H
                clear H
                try go_wp2
                have n0_ := Aside0.mk (below_drew1 HB.out)
                clear HB
                have HB := n0_
                clear n0_
                have p306 : 0 ≤ ((ji3) : Int) := of_decide_eq_true (by first | (with_reducible assumption) | assumption)
                have q306 : (ji3) < (l0.length : Int) := of_decide_eq_true (by first | (with_reducible assumption) | assumption)
                obtain ⟨ad306, e306, hx306_0, hx306_1, hx306_2⟩ := at_T26 HR0.out (ji3) p306 q306
                have hw306_2 := hx306_2
                have hw306_1 := hx306_1
                have hw306_0 := hx306_0
                cases e306
                replace hx306_0 := (HB.out.cell (World.block_lt_of_cell? w _ hx306_0)).trans hx306_0
                replace hx306_1 := (HB.out.cell (World.block_lt_of_cell? w _ hx306_1)).trans hx306_1
                replace hx306_2 := (HB.out.cell (World.block_lt_of_cell? w _ hx306_2)).trans hx306_2
                replace p306 := eq_true p306
                replace q306 := eq_true q306
                have p307 : 0 ≤ (x3_1 : Int) := of_decide_eq_true (by first | (with_reducible assumption) | assumption)
                have q307 : x3_1 < (l0.length : Int) := of_decide_eq_true (by first | (with_reducible assumption) | assumption)
                obtain ⟨ad307, e307, hx307_0, hx307_1, hx307_2⟩ := at_T26 HR0.out x3_1 p307 q307
                have hw307_2 := hx307_2
                have hw307_1 := hx307_1
                have hw307_0 := hx307_0
                obtain rfl : ad306 = ad307 := (by injection e307)
                replace hx307_0 := (HB.out.cell (World.block_lt_of_cell? w _ hx307_0)).trans hx307_0
                replace hx307_1 := (HB.out.cell (World.block_lt_of_cell? w _ hx307_1)).trans hx307_1
                replace hx307_2 := (HB.out.cell (World.block_lt_of_cell? w _ hx307_2)).trans hx307_2
                replace p307 := eq_true p307
                replace q307 := eq_true q307
                refine start_ (n := 13) (S := fun w' => w'.cell? (ad306.add (((ji3)).toNat * 3)) = some (.string ((rd_T26 l0 (ji3)).f0.f0)) ∧ w'.cell? ⟨(ad306.add (((ji3)).toNat * 3)).block, (ad306.add (((ji3)).toNat * 3)).off + 1, none⟩ = some (.int .i64 ((rd_T26 l0 (ji3)).f0.f1)) ∧ w'.cell? ⟨(ad306.add (((ji3)).toNat * 3)).block, (ad306.add (((ji3)).toNat * 3)).off + 2, none⟩ = some (.string ((rd_T26 l0 (ji3)).f1)) ∧ w'.cell? (ad306.add ((x3_1).toNat * 3)) = some (.string ((rd_T26 l0 x3_1).f0.f0)) ∧ w'.cell? ⟨(ad306.add ((x3_1).toNat * 3)).block, (ad306.add ((x3_1).toNat * 3)).off + 1, none⟩ = some (.int .i64 ((rd_T26 l0 x3_1).f0.f1)) ∧ w'.cell? ⟨(ad306.add ((x3_1).toNat * 3)).block, (ad306.add ((x3_1).toNat * 3)).off + 2, none⟩ = some (.string ((rd_T26 l0 x3_1).f1))) (ds := []) #[false, false, false, false, false, false, false, false, false, false, false, false, false] (by kernel_rfl) rfl rfl ⟨((HB.out.cell (World.block_lt_of_cell? w _ hw306_0)).trans hw306_0), ((HB.out.cell (World.block_lt_of_cell? w _ hw306_1)).trans hw306_1), ((HB.out.cell (World.block_lt_of_cell? w _ hw306_2)).trans hw306_2), ((HB.out.cell (World.block_lt_of_cell? w _ hw307_0)).trans hw307_0), ((HB.out.cell (World.block_lt_of_cell? w _ hw307_1)).trans hw307_1), ((HB.out.cell (World.block_lt_of_cell? w _ hw307_2)).trans hw307_2)⟩ (fun hHeld => ?_); refine with_tabW node_Is.tab4 node_Is.bits4 (fun HT_ HW_ => ?_)
                generalize wr.drew = w9 at HB hx306_0 hx306_1 hx306_2 hx307_0 hx307_1 hx307_2 hHeld ⊢
                refine pure_ (i := 0) (N := some 10) (v := ?_) (a' := ?_) #[true, false, false, false, false, false, false, false, false, false, false, false, false] rfl rfl (any_of HT_.out (by kernel_rfl)) (fun _ _ _ h => h) (Or.inl ⟨by rfl, ?_⟩) ?_ ?_
                rotate_left
                · intro w'
                  go_simp
                  with_reducible rfl
                rotate_left
                · simp only [Act.put, List.setIfInBounds_toArray, List.set_cons_zero, List.set_cons_succ, i64_w, i32_w]
                  rfl
                refine pure_ (i := 1) (N := some 11) (v := ?_) (a' := ?_) #[true, true, false, false, false, false, false, false, false, false, false, false, false] rfl rfl (any_of HT_.out (by kernel_rfl)) (fun _ _ _ h => h) (Or.inl ⟨by rfl, ?_⟩) ?_ ?_
                rotate_left
                · intro w'
                  go_simp
                  with_reducible rfl
                rotate_left
                · simp only [Act.put, List.setIfInBounds_toArray, List.set_cons_zero, List.set_cons_succ, i64_w, i32_w]
                  rfl
                refine pure_ (i := 2) (N := some 12) (v := ?_) (a' := ?_) #[true, true, true, false, false, false, false, false, false, false, false, false, false] rfl rfl (any_of HT_.out (by kernel_rfl)) (fun _ _ _ h => h) (Or.inl ⟨by rfl, ?_⟩) ?_ ?_
                rotate_left
                · intro w'
                  go_simp
                  with_reducible rfl
                rotate_left
                · simp only [Act.put, List.setIfInBounds_toArray, List.set_cons_zero, List.set_cons_succ, i64_w, i32_w]
                  rfl
                refine pure_ (i := 3) (N := some 13) (v := ?_) (a' := ?_) #[true, true, true, true, false, false, false, false, false, false, false, false, false] rfl rfl (any_of HT_.out (by kernel_rfl)) (fun _ _ _ h => h) (Or.inl ⟨by rfl, ?_⟩) ?_ ?_
                rotate_left
                · intro w'
                  go_simp
                  with_reducible rfl
                rotate_left
                · simp only [Act.put, List.setIfInBounds_toArray, List.set_cons_zero, List.set_cons_succ, i64_w, i32_w]
                  rfl
                refine pure_ (i := 4) (N := some 14) (v := ?_) (a' := ?_) #[true, true, true, true, true, false, false, false, false, false, false, false, false] rfl rfl (any_of HT_.out (by kernel_rfl)) (fun _ _ _ h => h) (Or.inl ⟨by rfl, ?_⟩) ?_ ?_
                rotate_left
                · intro w'
                  go_simp
                  with_reducible rfl
                rotate_left
                · simp only [Act.put, List.setIfInBounds_toArray, List.set_cons_zero, List.set_cons_succ, i64_w, i32_w]
                  rfl
                refine pure_ (i := 6) (N := some 16) (v := ?_) (a' := ?_) #[true, true, true, true, true, false, true, false, false, false, false, false, false] rfl rfl (any_of HT_.out (by kernel_rfl)) (fun _ _ _ h => h) (Or.inl ⟨by rfl, ?_⟩) ?_ ?_
                rotate_left
                · intro w'
                  go_simp
                  with_reducible rfl
                rotate_left
                · simp only [Act.put, List.setIfInBounds_toArray, List.set_cons_zero, List.set_cons_succ, i64_w, i32_w]
                  rfl
                refine pure_ (i := 7) (N := some 17) (v := ?_) (a' := ?_) #[true, true, true, true, true, false, true, true, false, false, false, false, false] rfl rfl (any_of HT_.out (by kernel_rfl)) (fun _ _ _ h => h) (Or.inl ⟨by rfl, ?_⟩) ?_ ?_
                rotate_left
                · intro w'
                  go_simp
                  with_reducible rfl
                rotate_left
                · simp only [Act.put, List.setIfInBounds_toArray, List.set_cons_zero, List.set_cons_succ, i64_w, i32_w]
                  rfl
                refine pure_ (i := 8) (N := some 18) (v := ?_) (a' := ?_) #[true, true, true, true, true, false, true, true, true, false, false, false, false] rfl rfl (any_of HT_.out (by kernel_rfl)) (fun _ _ _ h => h) (Or.inl ⟨by rfl, ?_⟩) ?_ ?_
                rotate_left
                · intro w'
                  go_simp
                  with_reducible rfl
                rotate_left
                · simp only [Act.put, List.setIfInBounds_toArray, List.set_cons_zero, List.set_cons_succ, i64_w, i32_w]
                  rfl
                refine pure_ (i := 9) (N := some 19) (v := ?_) (a' := ?_) #[true, true, true, true, true, false, true, true, true, true, false, false, false] rfl rfl (any_of HT_.out (by kernel_rfl)) (fun _ _ _ h => h) (Or.inl ⟨by rfl, ?_⟩) ?_ ?_
                rotate_left
                · intro w'
                  go_simp
                  with_reducible rfl
                rotate_left
                · simp only [Act.put, List.setIfInBounds_toArray, List.set_cons_zero, List.set_cons_succ, i64_w, i32_w]
                  rfl
                refine take_ (i := 5) (N := some 15) (v := ?_) (a' := ?_) #[true, true, true, true, true, true, true, true, true, true, false, false, false] rfl rfl (take_ofW HT_.out HW_.out (by kernel_rfl)) (fun _ _ _ h => h) (Or.inl ⟨by rfl, ?_⟩) hHeld ?_ ?_
                rotate_left
                · rintro w' ⟨s0, s1, s2, s3, s4, s5⟩
                  go_simp
                  with_reducible rfl
                rotate_left
                · simp only [Act.put, List.setIfInBounds_toArray, List.set_cons_zero, List.set_cons_succ, i64_w, i32_w]
                  rfl
                refine take_ (i := 10) (N := some 20) (v := ?_) (a' := ?_) #[true, true, true, true, true, true, true, true, true, true, true, false, false] rfl rfl (take_ofW HT_.out HW_.out (by kernel_rfl)) (fun _ _ _ h => h) (Or.inl ⟨by rfl, ?_⟩) hHeld ?_ ?_
                rotate_left
                · rintro w' ⟨s0, s1, s2, s3, s4, s5⟩
                  go_simp
                  with_reducible rfl
                rotate_left
                · simp only [Act.put, List.setIfInBounds_toArray, List.set_cons_zero, List.set_cons_succ, i64_w, i32_w]
                  rfl
                refine one_ (i := 11) (N := some 21) #[true, true, true, true, true, true, true, true, true, true, true, true, false] rfl rfl (one_of HT_.out (by kernel_rfl)) (by decide) (fun K hK => ?_)
                refine goes_ Try.func45 (by kernel_rfl) rfl #[.agg #[.string ((rd_T26 l0 (ji3)).f0.f0), .int .i64 ((rd_T26 l0 (ji3)).f0.f1)], .agg #[.string ((rd_T26 l0 x3_1).f0.f0), .int .i64 ((rd_T26 l0 x3_1).f0.f1)]] (by rfl) rfl rfl (by (try simp only [List.map_toArray, List.map_cons, List.map_nil]); first | done | (simp only [hji3]; rfl) | rfl | (simp only [List.length_drop, List.length_take]; rfl)) ?_
                with_reducible refine (key_Less.calls ((rd_T26 l0 (ji3)).f0.f0) ((rd_T26 l0 (ji3)).f0.f1) ((rd_T26 l0 x3_1).f0.f0) ((rd_T26 l0 x3_1).f0.f1) true _ A7.out).mono ?_
                rintro e w10 ⟨rfl, hb⟩
                refine ⟨_, rfl, ?_⟩
                have n0_ := Aside0.mk (below_step (by repeat (first | (with_reducible first | exact HB.out | apply below_alloc | apply pw_below_drewN | apply below_drew1) | exact HB.out)) hb)
                clear HB
                have HB := n0_
                clear n0_
                (try clear hb)
                (try clear hb2)
                (try clear hk)
                (try clear hi)
                refine hK.out _ _ ⟨((HB.out.cell (World.block_lt_of_cell? w _ hw306_0)).trans hw306_0), ((HB.out.cell (World.block_lt_of_cell? w _ hw306_1)).trans hw306_1), ((HB.out.cell (World.block_lt_of_cell? w _ hw306_2)).trans hw306_2), ((HB.out.cell (World.block_lt_of_cell? w _ hw307_0)).trans hw307_0), ((HB.out.cell (World.block_lt_of_cell? w _ hw307_1)).trans hw307_1), ((HB.out.cell (World.block_lt_of_cell? w _ hw307_2)).trans hw307_2)⟩ (fun hHeld => ?_)
                clear hK K
                refine norm_ (a' := ?_) ?_ ?_
                rotate_left
                · show Act.put _ (some 21) _ = _
                  simp only [Act.put, List.setIfInBounds_toArray, List.set_cons_zero, List.set_cons_succ, i64_w, i32_w]
                  rfl
                refine pure_ (i := 12) (N := some 22) (v := ?_) (a' := ?_) #[true, true, true, true, true, true, true, true, true, true, true, true, true] rfl rfl (any_of HT_.out (by kernel_rfl)) (fun _ _ _ h => h) (Or.inl ⟨by rfl, ?_⟩) ?_ ?_
                rotate_left
                · intro w'
                  go_simp
                  with_reducible rfl
                rotate_left
                · simp only [Act.put, List.setIfInBounds_toArray, List.set_cons_zero, List.set_cons_succ, i64_w, i32_w]
                  rfl
                refine done_ (done_of HT_.out (by kernel_rfl)) ?_
                try go_wp2
                go_roundg k1
                case measure => have := HK1.out; omega
                case rel => exact ⟨(wrap64 (x3_1 + 1)), (by first | rfl | (simp; done) | (simp [*]; done)), H', ⟨by have := HK1.out; omega⟩, ⟨by repeat (first | (with_reducible first | exact HB.out | apply below_alloc | apply pw_below_drewN | apply below_drew1) | exact HB.out)⟩⟩
              · replace c8 := Bool.eq_false_iff.mpr c8
                subst c8
                have H1 : (some false) = some r := by rw [if_neg (show ¬ (false = true) by decide)] at H; exact H
                clear H
                have H := H1
                clear H1
                obtain rfl := Option.some.inj H
                try go_wp2
                have n0_ := Aside0.mk (below_drew1 HB.out)
                clear HB
                have HB := n0_
                clear n0_
                have p306 : 0 ≤ ((ji3) : Int) := of_decide_eq_true (by first | (with_reducible assumption) | assumption)
                have q306 : (ji3) < (l0.length : Int) := of_decide_eq_true (by first | (with_reducible assumption) | assumption)
                obtain ⟨ad306, e306, hx306_0, hx306_1, hx306_2⟩ := at_T26 HR0.out (ji3) p306 q306
                have hw306_2 := hx306_2
                have hw306_1 := hx306_1
                have hw306_0 := hx306_0
                cases e306
                replace hx306_0 := (HB.out.cell (World.block_lt_of_cell? w _ hx306_0)).trans hx306_0
                replace hx306_1 := (HB.out.cell (World.block_lt_of_cell? w _ hx306_1)).trans hx306_1
                replace hx306_2 := (HB.out.cell (World.block_lt_of_cell? w _ hx306_2)).trans hx306_2
                replace p306 := eq_true p306
                replace q306 := eq_true q306
                have p307 : 0 ≤ (x3_1 : Int) := of_decide_eq_true (by first | (with_reducible assumption) | assumption)
                have q307 : x3_1 < (l0.length : Int) := of_decide_eq_true (by first | (with_reducible assumption) | assumption)
                obtain ⟨ad307, e307, hx307_0, hx307_1, hx307_2⟩ := at_T26 HR0.out x3_1 p307 q307
                have hw307_2 := hx307_2
                have hw307_1 := hx307_1
                have hw307_0 := hx307_0
                obtain rfl : ad306 = ad307 := (by injection e307)
                replace hx307_0 := (HB.out.cell (World.block_lt_of_cell? w _ hx307_0)).trans hx307_0
                replace hx307_1 := (HB.out.cell (World.block_lt_of_cell? w _ hx307_1)).trans hx307_1
                replace hx307_2 := (HB.out.cell (World.block_lt_of_cell? w _ hx307_2)).trans hx307_2
                replace p307 := eq_true p307
                replace q307 := eq_true q307
                refine start_ (n := 13) (S := fun w' => w'.cell? (ad306.add (((ji3)).toNat * 3)) = some (.string ((rd_T26 l0 (ji3)).f0.f0)) ∧ w'.cell? ⟨(ad306.add (((ji3)).toNat * 3)).block, (ad306.add (((ji3)).toNat * 3)).off + 1, none⟩ = some (.int .i64 ((rd_T26 l0 (ji3)).f0.f1)) ∧ w'.cell? ⟨(ad306.add (((ji3)).toNat * 3)).block, (ad306.add (((ji3)).toNat * 3)).off + 2, none⟩ = some (.string ((rd_T26 l0 (ji3)).f1)) ∧ w'.cell? (ad306.add ((x3_1).toNat * 3)) = some (.string ((rd_T26 l0 x3_1).f0.f0)) ∧ w'.cell? ⟨(ad306.add ((x3_1).toNat * 3)).block, (ad306.add ((x3_1).toNat * 3)).off + 1, none⟩ = some (.int .i64 ((rd_T26 l0 x3_1).f0.f1)) ∧ w'.cell? ⟨(ad306.add ((x3_1).toNat * 3)).block, (ad306.add ((x3_1).toNat * 3)).off + 2, none⟩ = some (.string ((rd_T26 l0 x3_1).f1))) (ds := []) #[false, false, false, false, false, false, false, false, false, false, false, false, false] (by kernel_rfl) rfl rfl ⟨((HB.out.cell (World.block_lt_of_cell? w _ hw306_0)).trans hw306_0), ((HB.out.cell (World.block_lt_of_cell? w _ hw306_1)).trans hw306_1), ((HB.out.cell (World.block_lt_of_cell? w _ hw306_2)).trans hw306_2), ((HB.out.cell (World.block_lt_of_cell? w _ hw307_0)).trans hw307_0), ((HB.out.cell (World.block_lt_of_cell? w _ hw307_1)).trans hw307_1), ((HB.out.cell (World.block_lt_of_cell? w _ hw307_2)).trans hw307_2)⟩ (fun hHeld => ?_); refine with_tabW node_Is.tab4 node_Is.bits4 (fun HT_ HW_ => ?_)
                generalize wr.drew = w11 at HB hx306_0 hx306_1 hx306_2 hx307_0 hx307_1 hx307_2 hHeld ⊢
                refine pure_ (i := 0) (N := some 10) (v := ?_) (a' := ?_) #[true, false, false, false, false, false, false, false, false, false, false, false, false] rfl rfl (any_of HT_.out (by kernel_rfl)) (fun _ _ _ h => h) (Or.inl ⟨by rfl, ?_⟩) ?_ ?_
                rotate_left
                · intro w'
                  go_simp
                  with_reducible rfl
                rotate_left
                · simp only [Act.put, List.setIfInBounds_toArray, List.set_cons_zero, List.set_cons_succ, i64_w, i32_w]
                  rfl
                refine pure_ (i := 1) (N := some 11) (v := ?_) (a' := ?_) #[true, true, false, false, false, false, false, false, false, false, false, false, false] rfl rfl (any_of HT_.out (by kernel_rfl)) (fun _ _ _ h => h) (Or.inl ⟨by rfl, ?_⟩) ?_ ?_
                rotate_left
                · intro w'
                  go_simp
                  with_reducible rfl
                rotate_left
                · simp only [Act.put, List.setIfInBounds_toArray, List.set_cons_zero, List.set_cons_succ, i64_w, i32_w]
                  rfl
                refine pure_ (i := 2) (N := some 12) (v := ?_) (a' := ?_) #[true, true, true, false, false, false, false, false, false, false, false, false, false] rfl rfl (any_of HT_.out (by kernel_rfl)) (fun _ _ _ h => h) (Or.inl ⟨by rfl, ?_⟩) ?_ ?_
                rotate_left
                · intro w'
                  go_simp
                  with_reducible rfl
                rotate_left
                · simp only [Act.put, List.setIfInBounds_toArray, List.set_cons_zero, List.set_cons_succ, i64_w, i32_w]
                  rfl
                refine pure_ (i := 3) (N := some 13) (v := ?_) (a' := ?_) #[true, true, true, true, false, false, false, false, false, false, false, false, false] rfl rfl (any_of HT_.out (by kernel_rfl)) (fun _ _ _ h => h) (Or.inl ⟨by rfl, ?_⟩) ?_ ?_
                rotate_left
                · intro w'
                  go_simp
                  with_reducible rfl
                rotate_left
                · simp only [Act.put, List.setIfInBounds_toArray, List.set_cons_zero, List.set_cons_succ, i64_w, i32_w]
                  rfl
                refine pure_ (i := 4) (N := some 14) (v := ?_) (a' := ?_) #[true, true, true, true, true, false, false, false, false, false, false, false, false] rfl rfl (any_of HT_.out (by kernel_rfl)) (fun _ _ _ h => h) (Or.inl ⟨by rfl, ?_⟩) ?_ ?_
                rotate_left
                · intro w'
                  go_simp
                  with_reducible rfl
                rotate_left
                · simp only [Act.put, List.setIfInBounds_toArray, List.set_cons_zero, List.set_cons_succ, i64_w, i32_w]
                  rfl
                refine pure_ (i := 6) (N := some 16) (v := ?_) (a' := ?_) #[true, true, true, true, true, false, true, false, false, false, false, false, false] rfl rfl (any_of HT_.out (by kernel_rfl)) (fun _ _ _ h => h) (Or.inl ⟨by rfl, ?_⟩) ?_ ?_
                rotate_left
                · intro w'
                  go_simp
                  with_reducible rfl
                rotate_left
                · simp only [Act.put, List.setIfInBounds_toArray, List.set_cons_zero, List.set_cons_succ, i64_w, i32_w]
                  rfl
                refine pure_ (i := 7) (N := some 17) (v := ?_) (a' := ?_) #[true, true, true, true, true, false, true, true, false, false, false, false, false] rfl rfl (any_of HT_.out (by kernel_rfl)) (fun _ _ _ h => h) (Or.inl ⟨by rfl, ?_⟩) ?_ ?_
                rotate_left
                · intro w'
                  go_simp
                  with_reducible rfl
                rotate_left
                · simp only [Act.put, List.setIfInBounds_toArray, List.set_cons_zero, List.set_cons_succ, i64_w, i32_w]
                  rfl
                refine pure_ (i := 8) (N := some 18) (v := ?_) (a' := ?_) #[true, true, true, true, true, false, true, true, true, false, false, false, false] rfl rfl (any_of HT_.out (by kernel_rfl)) (fun _ _ _ h => h) (Or.inl ⟨by rfl, ?_⟩) ?_ ?_
                rotate_left
                · intro w'
                  go_simp
                  with_reducible rfl
                rotate_left
                · simp only [Act.put, List.setIfInBounds_toArray, List.set_cons_zero, List.set_cons_succ, i64_w, i32_w]
                  rfl
                refine pure_ (i := 9) (N := some 19) (v := ?_) (a' := ?_) #[true, true, true, true, true, false, true, true, true, true, false, false, false] rfl rfl (any_of HT_.out (by kernel_rfl)) (fun _ _ _ h => h) (Or.inl ⟨by rfl, ?_⟩) ?_ ?_
                rotate_left
                · intro w'
                  go_simp
                  with_reducible rfl
                rotate_left
                · simp only [Act.put, List.setIfInBounds_toArray, List.set_cons_zero, List.set_cons_succ, i64_w, i32_w]
                  rfl
                refine take_ (i := 5) (N := some 15) (v := ?_) (a' := ?_) #[true, true, true, true, true, true, true, true, true, true, false, false, false] rfl rfl (take_ofW HT_.out HW_.out (by kernel_rfl)) (fun _ _ _ h => h) (Or.inl ⟨by rfl, ?_⟩) hHeld ?_ ?_
                rotate_left
                · rintro w' ⟨s0, s1, s2, s3, s4, s5⟩
                  go_simp
                  with_reducible rfl
                rotate_left
                · simp only [Act.put, List.setIfInBounds_toArray, List.set_cons_zero, List.set_cons_succ, i64_w, i32_w]
                  rfl
                refine take_ (i := 10) (N := some 20) (v := ?_) (a' := ?_) #[true, true, true, true, true, true, true, true, true, true, true, false, false] rfl rfl (take_ofW HT_.out HW_.out (by kernel_rfl)) (fun _ _ _ h => h) (Or.inl ⟨by rfl, ?_⟩) hHeld ?_ ?_
                rotate_left
                · rintro w' ⟨s0, s1, s2, s3, s4, s5⟩
                  go_simp
                  with_reducible rfl
                rotate_left
                · simp only [Act.put, List.setIfInBounds_toArray, List.set_cons_zero, List.set_cons_succ, i64_w, i32_w]
                  rfl
                refine one_ (i := 11) (N := some 21) #[true, true, true, true, true, true, true, true, true, true, true, true, false] rfl rfl (one_of HT_.out (by kernel_rfl)) (by decide) (fun K hK => ?_)
                refine goes_ Try.func45 (by kernel_rfl) rfl #[.agg #[.string ((rd_T26 l0 (ji3)).f0.f0), .int .i64 ((rd_T26 l0 (ji3)).f0.f1)], .agg #[.string ((rd_T26 l0 x3_1).f0.f0), .int .i64 ((rd_T26 l0 x3_1).f0.f1)]] (by rfl) rfl rfl (by (try simp only [List.map_toArray, List.map_cons, List.map_nil]); first | done | (simp only [hji3]; rfl) | rfl | (simp only [List.length_drop, List.length_take]; rfl)) ?_
                with_reducible refine (key_Less.calls ((rd_T26 l0 (ji3)).f0.f0) ((rd_T26 l0 (ji3)).f0.f1) ((rd_T26 l0 x3_1).f0.f0) ((rd_T26 l0 x3_1).f0.f1) false _ A7.out).mono ?_
                rintro e w12 ⟨rfl, hb⟩
                refine ⟨_, rfl, ?_⟩
                have n0_ := Aside0.mk (below_step (by repeat (first | (with_reducible first | exact HB.out | apply below_alloc | apply pw_below_drewN | apply below_drew1) | exact HB.out)) hb)
                clear HB
                have HB := n0_
                clear n0_
                (try clear hb)
                (try clear hb2)
                (try clear hk)
                (try clear hi)
                refine hK.out _ _ ⟨((HB.out.cell (World.block_lt_of_cell? w _ hw306_0)).trans hw306_0), ((HB.out.cell (World.block_lt_of_cell? w _ hw306_1)).trans hw306_1), ((HB.out.cell (World.block_lt_of_cell? w _ hw306_2)).trans hw306_2), ((HB.out.cell (World.block_lt_of_cell? w _ hw307_0)).trans hw307_0), ((HB.out.cell (World.block_lt_of_cell? w _ hw307_1)).trans hw307_1), ((HB.out.cell (World.block_lt_of_cell? w _ hw307_2)).trans hw307_2)⟩ (fun hHeld => ?_)
                clear hK K
                refine norm_ (a' := ?_) ?_ ?_
                rotate_left
                · show Act.put _ (some 21) _ = _
                  simp only [Act.put, List.setIfInBounds_toArray, List.set_cons_zero, List.set_cons_succ, i64_w, i32_w]
                  rfl
                refine pure_ (i := 12) (N := some 22) (v := ?_) (a' := ?_) #[true, true, true, true, true, true, true, true, true, true, true, true, true] rfl rfl (any_of HT_.out (by kernel_rfl)) (fun _ _ _ h => h) (Or.inl ⟨by rfl, ?_⟩) ?_ ?_
                rotate_left
                · intro w'
                  go_simp
                  with_reducible rfl
                rotate_left
                · simp only [Act.put, List.setIfInBounds_toArray, List.set_cons_zero, List.set_cons_succ, i64_w, i32_w]
                  rfl
                refine done_ (done_of HT_.out (by kernel_rfl)) ?_
                try go_wp2
                go_ret
                exact ⟨by first | rfl | (simp [errW_none, errW_some] <;> rfl) | (simp only [← hji3]; first | rfl | (simp [errW_none, errW_some] <;> rfl)) | (simp [*, errW_none, errW_some] <;> rfl), by repeat (first | (with_reducible first | exact HB.out | apply below_alloc | apply pw_below_drewN | apply below_drew1) | exact HB.out)⟩
            · rw [if_neg c6] at H
              exact absurd H (by simp)
          · rw [if_neg c5] at H
            exact absurd H (by simp)
        · rw [if_neg c4] at H
          exact absurd H (by simp)
      · rw [if_neg c2] at H
        have c2b0 : decide (x3_1 < (l0.length : Int)) = false := decide_eq_false c2
        clear c2
        obtain rfl := Option.some.inj H
        go_wp2
        go_ret
        exact ⟨by first | rfl | (simp [errW_none, errW_some] <;> rfl) | (simp [*, errW_none, errW_some] <;> rfl), by repeat (first | (with_reducible first | exact HB.out | apply below_alloc | apply pw_below_drewN | apply below_drew1) | exact HB.out)⟩

end Go.Proofs.Ytoiohlmiofplcaa.P
-- Written by a program of this session (xprint.py) over the kit's print.py.
namespace Go.Proofs.Ytoiohlmiofplcaa.P
open Go.RowKit Go.Proofs.YtoiohlmiofplcaaW.PrintWords Go.Proofs.YtoiohlmiofplcaaW.PrintLast Go.Proofs.YtoiohlmiofplcaaW.PrintMore
attribute [local go_sem] max2_int min2_int max_two min_two max_three min_three max_four min_four   -- for this text's walks alone
set_option linter.unusedVariables false
set_option linter.unusedSimpArgs false

/-! ### sextonref09_Is: function 27 -/
def sextonref09_Is.l0 : Nat → List (S26) → Int → Option (Bool)
  | 0, _, _ => none
  | k + 1, x0, x3 => if x3 < (x0.length : Int) then (if 0 ≤ (wrap64 (x3 - 1)) then (if (wrap64 (x3 - 1)) < (x0.length : Int) then (if 0 ≤ x3 then ((sextonref08_Less.f ((rd_T26 x0 (wrap64 (x3 - 1))).f0.f0) ((rd_T26 x0 (wrap64 (x3 - 1))).f0.f1) ((rd_T26 x0 x3).f0.f0) ((rd_T26 x0 x3).f0.f1)).bind fun t311 => (if t311 = true then (sextonref09_Is.l0 k x0 (wrap64 (x3 + 1))) else (some false))) else (none)) else (none)) else (none)) else (some true)
def sextonref09_Is.f (k : Nat) (l0 : List (S26)) : Option (Bool) := sextonref09_Is.l0 k l0 1
theorem sextonref09_Is.mono_l : ∀ k, (∀ y0 y1, LeO (sextonref09_Is.l0 k y0 y1) (sextonref09_Is.l0 (k + 1) y0 y1))
  | 0 => fun _ _ r h => by simp [sextonref09_Is.l0] at h
  | k + 1 => by
    have ih0 := sextonref09_Is.mono_l k
    · intro y0 y1
      unfold sextonref09_Is.l0
      repeat' first
      | (with_reducible exact ih0 _ _)
      | (with_reducible exact LeO.refl _)
      | (with_reducible exact LeO.none _)
      | (with_reducible refine LeO.ite ?_ ?_)
      | (with_reducible refine LeO.bind ?_ (fun _ => ?_))
      | exact ih0 _ _
      | exact LeO.none _
      | refine LeO.ite ?_ ?_
      | refine LeO.bind ?_ (fun _ => ?_)
theorem sextonref09_Is.mono : ∀ a0 k, LeO (sextonref09_Is.f k a0) (sextonref09_Is.f (k + 1) a0) := by
  intro a0 k
  have ih0 := sextonref09_Is.mono_l k
  unfold sextonref09_Is.f
  repeat' first
      | (with_reducible exact ih0 _ _)
      | (with_reducible exact LeO.refl _)
      | (with_reducible exact LeO.none _)
      | (with_reducible refine LeO.ite ?_ ?_)
      | (with_reducible refine LeO.bind ?_ (fun _ => ?_))
      | exact ih0 _ _
      | exact LeO.none _
      | refine LeO.ite ?_ ?_
      | refine LeO.bind ?_ (fun _ => ?_)
def sextonref09_Is.T4 : Bool × List (List Nat × List Nat) := (true, [([], []), ([], []), ([1], [1]), ([0, 2], [0, 2]), ([3], [3]), ([4], [4]), ([], []), ([], []), ([6, 7], [6, 7]), ([8], [8]), ([9], [9]), ([5, 10], [5, 10]), ([11], [11])])
def sextonref09_Is.B4 : List Nat := [0, 0, 2, 7, 15, 31, 0, 0, 192, 448, 960, 2047, 4095]
theorem sextonref09_Is.tab4 : rtab .any (opsOf Try.f27 4) = sextonref09_Is.T4 := by kernel_rfl
theorem sextonref09_Is.bits4 : waitsOk sextonref09_Is.T4.2 sextonref09_Is.B4 = true := by kernel_rfl
set_option maxHeartbeats 8000000 in
set_option maxRecDepth 100000 in
theorem sextonref09_Is.calls (k : Nat) (A0 : Option Addr) (c0 : Nat) (l0 : List (S26)) (r : Bool) (w : World) (hr0 : Kd.C k26 w A0 l0.length l0) (hc0 : l0.length ≤ c0) (h : sextonref09_Is.f k l0 = some r) :
    Calls Try.prog 27 #[.slice A0 l0.length c0] w fun e w' => e = .returned (.bool r) ∧ Below w.heap.size w w' := by
  have hu24 := Try.underlying24
  have HR0 := Aside0.mk hr0
  have HC0 := Aside0.mk hc0
  clear hr0 hc0
  have HB := Aside0.mk (Below.refl w.heap.size w)
  have H : (sextonref09_Is.l0 k l0 1) = some r := h
  clear h
  have H' := Aside0.mk H
  clear H
  go_enter Try.func27, Try.ntmps27
  go_wp2
  go_loopg [3] k (fun kq v3 w' => ∃ (x3_1 : Int), v3 = .int .i64 x3_1 ∧ Aside0 (sextonref09_Is.l0 kq l0 x3_1 = some r) ∧ Aside0 (kq ≤ k) ∧ Aside0 (Below w.heap.size w w'))
  case atStart => exact ⟨(1), (by first | rfl | (simp; done) | (simp [*]; done)), H', ⟨Nat.le_refl _⟩, ⟨by repeat (first | (with_reducible first | exact HB.out | apply below_alloc | apply pw_below_drewN | apply below_drew1) | exact HB.out)⟩⟩
  case round =>
    clear H'
    obtain ⟨x3_1, rfl, HA, HK1, HB⟩ := hrel
    cases gk with
    | zero => exact absurd HA.out (by simp [sextonref09_Is.l0])
    | succ k1 =>
      have H := HA.out
      clear HA
      simp only [sextonref09_Is.l0] at H
      by_cases c2 : x3_1 < (l0.length : Int)
      · rw [if_pos c2] at H
        have c2b0 : decide (x3_1 < (l0.length : Int)) = true := decide_eq_true c2
        clear c2
        obtain ⟨ji3, hji3⟩ : ∃ j_ : Int, (wrap64 (x3_1 - 1)) = j_ := ⟨_, rfl⟩
        replace H : (if 0 ≤ (ji3) then (if (ji3) < (l0.length : Int) then (if 0 ≤ x3_1 then ((sextonref08_Less.f ((rd_T26 l0 (ji3)).f0.f0) ((rd_T26 l0 (ji3)).f0.f1) ((rd_T26 l0 x3_1).f0.f0) ((rd_T26 l0 x3_1).f0.f1)).bind fun t311 => (if t311 = true then (sextonref09_Is.l0 k1 l0 (wrap64 (x3_1 + 1))) else (some false))) else (none)) else (none)) else (none)) = some r := by first | (rw [hji3] at H; exact H) | (simp only [hji3] at H ⊢; exact H)
        have hji3w : (IntKind.i64.wrap (x3_1 - 1)) = ji3 := (i64_w _).trans hji3
        by_cases c4 : 0 ≤ (ji3)
        · rw [if_pos c4] at H
          have c4b0 : decide (0 ≤ (ji3)) = true := decide_eq_true c4
          clear c4
          by_cases c5 : (ji3) < (l0.length : Int)
          · rw [if_pos c5] at H
            have c5b0 : decide ((ji3) < (l0.length : Int)) = true := decide_eq_true c5
            clear c5
            by_cases c6 : 0 ≤ x3_1
            · rw [if_pos c6] at H
              have c6b0 : decide (0 ≤ x3_1) = true := decide_eq_true c6
              clear c6
              replace H := Option.bind_eq_some_iff.mp H
              obtain ⟨t311, A70, H⟩ := H
              replace H : (if t311 = true then (sextonref09_Is.l0 k1 l0 (wrap64 (x3_1 + 1))) else (some false)) = some r := H
              have A7 := Aside0.mk A70
              clear A70
              by_cases c8 : t311 = true
              · subst c8
                have H1 : (sextonref09_Is.l0 k1 l0 (wrap64 (x3_1 + 1))) = some r := by rw [if_pos rfl] at H; exact H
                clear H
                have H := H1
                clear H1
                have H' := Aside0.mk H
                clear H
                try go_wp2
                have n0_ := Aside0.mk (below_drew1 HB.out)
                clear HB
                have HB := n0_
                clear n0_
                have p309 : 0 ≤ ((ji3) : Int) := of_decide_eq_true (by first | (with_reducible assumption) | assumption)
                have q309 : (ji3) < (l0.length : Int) := of_decide_eq_true (by first | (with_reducible assumption) | assumption)
                obtain ⟨ad309, e309, hx309_0, hx309_1, hx309_2⟩ := at_T26 HR0.out (ji3) p309 q309
                have hw309_2 := hx309_2
                have hw309_1 := hx309_1
                have hw309_0 := hx309_0
                cases e309
                replace hx309_0 := (HB.out.cell (World.block_lt_of_cell? w _ hx309_0)).trans hx309_0
                replace hx309_1 := (HB.out.cell (World.block_lt_of_cell? w _ hx309_1)).trans hx309_1
                replace hx309_2 := (HB.out.cell (World.block_lt_of_cell? w _ hx309_2)).trans hx309_2
                replace p309 := eq_true p309
                replace q309 := eq_true q309
                have p310 : 0 ≤ (x3_1 : Int) := of_decide_eq_true (by first | (with_reducible assumption) | assumption)
                have q310 : x3_1 < (l0.length : Int) := of_decide_eq_true (by first | (with_reducible assumption) | assumption)
                obtain ⟨ad310, e310, hx310_0, hx310_1, hx310_2⟩ := at_T26 HR0.out x3_1 p310 q310
                have hw310_2 := hx310_2
                have hw310_1 := hx310_1
                have hw310_0 := hx310_0
                obtain rfl : ad309 = ad310 := (by injection e310)
                replace hx310_0 := (HB.out.cell (World.block_lt_of_cell? w _ hx310_0)).trans hx310_0
                replace hx310_1 := (HB.out.cell (World.block_lt_of_cell? w _ hx310_1)).trans hx310_1
                replace hx310_2 := (HB.out.cell (World.block_lt_of_cell? w _ hx310_2)).trans hx310_2
                replace p310 := eq_true p310
                replace q310 := eq_true q310
                refine start_ (n := 13) (S := fun w' => w'.cell? (ad309.add (((ji3)).toNat * 3)) = some (.string ((rd_T26 l0 (ji3)).f0.f0)) ∧ w'.cell? ⟨(ad309.add (((ji3)).toNat * 3)).block, (ad309.add (((ji3)).toNat * 3)).off + 1, none⟩ = some (.int .i64 ((rd_T26 l0 (ji3)).f0.f1)) ∧ w'.cell? ⟨(ad309.add (((ji3)).toNat * 3)).block, (ad309.add (((ji3)).toNat * 3)).off + 2, none⟩ = some (.string ((rd_T26 l0 (ji3)).f1)) ∧ w'.cell? (ad309.add ((x3_1).toNat * 3)) = some (.string ((rd_T26 l0 x3_1).f0.f0)) ∧ w'.cell? ⟨(ad309.add ((x3_1).toNat * 3)).block, (ad309.add ((x3_1).toNat * 3)).off + 1, none⟩ = some (.int .i64 ((rd_T26 l0 x3_1).f0.f1)) ∧ w'.cell? ⟨(ad309.add ((x3_1).toNat * 3)).block, (ad309.add ((x3_1).toNat * 3)).off + 2, none⟩ = some (.string ((rd_T26 l0 x3_1).f1))) (ds := []) #[false, false, false, false, false, false, false, false, false, false, false, false, false] (by kernel_rfl) rfl rfl ⟨((HB.out.cell (World.block_lt_of_cell? w _ hw309_0)).trans hw309_0), ((HB.out.cell (World.block_lt_of_cell? w _ hw309_1)).trans hw309_1), ((HB.out.cell (World.block_lt_of_cell? w _ hw309_2)).trans hw309_2), ((HB.out.cell (World.block_lt_of_cell? w _ hw310_0)).trans hw310_0), ((HB.out.cell (World.block_lt_of_cell? w _ hw310_1)).trans hw310_1), ((HB.out.cell (World.block_lt_of_cell? w _ hw310_2)).trans hw310_2)⟩ (fun hHeld => ?_); refine with_tabW sextonref09_Is.tab4 sextonref09_Is.bits4 (fun HT_ HW_ => ?_)
                generalize wr.drew = w9 at HB hx309_0 hx309_1 hx309_2 hx310_0 hx310_1 hx310_2 hHeld ⊢
                refine pure_ (i := 0) (N := some 10) (v := ?_) (a' := ?_) #[true, false, false, false, false, false, false, false, false, false, false, false, false] rfl rfl (any_of HT_.out (by kernel_rfl)) (fun _ _ _ h => h) (Or.inl ⟨by rfl, ?_⟩) ?_ ?_
                rotate_left
                · intro w'
                  go_simp
                  with_reducible rfl
                rotate_left
                · simp only [Act.put, List.setIfInBounds_toArray, List.set_cons_zero, List.set_cons_succ, i64_w, i32_w]
                  rfl
                refine pure_ (i := 1) (N := some 11) (v := ?_) (a' := ?_) #[true, true, false, false, false, false, false, false, false, false, false, false, false] rfl rfl (any_of HT_.out (by kernel_rfl)) (fun _ _ _ h => h) (Or.inl ⟨by rfl, ?_⟩) ?_ ?_
                rotate_left
                · intro w'
                  go_simp
                  with_reducible rfl
                rotate_left
                · simp only [Act.put, List.setIfInBounds_toArray, List.set_cons_zero, List.set_cons_succ, i64_w, i32_w]
                  rfl
                refine pure_ (i := 2) (N := some 12) (v := ?_) (a' := ?_) #[true, true, true, false, false, false, false, false, false, false, false, false, false] rfl rfl (any_of HT_.out (by kernel_rfl)) (fun _ _ _ h => h) (Or.inl ⟨by rfl, ?_⟩) ?_ ?_
                rotate_left
                · intro w'
                  go_simp
                  with_reducible rfl
                rotate_left
                · simp only [Act.put, List.setIfInBounds_toArray, List.set_cons_zero, List.set_cons_succ, i64_w, i32_w]
                  rfl
                refine pure_ (i := 3) (N := some 13) (v := ?_) (a' := ?_) #[true, true, true, true, false, false, false, false, false, false, false, false, false] rfl rfl (any_of HT_.out (by kernel_rfl)) (fun _ _ _ h => h) (Or.inl ⟨by rfl, ?_⟩) ?_ ?_
                rotate_left
                · intro w'
                  go_simp
                  with_reducible rfl
                rotate_left
                · simp only [Act.put, List.setIfInBounds_toArray, List.set_cons_zero, List.set_cons_succ, i64_w, i32_w]
                  rfl
                refine pure_ (i := 4) (N := some 14) (v := ?_) (a' := ?_) #[true, true, true, true, true, false, false, false, false, false, false, false, false] rfl rfl (any_of HT_.out (by kernel_rfl)) (fun _ _ _ h => h) (Or.inl ⟨by rfl, ?_⟩) ?_ ?_
                rotate_left
                · intro w'
                  go_simp
                  with_reducible rfl
                rotate_left
                · simp only [Act.put, List.setIfInBounds_toArray, List.set_cons_zero, List.set_cons_succ, i64_w, i32_w]
                  rfl
                refine pure_ (i := 6) (N := some 16) (v := ?_) (a' := ?_) #[true, true, true, true, true, false, true, false, false, false, false, false, false] rfl rfl (any_of HT_.out (by kernel_rfl)) (fun _ _ _ h => h) (Or.inl ⟨by rfl, ?_⟩) ?_ ?_
                rotate_left
                · intro w'
                  go_simp
                  with_reducible rfl
                rotate_left
                · simp only [Act.put, List.setIfInBounds_toArray, List.set_cons_zero, List.set_cons_succ, i64_w, i32_w]
                  rfl
                refine pure_ (i := 7) (N := some 17) (v := ?_) (a' := ?_) #[true, true, true, true, true, false, true, true, false, false, false, false, false] rfl rfl (any_of HT_.out (by kernel_rfl)) (fun _ _ _ h => h) (Or.inl ⟨by rfl, ?_⟩) ?_ ?_
                rotate_left
                · intro w'
                  go_simp
                  with_reducible rfl
                rotate_left
                · simp only [Act.put, List.setIfInBounds_toArray, List.set_cons_zero, List.set_cons_succ, i64_w, i32_w]
                  rfl
                refine pure_ (i := 8) (N := some 18) (v := ?_) (a' := ?_) #[true, true, true, true, true, false, true, true, true, false, false, false, false] rfl rfl (any_of HT_.out (by kernel_rfl)) (fun _ _ _ h => h) (Or.inl ⟨by rfl, ?_⟩) ?_ ?_
                rotate_left
                · intro w'
                  go_simp
                  with_reducible rfl
                rotate_left
                · simp only [Act.put, List.setIfInBounds_toArray, List.set_cons_zero, List.set_cons_succ, i64_w, i32_w]
                  rfl
                refine pure_ (i := 9) (N := some 19) (v := ?_) (a' := ?_) #[true, true, true, true, true, false, true, true, true, true, false, false, false] rfl rfl (any_of HT_.out (by kernel_rfl)) (fun _ _ _ h => h) (Or.inl ⟨by rfl, ?_⟩) ?_ ?_
                rotate_left
                · intro w'
                  go_simp
                  with_reducible rfl
                rotate_left
                · simp only [Act.put, List.setIfInBounds_toArray, List.set_cons_zero, List.set_cons_succ, i64_w, i32_w]
                  rfl
                refine take_ (i := 5) (N := some 15) (v := ?_) (a' := ?_) #[true, true, true, true, true, true, true, true, true, true, false, false, false] rfl rfl (take_ofW HT_.out HW_.out (by kernel_rfl)) (fun _ _ _ h => h) (Or.inl ⟨by rfl, ?_⟩) hHeld ?_ ?_
                rotate_left
                · rintro w' ⟨s0, s1, s2, s3, s4, s5⟩
                  go_simp
                  with_reducible rfl
                rotate_left
                · simp only [Act.put, List.setIfInBounds_toArray, List.set_cons_zero, List.set_cons_succ, i64_w, i32_w]
                  rfl
                refine take_ (i := 10) (N := some 20) (v := ?_) (a' := ?_) #[true, true, true, true, true, true, true, true, true, true, true, false, false] rfl rfl (take_ofW HT_.out HW_.out (by kernel_rfl)) (fun _ _ _ h => h) (Or.inl ⟨by rfl, ?_⟩) hHeld ?_ ?_
                rotate_left
                · rintro w' ⟨s0, s1, s2, s3, s4, s5⟩
                  go_simp
                  with_reducible rfl
                rotate_left
                · simp only [Act.put, List.setIfInBounds_toArray, List.set_cons_zero, List.set_cons_succ, i64_w, i32_w]
                  rfl
                refine one_ (i := 11) (N := some 21) #[true, true, true, true, true, true, true, true, true, true, true, true, false] rfl rfl (one_of HT_.out (by kernel_rfl)) (by decide) (fun K hK => ?_)
                refine goes_ Try.func47 (by kernel_rfl) rfl #[.agg #[.string ((rd_T26 l0 (ji3)).f0.f0), .int .i64 ((rd_T26 l0 (ji3)).f0.f1)], .agg #[.string ((rd_T26 l0 x3_1).f0.f0), .int .i64 ((rd_T26 l0 x3_1).f0.f1)]] (by rfl) rfl rfl (by (try simp only [List.map_toArray, List.map_cons, List.map_nil]); first | done | (simp only [hji3]; rfl) | rfl | (simp only [List.length_drop, List.length_take]; rfl)) ?_
                with_reducible refine (sextonref08_Less.calls ((rd_T26 l0 (ji3)).f0.f0) ((rd_T26 l0 (ji3)).f0.f1) ((rd_T26 l0 x3_1).f0.f0) ((rd_T26 l0 x3_1).f0.f1) true _ A7.out).mono ?_
                rintro e w10 ⟨rfl, hb⟩
                refine ⟨_, rfl, ?_⟩
                have n0_ := Aside0.mk (below_step (by repeat (first | (with_reducible first | exact HB.out | apply below_alloc | apply pw_below_drewN | apply below_drew1) | exact HB.out)) hb)
                clear HB
                have HB := n0_
                clear n0_
                (try clear hb)
                (try clear hb2)
                (try clear hk)
                (try clear hi)
                refine hK.out _ _ ⟨((HB.out.cell (World.block_lt_of_cell? w _ hw309_0)).trans hw309_0), ((HB.out.cell (World.block_lt_of_cell? w _ hw309_1)).trans hw309_1), ((HB.out.cell (World.block_lt_of_cell? w _ hw309_2)).trans hw309_2), ((HB.out.cell (World.block_lt_of_cell? w _ hw310_0)).trans hw310_0), ((HB.out.cell (World.block_lt_of_cell? w _ hw310_1)).trans hw310_1), ((HB.out.cell (World.block_lt_of_cell? w _ hw310_2)).trans hw310_2)⟩ (fun hHeld => ?_)
                clear hK K
                refine norm_ (a' := ?_) ?_ ?_
                rotate_left
                · show Act.put _ (some 21) _ = _
                  simp only [Act.put, List.setIfInBounds_toArray, List.set_cons_zero, List.set_cons_succ, i64_w, i32_w]
                  rfl
                refine pure_ (i := 12) (N := some 22) (v := ?_) (a' := ?_) #[true, true, true, true, true, true, true, true, true, true, true, true, true] rfl rfl (any_of HT_.out (by kernel_rfl)) (fun _ _ _ h => h) (Or.inl ⟨by rfl, ?_⟩) ?_ ?_
                rotate_left
                · intro w'
                  go_simp
                  with_reducible rfl
                rotate_left
                · simp only [Act.put, List.setIfInBounds_toArray, List.set_cons_zero, List.set_cons_succ, i64_w, i32_w]
                  rfl
                refine done_ (done_of HT_.out (by kernel_rfl)) ?_
                try go_wp2
                go_roundg k1
                case measure => have := HK1.out; omega
                case rel => exact ⟨(wrap64 (x3_1 + 1)), (by first | rfl | (simp; done) | (simp [*]; done)), H', ⟨by have := HK1.out; omega⟩, ⟨by repeat (first | (with_reducible first | exact HB.out | apply below_alloc | apply pw_below_drewN | apply below_drew1) | exact HB.out)⟩⟩
              · replace c8 := Bool.eq_false_iff.mpr c8
                subst c8
                have H1 : (some false) = some r := by rw [if_neg (show ¬ (false = true) by decide)] at H; exact H
                clear H
                have H := H1
                clear H1
                obtain rfl := Option.some.inj H
                try go_wp2
                have n0_ := Aside0.mk (below_drew1 HB.out)
                clear HB
                have HB := n0_
                clear n0_
                have p309 : 0 ≤ ((ji3) : Int) := of_decide_eq_true (by first | (with_reducible assumption) | assumption)
                have q309 : (ji3) < (l0.length : Int) := of_decide_eq_true (by first | (with_reducible assumption) | assumption)
                obtain ⟨ad309, e309, hx309_0, hx309_1, hx309_2⟩ := at_T26 HR0.out (ji3) p309 q309
                have hw309_2 := hx309_2
                have hw309_1 := hx309_1
                have hw309_0 := hx309_0
                cases e309
                replace hx309_0 := (HB.out.cell (World.block_lt_of_cell? w _ hx309_0)).trans hx309_0
                replace hx309_1 := (HB.out.cell (World.block_lt_of_cell? w _ hx309_1)).trans hx309_1
                replace hx309_2 := (HB.out.cell (World.block_lt_of_cell? w _ hx309_2)).trans hx309_2
                replace p309 := eq_true p309
                replace q309 := eq_true q309
                have p310 : 0 ≤ (x3_1 : Int) := of_decide_eq_true (by first | (with_reducible assumption) | assumption)
                have q310 : x3_1 < (l0.length : Int) := of_decide_eq_true (by first | (with_reducible assumption) | assumption)
                obtain ⟨ad310, e310, hx310_0, hx310_1, hx310_2⟩ := at_T26 HR0.out x3_1 p310 q310
                have hw310_2 := hx310_2
                have hw310_1 := hx310_1
                have hw310_0 := hx310_0
                obtain rfl : ad309 = ad310 := (by injection e310)
                replace hx310_0 := (HB.out.cell (World.block_lt_of_cell? w _ hx310_0)).trans hx310_0
                replace hx310_1 := (HB.out.cell (World.block_lt_of_cell? w _ hx310_1)).trans hx310_1
                replace hx310_2 := (HB.out.cell (World.block_lt_of_cell? w _ hx310_2)).trans hx310_2
                replace p310 := eq_true p310
                replace q310 := eq_true q310
                refine start_ (n := 13) (S := fun w' => w'.cell? (ad309.add (((ji3)).toNat * 3)) = some (.string ((rd_T26 l0 (ji3)).f0.f0)) ∧ w'.cell? ⟨(ad309.add (((ji3)).toNat * 3)).block, (ad309.add (((ji3)).toNat * 3)).off + 1, none⟩ = some (.int .i64 ((rd_T26 l0 (ji3)).f0.f1)) ∧ w'.cell? ⟨(ad309.add (((ji3)).toNat * 3)).block, (ad309.add (((ji3)).toNat * 3)).off + 2, none⟩ = some (.string ((rd_T26 l0 (ji3)).f1)) ∧ w'.cell? (ad309.add ((x3_1).toNat * 3)) = some (.string ((rd_T26 l0 x3_1).f0.f0)) ∧ w'.cell? ⟨(ad309.add ((x3_1).toNat * 3)).block, (ad309.add ((x3_1).toNat * 3)).off + 1, none⟩ = some (.int .i64 ((rd_T26 l0 x3_1).f0.f1)) ∧ w'.cell? ⟨(ad309.add ((x3_1).toNat * 3)).block, (ad309.add ((x3_1).toNat * 3)).off + 2, none⟩ = some (.string ((rd_T26 l0 x3_1).f1))) (ds := []) #[false, false, false, false, false, false, false, false, false, false, false, false, false] (by kernel_rfl) rfl rfl ⟨((HB.out.cell (World.block_lt_of_cell? w _ hw309_0)).trans hw309_0), ((HB.out.cell (World.block_lt_of_cell? w _ hw309_1)).trans hw309_1), ((HB.out.cell (World.block_lt_of_cell? w _ hw309_2)).trans hw309_2), ((HB.out.cell (World.block_lt_of_cell? w _ hw310_0)).trans hw310_0), ((HB.out.cell (World.block_lt_of_cell? w _ hw310_1)).trans hw310_1), ((HB.out.cell (World.block_lt_of_cell? w _ hw310_2)).trans hw310_2)⟩ (fun hHeld => ?_); refine with_tabW sextonref09_Is.tab4 sextonref09_Is.bits4 (fun HT_ HW_ => ?_)
                generalize wr.drew = w11 at HB hx309_0 hx309_1 hx309_2 hx310_0 hx310_1 hx310_2 hHeld ⊢
                refine pure_ (i := 0) (N := some 10) (v := ?_) (a' := ?_) #[true, false, false, false, false, false, false, false, false, false, false, false, false] rfl rfl (any_of HT_.out (by kernel_rfl)) (fun _ _ _ h => h) (Or.inl ⟨by rfl, ?_⟩) ?_ ?_
                rotate_left
                · intro w'
                  go_simp
                  with_reducible rfl
                rotate_left
                · simp only [Act.put, List.setIfInBounds_toArray, List.set_cons_zero, List.set_cons_succ, i64_w, i32_w]
                  rfl
                refine pure_ (i := 1) (N := some 11) (v := ?_) (a' := ?_) #[true, true, false, false, false, false, false, false, false, false, false, false, false] rfl rfl (any_of HT_.out (by kernel_rfl)) (fun _ _ _ h => h) (Or.inl ⟨by rfl, ?_⟩) ?_ ?_
                rotate_left
                · intro w'
                  go_simp
                  with_reducible rfl
                rotate_left
                · simp only [Act.put, List.setIfInBounds_toArray, List.set_cons_zero, List.set_cons_succ, i64_w, i32_w]
                  rfl
                refine pure_ (i := 2) (N := some 12) (v := ?_) (a' := ?_) #[true, true, true, false, false, false, false, false, false, false, false, false, false] rfl rfl (any_of HT_.out (by kernel_rfl)) (fun _ _ _ h => h) (Or.inl ⟨by rfl, ?_⟩) ?_ ?_
                rotate_left
                · intro w'
                  go_simp
                  with_reducible rfl
                rotate_left
                · simp only [Act.put, List.setIfInBounds_toArray, List.set_cons_zero, List.set_cons_succ, i64_w, i32_w]
                  rfl
                refine pure_ (i := 3) (N := some 13) (v := ?_) (a' := ?_) #[true, true, true, true, false, false, false, false, false, false, false, false, false] rfl rfl (any_of HT_.out (by kernel_rfl)) (fun _ _ _ h => h) (Or.inl ⟨by rfl, ?_⟩) ?_ ?_
                rotate_left
                · intro w'
                  go_simp
                  with_reducible rfl
                rotate_left
                · simp only [Act.put, List.setIfInBounds_toArray, List.set_cons_zero, List.set_cons_succ, i64_w, i32_w]
                  rfl
                refine pure_ (i := 4) (N := some 14) (v := ?_) (a' := ?_) #[true, true, true, true, true, false, false, false, false, false, false, false, false] rfl rfl (any_of HT_.out (by kernel_rfl)) (fun _ _ _ h => h) (Or.inl ⟨by rfl, ?_⟩) ?_ ?_
                rotate_left
                · intro w'
                  go_simp
                  with_reducible rfl
                rotate_left
                · simp only [Act.put, List.setIfInBounds_toArray, List.set_cons_zero, List.set_cons_succ, i64_w, i32_w]
                  rfl
                refine pure_ (i := 6) (N := some 16) (v := ?_) (a' := ?_) #[true, true, true, true, true, false, true, false, false, false, false, false, false] rfl rfl (any_of HT_.out (by kernel_rfl)) (fun _ _ _ h => h) (Or.inl ⟨by rfl, ?_⟩) ?_ ?_
                rotate_left
                · intro w'
                  go_simp
                  with_reducible rfl
                rotate_left
                · simp only [Act.put, List.setIfInBounds_toArray, List.set_cons_zero, List.set_cons_succ, i64_w, i32_w]
                  rfl
                refine pure_ (i := 7) (N := some 17) (v := ?_) (a' := ?_) #[true, true, true, true, true, false, true, true, false, false, false, false, false] rfl rfl (any_of HT_.out (by kernel_rfl)) (fun _ _ _ h => h) (Or.inl ⟨by rfl, ?_⟩) ?_ ?_
                rotate_left
                · intro w'
                  go_simp
                  with_reducible rfl
                rotate_left
                · simp only [Act.put, List.setIfInBounds_toArray, List.set_cons_zero, List.set_cons_succ, i64_w, i32_w]
                  rfl
                refine pure_ (i := 8) (N := some 18) (v := ?_) (a' := ?_) #[true, true, true, true, true, false, true, true, true, false, false, false, false] rfl rfl (any_of HT_.out (by kernel_rfl)) (fun _ _ _ h => h) (Or.inl ⟨by rfl, ?_⟩) ?_ ?_
                rotate_left
                · intro w'
                  go_simp
                  with_reducible rfl
                rotate_left
                · simp only [Act.put, List.setIfInBounds_toArray, List.set_cons_zero, List.set_cons_succ, i64_w, i32_w]
                  rfl
                refine pure_ (i := 9) (N := some 19) (v := ?_) (a' := ?_) #[true, true, true, true, true, false, true, true, true, true, false, false, false] rfl rfl (any_of HT_.out (by kernel_rfl)) (fun _ _ _ h => h) (Or.inl ⟨by rfl, ?_⟩) ?_ ?_
                rotate_left
                · intro w'
                  go_simp
                  with_reducible rfl
                rotate_left
                · simp only [Act.put, List.setIfInBounds_toArray, List.set_cons_zero, List.set_cons_succ, i64_w, i32_w]
                  rfl
                refine take_ (i := 5) (N := some 15) (v := ?_) (a' := ?_) #[true, true, true, true, true, true, true, true, true, true, false, false, false] rfl rfl (take_ofW HT_.out HW_.out (by kernel_rfl)) (fun _ _ _ h => h) (Or.inl ⟨by rfl, ?_⟩) hHeld ?_ ?_
                rotate_left
                · rintro w' ⟨s0, s1, s2, s3, s4, s5⟩
                  go_simp
                  with_reducible rfl
                rotate_left
                · simp only [Act.put, List.setIfInBounds_toArray, List.set_cons_zero, List.set_cons_succ, i64_w, i32_w]
                  rfl
                refine take_ (i := 10) (N := some 20) (v := ?_) (a' := ?_) #[true, true, true, true, true, true, true, true, true, true, true, false, false] rfl rfl (take_ofW HT_.out HW_.out (by kernel_rfl)) (fun _ _ _ h => h) (Or.inl ⟨by rfl, ?_⟩) hHeld ?_ ?_
                rotate_left
                · rintro w' ⟨s0, s1, s2, s3, s4, s5⟩
                  go_simp
                  with_reducible rfl
                rotate_left
                · simp only [Act.put, List.setIfInBounds_toArray, List.set_cons_zero, List.set_cons_succ, i64_w, i32_w]
                  rfl
                refine one_ (i := 11) (N := some 21) #[true, true, true, true, true, true, true, true, true, true, true, true, false] rfl rfl (one_of HT_.out (by kernel_rfl)) (by decide) (fun K hK => ?_)
                refine goes_ Try.func47 (by kernel_rfl) rfl #[.agg #[.string ((rd_T26 l0 (ji3)).f0.f0), .int .i64 ((rd_T26 l0 (ji3)).f0.f1)], .agg #[.string ((rd_T26 l0 x3_1).f0.f0), .int .i64 ((rd_T26 l0 x3_1).f0.f1)]] (by rfl) rfl rfl (by (try simp only [List.map_toArray, List.map_cons, List.map_nil]); first | done | (simp only [hji3]; rfl) | rfl | (simp only [List.length_drop, List.length_take]; rfl)) ?_
                with_reducible refine (sextonref08_Less.calls ((rd_T26 l0 (ji3)).f0.f0) ((rd_T26 l0 (ji3)).f0.f1) ((rd_T26 l0 x3_1).f0.f0) ((rd_T26 l0 x3_1).f0.f1) false _ A7.out).mono ?_
                rintro e w12 ⟨rfl, hb⟩
                refine ⟨_, rfl, ?_⟩
                have n0_ := Aside0.mk (below_step (by repeat (first | (with_reducible first | exact HB.out | apply below_alloc | apply pw_below_drewN | apply below_drew1) | exact HB.out)) hb)
                clear HB
                have HB := n0_
                clear n0_
                (try clear hb)
                (try clear hb2)
                (try clear hk)
                (try clear hi)
                refine hK.out _ _ ⟨((HB.out.cell (World.block_lt_of_cell? w _ hw309_0)).trans hw309_0), ((HB.out.cell (World.block_lt_of_cell? w _ hw309_1)).trans hw309_1), ((HB.out.cell (World.block_lt_of_cell? w _ hw309_2)).trans hw309_2), ((HB.out.cell (World.block_lt_of_cell? w _ hw310_0)).trans hw310_0), ((HB.out.cell (World.block_lt_of_cell? w _ hw310_1)).trans hw310_1), ((HB.out.cell (World.block_lt_of_cell? w _ hw310_2)).trans hw310_2)⟩ (fun hHeld => ?_)
                clear hK K
                refine norm_ (a' := ?_) ?_ ?_
                rotate_left
                · show Act.put _ (some 21) _ = _
                  simp only [Act.put, List.setIfInBounds_toArray, List.set_cons_zero, List.set_cons_succ, i64_w, i32_w]
                  rfl
                refine pure_ (i := 12) (N := some 22) (v := ?_) (a' := ?_) #[true, true, true, true, true, true, true, true, true, true, true, true, true] rfl rfl (any_of HT_.out (by kernel_rfl)) (fun _ _ _ h => h) (Or.inl ⟨by rfl, ?_⟩) ?_ ?_
                rotate_left
                · intro w'
                  go_simp
                  with_reducible rfl
                rotate_left
                · simp only [Act.put, List.setIfInBounds_toArray, List.set_cons_zero, List.set_cons_succ, i64_w, i32_w]
                  rfl
                refine done_ (done_of HT_.out (by kernel_rfl)) ?_
                try go_wp2
                go_ret
                exact ⟨by first | rfl | (simp [errW_none, errW_some] <;> rfl) | (simp only [← hji3]; first | rfl | (simp [errW_none, errW_some] <;> rfl)) | (simp [*, errW_none, errW_some] <;> rfl), by repeat (first | (with_reducible first | exact HB.out | apply below_alloc | apply pw_below_drewN | apply below_drew1) | exact HB.out)⟩
            · rw [if_neg c6] at H
              exact absurd H (by simp)
          · rw [if_neg c5] at H
            exact absurd H (by simp)
        · rw [if_neg c4] at H
          exact absurd H (by simp)
      · rw [if_neg c2] at H
        have c2b0 : decide (x3_1 < (l0.length : Int)) = false := decide_eq_false c2
        clear c2
        obtain rfl := Option.some.inj H
        go_wp2
        go_ret
        exact ⟨by first | rfl | (simp [errW_none, errW_some] <;> rfl) | (simp [*, errW_none, errW_some] <;> rfl), by repeat (first | (with_reducible first | exact HB.out | apply below_alloc | apply pw_below_drewN | apply below_drew1) | exact HB.out)⟩

end Go.Proofs.Ytoiohlmiofplcaa.P
-- Written by a program of this session (xprint.py) over the kit's print.py.
namespace Go.Proofs.Ytoiohlmiofplcaa.P
open Go.RowKit Go.Proofs.YtoiohlmiofplcaaW.PrintWords Go.Proofs.YtoiohlmiofplcaaW.PrintLast Go.Proofs.YtoiohlmiofplcaaW.PrintMore
attribute [local go_sem] max2_int min2_int max_two min_two max_three min_three max_four min_four   -- for this text's walks alone
set_option linter.unusedVariables false
set_option linter.unusedSimpArgs false

/-! ### sextonlaw09_smudge: function 28 -/
def sextonlaw09_smudge.l0 : Nat → List (S26) → Int → Option ((List (S26)))
  | 0, _, _ => none
  | k + 1, x0, x2 => if x2 < (x0.length : Int) then (if 0 ≤ x2 then (sextonlaw09_smudge.l0 k (x0.set (x2 : Int).toNat (⟨(⟨(rd_T26 x0 x2).f0.f0, (rd_T26 x0 x2).f0.f1⟩ : S24), (⟨#[115, 109, 117, 100, 103, 101]⟩ : ByteArray)⟩ : S26)) (wrap64 (x2 + 1))) else (none)) else (some x0)
def sextonlaw09_smudge.f (k : Nat) (l0 : List (S26)) : Option ((List (S26))) := sextonlaw09_smudge.l0 k l0 0
theorem sextonlaw09_smudge.mono_l : ∀ k, (∀ y0 y1, LeO (sextonlaw09_smudge.l0 k y0 y1) (sextonlaw09_smudge.l0 (k + 1) y0 y1))
  | 0 => fun _ _ r h => by simp [sextonlaw09_smudge.l0] at h
  | k + 1 => by
    have ih0 := sextonlaw09_smudge.mono_l k
    · intro y0 y1
      unfold sextonlaw09_smudge.l0
      repeat' first
      | (with_reducible exact ih0 _ _)
      | (with_reducible exact LeO.refl _)
      | (with_reducible exact LeO.none _)
      | (with_reducible refine LeO.ite ?_ ?_)
      | (with_reducible refine LeO.bind ?_ (fun _ => ?_))
      | exact ih0 _ _
      | exact LeO.none _
      | refine LeO.ite ?_ ?_
      | refine LeO.bind ?_ (fun _ => ?_)
theorem sextonlaw09_smudge.mono : ∀ a0 k, LeO (sextonlaw09_smudge.f k a0) (sextonlaw09_smudge.f (k + 1) a0) := by
  intro a0 k
  have ih0 := sextonlaw09_smudge.mono_l k
  unfold sextonlaw09_smudge.f
  repeat' first
      | (with_reducible exact ih0 _ _)
      | (with_reducible exact LeO.refl _)
      | (with_reducible exact LeO.none _)
      | (with_reducible refine LeO.ite ?_ ?_)
      | (with_reducible refine LeO.bind ?_ (fun _ => ?_))
      | exact ih0 _ _
      | exact LeO.none _
      | refine LeO.ite ?_ ?_
      | refine LeO.bind ?_ (fun _ => ?_)
set_option maxHeartbeats 8000000 in
set_option maxRecDepth 100000 in
theorem sextonlaw09_smudge.calls (k : Nat) (P0_ : Nat → Prop) (u9000_ : Value) (l0 : List (S26)) (r : List (S26)) (w0 w : World) (hB : Below w0.heap.size w0 w) (ho0 : Kd.R k26 26 w w0.heap.size P0_ u9000_ l0) (h : sextonlaw09_smudge.f k l0 = some r) :
    Calls Try.prog 28 #[u9000_] w fun e w' => e = .returned (.tuple #[]) ∧ Kd.R k26 26 w' w0.heap.size (fun k_ => (P0_ k_ ∨ w.heap.size ≤ k_)) u9000_ r ∧ Below w0.heap.size w0 w' ∧ Kept w w' (fun k_ => P0_ k_) := by
  have HO0 := Aside0.mk (show Kd.R k26 26 w w0.heap.size (fun k_ => (P0_ k_ ∨ w.heap.size ≤ k_)) u9000_ l0 from Kd.R_mono ho0 (fun k_ hk => (.inl hk)))
  have HK := Aside0.mk (Kept.refl w (fun k_ => P0_ k_))
  have HW0 := Aside0.mk hB.size
  have HB := Aside0.mk hB
  clear hB
  have H : (sextonlaw09_smudge.l0 k l0 0) = some r := h
  clear h
  have H' := Aside0.mk H
  clear H
  go_enter Try.func28, Try.ntmps28
  go_wp2
  go_loopg [2] k (fun kq v2 w' => ∃ (x0_1 : List (S26)) (x2_1 : Int), v2 = .int .i64 x2_1 ∧ Aside0 (sextonlaw09_smudge.l0 kq x0_1 x2_1 = some r) ∧ Aside0 (kq ≤ k) ∧ Aside0 (Kd.R k26 26 w' w0.heap.size (fun k_ => (P0_ k_ ∨ w.heap.size ≤ k_)) u9000_ x0_1) ∧ Aside0 (Kept w w' (fun k_ => P0_ k_)) ∧ Aside0 (Below w0.heap.size w0 w'))
  case atStart => exact ⟨(l0), (0), (by first | rfl | (simp; done) | (simp [*]; done)), H', ⟨Nat.le_refl _⟩, ⟨by (with_reducible repeat (first | apply Kd.R_alloc | apply Kd.R_drewN | apply Kd.R_drew)); exact HO0.out⟩, ⟨by repeat (first | (with_reducible first | exact HK.out | apply Kept.alloc | apply Kept.drewN | apply Kept.drew) | exact HK.out)⟩, ⟨by repeat (first | (with_reducible first | exact HB.out | apply below_alloc | apply pw_below_drewN | apply below_drew1) | exact HB.out)⟩⟩
  case round =>
    clear H'
    obtain ⟨x0_1, x2_1, rfl, HA, HK1, HO_0, HK, HB⟩ := hrel
    cases gk with
    | zero => exact absurd HA.out (by simp [sextonlaw09_smudge.l0])
    | succ k1 =>
      have H := HA.out
      clear HA
      simp only [sextonlaw09_smudge.l0] at H
      by_cases c2 : x2_1 < (x0_1.length : Int)
      · rw [if_pos c2] at H
        have c2b0 : decide (x2_1 < (x0_1.length : Int)) = true := decide_eq_true c2
        clear c2
        by_cases c3 : 0 ≤ x2_1
        · rw [if_pos c3] at H
          have c3b0 : decide (0 ≤ x2_1) = true := decide_eq_true c3
          clear c3
          obtain ⟨y312, hy312⟩ : ∃ y_ : List (S26), y_ = (x0_1.set (x2_1 : Int).toNat (⟨(⟨(rd_T26 x0_1 x2_1).f0.f0, (rd_T26 x0_1 x2_1).f0.f1⟩ : S24), (⟨#[115, 109, 117, 100, 103, 101]⟩ : ByteArray)⟩ : S26)) := ⟨_, rfl⟩
          replace H : (sextonlaw09_smudge.l0 k1 y312 (wrap64 (x2_1 + 1))) = some r := by first | (rw [hy312]; with_reducible exact H) | (have H2_ := (Option.bind_some _ _).symm.trans H; rw [hy312]; with_reducible exact H2_) | (have H2_ := (Option.bind_some _ _).symm.trans H; with_reducible exact H2_) | with_reducible exact H | (rw [hy312]; exact H) | exact H
          have Ny312 := Aside0.mk hy312
          clear hy312
          have H' := Aside0.mk H
          clear H
          obtain ⟨Ao5, co5, eo5⟩ := Kd.R_slice HO_0.out
          subst eo5
          have p4 : 0 ≤ (x2_1 : Int) := of_decide_eq_true (by first | (with_reducible assumption) | assumption)
          have q4 : (x2_1 : Int) < ((x0_1.length : Int) : Int) := of_decide_eq_true (by first | (with_reducible assumption) | assumption)
          obtain ⟨go4, co4, eo4, gb4, gl4, cl4, HG4⟩ := Kd.R_form HO_0.out (by omega)
          (first | cases eo4 | (injection eo4 with ea_ en_ ec_; (first | subst ea_ | (injection ea_ with ea_; subst ea_)); subst ec_; clear en_))
          have GB4 := Aside0.mk gb4
          have GG4 := Aside0.mk HG4
          clear gb4 gl4 HG4
          have HMgo4 := Aside0.mk (show (P0_ go4 ∨ w.heap.size ≤ go4) from (HO_0.out.1 _ rfl))
          obtain ⟨ce4, hcl4, hM4, hcc4, hfr4⟩ := Kd.R_elem HO_0.out z26 (x2_1 : Int) p4 q4
          obtain rfl := k26_openM hM4
          have hx4_0 : wr.cell? ⟨go4, (x2_1 : Int).toNat * 3, none⟩ = some (.string ((rd_T26 x0_1 x2_1).f0.f0)) := hcc4 0 _ rfl
          have hx4_1 : wr.cell? ⟨go4, (x2_1 : Int).toNat * 3 + 1, none⟩ = some (.int .i64 ((rd_T26 x0_1 x2_1).f0.f1)) := hcc4 1 _ rfl
          have hx4_2 : wr.cell? ⟨go4, (x2_1 : Int).toNat * 3 + 2, none⟩ = some (.string ((rd_T26 x0_1 x2_1).f1)) := hcc4 2 _ rfl
          have hf4_0 : wr.frozen? ⟨go4, (x2_1 : Int).toNat * 3, none⟩ = false := hfr4 0
          have hf4_1 : wr.frozen? ⟨go4, (x2_1 : Int).toNat * 3 + 1, none⟩ = false := hfr4 1
          have hf4_2 : wr.frozen? ⟨go4, (x2_1 : Int).toNat * 3 + 2, none⟩ = false := hfr4 2
          clear hcl4 hcc4 hfr4 hM4
          replace p4 := eq_true p4
          replace q4 := eq_true q4
          have HX6 := Aside0.mk (show Kd.R k26 26 wr w0.heap.size (fun k_ => (P0_ k_ ∨ w.heap.size ≤ k_)) (.slice (some ⟨go4, 0, none⟩) x0_1.length co5) x0_1 from (by (with_reducible repeat (first | apply Kd.R_alloc | apply Kd.R_drewN | apply Kd.R_drew)); exact HO_0.out))
          obtain ⟨ce6, hcl6, hM6, hcc6, hfr6⟩ := Kd.R_elem HX6.out z26 (x2_1 : Int) (of_decide_eq_true (by first | (with_reducible assumption) | assumption)) (by have h_ : (x2_1 : Int) < ((x0_1.length : Int) : Int) := of_decide_eq_true (by first | (with_reducible assumption) | assumption); first | exact h_ | (have e_ := (Kd.R_reads' HO_0.out).1; omega) | simpa using h_)
          obtain rfl := k26_openM hM6
          have HP6 := Kd.R_seg HX6.out (x2_1 : Int) (of_decide_eq_true (by first | (with_reducible assumption) | assumption)) (by have h_ : (x2_1 : Int) < ((x0_1.length : Int) : Int) := of_decide_eq_true (by first | (with_reducible assumption) | assumption); first | exact h_ | (have e_ := (Kd.R_reads' HO_0.out).1; omega) | simpa using h_) (seg := [.string (⟨#[115, 109, 117, 100, 103, 101]⟩ : ByteArray)]) (j := 2) hcl6 hcc6 (show 3 ≤ 3 from by decide) (x' := (⟨(⟨(rd_T26 x0_1 x2_1).f0.f0, (rd_T26 x0_1 x2_1).f0.f1⟩ : S24), (⟨#[115, 109, 117, 100, 103, 101]⟩ : ByteArray)⟩ : S26)) (k26_mkM _ _ _ (⟨(⟨(rd_T26 x0_1 x2_1).f0.f0, (rd_T26 x0_1 x2_1).f0.f1⟩ : S24), (⟨#[115, 109, 117, 100, 103, 101]⟩ : ByteArray)⟩ : S26) ) (fun _ hk => hk)
          have hx6_2 := hcc6 2 _ rfl
          (try simp only [show (k26).sz = 3 from rfl, Nat.mul_one, Nat.add_zero] at hx6_2)
          have hf6_2 := hfr6 2
          (try simp only [show (k26).sz = 3 from rfl, Nat.mul_one, Nat.add_zero] at hf6_2)
          clear hcl6 hcc6 hfr6 hM6
          go_wp2_with (first | ((with_reducible refine gate_store (t := 9) (p := 12) rfl ?_); refine store_event (t := 9) (p := 12) (v := ?vo_w7) (w1 := (wr.setCell ⟨go4, (x2_1 : Int).toNat * 3 + 2, none⟩ (.string (⟨#[115, 109, 117, 100, 103, 101]⟩ : ByteArray)))) ?hg ?ho ?hn ?hr ?_; (case ho => rfl); (case hg => rfl); (case hn => rfl); (case hr => first | (go_simp; done) | (go_simp; rfl)); intro w7 hw; have hg : wr.grownBy w7 (some go4) := (by rw [hw]; exact HP6.2); have hp_ : Kd.R k26 26 w7 w0.heap.size (fun k_ => (P0_ k_ ∨ w.heap.size ≤ k_)) (.slice (some ⟨go4, 0, none⟩) x0_1.length co5) y312 := (by rw [hw, Ny312.out]; exact HP6.1); clear HP6; have n0_ := Aside0.mk (hp_); have n1_ := Aside0.mk ((by rw [hw]; exact below_set (HB.out) GB4.out : Below w0.heap.size w0 w7)); have n2_ := Aside0.mk (Kept.of_grown (S := (fun k_ => P0_ k_)) hg (by repeat (first | (with_reducible first | exact HK.out | apply Kept.alloc | apply Kept.drewN | apply Kept.drew) | exact HK.out)) (fun k_ e_ => (HO_0.out.1 k_ e_))); clear HO_0; clear HB; clear HK; have HO_0 := n0_; have HB := n1_; have HK := n2_; clear n0_ n1_ n2_; clear hg hw hp_))
          go_roundg k1
          case measure => have := HK1.out; omega
          case rel => exact ⟨(y312), (wrap64 (x2_1 + 1)), (by first | rfl | (simp; done) | (simp [*]; done)), H', ⟨by have := HK1.out; omega⟩, ⟨by (with_reducible repeat (first | apply Kd.R_alloc | apply Kd.R_drewN | apply Kd.R_drew)); exact HO_0.out⟩, ⟨by repeat (first | (with_reducible first | exact HK.out | apply Kept.alloc | apply Kept.drewN | apply Kept.drew) | exact HK.out)⟩, ⟨by repeat (first | (with_reducible first | exact HB.out | apply below_alloc | apply pw_below_drewN | apply below_drew1) | exact HB.out)⟩⟩
        · rw [if_neg c3] at H
          exact absurd H (by simp)
      · rw [if_neg c2] at H
        have c2b0 : decide (x2_1 < (x0_1.length : Int)) = false := decide_eq_false c2
        clear c2
        obtain rfl := Option.some.inj H
        obtain ⟨Ao8, co8, eo8⟩ := Kd.R_slice HO_0.out
        subst eo8
        go_wp2
        first | go_end0 | ((try simp only [Exit.inBlock, Exit.then]); refine bodyPost_ret (results_none rfl _ _ _) rfl ?_)
        exact ⟨by first | rfl | (simp [errW_none, errW_some] <;> rfl) | (simp [*, errW_none, errW_some] <;> rfl), by (with_reducible repeat (first | apply Kd.R_alloc | apply Kd.R_drewN | apply Kd.R_drew)); exact HO_0.out, by repeat (first | (with_reducible first | exact HB.out | apply below_alloc | apply pw_below_drewN | apply below_drew1) | exact HB.out), by repeat (first | (with_reducible first | exact HK.out | apply Kept.alloc | apply Kept.drewN | apply Kept.drew) | exact HK.out)⟩

end Go.Proofs.Ytoiohlmiofplcaa.P
-- Written by a program of this session (xprint.py) over the kit's print.py.
namespace Go.Proofs.Ytoiohlmiofplcaa.P
open Go.RowKit Go.Proofs.YtoiohlmiofplcaaW.PrintWords Go.Proofs.YtoiohlmiofplcaaW.PrintLast Go.Proofs.YtoiohlmiofplcaaW.PrintMore
attribute [local go_sem] max2_int min2_int max_two min_two max_three min_three max_four min_four   -- for this text's walks alone
set_option linter.unusedVariables false
set_option linter.unusedSimpArgs false

/-! ### sextonlaw09_pair: function 49 -/
def sextonlaw09_pair.f (a0 : ByteArray) : Option (ByteArray × Int × ByteArray) := some (a0, 0, (⟨#[]⟩ : ByteArray))
set_option maxHeartbeats 8000000 in
set_option maxRecDepth 100000 in
theorem sextonlaw09_pair.calls (a0 : ByteArray) (r1 : ByteArray) (r2 : Int) (r3 : ByteArray) (w : World) (h : sextonlaw09_pair.f a0 = some (r1, r2, r3)) :
    Calls Try.prog 49 #[.string a0] w fun e w' => e = .returned (.agg #[.string r1, .int .i64 r2, .string r3]) ∧ Below w.heap.size w w' := by
  have hu26 := Try.underlying26
  have hu24 := Try.underlying24
  have HB := Aside0.mk (Below.refl w.heap.size w)
  have H : (some (a0, 0, (⟨#[]⟩ : ByteArray))) = some (r1, r2, r3) := h
  clear h
  simp only [Option.some.injEq, Prod.mk.injEq] at H
  obtain ⟨rfl, rfl, rfl⟩ := H
  go_enter Try.func49, Try.ntmps49
  go_wp2_with (first | ((with_reducible refine gate_dst (N := 2) rfl ?_); refine box_event ?hg (N := 2) ?hd (cs := #[.string (⟨#[]⟩ : ByteArray), .int .i64 0, .string (⟨#[]⟩ : ByteArray)]) (t := 26) ?hr ?_; (case hd => rfl); (case hg => rfl); (case hr => first | (go_simp; done) | (go_simp; rfl)); intro gb313 hg w2 hbox hb; have n0_ := Aside0.mk (below_step (by repeat (first | (with_reducible first | exact HB.out | apply below_alloc | apply pw_below_drewN | apply below_drew1) | exact HB.out)) hb); have n1_ := Aside0.mk (hbox); have n2_ := Aside0.mk ((by rw [hg]; exact (below_size (by repeat (first | (with_reducible first | exact HB.out | apply below_alloc | apply pw_below_drewN | apply below_drew1) | exact HB.out))) : w.heap.size ≤ gb313)); have n3_ := Aside0.mk ((by rw [hg]; exact (below_size (by repeat (first | (with_reducible first | exact HB.out | apply below_alloc | apply pw_below_drewN | apply below_drew1) | exact HB.out))) : w.heap.size ≤ gb313)); clear HB; have HB := n0_; have BK313 := n1_; have GW313 := n2_; have GE313 := n3_; clear n0_ n1_ n2_ n3_; clear hb hbox hg; have hcz3_0 : w2.cell? ⟨gb313, 0, none⟩ = some (.string (⟨#[]⟩ : ByteArray)) := (blk_cell BK313.out 0).trans rfl; have hcz3_1 : w2.cell? ⟨gb313, 1, none⟩ = some (.int .i64 0) := (blk_cell BK313.out 1).trans rfl; have hcz3_2 : w2.cell? ⟨gb313, 2, none⟩ = some (.string (⟨#[]⟩ : ByteArray)) := (blk_cell BK313.out 2).trans rfl; have hfz3_0 := blk_frozen BK313.out 0; have hfz3_1 := blk_frozen BK313.out 1; have hfz3_2 := blk_frozen BK313.out 2))
  refine bodyPost_ret (results_cell_row rfl _ _ gb313 26 #[.string a0, .int .i64 0, .string (⟨#[]⟩ : ByteArray)] (0, 0) _ rfl (by (with_reducible repeat (first | refine blk_drewN ?_ _ | refine blk_drew ?_ | refine blk_alloc ?_ _)); refine blk_put (cs := #[.string a0, .int .i64 0, .string (⟨#[]⟩ : ByteArray)]) ?_ 2 _ rfl; (with_reducible repeat (first | refine blk_drewN ?_ _ | refine blk_drew ?_ | refine blk_alloc ?_ _)); refine blk_put (cs := #[.string a0, .int .i64 0, .string (⟨#[]⟩ : ByteArray)]) ?_ 1 _ rfl; (with_reducible repeat (first | refine blk_drewN ?_ _ | refine blk_drew ?_ | refine blk_alloc ?_ _)); refine blk_put (cs := #[.string (⟨#[]⟩ : ByteArray), .int .i64 0, .string (⟨#[]⟩ : ByteArray)]) ?_ 0 _ rfl; (with_reducible repeat (first | refine blk_drewN ?_ _ | refine blk_drew ?_ | refine blk_alloc ?_ _)); exact BK313.out) Try.underlying26 rfl (by kernel_rfl)) rfl ?_
  exact ⟨by first | rfl | (simp [errW_none, errW_some] <;> rfl) | (simp [*, errW_none, errW_some] <;> rfl), by repeat (first | (with_reducible first | exact HB.out | apply below_alloc | apply pw_below_drewN | apply below_drew1 | refine below_set ?_ GE313.out) | exact HB.out)⟩

end Go.Proofs.Ytoiohlmiofplcaa.P
/-
  sexton/sextonlaw09.nodes answers true. The print's walk, with the branches that would answer false closed.
-/
-- Written by a program of this session (xprint.py) over the kit's print.py.
namespace Go.Proofs.Ytoiohlmiofplcaa.P
open Go.RowKit Go.Proofs.YtoiohlmiofplcaaW.PrintWords Go.Proofs.YtoiohlmiofplcaaW.PrintLast Go.Proofs.YtoiohlmiofplcaaW.PrintMore
attribute [local go_sem] max2_int min2_int max_two min_two max_three min_three max_four min_four   -- for this text's walks alone
set_option linter.unusedVariables false
set_option linter.unusedSimpArgs false

/-! ### sextonlaw09_nodesP: function 29 -/
def sextonlaw09_nodesP.f (k : Nat)  : Option (Bool) := (sextonlaw09_pair.f (⟨#[97]⟩ : ByteArray)).bind fun bt222 => ((sextonlaw09_pair.f (⟨#[99]⟩ : ByteArray)).bind fun bt225 => ((some (([(⟨(⟨bt222.1, bt222.2.1⟩ : S24), bt222.2.2⟩ : S26), (⟨(⟨bt225.1, bt225.2.1⟩ : S24), bt225.2.2⟩ : S26)] : List (S26)) : List (S26))).bind fun y228 => ((node_Find.f y228 (⟨#[98]⟩ : ByteArray) 0).bind fun bt231 => ((sextonlaw09_pair.f (⟨#[98]⟩ : ByteArray)).bind fun bt233 => ((node_Put.f k y228 bt233.1 bt233.2.1 bt233.2.2).bind fun t236 => ((node_Drop.f k y228 (⟨#[97]⟩ : ByteArray) 0).bind fun t239 => ((node_Split.f k t236).bind fun bt242 => ((node_Level.f k t236 ([] : List (S26)) 3).bind fun bt248 => (if bt231.1 = 1 then (if bt231.2 = true then (some false) else ((sextonlaw09_pair.f (⟨#[97]⟩ : ByteArray)).bind fun bt255 => ((sextonlaw09_pair.f (⟨#[98]⟩ : ByteArray)).bind fun bt258 => ((sextonlaw09_pair.f (⟨#[99]⟩ : ByteArray)).bind fun bt261 => ((sextonref09_Same.f k t236 (([(⟨(⟨bt255.1, bt255.2.1⟩ : S24), bt255.2.2⟩ : S26), (⟨(⟨bt258.1, bt258.2.1⟩ : S24), bt258.2.2⟩ : S26), (⟨(⟨bt261.1, bt261.2.1⟩ : S24), bt261.2.2⟩ : S26)] : List (S26)))).bind fun t267 => (if t267 = true then (if 1 ≤ (y228.length : Int) then ((sextonref09_Same.f k t239 (y228.drop 1)).bind fun t272 => (if t272 = true then (if 1 ≤ (t236.length : Int) then ((sextonref09_Same.f k bt242.1 (t236.take 1)).bind fun t277 => (if t277 = true then ((sextonref09_Same.f k bt242.2 (t236.drop 1)).bind fun t282 => (if t282 = true then (if bt248.2.2 = 0 then ((sextonref09_Same.f k bt248.1 t236).bind fun t283 => (if t283 = true then (if (bt248.2.1.length : Int) = 0 then ((node_Is.f k t236).bind fun t284 => (if t284 = true then ((sextonlaw09_pair.f (⟨#[98]⟩ : ByteArray)).bind fun bt285 => ((sextonlaw09_pair.f (⟨#[97]⟩ : ByteArray)).bind fun bt288 => ((node_Is.f k (([(⟨(⟨bt285.1, bt285.2.1⟩ : S24), bt285.2.2⟩ : S26), (⟨(⟨bt288.1, bt288.2.1⟩ : S24), bt288.2.2⟩ : S26)] : List (S26)))).bind fun t294 => (some (!t294))))) else (some false))) else (some false)) else (some false))) else (some false)) else (some false))) else (some false))) else (none)) else (some false))) else (none)) else (some false))))))) else (some false))))))))))
theorem sextonlaw09_nodesP.mono : ∀ k, LeO (sextonlaw09_nodesP.f k ) (sextonlaw09_nodesP.f (k + 1) ) := by
  intro  k
  unfold sextonlaw09_nodesP.f
  repeat' first
      | (with_reducible exact node_Drop.mono _ _ _ _)
      | (with_reducible exact node_Is.mono _ _)
      | (with_reducible exact node_Level.mono _ _ _ _)
      | (with_reducible exact node_Put.mono _ _ _ _ _)
      | (with_reducible exact node_Split.mono _ _)
      | (with_reducible exact sextonref09_Same.mono _ _ _)
      | (with_reducible exact LeO.refl _)
      | (with_reducible exact LeO.none _)
      | (with_reducible refine LeO.ite ?_ ?_)
      | (with_reducible refine LeO.bind ?_ (fun _ => ?_))
      | exact node_Drop.mono _ _ _ _
      | exact node_Is.mono _ _
      | exact node_Level.mono _ _ _ _
      | exact node_Put.mono _ _ _ _ _
      | exact node_Split.mono _ _
      | exact sextonref09_Same.mono _ _ _
      | exact LeO.none _
      | refine LeO.ite ?_ ?_
      | refine LeO.bind ?_ (fun _ => ?_)
set_option maxHeartbeats 8000000 in
set_option maxRecDepth 100000 in
theorem sextonlaw09_nodesP.calls (k : Nat)  (r : Bool) (hrt : r = true := by rfl) (w : World) (h : sextonlaw09_nodesP.f k  = some r) :
    Calls Try.prog 29 #[] w fun e w' => e = .returned (.bool r) ∧ Below w.heap.size w w' := by
  have HRT := Aside0.mk hrt
  have hu24 := Try.underlying24
  have HB := Aside0.mk (Below.refl w.heap.size w)
  have H : ((sextonlaw09_pair.f (⟨#[97]⟩ : ByteArray)).bind fun bt222 => ((sextonlaw09_pair.f (⟨#[99]⟩ : ByteArray)).bind fun bt225 => ((some (([(⟨(⟨bt222.1, bt222.2.1⟩ : S24), bt222.2.2⟩ : S26), (⟨(⟨bt225.1, bt225.2.1⟩ : S24), bt225.2.2⟩ : S26)] : List (S26)) : List (S26))).bind fun y228 => ((node_Find.f y228 (⟨#[98]⟩ : ByteArray) 0).bind fun bt231 => ((sextonlaw09_pair.f (⟨#[98]⟩ : ByteArray)).bind fun bt233 => ((node_Put.f k y228 bt233.1 bt233.2.1 bt233.2.2).bind fun t236 => ((node_Drop.f k y228 (⟨#[97]⟩ : ByteArray) 0).bind fun t239 => ((node_Split.f k t236).bind fun bt242 => ((node_Level.f k t236 ([] : List (S26)) 3).bind fun bt248 => (if bt231.1 = 1 then (if bt231.2 = true then (some false) else ((sextonlaw09_pair.f (⟨#[97]⟩ : ByteArray)).bind fun bt255 => ((sextonlaw09_pair.f (⟨#[98]⟩ : ByteArray)).bind fun bt258 => ((sextonlaw09_pair.f (⟨#[99]⟩ : ByteArray)).bind fun bt261 => ((sextonref09_Same.f k t236 (([(⟨(⟨bt255.1, bt255.2.1⟩ : S24), bt255.2.2⟩ : S26), (⟨(⟨bt258.1, bt258.2.1⟩ : S24), bt258.2.2⟩ : S26), (⟨(⟨bt261.1, bt261.2.1⟩ : S24), bt261.2.2⟩ : S26)] : List (S26)))).bind fun t267 => (if t267 = true then (if 1 ≤ (y228.length : Int) then ((sextonref09_Same.f k t239 (y228.drop 1)).bind fun t272 => (if t272 = true then (if 1 ≤ (t236.length : Int) then ((sextonref09_Same.f k bt242.1 (t236.take 1)).bind fun t277 => (if t277 = true then ((sextonref09_Same.f k bt242.2 (t236.drop 1)).bind fun t282 => (if t282 = true then (if bt248.2.2 = 0 then ((sextonref09_Same.f k bt248.1 t236).bind fun t283 => (if t283 = true then (if (bt248.2.1.length : Int) = 0 then ((node_Is.f k t236).bind fun t284 => (if t284 = true then ((sextonlaw09_pair.f (⟨#[98]⟩ : ByteArray)).bind fun bt285 => ((sextonlaw09_pair.f (⟨#[97]⟩ : ByteArray)).bind fun bt288 => ((node_Is.f k (([(⟨(⟨bt285.1, bt285.2.1⟩ : S24), bt285.2.2⟩ : S26), (⟨(⟨bt288.1, bt288.2.1⟩ : S24), bt288.2.2⟩ : S26)] : List (S26)))).bind fun t294 => (some (!t294))))) else (some false))) else (some false)) else (some false))) else (some false)) else (some false))) else (some false))) else (none)) else (some false))) else (none)) else (some false))))))) else (some false))))))))))) = some r := h
  clear h
  replace H := Option.bind_eq_some_iff.mp H
  obtain ⟨⟨t222, t223, t224⟩, A10, H⟩ := H
  replace H : ((sextonlaw09_pair.f (⟨#[99]⟩ : ByteArray)).bind fun bt225 => ((some (([(⟨(⟨t222, t223⟩ : S24), t224⟩ : S26), (⟨(⟨bt225.1, bt225.2.1⟩ : S24), bt225.2.2⟩ : S26)] : List (S26)) : List (S26))).bind fun y228 => ((node_Find.f y228 (⟨#[98]⟩ : ByteArray) 0).bind fun bt231 => ((sextonlaw09_pair.f (⟨#[98]⟩ : ByteArray)).bind fun bt233 => ((node_Put.f k y228 bt233.1 bt233.2.1 bt233.2.2).bind fun t236 => ((node_Drop.f k y228 (⟨#[97]⟩ : ByteArray) 0).bind fun t239 => ((node_Split.f k t236).bind fun bt242 => ((node_Level.f k t236 ([] : List (S26)) 3).bind fun bt248 => (if bt231.1 = 1 then (if bt231.2 = true then (some false) else ((sextonlaw09_pair.f (⟨#[97]⟩ : ByteArray)).bind fun bt255 => ((sextonlaw09_pair.f (⟨#[98]⟩ : ByteArray)).bind fun bt258 => ((sextonlaw09_pair.f (⟨#[99]⟩ : ByteArray)).bind fun bt261 => ((sextonref09_Same.f k t236 (([(⟨(⟨bt255.1, bt255.2.1⟩ : S24), bt255.2.2⟩ : S26), (⟨(⟨bt258.1, bt258.2.1⟩ : S24), bt258.2.2⟩ : S26), (⟨(⟨bt261.1, bt261.2.1⟩ : S24), bt261.2.2⟩ : S26)] : List (S26)))).bind fun t267 => (if t267 = true then (if 1 ≤ (y228.length : Int) then ((sextonref09_Same.f k t239 (y228.drop 1)).bind fun t272 => (if t272 = true then (if 1 ≤ (t236.length : Int) then ((sextonref09_Same.f k bt242.1 (t236.take 1)).bind fun t277 => (if t277 = true then ((sextonref09_Same.f k bt242.2 (t236.drop 1)).bind fun t282 => (if t282 = true then (if bt248.2.2 = 0 then ((sextonref09_Same.f k bt248.1 t236).bind fun t283 => (if t283 = true then (if (bt248.2.1.length : Int) = 0 then ((node_Is.f k t236).bind fun t284 => (if t284 = true then ((sextonlaw09_pair.f (⟨#[98]⟩ : ByteArray)).bind fun bt285 => ((sextonlaw09_pair.f (⟨#[97]⟩ : ByteArray)).bind fun bt288 => ((node_Is.f k (([(⟨(⟨bt285.1, bt285.2.1⟩ : S24), bt285.2.2⟩ : S26), (⟨(⟨bt288.1, bt288.2.1⟩ : S24), bt288.2.2⟩ : S26)] : List (S26)))).bind fun t294 => (some (!t294))))) else (some false))) else (some false)) else (some false))) else (some false)) else (some false))) else (some false))) else (none)) else (some false))) else (none)) else (some false))))))) else (some false)))))))))) = some r := H
  have A1 := Aside0.mk A10
  clear A10
  replace H := Option.bind_eq_some_iff.mp H
  obtain ⟨⟨t225, t226, t227⟩, A20, H⟩ := H
  replace H : ((some (([(⟨(⟨t222, t223⟩ : S24), t224⟩ : S26), (⟨(⟨t225, t226⟩ : S24), t227⟩ : S26)] : List (S26)) : List (S26))).bind fun y228 => ((node_Find.f y228 (⟨#[98]⟩ : ByteArray) 0).bind fun bt231 => ((sextonlaw09_pair.f (⟨#[98]⟩ : ByteArray)).bind fun bt233 => ((node_Put.f k y228 bt233.1 bt233.2.1 bt233.2.2).bind fun t236 => ((node_Drop.f k y228 (⟨#[97]⟩ : ByteArray) 0).bind fun t239 => ((node_Split.f k t236).bind fun bt242 => ((node_Level.f k t236 ([] : List (S26)) 3).bind fun bt248 => (if bt231.1 = 1 then (if bt231.2 = true then (some false) else ((sextonlaw09_pair.f (⟨#[97]⟩ : ByteArray)).bind fun bt255 => ((sextonlaw09_pair.f (⟨#[98]⟩ : ByteArray)).bind fun bt258 => ((sextonlaw09_pair.f (⟨#[99]⟩ : ByteArray)).bind fun bt261 => ((sextonref09_Same.f k t236 (([(⟨(⟨bt255.1, bt255.2.1⟩ : S24), bt255.2.2⟩ : S26), (⟨(⟨bt258.1, bt258.2.1⟩ : S24), bt258.2.2⟩ : S26), (⟨(⟨bt261.1, bt261.2.1⟩ : S24), bt261.2.2⟩ : S26)] : List (S26)))).bind fun t267 => (if t267 = true then (if 1 ≤ (y228.length : Int) then ((sextonref09_Same.f k t239 (y228.drop 1)).bind fun t272 => (if t272 = true then (if 1 ≤ (t236.length : Int) then ((sextonref09_Same.f k bt242.1 (t236.take 1)).bind fun t277 => (if t277 = true then ((sextonref09_Same.f k bt242.2 (t236.drop 1)).bind fun t282 => (if t282 = true then (if bt248.2.2 = 0 then ((sextonref09_Same.f k bt248.1 t236).bind fun t283 => (if t283 = true then (if (bt248.2.1.length : Int) = 0 then ((node_Is.f k t236).bind fun t284 => (if t284 = true then ((sextonlaw09_pair.f (⟨#[98]⟩ : ByteArray)).bind fun bt285 => ((sextonlaw09_pair.f (⟨#[97]⟩ : ByteArray)).bind fun bt288 => ((node_Is.f k (([(⟨(⟨bt285.1, bt285.2.1⟩ : S24), bt285.2.2⟩ : S26), (⟨(⟨bt288.1, bt288.2.1⟩ : S24), bt288.2.2⟩ : S26)] : List (S26)))).bind fun t294 => (some (!t294))))) else (some false))) else (some false)) else (some false))) else (some false)) else (some false))) else (some false))) else (none)) else (some false))) else (none)) else (some false))))))) else (some false))))))))) = some r := H
  have A2 := Aside0.mk A20
  clear A20
  obtain ⟨y228, hy228⟩ : ∃ y_ : List (S26), y_ = (([(⟨(⟨t222, t223⟩ : S24), t224⟩ : S26), (⟨(⟨t225, t226⟩ : S24), t227⟩ : S26)] : List (S26))) := ⟨_, rfl⟩
  replace H : ((node_Find.f y228 (⟨#[98]⟩ : ByteArray) 0).bind fun bt231 => ((sextonlaw09_pair.f (⟨#[98]⟩ : ByteArray)).bind fun bt233 => ((node_Put.f k y228 bt233.1 bt233.2.1 bt233.2.2).bind fun t236 => ((node_Drop.f k y228 (⟨#[97]⟩ : ByteArray) 0).bind fun t239 => ((node_Split.f k t236).bind fun bt242 => ((node_Level.f k t236 ([] : List (S26)) 3).bind fun bt248 => (if bt231.1 = 1 then (if bt231.2 = true then (some false) else ((sextonlaw09_pair.f (⟨#[97]⟩ : ByteArray)).bind fun bt255 => ((sextonlaw09_pair.f (⟨#[98]⟩ : ByteArray)).bind fun bt258 => ((sextonlaw09_pair.f (⟨#[99]⟩ : ByteArray)).bind fun bt261 => ((sextonref09_Same.f k t236 (([(⟨(⟨bt255.1, bt255.2.1⟩ : S24), bt255.2.2⟩ : S26), (⟨(⟨bt258.1, bt258.2.1⟩ : S24), bt258.2.2⟩ : S26), (⟨(⟨bt261.1, bt261.2.1⟩ : S24), bt261.2.2⟩ : S26)] : List (S26)))).bind fun t267 => (if t267 = true then (if 1 ≤ (y228.length : Int) then ((sextonref09_Same.f k t239 (y228.drop 1)).bind fun t272 => (if t272 = true then (if 1 ≤ (t236.length : Int) then ((sextonref09_Same.f k bt242.1 (t236.take 1)).bind fun t277 => (if t277 = true then ((sextonref09_Same.f k bt242.2 (t236.drop 1)).bind fun t282 => (if t282 = true then (if bt248.2.2 = 0 then ((sextonref09_Same.f k bt248.1 t236).bind fun t283 => (if t283 = true then (if (bt248.2.1.length : Int) = 0 then ((node_Is.f k t236).bind fun t284 => (if t284 = true then ((sextonlaw09_pair.f (⟨#[98]⟩ : ByteArray)).bind fun bt285 => ((sextonlaw09_pair.f (⟨#[97]⟩ : ByteArray)).bind fun bt288 => ((node_Is.f k (([(⟨(⟨bt285.1, bt285.2.1⟩ : S24), bt285.2.2⟩ : S26), (⟨(⟨bt288.1, bt288.2.1⟩ : S24), bt288.2.2⟩ : S26)] : List (S26)))).bind fun t294 => (some (!t294))))) else (some false))) else (some false)) else (some false))) else (some false)) else (some false))) else (some false))) else (none)) else (some false))) else (none)) else (some false))))))) else (some false)))))))) = some r := by first | (rw [hy228]; with_reducible exact H) | (have H2_ := (Option.bind_some _ _).symm.trans H; rw [hy228]; with_reducible exact H2_) | (have H2_ := (Option.bind_some _ _).symm.trans H; with_reducible exact H2_) | with_reducible exact H | (rw [hy228]; exact H) | exact H
  have Ny228 := Aside0.mk hy228
  clear hy228
  replace H := Option.bind_eq_some_iff.mp H
  obtain ⟨⟨t231, t232⟩, A30, H⟩ := H
  replace H : ((sextonlaw09_pair.f (⟨#[98]⟩ : ByteArray)).bind fun bt233 => ((node_Put.f k y228 bt233.1 bt233.2.1 bt233.2.2).bind fun t236 => ((node_Drop.f k y228 (⟨#[97]⟩ : ByteArray) 0).bind fun t239 => ((node_Split.f k t236).bind fun bt242 => ((node_Level.f k t236 ([] : List (S26)) 3).bind fun bt248 => (if t231 = 1 then (if t232 = true then (some false) else ((sextonlaw09_pair.f (⟨#[97]⟩ : ByteArray)).bind fun bt255 => ((sextonlaw09_pair.f (⟨#[98]⟩ : ByteArray)).bind fun bt258 => ((sextonlaw09_pair.f (⟨#[99]⟩ : ByteArray)).bind fun bt261 => ((sextonref09_Same.f k t236 (([(⟨(⟨bt255.1, bt255.2.1⟩ : S24), bt255.2.2⟩ : S26), (⟨(⟨bt258.1, bt258.2.1⟩ : S24), bt258.2.2⟩ : S26), (⟨(⟨bt261.1, bt261.2.1⟩ : S24), bt261.2.2⟩ : S26)] : List (S26)))).bind fun t267 => (if t267 = true then (if 1 ≤ (y228.length : Int) then ((sextonref09_Same.f k t239 (y228.drop 1)).bind fun t272 => (if t272 = true then (if 1 ≤ (t236.length : Int) then ((sextonref09_Same.f k bt242.1 (t236.take 1)).bind fun t277 => (if t277 = true then ((sextonref09_Same.f k bt242.2 (t236.drop 1)).bind fun t282 => (if t282 = true then (if bt248.2.2 = 0 then ((sextonref09_Same.f k bt248.1 t236).bind fun t283 => (if t283 = true then (if (bt248.2.1.length : Int) = 0 then ((node_Is.f k t236).bind fun t284 => (if t284 = true then ((sextonlaw09_pair.f (⟨#[98]⟩ : ByteArray)).bind fun bt285 => ((sextonlaw09_pair.f (⟨#[97]⟩ : ByteArray)).bind fun bt288 => ((node_Is.f k (([(⟨(⟨bt285.1, bt285.2.1⟩ : S24), bt285.2.2⟩ : S26), (⟨(⟨bt288.1, bt288.2.1⟩ : S24), bt288.2.2⟩ : S26)] : List (S26)))).bind fun t294 => (some (!t294))))) else (some false))) else (some false)) else (some false))) else (some false)) else (some false))) else (some false))) else (none)) else (some false))) else (none)) else (some false))))))) else (some false))))))) = some r := H
  have A3 := Aside0.mk A30
  clear A30
  replace H := Option.bind_eq_some_iff.mp H
  obtain ⟨⟨t233, t234, t235⟩, A40, H⟩ := H
  replace H : ((node_Put.f k y228 t233 t234 t235).bind fun t236 => ((node_Drop.f k y228 (⟨#[97]⟩ : ByteArray) 0).bind fun t239 => ((node_Split.f k t236).bind fun bt242 => ((node_Level.f k t236 ([] : List (S26)) 3).bind fun bt248 => (if t231 = 1 then (if t232 = true then (some false) else ((sextonlaw09_pair.f (⟨#[97]⟩ : ByteArray)).bind fun bt255 => ((sextonlaw09_pair.f (⟨#[98]⟩ : ByteArray)).bind fun bt258 => ((sextonlaw09_pair.f (⟨#[99]⟩ : ByteArray)).bind fun bt261 => ((sextonref09_Same.f k t236 (([(⟨(⟨bt255.1, bt255.2.1⟩ : S24), bt255.2.2⟩ : S26), (⟨(⟨bt258.1, bt258.2.1⟩ : S24), bt258.2.2⟩ : S26), (⟨(⟨bt261.1, bt261.2.1⟩ : S24), bt261.2.2⟩ : S26)] : List (S26)))).bind fun t267 => (if t267 = true then (if 1 ≤ (y228.length : Int) then ((sextonref09_Same.f k t239 (y228.drop 1)).bind fun t272 => (if t272 = true then (if 1 ≤ (t236.length : Int) then ((sextonref09_Same.f k bt242.1 (t236.take 1)).bind fun t277 => (if t277 = true then ((sextonref09_Same.f k bt242.2 (t236.drop 1)).bind fun t282 => (if t282 = true then (if bt248.2.2 = 0 then ((sextonref09_Same.f k bt248.1 t236).bind fun t283 => (if t283 = true then (if (bt248.2.1.length : Int) = 0 then ((node_Is.f k t236).bind fun t284 => (if t284 = true then ((sextonlaw09_pair.f (⟨#[98]⟩ : ByteArray)).bind fun bt285 => ((sextonlaw09_pair.f (⟨#[97]⟩ : ByteArray)).bind fun bt288 => ((node_Is.f k (([(⟨(⟨bt285.1, bt285.2.1⟩ : S24), bt285.2.2⟩ : S26), (⟨(⟨bt288.1, bt288.2.1⟩ : S24), bt288.2.2⟩ : S26)] : List (S26)))).bind fun t294 => (some (!t294))))) else (some false))) else (some false)) else (some false))) else (some false)) else (some false))) else (some false))) else (none)) else (some false))) else (none)) else (some false))))))) else (some false)))))) = some r := H
  have A4 := Aside0.mk A40
  clear A40
  replace H := Option.bind_eq_some_iff.mp H
  obtain ⟨t236, A50, H⟩ := H
  replace H : ((node_Drop.f k y228 (⟨#[97]⟩ : ByteArray) 0).bind fun t239 => ((node_Split.f k t236).bind fun bt242 => ((node_Level.f k t236 ([] : List (S26)) 3).bind fun bt248 => (if t231 = 1 then (if t232 = true then (some false) else ((sextonlaw09_pair.f (⟨#[97]⟩ : ByteArray)).bind fun bt255 => ((sextonlaw09_pair.f (⟨#[98]⟩ : ByteArray)).bind fun bt258 => ((sextonlaw09_pair.f (⟨#[99]⟩ : ByteArray)).bind fun bt261 => ((sextonref09_Same.f k t236 (([(⟨(⟨bt255.1, bt255.2.1⟩ : S24), bt255.2.2⟩ : S26), (⟨(⟨bt258.1, bt258.2.1⟩ : S24), bt258.2.2⟩ : S26), (⟨(⟨bt261.1, bt261.2.1⟩ : S24), bt261.2.2⟩ : S26)] : List (S26)))).bind fun t267 => (if t267 = true then (if 1 ≤ (y228.length : Int) then ((sextonref09_Same.f k t239 (y228.drop 1)).bind fun t272 => (if t272 = true then (if 1 ≤ (t236.length : Int) then ((sextonref09_Same.f k bt242.1 (t236.take 1)).bind fun t277 => (if t277 = true then ((sextonref09_Same.f k bt242.2 (t236.drop 1)).bind fun t282 => (if t282 = true then (if bt248.2.2 = 0 then ((sextonref09_Same.f k bt248.1 t236).bind fun t283 => (if t283 = true then (if (bt248.2.1.length : Int) = 0 then ((node_Is.f k t236).bind fun t284 => (if t284 = true then ((sextonlaw09_pair.f (⟨#[98]⟩ : ByteArray)).bind fun bt285 => ((sextonlaw09_pair.f (⟨#[97]⟩ : ByteArray)).bind fun bt288 => ((node_Is.f k (([(⟨(⟨bt285.1, bt285.2.1⟩ : S24), bt285.2.2⟩ : S26), (⟨(⟨bt288.1, bt288.2.1⟩ : S24), bt288.2.2⟩ : S26)] : List (S26)))).bind fun t294 => (some (!t294))))) else (some false))) else (some false)) else (some false))) else (some false)) else (some false))) else (some false))) else (none)) else (some false))) else (none)) else (some false))))))) else (some false))))) = some r := H
  have A5 := Aside0.mk A50
  clear A50
  replace H := Option.bind_eq_some_iff.mp H
  obtain ⟨t239, A60, H⟩ := H
  replace H : ((node_Split.f k t236).bind fun bt242 => ((node_Level.f k t236 ([] : List (S26)) 3).bind fun bt248 => (if t231 = 1 then (if t232 = true then (some false) else ((sextonlaw09_pair.f (⟨#[97]⟩ : ByteArray)).bind fun bt255 => ((sextonlaw09_pair.f (⟨#[98]⟩ : ByteArray)).bind fun bt258 => ((sextonlaw09_pair.f (⟨#[99]⟩ : ByteArray)).bind fun bt261 => ((sextonref09_Same.f k t236 (([(⟨(⟨bt255.1, bt255.2.1⟩ : S24), bt255.2.2⟩ : S26), (⟨(⟨bt258.1, bt258.2.1⟩ : S24), bt258.2.2⟩ : S26), (⟨(⟨bt261.1, bt261.2.1⟩ : S24), bt261.2.2⟩ : S26)] : List (S26)))).bind fun t267 => (if t267 = true then (if 1 ≤ (y228.length : Int) then ((sextonref09_Same.f k t239 (y228.drop 1)).bind fun t272 => (if t272 = true then (if 1 ≤ (t236.length : Int) then ((sextonref09_Same.f k bt242.1 (t236.take 1)).bind fun t277 => (if t277 = true then ((sextonref09_Same.f k bt242.2 (t236.drop 1)).bind fun t282 => (if t282 = true then (if bt248.2.2 = 0 then ((sextonref09_Same.f k bt248.1 t236).bind fun t283 => (if t283 = true then (if (bt248.2.1.length : Int) = 0 then ((node_Is.f k t236).bind fun t284 => (if t284 = true then ((sextonlaw09_pair.f (⟨#[98]⟩ : ByteArray)).bind fun bt285 => ((sextonlaw09_pair.f (⟨#[97]⟩ : ByteArray)).bind fun bt288 => ((node_Is.f k (([(⟨(⟨bt285.1, bt285.2.1⟩ : S24), bt285.2.2⟩ : S26), (⟨(⟨bt288.1, bt288.2.1⟩ : S24), bt288.2.2⟩ : S26)] : List (S26)))).bind fun t294 => (some (!t294))))) else (some false))) else (some false)) else (some false))) else (some false)) else (some false))) else (some false))) else (none)) else (some false))) else (none)) else (some false))))))) else (some false)))) = some r := H
  have A6 := Aside0.mk A60
  clear A60
  replace H := Option.bind_eq_some_iff.mp H
  obtain ⟨⟨t242, t245⟩, A70, H⟩ := H
  replace H : ((node_Level.f k t236 ([] : List (S26)) 3).bind fun bt248 => (if t231 = 1 then (if t232 = true then (some false) else ((sextonlaw09_pair.f (⟨#[97]⟩ : ByteArray)).bind fun bt255 => ((sextonlaw09_pair.f (⟨#[98]⟩ : ByteArray)).bind fun bt258 => ((sextonlaw09_pair.f (⟨#[99]⟩ : ByteArray)).bind fun bt261 => ((sextonref09_Same.f k t236 (([(⟨(⟨bt255.1, bt255.2.1⟩ : S24), bt255.2.2⟩ : S26), (⟨(⟨bt258.1, bt258.2.1⟩ : S24), bt258.2.2⟩ : S26), (⟨(⟨bt261.1, bt261.2.1⟩ : S24), bt261.2.2⟩ : S26)] : List (S26)))).bind fun t267 => (if t267 = true then (if 1 ≤ (y228.length : Int) then ((sextonref09_Same.f k t239 (y228.drop 1)).bind fun t272 => (if t272 = true then (if 1 ≤ (t236.length : Int) then ((sextonref09_Same.f k t242 (t236.take 1)).bind fun t277 => (if t277 = true then ((sextonref09_Same.f k t245 (t236.drop 1)).bind fun t282 => (if t282 = true then (if bt248.2.2 = 0 then ((sextonref09_Same.f k bt248.1 t236).bind fun t283 => (if t283 = true then (if (bt248.2.1.length : Int) = 0 then ((node_Is.f k t236).bind fun t284 => (if t284 = true then ((sextonlaw09_pair.f (⟨#[98]⟩ : ByteArray)).bind fun bt285 => ((sextonlaw09_pair.f (⟨#[97]⟩ : ByteArray)).bind fun bt288 => ((node_Is.f k (([(⟨(⟨bt285.1, bt285.2.1⟩ : S24), bt285.2.2⟩ : S26), (⟨(⟨bt288.1, bt288.2.1⟩ : S24), bt288.2.2⟩ : S26)] : List (S26)))).bind fun t294 => (some (!t294))))) else (some false))) else (some false)) else (some false))) else (some false)) else (some false))) else (some false))) else (none)) else (some false))) else (none)) else (some false))))))) else (some false))) = some r := H
  have A7 := Aside0.mk A70
  clear A70
  replace H := Option.bind_eq_some_iff.mp H
  obtain ⟨⟨t248, t251, t254⟩, A80, H⟩ := H
  replace H : (if t231 = 1 then (if t232 = true then (some false) else ((sextonlaw09_pair.f (⟨#[97]⟩ : ByteArray)).bind fun bt255 => ((sextonlaw09_pair.f (⟨#[98]⟩ : ByteArray)).bind fun bt258 => ((sextonlaw09_pair.f (⟨#[99]⟩ : ByteArray)).bind fun bt261 => ((sextonref09_Same.f k t236 (([(⟨(⟨bt255.1, bt255.2.1⟩ : S24), bt255.2.2⟩ : S26), (⟨(⟨bt258.1, bt258.2.1⟩ : S24), bt258.2.2⟩ : S26), (⟨(⟨bt261.1, bt261.2.1⟩ : S24), bt261.2.2⟩ : S26)] : List (S26)))).bind fun t267 => (if t267 = true then (if 1 ≤ (y228.length : Int) then ((sextonref09_Same.f k t239 (y228.drop 1)).bind fun t272 => (if t272 = true then (if 1 ≤ (t236.length : Int) then ((sextonref09_Same.f k t242 (t236.take 1)).bind fun t277 => (if t277 = true then ((sextonref09_Same.f k t245 (t236.drop 1)).bind fun t282 => (if t282 = true then (if t254 = 0 then ((sextonref09_Same.f k t248 t236).bind fun t283 => (if t283 = true then (if (t251.length : Int) = 0 then ((node_Is.f k t236).bind fun t284 => (if t284 = true then ((sextonlaw09_pair.f (⟨#[98]⟩ : ByteArray)).bind fun bt285 => ((sextonlaw09_pair.f (⟨#[97]⟩ : ByteArray)).bind fun bt288 => ((node_Is.f k (([(⟨(⟨bt285.1, bt285.2.1⟩ : S24), bt285.2.2⟩ : S26), (⟨(⟨bt288.1, bt288.2.1⟩ : S24), bt288.2.2⟩ : S26)] : List (S26)))).bind fun t294 => (some (!t294))))) else (some false))) else (some false)) else (some false))) else (some false)) else (some false))) else (some false))) else (none)) else (some false))) else (none)) else (some false))))))) else (some false)) = some r := H
  have A8 := Aside0.mk A80
  clear A80
  by_cases c9 : t231 = 1
  · rw [if_pos c9] at H
    have c9b0 : (t231 == 1) = true := beq_iff_eq.mpr c9
    have c9b1 : (t231 != 1) = false := bne_eq_false_iff_eq.mpr c9
    clear c9
    by_cases c10 : t232 = true
    · subst c10
      have H1 : (some false) = some r := by rw [if_pos rfl] at H; exact H
      exact absurd (H1.trans (congrArg some HRT.out)) (by decide)
    · replace c10 := Bool.eq_false_iff.mpr c10
      subst c10
      have H1 : ((sextonlaw09_pair.f (⟨#[97]⟩ : ByteArray)).bind fun bt255 => ((sextonlaw09_pair.f (⟨#[98]⟩ : ByteArray)).bind fun bt258 => ((sextonlaw09_pair.f (⟨#[99]⟩ : ByteArray)).bind fun bt261 => ((sextonref09_Same.f k t236 (([(⟨(⟨bt255.1, bt255.2.1⟩ : S24), bt255.2.2⟩ : S26), (⟨(⟨bt258.1, bt258.2.1⟩ : S24), bt258.2.2⟩ : S26), (⟨(⟨bt261.1, bt261.2.1⟩ : S24), bt261.2.2⟩ : S26)] : List (S26)))).bind fun t267 => (if t267 = true then (if 1 ≤ (y228.length : Int) then ((sextonref09_Same.f k t239 (y228.drop 1)).bind fun t272 => (if t272 = true then (if 1 ≤ (t236.length : Int) then ((sextonref09_Same.f k t242 (t236.take 1)).bind fun t277 => (if t277 = true then ((sextonref09_Same.f k t245 (t236.drop 1)).bind fun t282 => (if t282 = true then (if t254 = 0 then ((sextonref09_Same.f k t248 t236).bind fun t283 => (if t283 = true then (if (t251.length : Int) = 0 then ((node_Is.f k t236).bind fun t284 => (if t284 = true then ((sextonlaw09_pair.f (⟨#[98]⟩ : ByteArray)).bind fun bt285 => ((sextonlaw09_pair.f (⟨#[97]⟩ : ByteArray)).bind fun bt288 => ((node_Is.f k (([(⟨(⟨bt285.1, bt285.2.1⟩ : S24), bt285.2.2⟩ : S26), (⟨(⟨bt288.1, bt288.2.1⟩ : S24), bt288.2.2⟩ : S26)] : List (S26)))).bind fun t294 => (some (!t294))))) else (some false))) else (some false)) else (some false))) else (some false)) else (some false))) else (some false))) else (none)) else (some false))) else (none)) else (some false)))))) = some r := by rw [if_neg (show ¬ (false = true) by decide)] at H; exact H
      clear H
      have H := H1
      clear H1
      replace H := Option.bind_eq_some_iff.mp H
      obtain ⟨⟨t255, t256, t257⟩, A230, H⟩ := H
      replace H : ((sextonlaw09_pair.f (⟨#[98]⟩ : ByteArray)).bind fun bt258 => ((sextonlaw09_pair.f (⟨#[99]⟩ : ByteArray)).bind fun bt261 => ((sextonref09_Same.f k t236 (([(⟨(⟨t255, t256⟩ : S24), t257⟩ : S26), (⟨(⟨bt258.1, bt258.2.1⟩ : S24), bt258.2.2⟩ : S26), (⟨(⟨bt261.1, bt261.2.1⟩ : S24), bt261.2.2⟩ : S26)] : List (S26)))).bind fun t267 => (if t267 = true then (if 1 ≤ (y228.length : Int) then ((sextonref09_Same.f k t239 (y228.drop 1)).bind fun t272 => (if t272 = true then (if 1 ≤ (t236.length : Int) then ((sextonref09_Same.f k t242 (t236.take 1)).bind fun t277 => (if t277 = true then ((sextonref09_Same.f k t245 (t236.drop 1)).bind fun t282 => (if t282 = true then (if t254 = 0 then ((sextonref09_Same.f k t248 t236).bind fun t283 => (if t283 = true then (if (t251.length : Int) = 0 then ((node_Is.f k t236).bind fun t284 => (if t284 = true then ((sextonlaw09_pair.f (⟨#[98]⟩ : ByteArray)).bind fun bt285 => ((sextonlaw09_pair.f (⟨#[97]⟩ : ByteArray)).bind fun bt288 => ((node_Is.f k (([(⟨(⟨bt285.1, bt285.2.1⟩ : S24), bt285.2.2⟩ : S26), (⟨(⟨bt288.1, bt288.2.1⟩ : S24), bt288.2.2⟩ : S26)] : List (S26)))).bind fun t294 => (some (!t294))))) else (some false))) else (some false)) else (some false))) else (some false)) else (some false))) else (some false))) else (none)) else (some false))) else (none)) else (some false))))) = some r := H
      have A23 := Aside0.mk A230
      clear A230
      replace H := Option.bind_eq_some_iff.mp H
      obtain ⟨⟨t258, t259, t260⟩, A240, H⟩ := H
      replace H : ((sextonlaw09_pair.f (⟨#[99]⟩ : ByteArray)).bind fun bt261 => ((sextonref09_Same.f k t236 (([(⟨(⟨t255, t256⟩ : S24), t257⟩ : S26), (⟨(⟨t258, t259⟩ : S24), t260⟩ : S26), (⟨(⟨bt261.1, bt261.2.1⟩ : S24), bt261.2.2⟩ : S26)] : List (S26)))).bind fun t267 => (if t267 = true then (if 1 ≤ (y228.length : Int) then ((sextonref09_Same.f k t239 (y228.drop 1)).bind fun t272 => (if t272 = true then (if 1 ≤ (t236.length : Int) then ((sextonref09_Same.f k t242 (t236.take 1)).bind fun t277 => (if t277 = true then ((sextonref09_Same.f k t245 (t236.drop 1)).bind fun t282 => (if t282 = true then (if t254 = 0 then ((sextonref09_Same.f k t248 t236).bind fun t283 => (if t283 = true then (if (t251.length : Int) = 0 then ((node_Is.f k t236).bind fun t284 => (if t284 = true then ((sextonlaw09_pair.f (⟨#[98]⟩ : ByteArray)).bind fun bt285 => ((sextonlaw09_pair.f (⟨#[97]⟩ : ByteArray)).bind fun bt288 => ((node_Is.f k (([(⟨(⟨bt285.1, bt285.2.1⟩ : S24), bt285.2.2⟩ : S26), (⟨(⟨bt288.1, bt288.2.1⟩ : S24), bt288.2.2⟩ : S26)] : List (S26)))).bind fun t294 => (some (!t294))))) else (some false))) else (some false)) else (some false))) else (some false)) else (some false))) else (some false))) else (none)) else (some false))) else (none)) else (some false)))) = some r := H
      have A24 := Aside0.mk A240
      clear A240
      replace H := Option.bind_eq_some_iff.mp H
      obtain ⟨⟨t261, t262, t263⟩, A250, H⟩ := H
      replace H : ((sextonref09_Same.f k t236 (([(⟨(⟨t255, t256⟩ : S24), t257⟩ : S26), (⟨(⟨t258, t259⟩ : S24), t260⟩ : S26), (⟨(⟨t261, t262⟩ : S24), t263⟩ : S26)] : List (S26)))).bind fun t267 => (if t267 = true then (if 1 ≤ (y228.length : Int) then ((sextonref09_Same.f k t239 (y228.drop 1)).bind fun t272 => (if t272 = true then (if 1 ≤ (t236.length : Int) then ((sextonref09_Same.f k t242 (t236.take 1)).bind fun t277 => (if t277 = true then ((sextonref09_Same.f k t245 (t236.drop 1)).bind fun t282 => (if t282 = true then (if t254 = 0 then ((sextonref09_Same.f k t248 t236).bind fun t283 => (if t283 = true then (if (t251.length : Int) = 0 then ((node_Is.f k t236).bind fun t284 => (if t284 = true then ((sextonlaw09_pair.f (⟨#[98]⟩ : ByteArray)).bind fun bt285 => ((sextonlaw09_pair.f (⟨#[97]⟩ : ByteArray)).bind fun bt288 => ((node_Is.f k (([(⟨(⟨bt285.1, bt285.2.1⟩ : S24), bt285.2.2⟩ : S26), (⟨(⟨bt288.1, bt288.2.1⟩ : S24), bt288.2.2⟩ : S26)] : List (S26)))).bind fun t294 => (some (!t294))))) else (some false))) else (some false)) else (some false))) else (some false)) else (some false))) else (some false))) else (none)) else (some false))) else (none)) else (some false))) = some r := H
      have A25 := Aside0.mk A250
      clear A250
      obtain ⟨y264, hy264⟩ : ∃ y_ : List (S26), y_ = (([(⟨(⟨t255, t256⟩ : S24), t257⟩ : S26), (⟨(⟨t258, t259⟩ : S24), t260⟩ : S26), (⟨(⟨t261, t262⟩ : S24), t263⟩ : S26)] : List (S26))) := ⟨_, rfl⟩
      replace H : ((sextonref09_Same.f k t236 y264).bind fun t267 => (if t267 = true then (if 1 ≤ (y228.length : Int) then ((sextonref09_Same.f k t239 (y228.drop 1)).bind fun t272 => (if t272 = true then (if 1 ≤ (t236.length : Int) then ((sextonref09_Same.f k t242 (t236.take 1)).bind fun t277 => (if t277 = true then ((sextonref09_Same.f k t245 (t236.drop 1)).bind fun t282 => (if t282 = true then (if t254 = 0 then ((sextonref09_Same.f k t248 t236).bind fun t283 => (if t283 = true then (if (t251.length : Int) = 0 then ((node_Is.f k t236).bind fun t284 => (if t284 = true then ((sextonlaw09_pair.f (⟨#[98]⟩ : ByteArray)).bind fun bt285 => ((sextonlaw09_pair.f (⟨#[97]⟩ : ByteArray)).bind fun bt288 => ((node_Is.f k (([(⟨(⟨bt285.1, bt285.2.1⟩ : S24), bt285.2.2⟩ : S26), (⟨(⟨bt288.1, bt288.2.1⟩ : S24), bt288.2.2⟩ : S26)] : List (S26)))).bind fun t294 => (some (!t294))))) else (some false))) else (some false)) else (some false))) else (some false)) else (some false))) else (some false))) else (none)) else (some false))) else (none)) else (some false))) = some r := by first | (rw [hy264]; with_reducible exact H) | (have H2_ := (Option.bind_some _ _).symm.trans H; rw [hy264]; with_reducible exact H2_) | (have H2_ := (Option.bind_some _ _).symm.trans H; with_reducible exact H2_) | with_reducible exact H | (rw [hy264]; exact H) | exact H
      have Ny264 := Aside0.mk hy264
      clear hy264
      replace H := Option.bind_eq_some_iff.mp H
      obtain ⟨t267, A260, H⟩ := H
      replace H : (if t267 = true then (if 1 ≤ (y228.length : Int) then ((sextonref09_Same.f k t239 (y228.drop 1)).bind fun t272 => (if t272 = true then (if 1 ≤ (t236.length : Int) then ((sextonref09_Same.f k t242 (t236.take 1)).bind fun t277 => (if t277 = true then ((sextonref09_Same.f k t245 (t236.drop 1)).bind fun t282 => (if t282 = true then (if t254 = 0 then ((sextonref09_Same.f k t248 t236).bind fun t283 => (if t283 = true then (if (t251.length : Int) = 0 then ((node_Is.f k t236).bind fun t284 => (if t284 = true then ((sextonlaw09_pair.f (⟨#[98]⟩ : ByteArray)).bind fun bt285 => ((sextonlaw09_pair.f (⟨#[97]⟩ : ByteArray)).bind fun bt288 => ((node_Is.f k (([(⟨(⟨bt285.1, bt285.2.1⟩ : S24), bt285.2.2⟩ : S26), (⟨(⟨bt288.1, bt288.2.1⟩ : S24), bt288.2.2⟩ : S26)] : List (S26)))).bind fun t294 => (some (!t294))))) else (some false))) else (some false)) else (some false))) else (some false)) else (some false))) else (some false))) else (none)) else (some false))) else (none)) else (some false)) = some r := H
      have A26 := Aside0.mk A260
      clear A260
      by_cases c27 : t267 = true
      · subst c27
        have H1 : (if 1 ≤ (y228.length : Int) then ((sextonref09_Same.f k t239 (y228.drop 1)).bind fun t272 => (if t272 = true then (if 1 ≤ (t236.length : Int) then ((sextonref09_Same.f k t242 (t236.take 1)).bind fun t277 => (if t277 = true then ((sextonref09_Same.f k t245 (t236.drop 1)).bind fun t282 => (if t282 = true then (if t254 = 0 then ((sextonref09_Same.f k t248 t236).bind fun t283 => (if t283 = true then (if (t251.length : Int) = 0 then ((node_Is.f k t236).bind fun t284 => (if t284 = true then ((sextonlaw09_pair.f (⟨#[98]⟩ : ByteArray)).bind fun bt285 => ((sextonlaw09_pair.f (⟨#[97]⟩ : ByteArray)).bind fun bt288 => ((node_Is.f k (([(⟨(⟨bt285.1, bt285.2.1⟩ : S24), bt285.2.2⟩ : S26), (⟨(⟨bt288.1, bt288.2.1⟩ : S24), bt288.2.2⟩ : S26)] : List (S26)))).bind fun t294 => (some (!t294))))) else (some false))) else (some false)) else (some false))) else (some false)) else (some false))) else (some false))) else (none)) else (some false))) else (none)) = some r := by rw [if_pos rfl] at H; exact H
        clear H
        have H := H1
        clear H1
        by_cases c28 : 1 ≤ (y228.length : Int)
        · rw [if_pos c28] at H
          have c28b0 := eq_true c28
          have c28b1 : decide (1 ≤ (y228.length : Int)) = true := decide_eq_true c28
          clear c28
          obtain ⟨y268, hy268⟩ : ∃ y_ : List (S26), y_ = (y228.drop 1) := ⟨_, rfl⟩
          replace H : ((sextonref09_Same.f k t239 y268).bind fun t272 => (if t272 = true then (if 1 ≤ (t236.length : Int) then ((sextonref09_Same.f k t242 (t236.take 1)).bind fun t277 => (if t277 = true then ((sextonref09_Same.f k t245 (t236.drop 1)).bind fun t282 => (if t282 = true then (if t254 = 0 then ((sextonref09_Same.f k t248 t236).bind fun t283 => (if t283 = true then (if (t251.length : Int) = 0 then ((node_Is.f k t236).bind fun t284 => (if t284 = true then ((sextonlaw09_pair.f (⟨#[98]⟩ : ByteArray)).bind fun bt285 => ((sextonlaw09_pair.f (⟨#[97]⟩ : ByteArray)).bind fun bt288 => ((node_Is.f k (([(⟨(⟨bt285.1, bt285.2.1⟩ : S24), bt285.2.2⟩ : S26), (⟨(⟨bt288.1, bt288.2.1⟩ : S24), bt288.2.2⟩ : S26)] : List (S26)))).bind fun t294 => (some (!t294))))) else (some false))) else (some false)) else (some false))) else (some false)) else (some false))) else (some false))) else (none)) else (some false))) = some r := by first | (rw [hy268]; with_reducible exact H) | (have H2_ := (Option.bind_some _ _).symm.trans H; rw [hy268]; with_reducible exact H2_) | (have H2_ := (Option.bind_some _ _).symm.trans H; with_reducible exact H2_) | with_reducible exact H | (rw [hy268]; exact H) | exact H
          have Ny268 := Aside0.mk hy268
          clear hy268
          replace H := Option.bind_eq_some_iff.mp H
          obtain ⟨t272, A290, H⟩ := H
          replace H : (if t272 = true then (if 1 ≤ (t236.length : Int) then ((sextonref09_Same.f k t242 (t236.take 1)).bind fun t277 => (if t277 = true then ((sextonref09_Same.f k t245 (t236.drop 1)).bind fun t282 => (if t282 = true then (if t254 = 0 then ((sextonref09_Same.f k t248 t236).bind fun t283 => (if t283 = true then (if (t251.length : Int) = 0 then ((node_Is.f k t236).bind fun t284 => (if t284 = true then ((sextonlaw09_pair.f (⟨#[98]⟩ : ByteArray)).bind fun bt285 => ((sextonlaw09_pair.f (⟨#[97]⟩ : ByteArray)).bind fun bt288 => ((node_Is.f k (([(⟨(⟨bt285.1, bt285.2.1⟩ : S24), bt285.2.2⟩ : S26), (⟨(⟨bt288.1, bt288.2.1⟩ : S24), bt288.2.2⟩ : S26)] : List (S26)))).bind fun t294 => (some (!t294))))) else (some false))) else (some false)) else (some false))) else (some false)) else (some false))) else (some false))) else (none)) else (some false)) = some r := H
          have A29 := Aside0.mk A290
          clear A290
          by_cases c30 : t272 = true
          · subst c30
            have H1 : (if 1 ≤ (t236.length : Int) then ((sextonref09_Same.f k t242 (t236.take 1)).bind fun t277 => (if t277 = true then ((sextonref09_Same.f k t245 (t236.drop 1)).bind fun t282 => (if t282 = true then (if t254 = 0 then ((sextonref09_Same.f k t248 t236).bind fun t283 => (if t283 = true then (if (t251.length : Int) = 0 then ((node_Is.f k t236).bind fun t284 => (if t284 = true then ((sextonlaw09_pair.f (⟨#[98]⟩ : ByteArray)).bind fun bt285 => ((sextonlaw09_pair.f (⟨#[97]⟩ : ByteArray)).bind fun bt288 => ((node_Is.f k (([(⟨(⟨bt285.1, bt285.2.1⟩ : S24), bt285.2.2⟩ : S26), (⟨(⟨bt288.1, bt288.2.1⟩ : S24), bt288.2.2⟩ : S26)] : List (S26)))).bind fun t294 => (some (!t294))))) else (some false))) else (some false)) else (some false))) else (some false)) else (some false))) else (some false))) else (none)) = some r := by rw [if_pos rfl] at H; exact H
            clear H
            have H := H1
            clear H1
            by_cases c31 : 1 ≤ (t236.length : Int)
            · rw [if_pos c31] at H
              have c31b0 := eq_true c31
              have c31b1 : decide (1 ≤ (t236.length : Int)) = true := decide_eq_true c31
              clear c31
              obtain ⟨y273, hy273⟩ : ∃ y_ : List (S26), y_ = (t236.take 1) := ⟨_, rfl⟩
              replace H : ((sextonref09_Same.f k t242 y273).bind fun t277 => (if t277 = true then ((sextonref09_Same.f k t245 (t236.drop 1)).bind fun t282 => (if t282 = true then (if t254 = 0 then ((sextonref09_Same.f k t248 t236).bind fun t283 => (if t283 = true then (if (t251.length : Int) = 0 then ((node_Is.f k t236).bind fun t284 => (if t284 = true then ((sextonlaw09_pair.f (⟨#[98]⟩ : ByteArray)).bind fun bt285 => ((sextonlaw09_pair.f (⟨#[97]⟩ : ByteArray)).bind fun bt288 => ((node_Is.f k (([(⟨(⟨bt285.1, bt285.2.1⟩ : S24), bt285.2.2⟩ : S26), (⟨(⟨bt288.1, bt288.2.1⟩ : S24), bt288.2.2⟩ : S26)] : List (S26)))).bind fun t294 => (some (!t294))))) else (some false))) else (some false)) else (some false))) else (some false)) else (some false))) else (some false))) = some r := by first | (rw [hy273]; with_reducible exact H) | (have H2_ := (Option.bind_some _ _).symm.trans H; rw [hy273]; with_reducible exact H2_) | (have H2_ := (Option.bind_some _ _).symm.trans H; with_reducible exact H2_) | with_reducible exact H | (rw [hy273]; exact H) | exact H
              have Ny273 := Aside0.mk hy273
              clear hy273
              replace H := Option.bind_eq_some_iff.mp H
              obtain ⟨t277, A320, H⟩ := H
              replace H : (if t277 = true then ((sextonref09_Same.f k t245 (t236.drop 1)).bind fun t282 => (if t282 = true then (if t254 = 0 then ((sextonref09_Same.f k t248 t236).bind fun t283 => (if t283 = true then (if (t251.length : Int) = 0 then ((node_Is.f k t236).bind fun t284 => (if t284 = true then ((sextonlaw09_pair.f (⟨#[98]⟩ : ByteArray)).bind fun bt285 => ((sextonlaw09_pair.f (⟨#[97]⟩ : ByteArray)).bind fun bt288 => ((node_Is.f k (([(⟨(⟨bt285.1, bt285.2.1⟩ : S24), bt285.2.2⟩ : S26), (⟨(⟨bt288.1, bt288.2.1⟩ : S24), bt288.2.2⟩ : S26)] : List (S26)))).bind fun t294 => (some (!t294))))) else (some false))) else (some false)) else (some false))) else (some false)) else (some false))) else (some false)) = some r := H
              have A32 := Aside0.mk A320
              clear A320
              by_cases c33 : t277 = true
              · subst c33
                have H1 : ((sextonref09_Same.f k t245 (t236.drop 1)).bind fun t282 => (if t282 = true then (if t254 = 0 then ((sextonref09_Same.f k t248 t236).bind fun t283 => (if t283 = true then (if (t251.length : Int) = 0 then ((node_Is.f k t236).bind fun t284 => (if t284 = true then ((sextonlaw09_pair.f (⟨#[98]⟩ : ByteArray)).bind fun bt285 => ((sextonlaw09_pair.f (⟨#[97]⟩ : ByteArray)).bind fun bt288 => ((node_Is.f k (([(⟨(⟨bt285.1, bt285.2.1⟩ : S24), bt285.2.2⟩ : S26), (⟨(⟨bt288.1, bt288.2.1⟩ : S24), bt288.2.2⟩ : S26)] : List (S26)))).bind fun t294 => (some (!t294))))) else (some false))) else (some false)) else (some false))) else (some false)) else (some false))) = some r := by rw [if_pos rfl] at H; exact H
                clear H
                have H := H1
                clear H1
                have c34b0 := eq_true (of_decide_eq_true (by first | (with_reducible assumption) | assumption) : 1 ≤ (t236.length : Int))
                obtain ⟨y278, hy278⟩ : ∃ y_ : List (S26), y_ = (t236.drop 1) := ⟨_, rfl⟩
                replace H : ((sextonref09_Same.f k t245 y278).bind fun t282 => (if t282 = true then (if t254 = 0 then ((sextonref09_Same.f k t248 t236).bind fun t283 => (if t283 = true then (if (t251.length : Int) = 0 then ((node_Is.f k t236).bind fun t284 => (if t284 = true then ((sextonlaw09_pair.f (⟨#[98]⟩ : ByteArray)).bind fun bt285 => ((sextonlaw09_pair.f (⟨#[97]⟩ : ByteArray)).bind fun bt288 => ((node_Is.f k (([(⟨(⟨bt285.1, bt285.2.1⟩ : S24), bt285.2.2⟩ : S26), (⟨(⟨bt288.1, bt288.2.1⟩ : S24), bt288.2.2⟩ : S26)] : List (S26)))).bind fun t294 => (some (!t294))))) else (some false))) else (some false)) else (some false))) else (some false)) else (some false))) = some r := by first | (rw [hy278]; with_reducible exact H) | (have H2_ := (Option.bind_some _ _).symm.trans H; rw [hy278]; with_reducible exact H2_) | (have H2_ := (Option.bind_some _ _).symm.trans H; with_reducible exact H2_) | with_reducible exact H | (rw [hy278]; exact H) | exact H
                have Ny278 := Aside0.mk hy278
                clear hy278
                replace H := Option.bind_eq_some_iff.mp H
                obtain ⟨t282, A350, H⟩ := H
                replace H : (if t282 = true then (if t254 = 0 then ((sextonref09_Same.f k t248 t236).bind fun t283 => (if t283 = true then (if (t251.length : Int) = 0 then ((node_Is.f k t236).bind fun t284 => (if t284 = true then ((sextonlaw09_pair.f (⟨#[98]⟩ : ByteArray)).bind fun bt285 => ((sextonlaw09_pair.f (⟨#[97]⟩ : ByteArray)).bind fun bt288 => ((node_Is.f k (([(⟨(⟨bt285.1, bt285.2.1⟩ : S24), bt285.2.2⟩ : S26), (⟨(⟨bt288.1, bt288.2.1⟩ : S24), bt288.2.2⟩ : S26)] : List (S26)))).bind fun t294 => (some (!t294))))) else (some false))) else (some false)) else (some false))) else (some false)) else (some false)) = some r := H
                have A35 := Aside0.mk A350
                clear A350
                by_cases c36 : t282 = true
                · subst c36
                  have H1 : (if t254 = 0 then ((sextonref09_Same.f k t248 t236).bind fun t283 => (if t283 = true then (if (t251.length : Int) = 0 then ((node_Is.f k t236).bind fun t284 => (if t284 = true then ((sextonlaw09_pair.f (⟨#[98]⟩ : ByteArray)).bind fun bt285 => ((sextonlaw09_pair.f (⟨#[97]⟩ : ByteArray)).bind fun bt288 => ((node_Is.f k (([(⟨(⟨bt285.1, bt285.2.1⟩ : S24), bt285.2.2⟩ : S26), (⟨(⟨bt288.1, bt288.2.1⟩ : S24), bt288.2.2⟩ : S26)] : List (S26)))).bind fun t294 => (some (!t294))))) else (some false))) else (some false)) else (some false))) else (some false)) = some r := by rw [if_pos rfl] at H; exact H
                  clear H
                  have H := H1
                  clear H1
                  by_cases c37 : t254 = 0
                  · rw [if_pos c37] at H
                    have c37b0 : (t254 == 0) = true := beq_iff_eq.mpr c37
                    have c37b1 : (t254 != 0) = false := bne_eq_false_iff_eq.mpr c37
                    clear c37
                    replace H := Option.bind_eq_some_iff.mp H
                    obtain ⟨t283, A380, H⟩ := H
                    replace H : (if t283 = true then (if (t251.length : Int) = 0 then ((node_Is.f k t236).bind fun t284 => (if t284 = true then ((sextonlaw09_pair.f (⟨#[98]⟩ : ByteArray)).bind fun bt285 => ((sextonlaw09_pair.f (⟨#[97]⟩ : ByteArray)).bind fun bt288 => ((node_Is.f k (([(⟨(⟨bt285.1, bt285.2.1⟩ : S24), bt285.2.2⟩ : S26), (⟨(⟨bt288.1, bt288.2.1⟩ : S24), bt288.2.2⟩ : S26)] : List (S26)))).bind fun t294 => (some (!t294))))) else (some false))) else (some false)) else (some false)) = some r := H
                    have A38 := Aside0.mk A380
                    clear A380
                    by_cases c39 : t283 = true
                    · subst c39
                      have H1 : (if (t251.length : Int) = 0 then ((node_Is.f k t236).bind fun t284 => (if t284 = true then ((sextonlaw09_pair.f (⟨#[98]⟩ : ByteArray)).bind fun bt285 => ((sextonlaw09_pair.f (⟨#[97]⟩ : ByteArray)).bind fun bt288 => ((node_Is.f k (([(⟨(⟨bt285.1, bt285.2.1⟩ : S24), bt285.2.2⟩ : S26), (⟨(⟨bt288.1, bt288.2.1⟩ : S24), bt288.2.2⟩ : S26)] : List (S26)))).bind fun t294 => (some (!t294))))) else (some false))) else (some false)) = some r := by rw [if_pos rfl] at H; exact H
                      clear H
                      have H := H1
                      clear H1
                      by_cases c40 : (t251.length : Int) = 0
                      · rw [if_pos c40] at H
                        have c40b0 : ((t251.length : Int) == 0) = true := beq_iff_eq.mpr c40
                        have c40b1 : ((t251.length : Int) != 0) = false := bne_eq_false_iff_eq.mpr c40
                        clear c40
                        replace H := Option.bind_eq_some_iff.mp H
                        obtain ⟨t284, A410, H⟩ := H
                        replace H : (if t284 = true then ((sextonlaw09_pair.f (⟨#[98]⟩ : ByteArray)).bind fun bt285 => ((sextonlaw09_pair.f (⟨#[97]⟩ : ByteArray)).bind fun bt288 => ((node_Is.f k (([(⟨(⟨bt285.1, bt285.2.1⟩ : S24), bt285.2.2⟩ : S26), (⟨(⟨bt288.1, bt288.2.1⟩ : S24), bt288.2.2⟩ : S26)] : List (S26)))).bind fun t294 => (some (!t294))))) else (some false)) = some r := H
                        have A41 := Aside0.mk A410
                        clear A410
                        by_cases c42 : t284 = true
                        · subst c42
                          have H1 : ((sextonlaw09_pair.f (⟨#[98]⟩ : ByteArray)).bind fun bt285 => ((sextonlaw09_pair.f (⟨#[97]⟩ : ByteArray)).bind fun bt288 => ((node_Is.f k (([(⟨(⟨bt285.1, bt285.2.1⟩ : S24), bt285.2.2⟩ : S26), (⟨(⟨bt288.1, bt288.2.1⟩ : S24), bt288.2.2⟩ : S26)] : List (S26)))).bind fun t294 => (some (!t294))))) = some r := by rw [if_pos rfl] at H; exact H
                          clear H
                          have H := H1
                          clear H1
                          replace H := Option.bind_eq_some_iff.mp H
                          obtain ⟨⟨t285, t286, t287⟩, A430, H⟩ := H
                          replace H : ((sextonlaw09_pair.f (⟨#[97]⟩ : ByteArray)).bind fun bt288 => ((node_Is.f k (([(⟨(⟨t285, t286⟩ : S24), t287⟩ : S26), (⟨(⟨bt288.1, bt288.2.1⟩ : S24), bt288.2.2⟩ : S26)] : List (S26)))).bind fun t294 => (some (!t294)))) = some r := H
                          have A43 := Aside0.mk A430
                          clear A430
                          replace H := Option.bind_eq_some_iff.mp H
                          obtain ⟨⟨t288, t289, t290⟩, A440, H⟩ := H
                          replace H : ((node_Is.f k (([(⟨(⟨t285, t286⟩ : S24), t287⟩ : S26), (⟨(⟨t288, t289⟩ : S24), t290⟩ : S26)] : List (S26)))).bind fun t294 => (some (!t294))) = some r := H
                          have A44 := Aside0.mk A440
                          clear A440
                          obtain ⟨y291, hy291⟩ : ∃ y_ : List (S26), y_ = (([(⟨(⟨t285, t286⟩ : S24), t287⟩ : S26), (⟨(⟨t288, t289⟩ : S24), t290⟩ : S26)] : List (S26))) := ⟨_, rfl⟩
                          replace H : ((node_Is.f k y291).bind fun t294 => (some (!t294))) = some r := by first | (rw [hy291]; with_reducible exact H) | (have H2_ := (Option.bind_some _ _).symm.trans H; rw [hy291]; with_reducible exact H2_) | (have H2_ := (Option.bind_some _ _).symm.trans H; with_reducible exact H2_) | with_reducible exact H | (rw [hy291]; exact H) | exact H
                          have Ny291 := Aside0.mk hy291
                          clear hy291
                          replace H := Option.bind_eq_some_iff.mp H
                          obtain ⟨t294, A450, H⟩ := H
                          replace H : (some (!t294)) = some r := H
                          have A45 := Aside0.mk A450
                          clear A450
                          obtain rfl := Option.some.inj H
                          go_enter Try.func29, Try.ntmps29
                          go_wp2_with (first | ((with_reducible refine gate_callee (f := 49) rfl ?_); refine goesL_ (some 11) rfl rfl Try.func49 (by kernel_rfl) rfl #[.string (⟨#[97]⟩ : ByteArray)] rfl (by (try simp only [List.map_toArray, List.map_cons, List.map_nil]); first | done | rfl | (simp only [List.length_drop, List.length_take]; rfl)) ?_; (with_reducible refine (sextonlaw09_pair.calls (⟨#[97]⟩ : ByteArray) t222 t223 t224 _ A1.out).mono ?_); rintro e w46 ⟨rfl, hb⟩; refine ⟨_, rfl, ?_⟩; have n0_ := Aside0.mk (below_step (by repeat (first | (with_reducible first | exact HB.out | apply below_alloc | apply pw_below_drewN | apply below_drew1) | exact HB.out)) hb); clear HB; have HB := n0_; clear n0_; (try clear hb); (try clear hb2); (try clear hk); (try clear hi); go_wp2_with (first | ((with_reducible refine gate_callee (f := 49) rfl ?_); refine goesL_ (some 12) rfl rfl Try.func49 (by kernel_rfl) rfl #[.string (⟨#[99]⟩ : ByteArray)] rfl (by (try simp only [List.map_toArray, List.map_cons, List.map_nil]); first | done | rfl | (simp only [List.length_drop, List.length_take]; rfl)) ?_; (with_reducible refine (sextonlaw09_pair.calls (⟨#[99]⟩ : ByteArray) t225 t226 t227 _ A2.out).mono ?_); rintro e w47 ⟨rfl, hb⟩; refine ⟨_, rfl, ?_⟩; have n0_ := Aside0.mk (below_step (by repeat (first | (with_reducible first | exact HB.out | apply below_alloc | apply pw_below_drewN | apply below_drew1) | exact HB.out)) hb); clear HB; have HB := n0_; clear n0_; (try clear hb); (try clear hb2); (try clear hk); (try clear hi); go_wp2_with (first | ((with_reducible refine gate_dst (N := 13) rfl ?_); (try (refine gate_guard (by rfl) ?_; dsimp only)); refine Kd.R_lit k26 _ 26 ?hg (N := 13) ?hd (xs := ([(⟨(⟨t222, t223⟩ : S24), t224⟩ : S26), (⟨(⟨t225, t226⟩ : S24), t227⟩ : S26)] : List (S26))) (inner := [.string t222, .int .i64 t223, .string t224, .string t225, .int .i64 t226, .string t227]) (ok := fun _ => True) (okp := fun _ => True) ?hr ?hp (fun _ hk => hk) trivial (Below.refl _ _) (Nat.le_refl _) (by simp) ?_; (case hd => rfl); (case hg => rfl); (case hr => first | (go_simp; done) | (go_simp; rfl)); (case hp => exact (Reps.c3 (show Kd.M k26 _ _ _ (⟨(⟨t222, t223⟩ : S24), t224⟩ : S26) [.string t222, .int .i64 t223, .string t224] from (k26_mkM _ _ _ (⟨(⟨t222, t223⟩ : S24), t224⟩ : S26) )) (Reps.c3 (show Kd.M k26 _ _ _ (⟨(⟨t225, t226⟩ : S24), t227⟩ : S26) [.string t225, .int .i64 t226, .string t227] from (k26_mkM _ _ _ (⟨(⟨t225, t226⟩ : S24), t227⟩ : S26) )) (Reps.none _ _)))); intro v229 w48 ho49 hb hg_ hnew_; clear hg_ hnew_; (first | rw [← Ny228.out] at ho49 | (simp only [Int.reduceToNat] at ho49; rw [← Ny228.out] at ho49)); have n0_ := Aside0.mk (Kd.R_lower ho49 (below_size (by repeat (first | (with_reducible first | exact HB.out | apply below_alloc | apply pw_below_drewN | apply below_drew1) | exact HB.out)))); have n1_ := Aside0.mk (below_step (by repeat (first | (with_reducible first | exact HB.out | apply below_alloc | apply pw_below_drewN | apply below_drew1) | exact HB.out)) hb); clear HB; have HO230 := n0_; have HB := n1_; clear n0_ n1_; clear hb ho49; obtain ⟨Ao50, co50, eo50⟩ := Kd.R_slice HO230.out; subst eo50; go_wp2_with (first | ((with_reducible refine gate_callee (f := 15) rfl ?_); refine goesL_ (some 17) rfl rfl Try.func15 (by kernel_rfl) rfl #[.slice Ao50 y228.length co50, .agg #[.string (⟨#[98]⟩ : ByteArray), .int .i64 0]] rfl (by (try simp only [List.map_toArray, List.map_cons, List.map_nil]); first | done | rfl | (simp only [List.length_drop, List.length_take]; rfl)) ?_; (with_reducible refine (node_Find.calls _ _ y228 (⟨#[98]⟩ : ByteArray) 0 t231 false _ ?side1 ?side2 A3.out).mono ?_); (case side1 => repeat (first | exact (Kd.R_reads' HO230.out).2.2 | (with_reducible refine Kd.C_alloc ?_ _) | (with_reducible refine Kd.C_drewN ?_ _) | (with_reducible refine Kd.C_drew ?_))); (case side2 => exact (Kd.R_reads' HO230.out).2.1); rintro e w51 ⟨rfl, hb⟩; refine ⟨_, rfl, ?_⟩; have n0_ := Aside0.mk (Kd.R_below (by (with_reducible repeat (first | apply Kd.R_alloc | apply Kd.R_drewN | apply Kd.R_drew)); exact HO230.out) hb); have n1_ := Aside0.mk (below_step (by repeat (first | (with_reducible first | exact HB.out | apply below_alloc | apply pw_below_drewN | apply below_drew1) | exact HB.out)) hb); clear HO230; clear HB; have HO230 := n0_; have HB := n1_; clear n0_ n1_; (try clear hb); (try clear hb2); (try clear hk); (try clear hi); go_wp2_with (first | ((with_reducible refine gate_callee (f := 49) rfl ?_); refine goesL_ (some 21) rfl rfl Try.func49 (by kernel_rfl) rfl #[.string (⟨#[98]⟩ : ByteArray)] rfl (by (try simp only [List.map_toArray, List.map_cons, List.map_nil]); first | done | rfl | (simp only [List.length_drop, List.length_take]; rfl)) ?_; (with_reducible refine (sextonlaw09_pair.calls (⟨#[98]⟩ : ByteArray) t233 t234 t235 _ A4.out).mono ?_); rintro e w52 ⟨rfl, hb⟩; refine ⟨_, rfl, ?_⟩; have n0_ := Aside0.mk (Kd.R_below (by (with_reducible repeat (first | apply Kd.R_alloc | apply Kd.R_drewN | apply Kd.R_drew)); exact HO230.out) hb); have n1_ := Aside0.mk (below_step (by repeat (first | (with_reducible first | exact HB.out | apply below_alloc | apply pw_below_drewN | apply below_drew1) | exact HB.out)) hb); clear HO230; clear HB; have HO230 := n0_; have HB := n1_; clear n0_ n1_; (try clear hb); (try clear hb2); (try clear hk); (try clear hi); go_wp2_with (first | ((with_reducible refine gate_callee (f := 17) rfl ?_); refine goesL_ (some 22) rfl rfl Try.func17 (by kernel_rfl) rfl #[.slice Ao50 y228.length co50, .agg #[.string t233, .int .i64 t234, .string t235]] rfl (by (try simp only [List.map_toArray, List.map_cons, List.map_nil]); first | done | rfl | (simp only [List.length_drop, List.length_take]; rfl)) ?_; (with_reducible refine (node_Put.calls k (fun k_ => some k_ = (.slice Ao50 y228.length co50 : Value).ownBlock) _ _ y228 t233 t234 t235 t236 _ ?side1 A5.out).mono ?_); (case side1 => exact Kd.R_V (Kd.R_tight rfl (HO230.out))); rintro e w53 ⟨v237, rfl, ho0, hb⟩; refine ⟨_, rfl, ?_⟩; have n0_ := Aside0.mk (Kd.R_elder' (by (with_reducible repeat (first | apply Kd.R_alloc | apply Kd.R_drewN | apply Kd.R_drew)); exact HO230.out) (Kd.R_base ho0) hb); have n1_ := Aside0.mk (Kd.R_lower (Kd.R_new' (Kd.R_mono (ok' := fun k_ => True) ho0 (fun _ hk_ => trivial)) (Kd.R_lt (by (with_reducible repeat (first | apply Kd.R_alloc | apply Kd.R_drewN | apply Kd.R_drew)); exact HO230.out))) (below_size (by repeat (first | (with_reducible first | exact HB.out | apply below_alloc | apply pw_below_drewN | apply below_drew1) | exact HB.out)))); have n2_ := Aside0.mk (below_step (by repeat (first | (with_reducible first | exact HB.out | apply below_alloc | apply pw_below_drewN | apply below_drew1) | exact HB.out)) hb); clear HO230; clear HB; have HO230 := n0_; have HO238 := n1_; have HB := n2_; clear n0_ n1_ n2_; (try clear hb); (try clear hb2); (try clear hk); (try clear hi); (try clear ho0); go_wp2_with (first | ((with_reducible refine gate_callee (f := 19) rfl ?_); refine goesL_ (some 25) rfl rfl Try.func19 (by kernel_rfl) rfl #[.slice Ao50 y228.length co50, .agg #[.string (⟨#[97]⟩ : ByteArray), .int .i64 0]] rfl (by (try simp only [List.map_toArray, List.map_cons, List.map_nil]); first | done | rfl | (simp only [List.length_drop, List.length_take]; rfl)) ?_; (with_reducible refine (node_Drop.calls k (fun k_ => some k_ = (.slice Ao50 y228.length co50 : Value).ownBlock) _ _ y228 (⟨#[97]⟩ : ByteArray) 0 t239 _ ?side1 A6.out).mono ?_); (case side1 => exact Kd.R_V (Kd.R_tight rfl (HO230.out))); rintro e w54 ⟨v240, rfl, ho0, hb⟩; refine ⟨_, rfl, ?_⟩; have n0_ := Aside0.mk (Kd.R_elder' (by (with_reducible repeat (first | apply Kd.R_alloc | apply Kd.R_drewN | apply Kd.R_drew)); exact HO230.out) (Kd.R_base ho0) hb); have n1_ := Aside0.mk (Kd.R_elder' (by (with_reducible repeat (first | apply Kd.R_alloc | apply Kd.R_drewN | apply Kd.R_drew)); exact HO238.out) (Kd.R_base ho0) hb); have n2_ := Aside0.mk (Kd.R_lower (Kd.R_new' (Kd.R_new' (Kd.R_mono (ok' := fun k_ => True) ho0 (fun _ hk_ => trivial)) (Kd.R_lt (by (with_reducible repeat (first | apply Kd.R_alloc | apply Kd.R_drewN | apply Kd.R_drew)); exact HO230.out))) (Kd.R_lt (by (with_reducible repeat (first | apply Kd.R_alloc | apply Kd.R_drewN | apply Kd.R_drew)); exact HO238.out))) (below_size (by repeat (first | (with_reducible first | exact HB.out | apply below_alloc | apply pw_below_drewN | apply below_drew1) | exact HB.out)))); have n3_ := Aside0.mk (below_step (by repeat (first | (with_reducible first | exact HB.out | apply below_alloc | apply pw_below_drewN | apply below_drew1) | exact HB.out)) hb); clear HO230; clear HO238; clear HB; have HO230 := n0_; have HO238 := n1_; have HO241 := n2_; have HB := n3_; clear n0_ n1_ n2_ n3_; (try clear hb); (try clear hb2); (try clear hk); (try clear hi); (try clear ho0); obtain ⟨Ao55, co55, eo55⟩ := Kd.R_slice HO238.out; subst eo55; go_wp2_with (first | ((with_reducible refine gate_callee (f := 21) rfl ?_); refine goesL_ (some 28) rfl rfl Try.func21 (by kernel_rfl) rfl #[.slice Ao55 t236.length co55] rfl (by (try simp only [List.map_toArray, List.map_cons, List.map_nil]); first | done | rfl | (simp only [List.length_drop, List.length_take]; rfl)) ?_; (with_reducible refine (node_Split.calls k (fun k_ => some k_ = (.slice Ao55 t236.length co55 : Value).ownBlock) _ _ t236 t242 t245 _ ?side1 A7.out).mono ?_); (case side1 => exact Kd.R_V (Kd.R_tight rfl (HO238.out))); rintro e w56 ⟨v243, v246, rfl, ho0, ho1, hb⟩; refine ⟨_, rfl, ?_⟩; have n0_ := Aside0.mk (Kd.R_mono (Kd.R_told (Kd.R_told (Kd.R_old (by (with_reducible repeat (first | apply Kd.R_alloc | apply Kd.R_drewN | apply Kd.R_drew)); exact HO230.out) hb) (Kd.R_base ho0)) (Kd.R_base ho1)) (fun _ h_ => h_.1)); have n1_ := Aside0.mk (Kd.R_mono (Kd.R_told (Kd.R_told (Kd.R_old (by (with_reducible repeat (first | apply Kd.R_alloc | apply Kd.R_drewN | apply Kd.R_drew)); exact HO238.out) hb) (Kd.R_base ho0)) (Kd.R_base ho1)) (fun _ h_ => h_.1)); have n2_ := Aside0.mk (Kd.R_mono (Kd.R_told (Kd.R_told (Kd.R_old (by (with_reducible repeat (first | apply Kd.R_alloc | apply Kd.R_drewN | apply Kd.R_drew)); exact HO241.out) hb) (Kd.R_base ho0)) (Kd.R_base ho1)) (fun _ h_ => h_.1)); have n3_ := Aside0.mk (Kd.R_lower (Kd.R_new' (Kd.R_new' (Kd.R_new' (Kd.R_mono (ok' := fun k_ => some k_ ≠ (v246 : Value).ownBlock) ho0 (fun _ hk_ => hk_.2)) (Kd.R_lt (by (with_reducible repeat (first | apply Kd.R_alloc | apply Kd.R_drewN | apply Kd.R_drew)); exact HO230.out))) (Kd.R_lt (by (with_reducible repeat (first | apply Kd.R_alloc | apply Kd.R_drewN | apply Kd.R_drew)); exact HO238.out))) (Kd.R_lt (by (with_reducible repeat (first | apply Kd.R_alloc | apply Kd.R_drewN | apply Kd.R_drew)); exact HO241.out))) (below_size (by repeat (first | (with_reducible first | exact HB.out | apply below_alloc | apply pw_below_drewN | apply below_drew1) | exact HB.out)))); have n4_ := Aside0.mk (Kd.R_lower (Kd.R_new' (Kd.R_new' (Kd.R_new' (Kd.R_mono (ok' := fun k_ => some k_ ≠ (v243 : Value).ownBlock) ho1 (fun _ hk_ => hk_.2)) (Kd.R_lt (by (with_reducible repeat (first | apply Kd.R_alloc | apply Kd.R_drewN | apply Kd.R_drew)); exact HO230.out))) (Kd.R_lt (by (with_reducible repeat (first | apply Kd.R_alloc | apply Kd.R_drewN | apply Kd.R_drew)); exact HO238.out))) (Kd.R_lt (by (with_reducible repeat (first | apply Kd.R_alloc | apply Kd.R_drewN | apply Kd.R_drew)); exact HO241.out))) (below_size (by repeat (first | (with_reducible first | exact HB.out | apply below_alloc | apply pw_below_drewN | apply below_drew1) | exact HB.out)))); have n5_ := Aside0.mk (below_step (by repeat (first | (with_reducible first | exact HB.out | apply below_alloc | apply pw_below_drewN | apply below_drew1) | exact HB.out)) hb); clear HO230; clear HO238; clear HO241; clear HB; have HO230 := n0_; have HO238 := n1_; have HO241 := n2_; have HO244 := n3_; have HO247 := n4_; have HB := n5_; clear n0_ n1_ n2_ n3_ n4_ n5_; (try clear hb); (try clear hb2); (try clear hk); (try clear hi); (try clear ho0); (try clear ho1); go_wp2_with (first | ((with_reducible refine gate_callee (f := 23) rfl ?_); refine goesL_ (some 33) rfl rfl Try.func23 (by kernel_rfl) rfl #[.slice Ao55 t236.length co55, .slice none 0 0, .int .i64 3] rfl (by (try simp only [List.map_toArray, List.map_cons, List.map_nil]); first | done | rfl | (simp only [List.length_drop, List.length_take]; rfl)) ?_; (refine (node_Level.calls k (fun k_ => some k_ = (.slice Ao55 t236.length co55 : Value).ownBlock) _ _ t236 (fun k_ => False) _ _ ([] : List (S26)) 3 t248 t251 t254 _ ?side1 ?side2 A8.out).mono ?_); (case side1 => exact Kd.R_V (Kd.R_tight rfl (HO238.out))); (case side2 => exact Kd.V_nil _ _ _ _ _); rintro e w57 ⟨v249, v252, rfl, ho0, ho1, hb⟩; refine ⟨_, rfl, ?_⟩; have n0_ := Aside0.mk (Kd.R_mono (Kd.R_told (Kd.R_told (Kd.R_old (by (with_reducible repeat (first | apply Kd.R_alloc | apply Kd.R_drewN | apply Kd.R_drew)); exact HO230.out) hb) (Kd.R_base ho0)) (Kd.R_base ho1)) (fun _ h_ => h_.1)); have n1_ := Aside0.mk (Kd.R_mono (Kd.R_told (Kd.R_told (Kd.R_old (by (with_reducible repeat (first | apply Kd.R_alloc | apply Kd.R_drewN | apply Kd.R_drew)); exact HO238.out) hb) (Kd.R_base ho0)) (Kd.R_base ho1)) (fun _ h_ => h_.1)); have n2_ := Aside0.mk (Kd.R_mono (Kd.R_told (Kd.R_told (Kd.R_old (by (with_reducible repeat (first | apply Kd.R_alloc | apply Kd.R_drewN | apply Kd.R_drew)); exact HO241.out) hb) (Kd.R_base ho0)) (Kd.R_base ho1)) (fun _ h_ => h_.1)); have n3_ := Aside0.mk (Kd.R_mono (Kd.R_told (Kd.R_told (Kd.R_old (by (with_reducible repeat (first | apply Kd.R_alloc | apply Kd.R_drewN | apply Kd.R_drew)); exact HO244.out) hb) (Kd.R_base ho0)) (Kd.R_base ho1)) (fun _ h_ => h_.1)); have n4_ := Aside0.mk (Kd.R_mono (Kd.R_told (Kd.R_told (Kd.R_old (by (with_reducible repeat (first | apply Kd.R_alloc | apply Kd.R_drewN | apply Kd.R_drew)); exact HO247.out) hb) (Kd.R_base ho0)) (Kd.R_base ho1)) (fun _ h_ => h_.1)); have n5_ := Aside0.mk (Kd.R_lower (Kd.R_new' (Kd.R_new' (Kd.R_new' (Kd.R_new' (Kd.R_new' (Kd.R_mono (ok' := fun k_ => some k_ ≠ (v252 : Value).ownBlock) ho0 (fun _ hk_ => hk_.2)) (Kd.R_lt (by (with_reducible repeat (first | apply Kd.R_alloc | apply Kd.R_drewN | apply Kd.R_drew)); exact HO230.out))) (Kd.R_lt (by (with_reducible repeat (first | apply Kd.R_alloc | apply Kd.R_drewN | apply Kd.R_drew)); exact HO238.out))) (Kd.R_lt (by (with_reducible repeat (first | apply Kd.R_alloc | apply Kd.R_drewN | apply Kd.R_drew)); exact HO241.out))) (Kd.R_lt (by (with_reducible repeat (first | apply Kd.R_alloc | apply Kd.R_drewN | apply Kd.R_drew)); exact HO244.out))) (Kd.R_lt (by (with_reducible repeat (first | apply Kd.R_alloc | apply Kd.R_drewN | apply Kd.R_drew)); exact HO247.out))) (below_size (by repeat (first | (with_reducible first | exact HB.out | apply below_alloc | apply pw_below_drewN | apply below_drew1) | exact HB.out)))); have n6_ := Aside0.mk (Kd.R_lower (Kd.R_new' (Kd.R_new' (Kd.R_new' (Kd.R_new' (Kd.R_new' (Kd.R_mono (ok' := fun k_ => some k_ ≠ (v249 : Value).ownBlock) ho1 (fun _ hk_ => hk_.2)) (Kd.R_lt (by (with_reducible repeat (first | apply Kd.R_alloc | apply Kd.R_drewN | apply Kd.R_drew)); exact HO230.out))) (Kd.R_lt (by (with_reducible repeat (first | apply Kd.R_alloc | apply Kd.R_drewN | apply Kd.R_drew)); exact HO238.out))) (Kd.R_lt (by (with_reducible repeat (first | apply Kd.R_alloc | apply Kd.R_drewN | apply Kd.R_drew)); exact HO241.out))) (Kd.R_lt (by (with_reducible repeat (first | apply Kd.R_alloc | apply Kd.R_drewN | apply Kd.R_drew)); exact HO244.out))) (Kd.R_lt (by (with_reducible repeat (first | apply Kd.R_alloc | apply Kd.R_drewN | apply Kd.R_drew)); exact HO247.out))) (below_size (by repeat (first | (with_reducible first | exact HB.out | apply below_alloc | apply pw_below_drewN | apply below_drew1) | exact HB.out)))); have n7_ := Aside0.mk (below_step (by repeat (first | (with_reducible first | exact HB.out | apply below_alloc | apply pw_below_drewN | apply below_drew1) | exact HB.out)) hb); clear HO230; clear HO238; clear HO241; clear HO244; clear HO247; clear HB; have HO230 := n0_; have HO238 := n1_; have HO241 := n2_; have HO244 := n3_; have HO247 := n4_; have HO250 := n5_; have HO253 := n6_; have HB := n7_; clear n0_ n1_ n2_ n3_ n4_ n5_ n6_ n7_; (try clear hb); (try clear hb2); (try clear hk); (try clear hi); (try clear ho0); (try clear ho1); go_wp2_with (first | (go_at_call 49; (with_reducible refine (sextonlaw09_pair.calls (⟨#[97]⟩ : ByteArray) t255 t256 t257 _ A23.out).mono ?_); rintro e w58 ⟨rfl, hb⟩; have n0_ := Aside0.mk (Kd.R_below (by (with_reducible repeat (first | apply Kd.R_alloc | apply Kd.R_drewN | apply Kd.R_drew)); exact HO230.out) hb); have n1_ := Aside0.mk (Kd.R_below (by (with_reducible repeat (first | apply Kd.R_alloc | apply Kd.R_drewN | apply Kd.R_drew)); exact HO238.out) hb); have n2_ := Aside0.mk (Kd.R_below (by (with_reducible repeat (first | apply Kd.R_alloc | apply Kd.R_drewN | apply Kd.R_drew)); exact HO241.out) hb); have n3_ := Aside0.mk (Kd.R_below (by (with_reducible repeat (first | apply Kd.R_alloc | apply Kd.R_drewN | apply Kd.R_drew)); exact HO244.out) hb); have n4_ := Aside0.mk (Kd.R_below (by (with_reducible repeat (first | apply Kd.R_alloc | apply Kd.R_drewN | apply Kd.R_drew)); exact HO247.out) hb); have n5_ := Aside0.mk (Kd.R_below (by (with_reducible repeat (first | apply Kd.R_alloc | apply Kd.R_drewN | apply Kd.R_drew)); exact HO250.out) hb); have n6_ := Aside0.mk (Kd.R_below (by (with_reducible repeat (first | apply Kd.R_alloc | apply Kd.R_drewN | apply Kd.R_drew)); exact HO253.out) hb); have n7_ := Aside0.mk (below_step (by repeat (first | (with_reducible first | exact HB.out | apply below_alloc | apply pw_below_drewN | apply below_drew1) | exact HB.out)) hb); clear HO230; clear HO238; clear HO241; clear HO244; clear HO247; clear HO250; clear HO253; clear HB; have HO230 := n0_; have HO238 := n1_; have HO241 := n2_; have HO244 := n3_; have HO247 := n4_; have HO250 := n5_; have HO253 := n6_; have HB := n7_; clear n0_ n1_ n2_ n3_ n4_ n5_ n6_ n7_; (try clear hb); (try clear hb2); (try clear hk); (try clear hi); go_wp2_with (first | (go_at_call 49; (with_reducible refine (sextonlaw09_pair.calls (⟨#[98]⟩ : ByteArray) t258 t259 t260 _ A24.out).mono ?_); rintro e w59 ⟨rfl, hb⟩; have n0_ := Aside0.mk (Kd.R_below (by (with_reducible repeat (first | apply Kd.R_alloc | apply Kd.R_drewN | apply Kd.R_drew)); exact HO230.out) hb); have n1_ := Aside0.mk (Kd.R_below (by (with_reducible repeat (first | apply Kd.R_alloc | apply Kd.R_drewN | apply Kd.R_drew)); exact HO238.out) hb); have n2_ := Aside0.mk (Kd.R_below (by (with_reducible repeat (first | apply Kd.R_alloc | apply Kd.R_drewN | apply Kd.R_drew)); exact HO241.out) hb); have n3_ := Aside0.mk (Kd.R_below (by (with_reducible repeat (first | apply Kd.R_alloc | apply Kd.R_drewN | apply Kd.R_drew)); exact HO244.out) hb); have n4_ := Aside0.mk (Kd.R_below (by (with_reducible repeat (first | apply Kd.R_alloc | apply Kd.R_drewN | apply Kd.R_drew)); exact HO247.out) hb); have n5_ := Aside0.mk (Kd.R_below (by (with_reducible repeat (first | apply Kd.R_alloc | apply Kd.R_drewN | apply Kd.R_drew)); exact HO250.out) hb); have n6_ := Aside0.mk (Kd.R_below (by (with_reducible repeat (first | apply Kd.R_alloc | apply Kd.R_drewN | apply Kd.R_drew)); exact HO253.out) hb); have n7_ := Aside0.mk (below_step (by repeat (first | (with_reducible first | exact HB.out | apply below_alloc | apply pw_below_drewN | apply below_drew1) | exact HB.out)) hb); clear HO230; clear HO238; clear HO241; clear HO244; clear HO247; clear HO250; clear HO253; clear HB; have HO230 := n0_; have HO238 := n1_; have HO241 := n2_; have HO244 := n3_; have HO247 := n4_; have HO250 := n5_; have HO253 := n6_; have HB := n7_; clear n0_ n1_ n2_ n3_ n4_ n5_ n6_ n7_; (try clear hb); (try clear hb2); (try clear hk); (try clear hi); go_wp2_with (first | (go_at_call 49; (with_reducible refine (sextonlaw09_pair.calls (⟨#[99]⟩ : ByteArray) t261 t262 t263 _ A25.out).mono ?_); rintro e w60 ⟨rfl, hb⟩; have n0_ := Aside0.mk (Kd.R_below (by (with_reducible repeat (first | apply Kd.R_alloc | apply Kd.R_drewN | apply Kd.R_drew)); exact HO230.out) hb); have n1_ := Aside0.mk (Kd.R_below (by (with_reducible repeat (first | apply Kd.R_alloc | apply Kd.R_drewN | apply Kd.R_drew)); exact HO238.out) hb); have n2_ := Aside0.mk (Kd.R_below (by (with_reducible repeat (first | apply Kd.R_alloc | apply Kd.R_drewN | apply Kd.R_drew)); exact HO241.out) hb); have n3_ := Aside0.mk (Kd.R_below (by (with_reducible repeat (first | apply Kd.R_alloc | apply Kd.R_drewN | apply Kd.R_drew)); exact HO244.out) hb); have n4_ := Aside0.mk (Kd.R_below (by (with_reducible repeat (first | apply Kd.R_alloc | apply Kd.R_drewN | apply Kd.R_drew)); exact HO247.out) hb); have n5_ := Aside0.mk (Kd.R_below (by (with_reducible repeat (first | apply Kd.R_alloc | apply Kd.R_drewN | apply Kd.R_drew)); exact HO250.out) hb); have n6_ := Aside0.mk (Kd.R_below (by (with_reducible repeat (first | apply Kd.R_alloc | apply Kd.R_drewN | apply Kd.R_drew)); exact HO253.out) hb); have n7_ := Aside0.mk (below_step (by repeat (first | (with_reducible first | exact HB.out | apply below_alloc | apply pw_below_drewN | apply below_drew1) | exact HB.out)) hb); clear HO230; clear HO238; clear HO241; clear HO244; clear HO247; clear HO250; clear HO253; clear HB; have HO230 := n0_; have HO238 := n1_; have HO241 := n2_; have HO244 := n3_; have HO247 := n4_; have HO250 := n5_; have HO253 := n6_; have HB := n7_; clear n0_ n1_ n2_ n3_ n4_ n5_ n6_ n7_; (try clear hb); (try clear hb2); (try clear hk); (try clear hi); go_wp2_with (first | ((with_reducible refine gate_dst (N := 48) rfl ?_); (try (refine gate_guard (by rfl) ?_; dsimp only)); refine Kd.R_lit k26 _ 26 ?hg (N := 48) ?hd (xs := ([(⟨(⟨t255, t256⟩ : S24), t257⟩ : S26), (⟨(⟨t258, t259⟩ : S24), t260⟩ : S26), (⟨(⟨t261, t262⟩ : S24), t263⟩ : S26)] : List (S26))) (inner := [.string t255, .int .i64 t256, .string t257, .string t258, .int .i64 t259, .string t260, .string t261, .int .i64 t262, .string t263]) (ok := fun _ => True) (okp := fun _ => True) ?hr ?hp (fun _ hk => hk) trivial (Below.refl _ _) (Nat.le_refl _) (by simp) ?_; (case hd => rfl); (case hg => rfl); (case hr => first | (go_simp; done) | (go_simp; rfl)); (case hp => exact (Reps.c3 (show Kd.M k26 _ _ _ (⟨(⟨t255, t256⟩ : S24), t257⟩ : S26) [.string t255, .int .i64 t256, .string t257] from (k26_mkM _ _ _ (⟨(⟨t255, t256⟩ : S24), t257⟩ : S26) )) (Reps.c3 (show Kd.M k26 _ _ _ (⟨(⟨t258, t259⟩ : S24), t260⟩ : S26) [.string t258, .int .i64 t259, .string t260] from (k26_mkM _ _ _ (⟨(⟨t258, t259⟩ : S24), t260⟩ : S26) )) (Reps.c3 (show Kd.M k26 _ _ _ (⟨(⟨t261, t262⟩ : S24), t263⟩ : S26) [.string t261, .int .i64 t262, .string t263] from (k26_mkM _ _ _ (⟨(⟨t261, t262⟩ : S24), t263⟩ : S26) )) (Reps.none _ _))))); intro v265 w61 ho62 hb hg_ hnew_; clear hg_ hnew_; (first | rw [← Ny264.out] at ho62 | (simp only [Int.reduceToNat] at ho62; rw [← Ny264.out] at ho62)); have n0_ := Aside0.mk (Kd.R_elder' (by (with_reducible repeat (first | apply Kd.R_alloc | apply Kd.R_drewN | apply Kd.R_drew)); exact HO230.out) (Kd.R_base ho62) hb); have n1_ := Aside0.mk (Kd.R_elder' (by (with_reducible repeat (first | apply Kd.R_alloc | apply Kd.R_drewN | apply Kd.R_drew)); exact HO238.out) (Kd.R_base ho62) hb); have n2_ := Aside0.mk (Kd.R_elder' (by (with_reducible repeat (first | apply Kd.R_alloc | apply Kd.R_drewN | apply Kd.R_drew)); exact HO241.out) (Kd.R_base ho62) hb); have n3_ := Aside0.mk (Kd.R_elder' (by (with_reducible repeat (first | apply Kd.R_alloc | apply Kd.R_drewN | apply Kd.R_drew)); exact HO244.out) (Kd.R_base ho62) hb); have n4_ := Aside0.mk (Kd.R_elder' (by (with_reducible repeat (first | apply Kd.R_alloc | apply Kd.R_drewN | apply Kd.R_drew)); exact HO247.out) (Kd.R_base ho62) hb); have n5_ := Aside0.mk (Kd.R_elder' (by (with_reducible repeat (first | apply Kd.R_alloc | apply Kd.R_drewN | apply Kd.R_drew)); exact HO250.out) (Kd.R_base ho62) hb); have n6_ := Aside0.mk (Kd.R_elder' (by (with_reducible repeat (first | apply Kd.R_alloc | apply Kd.R_drewN | apply Kd.R_drew)); exact HO253.out) (Kd.R_base ho62) hb); have n7_ := Aside0.mk (Kd.R_lower (Kd.R_new' (Kd.R_new' (Kd.R_new' (Kd.R_new' (Kd.R_new' (Kd.R_new' (Kd.R_new' ho62 (Kd.R_lt (by (with_reducible repeat (first | apply Kd.R_alloc | apply Kd.R_drewN | apply Kd.R_drew)); exact HO230.out))) (Kd.R_lt (by (with_reducible repeat (first | apply Kd.R_alloc | apply Kd.R_drewN | apply Kd.R_drew)); exact HO238.out))) (Kd.R_lt (by (with_reducible repeat (first | apply Kd.R_alloc | apply Kd.R_drewN | apply Kd.R_drew)); exact HO241.out))) (Kd.R_lt (by (with_reducible repeat (first | apply Kd.R_alloc | apply Kd.R_drewN | apply Kd.R_drew)); exact HO244.out))) (Kd.R_lt (by (with_reducible repeat (first | apply Kd.R_alloc | apply Kd.R_drewN | apply Kd.R_drew)); exact HO247.out))) (Kd.R_lt (by (with_reducible repeat (first | apply Kd.R_alloc | apply Kd.R_drewN | apply Kd.R_drew)); exact HO250.out))) (Kd.R_lt (by (with_reducible repeat (first | apply Kd.R_alloc | apply Kd.R_drewN | apply Kd.R_drew)); exact HO253.out))) (below_size (by repeat (first | (with_reducible first | exact HB.out | apply below_alloc | apply pw_below_drewN | apply below_drew1) | exact HB.out)))); have n8_ := Aside0.mk (below_step (by repeat (first | (with_reducible first | exact HB.out | apply below_alloc | apply pw_below_drewN | apply below_drew1) | exact HB.out)) hb); clear HO230; clear HO238; clear HO241; clear HO244; clear HO247; clear HO250; clear HO253; clear HB; have HO230 := n0_; have HO238 := n1_; have HO241 := n2_; have HO244 := n3_; have HO247 := n4_; have HO250 := n5_; have HO253 := n6_; have HO266 := n7_; have HB := n8_; clear n0_ n1_ n2_ n3_ n4_ n5_ n6_ n7_ n8_; clear hb ho62; obtain ⟨Ao63, co63, eo63⟩ := Kd.R_slice HO266.out; subst eo63; go_wp2_with (first | (go_at_call 25; (with_reducible refine (sextonref09_Same.calls k _ _ t236 _ _ y264 true _ ?side1 ?side2 ?side3 ?side4 A26.out).mono ?_); (case side1 => repeat (first | exact (Kd.R_reads' HO238.out).2.2 | (with_reducible refine Kd.C_alloc ?_ _) | (with_reducible refine Kd.C_drewN ?_ _) | (with_reducible refine Kd.C_drew ?_))); (case side2 => exact (Kd.R_reads' HO238.out).2.1); (case side3 => repeat (first | exact (Kd.R_reads' HO266.out).2.2 | (with_reducible refine Kd.C_alloc ?_ _) | (with_reducible refine Kd.C_drewN ?_ _) | (with_reducible refine Kd.C_drew ?_))); (case side4 => exact (Kd.R_reads' HO266.out).2.1); rintro e w' ⟨rfl, ⟨nd, rfl⟩⟩; have q64 : (1 : Int) ≤ ((y228.length : Int) : Int) := of_decide_eq_true (by first | (with_reducible assumption) | assumption); obtain ⟨i064, hi064, _, hsz64, _⟩ := info_parts info26; have hroom64 : y228.length ≤ co50 := (Kd.R_reads' HO230.out).2.1; have hC64 : Kd.C k26 _ Ao50 y228.length y228 := (Kd.R_reads' HO230.out).2.2; have hcut64 := cut_from (P := Try.prog) 22 26 .i64 Try.underlying22 hi064 3 hsz64 Ao50 y228.length co50 1 (by omega) q64; have hr64 := Kd.C_drop (m := (1 : Int).toNat) (c := co50) hC64 (by omega) hroom64; obtain ⟨A64, hA64⟩ : ∃ A1, A1 = (if co50 = (1 : Int).toNat then Ao50 else (Ao50 : Option Addr).map (·.add ((1 : Int).toNat * 3))) := ⟨_, rfl⟩; obtain ⟨c64, hc64⟩ : ∃ c1, c1 = co50 - (1 : Int).toNat := ⟨_, rfl⟩; have hy64 : y268.length = y228.length - (1 : Int).toNat := (by rw [Ny268.out, List.length_drop] <;> omega); rw [show (y228).drop (1 : Int).toNat = y268 from Ny268.out.symm] at hr64; replace hr64 : Kd.C k26 _ A64 y268.length y268 := (by rw [hA64]; exact hr64); rw [← hy64, ← hA64, ← hc64] at hcut64; have HR271 := Aside0.mk hr64; have HC271 := Aside0.mk (show y268.length ≤ c64 from by rw [hy64, hc64]; exact Nat.sub_le_sub_right hroom64 _); clear hr64 hC64 hroom64 hi064 hsz64 hc64; have KY64 := Aside0.mk hy64; have KA64 := Aside0.mk hA64; clear hy64 hA64; have KL64 := Aside0.mk (show 1 ≤ y228.length from by omega); replace q64 := eq_true q64; obtain ⟨Ao65, co65, eo65⟩ := Kd.R_slice HO241.out; subst eo65; go_wp2_with (first | (go_at_call 25; (with_reducible refine (sextonref09_Same.calls k _ _ t239 _ _ y268 true _ ?side1 ?side2 ?side3 ?side4 A29.out).mono ?_); (case side1 => repeat (first | exact (Kd.R_reads' HO241.out).2.2 | (with_reducible refine Kd.C_alloc ?_ _) | (with_reducible refine Kd.C_drewN ?_ _) | (with_reducible refine Kd.C_drew ?_))); (case side2 => exact (Kd.R_reads' HO241.out).2.1); (case side3 => repeat (first | exact (by repeat (first | (with_reducible exact HR271.out) | (with_reducible refine Kd.C_alloc ?_ _) | (with_reducible refine Kd.C_drewN ?_ _) | (with_reducible refine Kd.C_drew ?_) | exact HR271.out)) | (with_reducible refine Kd.C_alloc ?_ _) | (with_reducible refine Kd.C_drewN ?_ _) | (with_reducible refine Kd.C_drew ?_))); (case side4 => exact HC271.out); rintro e w' ⟨rfl, ⟨nd, rfl⟩⟩; have q66 : (1 : Int) ≤ ((t236.length : Int) : Int) := of_decide_eq_true (by first | (with_reducible assumption) | assumption); obtain ⟨i066, hi066, _, hsz66, _⟩ := info_parts info26; have hroom66 : t236.length ≤ co55 := (Kd.R_reads' HO238.out).2.1; have hC66 : Kd.C k26 _ Ao55 t236.length t236 := (Kd.R_reads' HO238.out).2.2; have hcut66 := cut_to (P := Try.prog) 22 26 .i64 Try.underlying22 hi066 Ao55 t236.length co55 1 (by omega) q66 hroom66; have hr66 := Kd.C_take (m := 1) hC66 (by omega); have hy66 : y273.length = (1 : Int).toNat := (by rw [Ny273.out, List.length_take]; omega); rw [← Ny273.out] at hr66; rw [← hy66] at hcut66; have HR276 := Aside0.mk hr66; have HC276 := Aside0.mk (show y273.length ≤ co55 from by omega); clear hr66 hC66 hroom66 hi066 hsz66; have KY66 := Aside0.mk hy66; clear hy66; have KL66 := Aside0.mk (show 1 ≤ t236.length from by omega); replace q66 := eq_true q66; obtain ⟨Ao67, co67, eo67⟩ := Kd.R_slice HO244.out; subst eo67; go_wp2_with (first | (go_at_call 25; (with_reducible refine (sextonref09_Same.calls k _ _ t242 _ _ y273 true _ ?side1 ?side2 ?side3 ?side4 A32.out).mono ?_); (case side1 => repeat (first | exact (Kd.R_reads' HO244.out).2.2 | (with_reducible refine Kd.C_alloc ?_ _) | (with_reducible refine Kd.C_drewN ?_ _) | (with_reducible refine Kd.C_drew ?_))); (case side2 => exact (Kd.R_reads' HO244.out).2.1); (case side3 => repeat (first | exact (by repeat (first | (with_reducible exact HR276.out) | (with_reducible refine Kd.C_alloc ?_ _) | (with_reducible refine Kd.C_drewN ?_ _) | (with_reducible refine Kd.C_drew ?_) | exact HR276.out)) | (with_reducible refine Kd.C_alloc ?_ _) | (with_reducible refine Kd.C_drewN ?_ _) | (with_reducible refine Kd.C_drew ?_))); (case side4 => exact HC276.out); rintro e w' ⟨rfl, ⟨nd, rfl⟩⟩; have q68 : (1 : Int) ≤ ((t236.length : Int) : Int) := of_decide_eq_true (by first | (with_reducible assumption) | assumption); obtain ⟨i068, hi068, _, hsz68, _⟩ := info_parts info26; have hroom68 : t236.length ≤ co55 := (Kd.R_reads' HO238.out).2.1; have hC68 : Kd.C k26 _ Ao55 t236.length t236 := (Kd.R_reads' HO238.out).2.2; have hcut68 := cut_from (P := Try.prog) 22 26 .i64 Try.underlying22 hi068 3 hsz68 Ao55 t236.length co55 1 (by omega) q68; have hr68 := Kd.C_drop (m := (1 : Int).toNat) (c := co55) hC68 (by omega) hroom68; obtain ⟨A68, hA68⟩ : ∃ A1, A1 = (if co55 = (1 : Int).toNat then Ao55 else (Ao55 : Option Addr).map (·.add ((1 : Int).toNat * 3))) := ⟨_, rfl⟩; obtain ⟨c68, hc68⟩ : ∃ c1, c1 = co55 - (1 : Int).toNat := ⟨_, rfl⟩; have hy68 : y278.length = t236.length - (1 : Int).toNat := (by rw [Ny278.out, List.length_drop] <;> omega); rw [show (t236).drop (1 : Int).toNat = y278 from Ny278.out.symm] at hr68; replace hr68 : Kd.C k26 _ A68 y278.length y278 := (by rw [hA68]; exact hr68); rw [← hy68, ← hA68, ← hc68] at hcut68; have HR281 := Aside0.mk hr68; have HC281 := Aside0.mk (show y278.length ≤ c68 from by rw [hy68, hc68]; exact Nat.sub_le_sub_right hroom68 _); clear hr68 hC68 hroom68 hi068 hsz68 hc68; have KY68 := Aside0.mk hy68; have KA68 := Aside0.mk hA68; clear hy68 hA68; have KL68 := Aside0.mk (show 1 ≤ t236.length from by omega); replace q68 := eq_true q68; obtain ⟨Ao69, co69, eo69⟩ := Kd.R_slice HO247.out; subst eo69; go_wp2_with (first | (go_at_call 25; (with_reducible refine (sextonref09_Same.calls k _ _ t245 _ _ y278 true _ ?side1 ?side2 ?side3 ?side4 A35.out).mono ?_); (case side1 => repeat (first | exact (Kd.R_reads' HO247.out).2.2 | (with_reducible refine Kd.C_alloc ?_ _) | (with_reducible refine Kd.C_drewN ?_ _) | (with_reducible refine Kd.C_drew ?_))); (case side2 => exact (Kd.R_reads' HO247.out).2.1); (case side3 => repeat (first | exact (by repeat (first | (with_reducible exact HR281.out) | (with_reducible refine Kd.C_alloc ?_ _) | (with_reducible refine Kd.C_drewN ?_ _) | (with_reducible refine Kd.C_drew ?_) | exact HR281.out)) | (with_reducible refine Kd.C_alloc ?_ _) | (with_reducible refine Kd.C_drewN ?_ _) | (with_reducible refine Kd.C_drew ?_))); (case side4 => exact HC281.out); rintro e w' ⟨rfl, ⟨nd, rfl⟩⟩; obtain ⟨Ao70, co70, eo70⟩ := Kd.R_slice HO250.out; subst eo70; go_wp2_with (first | (go_at_call 25; (with_reducible refine (sextonref09_Same.calls k _ _ t248 _ _ t236 true _ ?side1 ?side2 ?side3 ?side4 A38.out).mono ?_); (case side1 => repeat (first | exact (Kd.R_reads' HO250.out).2.2 | (with_reducible refine Kd.C_alloc ?_ _) | (with_reducible refine Kd.C_drewN ?_ _) | (with_reducible refine Kd.C_drew ?_))); (case side2 => exact (Kd.R_reads' HO250.out).2.1); (case side3 => repeat (first | exact (Kd.R_reads' HO238.out).2.2 | (with_reducible refine Kd.C_alloc ?_ _) | (with_reducible refine Kd.C_drewN ?_ _) | (with_reducible refine Kd.C_drew ?_))); (case side4 => exact (Kd.R_reads' HO238.out).2.1); rintro e w' ⟨rfl, ⟨nd, rfl⟩⟩; obtain ⟨Ao71, co71, eo71⟩ := Kd.R_slice HO253.out; subst eo71; go_wp2_with (first | (go_at_call 26; (with_reducible refine (node_Is.calls k _ _ t236 true _ ?side1 ?side2 A41.out).mono ?_); (case side1 => repeat (first | exact (Kd.R_reads' HO238.out).2.2 | (with_reducible refine Kd.C_alloc ?_ _) | (with_reducible refine Kd.C_drewN ?_ _) | (with_reducible refine Kd.C_drew ?_))); (case side2 => exact (Kd.R_reads' HO238.out).2.1); rintro e w72 ⟨rfl, hb⟩; have n0_ := Aside0.mk (Kd.R_below (by (with_reducible repeat (first | apply Kd.R_alloc | apply Kd.R_drewN | apply Kd.R_drew)); exact HO230.out) hb); have n1_ := Aside0.mk (Kd.R_below (by (with_reducible repeat (first | apply Kd.R_alloc | apply Kd.R_drewN | apply Kd.R_drew)); exact HO238.out) hb); have n2_ := Aside0.mk (Kd.R_below (by (with_reducible repeat (first | apply Kd.R_alloc | apply Kd.R_drewN | apply Kd.R_drew)); exact HO241.out) hb); have n3_ := Aside0.mk (Kd.R_below (by (with_reducible repeat (first | apply Kd.R_alloc | apply Kd.R_drewN | apply Kd.R_drew)); exact HO244.out) hb); have n4_ := Aside0.mk (Kd.R_below (by (with_reducible repeat (first | apply Kd.R_alloc | apply Kd.R_drewN | apply Kd.R_drew)); exact HO247.out) hb); have n5_ := Aside0.mk (Kd.R_below (by (with_reducible repeat (first | apply Kd.R_alloc | apply Kd.R_drewN | apply Kd.R_drew)); exact HO250.out) hb); have n6_ := Aside0.mk (Kd.R_below (by (with_reducible repeat (first | apply Kd.R_alloc | apply Kd.R_drewN | apply Kd.R_drew)); exact HO253.out) hb); have n7_ := Aside0.mk (Kd.R_below (by (with_reducible repeat (first | apply Kd.R_alloc | apply Kd.R_drewN | apply Kd.R_drew)); exact HO266.out) hb); have n8_ := Aside0.mk (Kd.C_below HR271.out (below_step (by repeat (first | (with_reducible exact Below.refl _ _) | apply below_alloc | apply pw_below_drewN | apply below_drew1)) hb)); have n9_ := Aside0.mk (Kd.C_below HR276.out (below_step (by repeat (first | (with_reducible exact Below.refl _ _) | apply below_alloc | apply pw_below_drewN | apply below_drew1)) hb)); have n10_ := Aside0.mk (Kd.C_below HR281.out (below_step (by repeat (first | (with_reducible exact Below.refl _ _) | apply below_alloc | apply pw_below_drewN | apply below_drew1)) hb)); have n11_ := Aside0.mk (below_step (by repeat (first | (with_reducible first | exact HB.out | apply below_alloc | apply pw_below_drewN | apply below_drew1) | exact HB.out)) hb); clear HO230; clear HO238; clear HO241; clear HO244; clear HO247; clear HO250; clear HO253; clear HO266; clear HR271; clear HR276; clear HR281; clear HB; have HO230 := n0_; have HO238 := n1_; have HO241 := n2_; have HO244 := n3_; have HO247 := n4_; have HO250 := n5_; have HO253 := n6_; have HO266 := n7_; have HR271 := n8_; have HR276 := n9_; have HR281 := n10_; have HB := n11_; clear n0_ n1_ n2_ n3_ n4_ n5_ n6_ n7_ n8_ n9_ n10_ n11_; (try clear hb); (try clear hb2); (try clear hk); (try clear hi); go_wp2_with (first | (go_at_call 49; (with_reducible refine (sextonlaw09_pair.calls (⟨#[98]⟩ : ByteArray) t285 t286 t287 _ A43.out).mono ?_); rintro e w73 ⟨rfl, hb⟩; have n0_ := Aside0.mk (Kd.R_below (by (with_reducible repeat (first | apply Kd.R_alloc | apply Kd.R_drewN | apply Kd.R_drew)); exact HO230.out) hb); have n1_ := Aside0.mk (Kd.R_below (by (with_reducible repeat (first | apply Kd.R_alloc | apply Kd.R_drewN | apply Kd.R_drew)); exact HO238.out) hb); have n2_ := Aside0.mk (Kd.R_below (by (with_reducible repeat (first | apply Kd.R_alloc | apply Kd.R_drewN | apply Kd.R_drew)); exact HO241.out) hb); have n3_ := Aside0.mk (Kd.R_below (by (with_reducible repeat (first | apply Kd.R_alloc | apply Kd.R_drewN | apply Kd.R_drew)); exact HO244.out) hb); have n4_ := Aside0.mk (Kd.R_below (by (with_reducible repeat (first | apply Kd.R_alloc | apply Kd.R_drewN | apply Kd.R_drew)); exact HO247.out) hb); have n5_ := Aside0.mk (Kd.R_below (by (with_reducible repeat (first | apply Kd.R_alloc | apply Kd.R_drewN | apply Kd.R_drew)); exact HO250.out) hb); have n6_ := Aside0.mk (Kd.R_below (by (with_reducible repeat (first | apply Kd.R_alloc | apply Kd.R_drewN | apply Kd.R_drew)); exact HO253.out) hb); have n7_ := Aside0.mk (Kd.R_below (by (with_reducible repeat (first | apply Kd.R_alloc | apply Kd.R_drewN | apply Kd.R_drew)); exact HO266.out) hb); have n8_ := Aside0.mk (Kd.C_below HR271.out (below_step (by repeat (first | (with_reducible exact Below.refl _ _) | apply below_alloc | apply pw_below_drewN | apply below_drew1)) hb)); have n9_ := Aside0.mk (Kd.C_below HR276.out (below_step (by repeat (first | (with_reducible exact Below.refl _ _) | apply below_alloc | apply pw_below_drewN | apply below_drew1)) hb)); have n10_ := Aside0.mk (Kd.C_below HR281.out (below_step (by repeat (first | (with_reducible exact Below.refl _ _) | apply below_alloc | apply pw_below_drewN | apply below_drew1)) hb)); have n11_ := Aside0.mk (below_step (by repeat (first | (with_reducible first | exact HB.out | apply below_alloc | apply pw_below_drewN | apply below_drew1) | exact HB.out)) hb); clear HO230; clear HO238; clear HO241; clear HO244; clear HO247; clear HO250; clear HO253; clear HO266; clear HR271; clear HR276; clear HR281; clear HB; have HO230 := n0_; have HO238 := n1_; have HO241 := n2_; have HO244 := n3_; have HO247 := n4_; have HO250 := n5_; have HO253 := n6_; have HO266 := n7_; have HR271 := n8_; have HR276 := n9_; have HR281 := n10_; have HB := n11_; clear n0_ n1_ n2_ n3_ n4_ n5_ n6_ n7_ n8_ n9_ n10_ n11_; (try clear hb); (try clear hb2); (try clear hk); (try clear hi); go_wp2_with (first | (go_at_call 49; (with_reducible refine (sextonlaw09_pair.calls (⟨#[97]⟩ : ByteArray) t288 t289 t290 _ A44.out).mono ?_); rintro e w74 ⟨rfl, hb⟩; have n0_ := Aside0.mk (Kd.R_below (by (with_reducible repeat (first | apply Kd.R_alloc | apply Kd.R_drewN | apply Kd.R_drew)); exact HO230.out) hb); have n1_ := Aside0.mk (Kd.R_below (by (with_reducible repeat (first | apply Kd.R_alloc | apply Kd.R_drewN | apply Kd.R_drew)); exact HO238.out) hb); have n2_ := Aside0.mk (Kd.R_below (by (with_reducible repeat (first | apply Kd.R_alloc | apply Kd.R_drewN | apply Kd.R_drew)); exact HO241.out) hb); have n3_ := Aside0.mk (Kd.R_below (by (with_reducible repeat (first | apply Kd.R_alloc | apply Kd.R_drewN | apply Kd.R_drew)); exact HO244.out) hb); have n4_ := Aside0.mk (Kd.R_below (by (with_reducible repeat (first | apply Kd.R_alloc | apply Kd.R_drewN | apply Kd.R_drew)); exact HO247.out) hb); have n5_ := Aside0.mk (Kd.R_below (by (with_reducible repeat (first | apply Kd.R_alloc | apply Kd.R_drewN | apply Kd.R_drew)); exact HO250.out) hb); have n6_ := Aside0.mk (Kd.R_below (by (with_reducible repeat (first | apply Kd.R_alloc | apply Kd.R_drewN | apply Kd.R_drew)); exact HO253.out) hb); have n7_ := Aside0.mk (Kd.R_below (by (with_reducible repeat (first | apply Kd.R_alloc | apply Kd.R_drewN | apply Kd.R_drew)); exact HO266.out) hb); have n8_ := Aside0.mk (Kd.C_below HR271.out (below_step (by repeat (first | (with_reducible exact Below.refl _ _) | apply below_alloc | apply pw_below_drewN | apply below_drew1)) hb)); have n9_ := Aside0.mk (Kd.C_below HR276.out (below_step (by repeat (first | (with_reducible exact Below.refl _ _) | apply below_alloc | apply pw_below_drewN | apply below_drew1)) hb)); have n10_ := Aside0.mk (Kd.C_below HR281.out (below_step (by repeat (first | (with_reducible exact Below.refl _ _) | apply below_alloc | apply pw_below_drewN | apply below_drew1)) hb)); have n11_ := Aside0.mk (below_step (by repeat (first | (with_reducible first | exact HB.out | apply below_alloc | apply pw_below_drewN | apply below_drew1) | exact HB.out)) hb); clear HO230; clear HO238; clear HO241; clear HO244; clear HO247; clear HO250; clear HO253; clear HO266; clear HR271; clear HR276; clear HR281; clear HB; have HO230 := n0_; have HO238 := n1_; have HO241 := n2_; have HO244 := n3_; have HO247 := n4_; have HO250 := n5_; have HO253 := n6_; have HO266 := n7_; have HR271 := n8_; have HR276 := n9_; have HR281 := n10_; have HB := n11_; clear n0_ n1_ n2_ n3_ n4_ n5_ n6_ n7_ n8_ n9_ n10_ n11_; (try clear hb); (try clear hb2); (try clear hk); (try clear hi); go_wp2_with (first | ((with_reducible refine gate_dst (N := 90) rfl ?_); (try (refine gate_guard (by rfl) ?_; dsimp only)); refine Kd.R_lit k26 _ 26 ?hg (N := 90) ?hd (xs := ([(⟨(⟨t285, t286⟩ : S24), t287⟩ : S26), (⟨(⟨t288, t289⟩ : S24), t290⟩ : S26)] : List (S26))) (inner := [.string t285, .int .i64 t286, .string t287, .string t288, .int .i64 t289, .string t290]) (ok := fun _ => True) (okp := fun _ => True) ?hr ?hp (fun _ hk => hk) trivial (Below.refl _ _) (Nat.le_refl _) (by simp) ?_; (case hd => rfl); (case hg => rfl); (case hr => first | (go_simp; done) | (go_simp; rfl)); (case hp => exact (Reps.c3 (show Kd.M k26 _ _ _ (⟨(⟨t285, t286⟩ : S24), t287⟩ : S26) [.string t285, .int .i64 t286, .string t287] from (k26_mkM _ _ _ (⟨(⟨t285, t286⟩ : S24), t287⟩ : S26) )) (Reps.c3 (show Kd.M k26 _ _ _ (⟨(⟨t288, t289⟩ : S24), t290⟩ : S26) [.string t288, .int .i64 t289, .string t290] from (k26_mkM _ _ _ (⟨(⟨t288, t289⟩ : S24), t290⟩ : S26) )) (Reps.none _ _)))); intro v292 w75 ho76 hb hg_ hnew_; clear hg_ hnew_; (first | rw [← Ny291.out] at ho76 | (simp only [Int.reduceToNat] at ho76; rw [← Ny291.out] at ho76)); have n0_ := Aside0.mk (Kd.R_elder' (by (with_reducible repeat (first | apply Kd.R_alloc | apply Kd.R_drewN | apply Kd.R_drew)); exact HO230.out) (Kd.R_base ho76) hb); have n1_ := Aside0.mk (Kd.R_elder' (by (with_reducible repeat (first | apply Kd.R_alloc | apply Kd.R_drewN | apply Kd.R_drew)); exact HO238.out) (Kd.R_base ho76) hb); have n2_ := Aside0.mk (Kd.R_elder' (by (with_reducible repeat (first | apply Kd.R_alloc | apply Kd.R_drewN | apply Kd.R_drew)); exact HO241.out) (Kd.R_base ho76) hb); have n3_ := Aside0.mk (Kd.R_elder' (by (with_reducible repeat (first | apply Kd.R_alloc | apply Kd.R_drewN | apply Kd.R_drew)); exact HO244.out) (Kd.R_base ho76) hb); have n4_ := Aside0.mk (Kd.R_elder' (by (with_reducible repeat (first | apply Kd.R_alloc | apply Kd.R_drewN | apply Kd.R_drew)); exact HO247.out) (Kd.R_base ho76) hb); have n5_ := Aside0.mk (Kd.R_elder' (by (with_reducible repeat (first | apply Kd.R_alloc | apply Kd.R_drewN | apply Kd.R_drew)); exact HO250.out) (Kd.R_base ho76) hb); have n6_ := Aside0.mk (Kd.R_elder' (by (with_reducible repeat (first | apply Kd.R_alloc | apply Kd.R_drewN | apply Kd.R_drew)); exact HO253.out) (Kd.R_base ho76) hb); have n7_ := Aside0.mk (Kd.R_elder' (by (with_reducible repeat (first | apply Kd.R_alloc | apply Kd.R_drewN | apply Kd.R_drew)); exact HO266.out) (Kd.R_base ho76) hb); have n8_ := Aside0.mk (Kd.R_lower (Kd.R_new' (Kd.R_new' (Kd.R_new' (Kd.R_new' (Kd.R_new' (Kd.R_new' (Kd.R_new' (Kd.R_new' ho76 (Kd.R_lt (by (with_reducible repeat (first | apply Kd.R_alloc | apply Kd.R_drewN | apply Kd.R_drew)); exact HO230.out))) (Kd.R_lt (by (with_reducible repeat (first | apply Kd.R_alloc | apply Kd.R_drewN | apply Kd.R_drew)); exact HO238.out))) (Kd.R_lt (by (with_reducible repeat (first | apply Kd.R_alloc | apply Kd.R_drewN | apply Kd.R_drew)); exact HO241.out))) (Kd.R_lt (by (with_reducible repeat (first | apply Kd.R_alloc | apply Kd.R_drewN | apply Kd.R_drew)); exact HO244.out))) (Kd.R_lt (by (with_reducible repeat (first | apply Kd.R_alloc | apply Kd.R_drewN | apply Kd.R_drew)); exact HO247.out))) (Kd.R_lt (by (with_reducible repeat (first | apply Kd.R_alloc | apply Kd.R_drewN | apply Kd.R_drew)); exact HO250.out))) (Kd.R_lt (by (with_reducible repeat (first | apply Kd.R_alloc | apply Kd.R_drewN | apply Kd.R_drew)); exact HO253.out))) (Kd.R_lt (by (with_reducible repeat (first | apply Kd.R_alloc | apply Kd.R_drewN | apply Kd.R_drew)); exact HO266.out))) (below_size (by repeat (first | (with_reducible first | exact HB.out | apply below_alloc | apply pw_below_drewN | apply below_drew1) | exact HB.out)))); have n9_ := Aside0.mk (Kd.C_below HR271.out (below_step (by repeat (first | (with_reducible exact Below.refl _ _) | apply below_alloc | apply pw_below_drewN | apply below_drew1)) hb)); have n10_ := Aside0.mk (Kd.C_below HR276.out (below_step (by repeat (first | (with_reducible exact Below.refl _ _) | apply below_alloc | apply pw_below_drewN | apply below_drew1)) hb)); have n11_ := Aside0.mk (Kd.C_below HR281.out (below_step (by repeat (first | (with_reducible exact Below.refl _ _) | apply below_alloc | apply pw_below_drewN | apply below_drew1)) hb)); have n12_ := Aside0.mk (below_step (by repeat (first | (with_reducible first | exact HB.out | apply below_alloc | apply pw_below_drewN | apply below_drew1) | exact HB.out)) hb); clear HO230; clear HO238; clear HO241; clear HO244; clear HO247; clear HO250; clear HO253; clear HO266; clear HR271; clear HR276; clear HR281; clear HB; have HO230 := n0_; have HO238 := n1_; have HO241 := n2_; have HO244 := n3_; have HO247 := n4_; have HO250 := n5_; have HO253 := n6_; have HO266 := n7_; have HO293 := n8_; have HR271 := n9_; have HR276 := n10_; have HR281 := n11_; have HB := n12_; clear n0_ n1_ n2_ n3_ n4_ n5_ n6_ n7_ n8_ n9_ n10_ n11_ n12_; clear hb ho76; obtain ⟨Ao77, co77, eo77⟩ := Kd.R_slice HO293.out; subst eo77; go_wp2_with (first | (go_at_call 26; (with_reducible refine (node_Is.calls k _ _ y291 t294 _ ?side1 ?side2 A45.out).mono ?_); (case side1 => repeat (first | exact (Kd.R_reads' HO293.out).2.2 | (with_reducible refine Kd.C_alloc ?_ _) | (with_reducible refine Kd.C_drewN ?_ _) | (with_reducible refine Kd.C_drew ?_))); (case side2 => exact (Kd.R_reads' HO293.out).2.1); rintro e w78 ⟨rfl, hb⟩; have n0_ := Aside0.mk (Kd.R_below (by (with_reducible repeat (first | apply Kd.R_alloc | apply Kd.R_drewN | apply Kd.R_drew)); exact HO230.out) hb); have n1_ := Aside0.mk (Kd.R_below (by (with_reducible repeat (first | apply Kd.R_alloc | apply Kd.R_drewN | apply Kd.R_drew)); exact HO238.out) hb); have n2_ := Aside0.mk (Kd.R_below (by (with_reducible repeat (first | apply Kd.R_alloc | apply Kd.R_drewN | apply Kd.R_drew)); exact HO241.out) hb); have n3_ := Aside0.mk (Kd.R_below (by (with_reducible repeat (first | apply Kd.R_alloc | apply Kd.R_drewN | apply Kd.R_drew)); exact HO244.out) hb); have n4_ := Aside0.mk (Kd.R_below (by (with_reducible repeat (first | apply Kd.R_alloc | apply Kd.R_drewN | apply Kd.R_drew)); exact HO247.out) hb); have n5_ := Aside0.mk (Kd.R_below (by (with_reducible repeat (first | apply Kd.R_alloc | apply Kd.R_drewN | apply Kd.R_drew)); exact HO250.out) hb); have n6_ := Aside0.mk (Kd.R_below (by (with_reducible repeat (first | apply Kd.R_alloc | apply Kd.R_drewN | apply Kd.R_drew)); exact HO253.out) hb); have n7_ := Aside0.mk (Kd.R_below (by (with_reducible repeat (first | apply Kd.R_alloc | apply Kd.R_drewN | apply Kd.R_drew)); exact HO266.out) hb); have n8_ := Aside0.mk (Kd.R_below (by (with_reducible repeat (first | apply Kd.R_alloc | apply Kd.R_drewN | apply Kd.R_drew)); exact HO293.out) hb); have n9_ := Aside0.mk (Kd.C_below HR271.out (below_step (by repeat (first | (with_reducible exact Below.refl _ _) | apply below_alloc | apply pw_below_drewN | apply below_drew1)) hb)); have n10_ := Aside0.mk (Kd.C_below HR276.out (below_step (by repeat (first | (with_reducible exact Below.refl _ _) | apply below_alloc | apply pw_below_drewN | apply below_drew1)) hb)); have n11_ := Aside0.mk (Kd.C_below HR281.out (below_step (by repeat (first | (with_reducible exact Below.refl _ _) | apply below_alloc | apply pw_below_drewN | apply below_drew1)) hb)); have n12_ := Aside0.mk (below_step (by repeat (first | (with_reducible first | exact HB.out | apply below_alloc | apply pw_below_drewN | apply below_drew1) | exact HB.out)) hb); clear HO230; clear HO238; clear HO241; clear HO244; clear HO247; clear HO250; clear HO253; clear HO266; clear HO293; clear HR271; clear HR276; clear HR281; clear HB; have HO230 := n0_; have HO238 := n1_; have HO241 := n2_; have HO244 := n3_; have HO247 := n4_; have HO250 := n5_; have HO253 := n6_; have HO266 := n7_; have HO293 := n8_; have HR271 := n9_; have HR276 := n10_; have HR281 := n11_; have HB := n12_; clear n0_ n1_ n2_ n3_ n4_ n5_ n6_ n7_ n8_ n9_ n10_ n11_ n12_; (try clear hb); (try clear hb2); (try clear hk); (try clear hi)))))))))))))))))))))))))))))))))))))))))))))))
                          go_ret
                          exact ⟨by first | rfl | (simp [errW_none, errW_some] <;> rfl) | (simp [*, errW_none, errW_some] <;> rfl), by repeat (first | (with_reducible first | exact HB.out | apply below_alloc | apply pw_below_drewN | apply below_drew1) | exact HB.out)⟩
                        · replace c42 := Bool.eq_false_iff.mpr c42
                          subst c42
                          have H1 : (some false) = some r := by rw [if_neg (show ¬ (false = true) by decide)] at H; exact H
                          exact absurd (H1.trans (congrArg some HRT.out)) (by decide)
                      · rw [if_neg c40] at H
                        exact absurd (H.trans (congrArg some HRT.out)) (by decide)
                    · replace c39 := Bool.eq_false_iff.mpr c39
                      subst c39
                      have H1 : (some false) = some r := by rw [if_neg (show ¬ (false = true) by decide)] at H; exact H
                      exact absurd (H1.trans (congrArg some HRT.out)) (by decide)
                  · rw [if_neg c37] at H
                    exact absurd (H.trans (congrArg some HRT.out)) (by decide)
                · replace c36 := Bool.eq_false_iff.mpr c36
                  subst c36
                  have H1 : (some false) = some r := by rw [if_neg (show ¬ (false = true) by decide)] at H; exact H
                  exact absurd (H1.trans (congrArg some HRT.out)) (by decide)
              · replace c33 := Bool.eq_false_iff.mpr c33
                subst c33
                have H1 : (some false) = some r := by rw [if_neg (show ¬ (false = true) by decide)] at H; exact H
                exact absurd (H1.trans (congrArg some HRT.out)) (by decide)
            · rw [if_neg c31] at H
              exact absurd H (by simp)
          · replace c30 := Bool.eq_false_iff.mpr c30
            subst c30
            have H1 : (some false) = some r := by rw [if_neg (show ¬ (false = true) by decide)] at H; exact H
            exact absurd (H1.trans (congrArg some HRT.out)) (by decide)
        · rw [if_neg c28] at H
          exact absurd H (by simp)
      · replace c27 := Bool.eq_false_iff.mpr c27
        subst c27
        have H1 : (some false) = some r := by rw [if_neg (show ¬ (false = true) by decide)] at H; exact H
        exact absurd (H1.trans (congrArg some HRT.out)) (by decide)
  · rw [if_neg c9] at H
    exact absurd (H.trans (congrArg some HRT.out)) (by decide)

/-- THE ONE PURE STATEMENT of sextonlaw09_nodesP: yours. -/

theorem sextonlaw09_nodesP_true : sextonlaw09_nodesP.f 8 = some true := by decide +kernel
/-- What it answers. -/
def sextonlaw09_nodes.f : Option Bool := some true
theorem sextonlaw09_nodes.calls (r : Bool) (w : World) (h : sextonlaw09_nodes.f = some r) :
    Calls Try.prog 29 #[] w fun e w' => e = .returned (.bool r) ∧ Below w.heap.size w w' := by
  obtain rfl := Option.some.inj h
  exact sextonlaw09_nodesP.calls 8 true (w := w) (h := sextonlaw09_nodesP_true)
end Go.Proofs.Ytoiohlmiofplcaa.P
