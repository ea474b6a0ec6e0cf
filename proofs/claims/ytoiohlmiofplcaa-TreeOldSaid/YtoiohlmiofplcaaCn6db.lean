/-
  Texts that the claims of this chapter share, joined.
-/
import Derived.Test.YtoiohlmiofplcaaPx0
import Derived.Test.YtoiohlmiofplcaaCn6da
import Derived.Lib.Strings
import Derived.Test.YtoiohlmiofplcaaWMore
set_option linter.unusedVariables false
set_option linter.unusedSimpArgs false
-- Written by a program of this session (xprint.py) over the kit's print.py.
namespace Go.Proofs.Ytoiohlmiofplcaa.P
open Go.RowKit Go.Proofs.YtoiohlmiofplcaaW.PrintWords Go.Proofs.YtoiohlmiofplcaaW.PrintLast Go.Proofs.YtoiohlmiofplcaaW.PrintMore
attribute [local go_sem] max2_int min2_int max_two min_two max_three min_three max_four min_four   -- for this text's walks alone
set_option linter.unusedVariables false
set_option linter.unusedSimpArgs false

/-! ### node_Drop: function 19 -/
def node_Drop.f (k : Nat) (l0 : List (S26)) (a1_0 : ByteArray) (a1_1 : Int) : Option ((List (S26))) := (node_Find.f l0 a1_0 a1_1).bind fun bt196 => (if bt196.2 = true then (if 0 ≤ bt196.1 then (if bt196.1 ≤ (l0.length : Int) then (if 0 ≤ (wrap64 (bt196.1 + 1)) then (if (wrap64 (bt196.1 + 1)) ≤ (l0.length : Int) then ((api_Pair.f k (([(l0.take (bt196.1 : Int).toNat), (l0.drop ((wrap64 (bt196.1 + 1)) : Int).toNat)] : List (List (S26))))).bind fun t211 => (some t211)) else (none)) else (none)) else (none)) else (none)) else ((api_Pair.f k (([l0] : List (List (S26))))).bind fun t217 => (some t217)))
def node_Drop.T4 : Bool × List (List Nat × List Nat) := (true, [([], []), ([], []), ([0, 1], [0, 1]), ([], []), ([], []), ([4], [4]), ([3, 5], [3, 5]), ([2, 6], [2, 6]), ([7], [7]), ([8, 8, 0, 1, 2, 3, 4, 5, 6, 7, 8], [8])])
def node_Drop.B4 : List Nat := [0, 0, 3, 0, 0, 16, 56, 127, 255, 511]
theorem node_Drop.tab4 : rtab .any (opsOf Try.f19 4) = node_Drop.T4 := by kernel_rfl
theorem node_Drop.bits4 : waitsOk node_Drop.T4.2 node_Drop.B4 = true := by kernel_rfl
set_option maxHeartbeats 8000000 in
set_option maxRecDepth 100000 in
theorem node_Drop.calls (k : Nat) (P0_ : Nat → Prop) (A0 : Option Addr) (c0 : Nat) (l0 : List (S26)) (a1_0 : ByteArray) (a1_1 : Int) (r : List (S26)) (w : World) (hs0 : Kd.V k26 26 w w.heap.size (fun k_ => P0_ k_) (.slice A0 l0.length c0) l0) (h : node_Drop.f k l0 a1_0 a1_1 = some r) :
    Calls Try.prog 19 #[.slice A0 l0.length c0, .agg #[.string a1_0, .int .i64 a1_1]] w fun e w' => ∃ v0_ : Value, e = .returned (v0_) ∧ Kd.R k26 26 w' w.heap.size (fun k_ => (w.heap.size ≤ k_)) v0_ r ∧ Below w.heap.size w w' := by
  have hu24 := Try.underlying24
  have HO0 := Aside0.mk (show Kd.V k26 26 w w.heap.size (fun k_ => (P0_ k_ ∨ w.heap.size ≤ k_)) (.slice A0 l0.length c0) l0 from Kd.V_mono hs0 (fun k_ hk => .inl hk))
  have HB := Aside0.mk (Below.refl w.heap.size w)
  have H : ((node_Find.f l0 a1_0 a1_1).bind fun bt196 => (if bt196.2 = true then (if 0 ≤ bt196.1 then (if bt196.1 ≤ (l0.length : Int) then (if 0 ≤ (wrap64 (bt196.1 + 1)) then (if (wrap64 (bt196.1 + 1)) ≤ (l0.length : Int) then ((api_Pair.f k (([(l0.take (bt196.1 : Int).toNat), (l0.drop ((wrap64 (bt196.1 + 1)) : Int).toNat)] : List (List (S26))))).bind fun t211 => (some t211)) else (none)) else (none)) else (none)) else (none)) else ((api_Pair.f k (([l0] : List (List (S26))))).bind fun t217 => (some t217)))) = some r := h
  clear h
  replace H := Option.bind_eq_some_iff.mp H
  obtain ⟨⟨t196, t197⟩, A30, H⟩ := H
  replace H : (if t197 = true then (if 0 ≤ t196 then (if t196 ≤ (l0.length : Int) then (if 0 ≤ (wrap64 (t196 + 1)) then (if (wrap64 (t196 + 1)) ≤ (l0.length : Int) then ((api_Pair.f k (([(l0.take (t196 : Int).toNat), (l0.drop ((wrap64 (t196 + 1)) : Int).toNat)] : List (List (S26))))).bind fun t211 => (some t211)) else (none)) else (none)) else (none)) else (none)) else ((api_Pair.f k (([l0] : List (List (S26))))).bind fun t217 => (some t217))) = some r := H
  have A3 := Aside0.mk A30
  clear A30
  by_cases c4 : t197 = true
  · subst c4
    have H1 : (if 0 ≤ t196 then (if t196 ≤ (l0.length : Int) then (if 0 ≤ (wrap64 (t196 + 1)) then (if (wrap64 (t196 + 1)) ≤ (l0.length : Int) then ((api_Pair.f k (([(l0.take (t196 : Int).toNat), (l0.drop ((wrap64 (t196 + 1)) : Int).toNat)] : List (List (S26))))).bind fun t211 => (some t211)) else (none)) else (none)) else (none)) else (none)) = some r := by rw [if_pos rfl] at H; exact H
    clear H
    have H := H1
    clear H1
    by_cases c5 : 0 ≤ t196
    · rw [if_pos c5] at H
      have c5b0 := eq_true c5
      have c5b1 : decide (0 ≤ t196) = true := decide_eq_true c5
      clear c5
      by_cases c6 : t196 ≤ (l0.length : Int)
      · rw [if_pos c6] at H
        have c6b0 := eq_true c6
        have c6b1 : decide (t196 ≤ (l0.length : Int)) = true := decide_eq_true c6
        clear c6
        obtain ⟨y198, hy198⟩ : ∃ y_ : List (S26), y_ = (l0.take (t196 : Int).toNat) := ⟨_, rfl⟩
        replace H : (if 0 ≤ (wrap64 (t196 + 1)) then (if (wrap64 (t196 + 1)) ≤ (l0.length : Int) then ((api_Pair.f k (([y198, (l0.drop ((wrap64 (t196 + 1)) : Int).toNat)] : List (List (S26))))).bind fun t211 => (some t211)) else (none)) else (none)) = some r := by first | (rw [hy198]; with_reducible exact H) | (have H2_ := (Option.bind_some _ _).symm.trans H; rw [hy198]; with_reducible exact H2_) | (have H2_ := (Option.bind_some _ _).symm.trans H; with_reducible exact H2_) | with_reducible exact H | (rw [hy198]; exact H) | exact H
        have Ny198 := Aside0.mk hy198
        clear hy198
        obtain ⟨ji7, hji7⟩ : ∃ j_ : Int, (wrap64 (t196 + 1)) = j_ := ⟨_, rfl⟩
        replace H : (if 0 ≤ (ji7) then (if (ji7) ≤ (l0.length : Int) then ((api_Pair.f k (([y198, (l0.drop ((ji7) : Int).toNat)] : List (List (S26))))).bind fun t211 => (some t211)) else (none)) else (none)) = some r := by first | (rw [hji7] at H; exact H) | (simp only [hji7] at H ⊢; exact H)
        (try rw [hji7] at A3)
        have hji7w : (IntKind.i64.wrap (t196 + 1)) = ji7 := (i64_w _).trans hji7
        by_cases c8 : 0 ≤ (ji7)
        · rw [if_pos c8] at H
          have c8b0 := eq_true c8
          have c8b1 : decide (0 ≤ (ji7)) = true := decide_eq_true c8
          clear c8
          by_cases c9 : (ji7) ≤ (l0.length : Int)
          · rw [if_pos c9] at H
            have c9b0 := eq_true c9
            have c9b1 : decide ((ji7) ≤ (l0.length : Int)) = true := decide_eq_true c9
            clear c9
            obtain ⟨y203, hy203⟩ : ∃ y_ : List (S26), y_ = (l0.drop ((ji7) : Int).toNat) := ⟨_, rfl⟩
            replace H : ((api_Pair.f k (([y198, y203] : List (List (S26))))).bind fun t211 => (some t211)) = some r := by first | (rw [hy203]; with_reducible exact H) | (have H2_ := (Option.bind_some _ _).symm.trans H; rw [hy203]; with_reducible exact H2_) | (have H2_ := (Option.bind_some _ _).symm.trans H; with_reducible exact H2_) | with_reducible exact H | (rw [hy203]; exact H) | exact H
            have Ny203 := Aside0.mk hy203
            clear hy203
            obtain ⟨y208, hy208⟩ : ∃ y_ : List (List (S26)), y_ = (([y198, y203] : List (List (S26)))) := ⟨_, rfl⟩
            replace H : ((api_Pair.f k y208).bind fun t211 => (some t211)) = some r := by first | (rw [hy208]; with_reducible exact H) | (have H2_ := (Option.bind_some _ _).symm.trans H; rw [hy208]; with_reducible exact H2_) | (have H2_ := (Option.bind_some _ _).symm.trans H; with_reducible exact H2_) | with_reducible exact H | (rw [hy208]; exact H) | exact H
            have Ny208 := Aside0.mk hy208
            clear hy208
            replace H := Option.bind_eq_some_iff.mp H
            obtain ⟨t211, A100, H⟩ := H
            replace H : (some t211) = some r := H
            have A10 := Aside0.mk A100
            clear A100
            obtain rfl := Option.some.inj H
            go_enter Try.func19, Try.ntmps19
            try go_wp2_with (first | ((with_reducible refine gate_dst (N := 3) rfl ?_); refine box_event ?hg (N := 3) ?hd (cs := #[.string a1_0, .int .i64 a1_1]) (t := 24) ?hr ?_; (case hd => rfl); (case hg => rfl); (case hr => first | (go_simp; done) | (go_simp; rfl)); intro gb195 hg w11 hbox hb; have n0_ := Aside0.mk (Kd.V_below (Kd.V_elderB (by (with_reducible repeat (first | apply Kd.V_alloc | apply Kd.V_drewN | apply Kd.V_drew)); exact HO0.out) gb195 (Nat.le_of_eq hg.symm)) hb); have n1_ := Aside0.mk (below_step (by repeat (first | (with_reducible first | exact HB.out | apply below_alloc | apply pw_below_drewN | apply below_drew1) | exact HB.out)) hb); have n2_ := Aside0.mk (hbox); have n3_ := Aside0.mk ((by rw [hg]; exact (below_size (by repeat (first | (with_reducible first | exact HB.out | apply below_alloc | apply pw_below_drewN | apply below_drew1) | exact HB.out))) : w.heap.size ≤ gb195)); have n4_ := Aside0.mk ((by rw [hg]; exact (below_size (by repeat (first | (with_reducible first | exact HB.out | apply below_alloc | apply pw_below_drewN | apply below_drew1) | exact HB.out))) : w.heap.size ≤ gb195)); clear HO0; clear HB; have HO0 := n0_; have HB := n1_; have BK195 := n2_; have GW195 := n3_; have GE195 := n4_; clear n0_ n1_ n2_ n3_ n4_; clear hb hbox hg; have hcz12_0 : w11.cell? ⟨gb195, 0, none⟩ = some (.string a1_0) := (blk_cell BK195.out 0).trans rfl; have hcz12_1 : w11.cell? ⟨gb195, 1, none⟩ = some (.int .i64 a1_1) := (blk_cell BK195.out 1).trans rfl; have hfz12_0 := blk_frozen BK195.out 0; have hfz12_1 := blk_frozen BK195.out 1) | ((with_reducible refine gate_callee (f := 15) rfl ?_); refine goesL_ (some 10) rfl rfl Try.func15 (by kernel_rfl) rfl #[.slice A0 l0.length c0, .agg #[.string a1_0, .int .i64 a1_1]] rfl (by (try simp only [List.map_toArray, List.map_cons, List.map_nil]); first | done | rfl | (simp only [List.length_drop, List.length_take]; rfl)) ?_; (with_reducible refine (node_Find.calls _ _ l0 a1_0 a1_1 t196 true _ ?side1 ?side2 A3.out).mono ?_); (case side1 => repeat (first | exact (Kd.V_reads' HO0.out).2.2 | (with_reducible refine Kd.C_alloc ?_ _) | (with_reducible refine Kd.C_drewN ?_ _) | (with_reducible refine Kd.C_drew ?_))); (case side2 => exact (Kd.V_reads' HO0.out).2.1); rintro e w13 ⟨rfl, hb⟩; refine ⟨_, rfl, ?_⟩; have n0_ := Aside0.mk (Kd.V_below (by (with_reducible repeat (first | apply Kd.V_alloc | apply Kd.V_drewN | apply Kd.V_drew)); exact HO0.out) hb); have n1_ := Aside0.mk (blk_below (g := gb195) (o := .cells #[.string a1_0, .int .i64 a1_1] 24 (0, 0)) (by (with_reducible repeat (first | refine blk_drewN ?_ _ | refine blk_drew ?_ | refine blk_alloc ?_ _)); exact BK195.out) hb); have n2_ := Aside0.mk (below_step (by repeat (first | (with_reducible first | exact HB.out | apply below_alloc | apply pw_below_drewN | apply below_drew1 | refine below_set ?_ GE195.out) | exact HB.out)) hb); clear HO0; clear BK195; clear HB; have HO0 := n0_; have BK195 := n1_; have HB := n2_; clear n0_ n1_ n2_; (try clear hb); (try clear hb2); (try clear hk); (try clear hi)))
            have n0_ := Aside0.mk (Kd.V_drew HO0.out)
            have n1_ := Aside0.mk (blk_drew BK195.out)
            have n2_ := Aside0.mk (below_drew1 HB.out)
            clear HO0
            clear BK195
            clear HB
            have HO0 := n0_
            have BK195 := n1_
            have HB := n2_
            clear n0_ n1_ n2_
            have q15 : (t196 : Int) ≤ ((l0.length : Int) : Int) := of_decide_eq_true (by first | (with_reducible assumption) | assumption)
            obtain ⟨i015, hi015, _, hsz15, _⟩ := info_parts info26
            have hroom15 : l0.length ≤ c0 := (Kd.V_reads' HO0.out).2.1
            have hC15 : Kd.F k26 _ _ A0 l0.length l0 := (Kd.V_at (base := w.heap.size) HO0.out).2.2
            have hcut15 := cut_to (P := Try.prog) 22 26 .i64 Try.underlying22 hi015 A0 l0.length c0 t196 (of_decide_eq_true (by first | (with_reducible assumption) | assumption)) q15 hroom15
            have hr15 := Kd.F_take (m := (t196 : Int).toNat) hC15 (by omega)
            have hy15 : y198.length = (t196 : Int).toNat := (by rw [Ny198.out, List.length_take]; omega)
            rw [← Ny198.out] at hr15
            rw [← hy15] at hcut15
            have HO202 := Aside0.mk (show Kd.V k26 26 _ w.heap.size _ (.slice A0 y198.length c0) y198 from Kd.V_mk (by omega) hr15)
            have HC202 := Aside0.mk (show y198.length ≤ c0 from by omega)
            clear hr15 hC15 hroom15 hi015 hsz15
            have KY15 := Aside0.mk hy15
            clear hy15
            replace q15 := eq_true q15
            have q16 : ((ji7) : Int) ≤ ((l0.length : Int) : Int) := of_decide_eq_true (by first | (with_reducible assumption) | assumption)
            obtain ⟨i016, hi016, _, hsz16, _⟩ := info_parts info26
            have hroom16 : l0.length ≤ c0 := (Kd.V_reads' HO0.out).2.1
            have hC16 : Kd.F k26 _ _ A0 l0.length l0 := (Kd.V_at (base := w.heap.size) HO0.out).2.2
            have q016 : (0 : Int) ≤ ((ji7) : Int) := of_decide_eq_true (by first | (with_reducible assumption) | assumption)
            have hcut16 := cut_from (P := Try.prog) 22 26 .i64 Try.underlying22 hi016 3 hsz16 A0 l0.length c0 (ji7) q016 q16
            have hr16 := Kd.F_cut (m := ((ji7) : Int).toNat) (c := c0) hC16 (by omega) hroom16
            obtain ⟨A16, hA16⟩ : ∃ A1, A1 = (if c0 = ((ji7) : Int).toNat then A0 else (A0 : Option Addr).map (·.add (((ji7) : Int).toNat * 3))) := ⟨_, rfl⟩
            obtain ⟨c16, hc16⟩ : ∃ c1, c1 = c0 - ((ji7) : Int).toNat := ⟨_, rfl⟩
            have hy16 : y203.length = l0.length - ((ji7) : Int).toNat := (by rw [Ny203.out, List.length_drop] <;> omega)
            rw [show (l0).drop ((ji7) : Int).toNat = y203 from Ny203.out.symm] at hr16
            replace hr16 : Kd.F k26 _ _ A16 y203.length y203 := (by rw [hA16]; exact hr16)
            rw [← hy16, ← hA16, ← hc16] at hcut16
            have HO207 := Aside0.mk (show Kd.V k26 26 _ w.heap.size _ (.slice A16 y203.length c16) y203 from Kd.V_mk (by rw [hy16, hc16]; exact Nat.sub_le_sub_right hroom16 _) hr16)
            have HC207 := Aside0.mk (show y203.length ≤ c16 from by rw [hy16, hc16]; exact Nat.sub_le_sub_right hroom16 _)
            clear hr16 hC16 hroom16 hi016 hsz16 hc16
            have KY16 := Aside0.mk hy16
            have KA16 := Aside0.mk hA16
            clear hy16 hA16
            replace q16 := eq_true q16
            refine start_ (n := 10) (S := fun w' => True) (ds := []) #[false, false, false, false, false, false, false, false, false, false] (by kernel_rfl) rfl rfl trivial (fun hHeld => ?_); refine with_tabW node_Drop.tab4 node_Drop.bits4 (fun HT_ HW_ => ?_)
            generalize w13.drew = w14 at HO0 BK195 HB HO202 HO207 hHeld ⊢
            refine pure_ (i := 0) (N := some 18) (v := ?_) (a' := ?_) #[true, false, false, false, false, false, false, false, false, false] rfl rfl (any_of HT_.out (by kernel_rfl)) (fun _ _ _ h => h) (Or.inl ⟨by rfl, ?_⟩) ?_ ?_
            rotate_left
            · intro w'
              go_simp
              with_reducible rfl
            rotate_left
            · simp only [Act.put, List.setIfInBounds_toArray, List.set_cons_zero, List.set_cons_succ, i64_w, i32_w]
              rfl
            refine pure_ (i := 1) (N := some 19) (v := ?_) (a' := ?_) #[true, true, false, false, false, false, false, false, false, false] rfl rfl (any_of HT_.out (by kernel_rfl)) (fun _ _ _ h => h) (Or.inl ⟨by rfl, ?_⟩) ?_ ?_
            rotate_left
            · intro w'
              go_simp
              with_reducible rfl
            rotate_left
            · simp only [Act.put, List.setIfInBounds_toArray, List.set_cons_zero, List.set_cons_succ, i64_w, i32_w]
              rfl
            refine pure_ (i := 2) (N := some 20) (v := ?_) (a' := ?_) #[true, true, true, false, false, false, false, false, false, false] rfl rfl (any_of HT_.out (by kernel_rfl)) (fun _ _ _ h => h) (Or.inl ⟨by rfl, ?_⟩) ?_ ?_
            rotate_left
            · intro w'
              go_simp
              with_reducible rfl
            rotate_left
            · simp only [Act.put, List.setIfInBounds_toArray, List.set_cons_zero, List.set_cons_succ, i64_w, i32_w]
              rfl
            refine pure_ (i := 3) (N := some 21) (v := ?_) (a' := ?_) #[true, true, true, true, false, false, false, false, false, false] rfl rfl (any_of HT_.out (by kernel_rfl)) (fun _ _ _ h => h) (Or.inl ⟨by rfl, ?_⟩) ?_ ?_
            rotate_left
            · intro w'
              go_simp
              with_reducible rfl
            rotate_left
            · simp only [Act.put, List.setIfInBounds_toArray, List.set_cons_zero, List.set_cons_succ, i64_w, i32_w]
              rfl
            refine pure_ (i := 4) (N := some 22) (v := ?_) (a' := ?_) #[true, true, true, true, true, false, false, false, false, false] rfl rfl (any_of HT_.out (by kernel_rfl)) (fun _ _ _ h => h) (Or.inl ⟨by rfl, ?_⟩) ?_ ?_
            rotate_left
            · intro w'
              go_simp
              with_reducible rfl
            rotate_left
            · simp only [Act.put, List.setIfInBounds_toArray, List.set_cons_zero, List.set_cons_succ, i64_w, i32_w]
              rfl
            refine pure_ (i := 5) (N := some 23) (v := ?_) (a' := ?_) #[true, true, true, true, true, true, false, false, false, false] rfl rfl (any_of HT_.out (by kernel_rfl)) (fun _ _ _ h => h) (Or.inl ⟨by rfl, ?_⟩) ?_ ?_
            rotate_left
            · intro w'
              go_simp
              with_reducible rfl
            rotate_left
            · simp only [Act.put, List.setIfInBounds_toArray, List.set_cons_zero, List.set_cons_succ, i64_w, i32_w]
              rfl
            refine pure_ (i := 6) (N := some 24) (v := ?_) (a' := ?_) #[true, true, true, true, true, true, true, false, false, false] rfl rfl (any_of HT_.out (by kernel_rfl)) (fun _ _ _ h => h) (Or.inl ⟨by rfl, ?_⟩) ?_ ?_
            rotate_left
            · intro w'
              go_simp
              with_reducible rfl
            rotate_left
            · simp only [Act.put, List.setIfInBounds_toArray, List.set_cons_zero, List.set_cons_succ, i64_w, i32_w]
              rfl
            refine one_ (i := 7) (N := some 25) #[true, true, true, true, true, true, true, true, false, false] rfl rfl (one_of HT_.out (by kernel_rfl)) (by decide) (fun K hK => ?_)
            refine Kd.N_lit_step (Kd.slice 26 k26) _ 22 ?hg (N' := 25) ?hd (xs := ([y198, y203] : List (List (S26)))) (inner := [.slice A0 y198.length c0, .slice A16 y203.length c16]) (ok := (fun k_ => (P0_ k_ ∨ w.heap.size ≤ k_) ∧ k_ ≠ gb195)) (okp := (fun k_ => (P0_ k_ ∨ w.heap.size ≤ k_) ∧ k_ ≠ gb195)) ?hr ?hp (fun _ hk => hk) ((show ∀ k_, w14.heap.size ≤ k_ → (fun k_ => (P0_ k_ ∨ w.heap.size ≤ k_) ∧ k_ ≠ gb195) k_ from fun k_ hk => ⟨(.inr (Nat.le_trans (below_size (by repeat (first | (with_reducible first | exact HB.out | apply below_alloc | apply pw_below_drewN | apply below_drew1 | refine below_set ?_ GE195.out) | exact HB.out))) hk)), Kd.freshB (g := gb195) (o := .cells #[.string a1_0, .int .i64 a1_1] 24 (0, 0)) (by (with_reducible repeat (first | refine blk_drewN ?_ _ | refine blk_drew ?_ | refine blk_alloc ?_ _)); exact BK195.out) k_ hk⟩) _ (Nat.le_refl _)) (Below.refl _ _) (Nat.le_refl _) (by simp) ?_; (case hd => rfl); (case hg => rfl); (case hr => first | (go_simp; done) | (go_simp; rfl)); (case hp => exact (Reps.one (show Kd.FK (Kd.slice 26 k26) _ _ y198 [.slice A0 y198.length c0] from (Kd.FK_slice_mk (Kd.V_reads' (Kd.V_mono (ok' := (fun k_ => (P0_ k_ ∨ w.heap.size ≤ k_) ∧ k_ ≠ gb195)) (HO202.out) (fun k_ hk => ⟨hk.1, hk.2⟩))).2.1 (Kd.V_F (Kd.V_mono (ok' := (fun k_ => (P0_ k_ ∨ w.heap.size ≤ k_) ∧ k_ ≠ gb195)) (HO202.out) (fun k_ hk => ⟨hk.1, hk.2⟩))))) (Reps.one (show Kd.FK (Kd.slice 26 k26) _ _ y203 [.slice A16 y203.length c16] from (Kd.FK_slice_mk (Kd.V_reads' (Kd.V_mono (ok' := (fun k_ => (P0_ k_ ∨ w.heap.size ≤ k_) ∧ k_ ≠ gb195)) (HO207.out) (fun k_ hk => ⟨hk.1, hk.2⟩))).2.1 (Kd.V_F (Kd.V_mono (ok' := (fun k_ => (P0_ k_ ∨ w.heap.size ≤ k_) ∧ k_ ≠ gb195)) (HO207.out) (fun k_ hk => ⟨hk.1, hk.2⟩))))) (Reps.none _ _))))
            intro v209 w17 ho18 hb hg_ hnew_
            clear hg_ hnew_
            (first | rw [← Ny208.out] at ho18 | (simp only [Int.reduceToNat] at ho18; rw [← Ny208.out] at ho18))
            have n0_ := Aside0.mk (Kd.V_elder' (by (with_reducible repeat (first | apply Kd.V_alloc | apply Kd.V_drewN | apply Kd.V_drew)); exact HO0.out) (Kd.N_base ho18) hb)
            have n1_ := Aside0.mk (Kd.V_elder' (by (with_reducible repeat (first | apply Kd.V_alloc | apply Kd.V_drewN | apply Kd.V_drew)); exact HO202.out) (Kd.N_base ho18) hb)
            have n2_ := Aside0.mk (Kd.V_elder' (by (with_reducible repeat (first | apply Kd.V_alloc | apply Kd.V_drewN | apply Kd.V_drew)); exact HO207.out) (Kd.N_base ho18) hb)
            have n3_ := Aside0.mk (Kd.N_lower ho18 (below_size (by repeat (first | (with_reducible first | exact HB.out | apply below_alloc | apply pw_below_drewN | apply below_drew1 | refine below_set ?_ GE195.out) | exact HB.out))))
            have n4_ := Aside0.mk (blk_below (g := gb195) (o := .cells #[.string a1_0, .int .i64 a1_1] 24 (0, 0)) (by (with_reducible repeat (first | refine blk_drewN ?_ _ | refine blk_drew ?_ | refine blk_alloc ?_ _)); exact BK195.out) hb)
            have n5_ := Aside0.mk (below_step (by repeat (first | (with_reducible first | exact HB.out | apply below_alloc | apply pw_below_drewN | apply below_drew1 | refine below_set ?_ GE195.out) | exact HB.out)) hb)
            clear HO0
            clear HO202
            clear HO207
            clear BK195
            clear HB
            have HO0 := n0_
            have HO202 := n1_
            have HO207 := n2_
            have HO210 := n3_
            have BK195 := n4_
            have HB := n5_
            clear n0_ n1_ n2_ n3_ n4_ n5_
            clear hb ho18
            obtain ⟨Ao19, co19, eo19⟩ := Kd.N_slice HO210.out
            (first | subst eo19 | (injection eo19 with f1_ f2_ f3_; have f4_ := f1_.symm; have f5_ := f3_.symm; clear f1_ f2_ f3_; subst f4_; subst f5_))
            refine hK.out _ _ trivial (fun hHeld => ?_)
            clear hK K
            refine norm_ (a' := ?_) ?_ ?_
            rotate_left
            · show Act.put _ (some 25) _ = _
              simp only [Act.put, List.setIfInBounds_toArray, List.set_cons_zero, List.set_cons_succ, i64_w, i32_w]
              rfl
            refine one_ (i := 8) (N := some 26) #[true, true, true, true, true, true, true, true, true, false] rfl rfl (one_of HT_.out (by kernel_rfl)) (by decide) (fun K hK => ?_)
            refine goes_ Try.func48 (by kernel_rfl) rfl #[.slice Ao19 y208.length co19] (by rfl) rfl rfl (by (try simp only [List.map_toArray, List.map_cons, List.map_nil]); first | done | rfl | (simp only [List.length_drop, List.length_take]; rfl)) ?_
            with_reducible refine (api_Pair.calls k _ _ y208 t211 _ ?side1 ?side2 A10.out).mono ?_
            (case side1 => repeat (first | exact (Kd.N_reads' HO210.out).2.2 | (with_reducible refine Kd.C_alloc ?_ _) | (with_reducible refine Kd.C_drewN ?_ _) | (with_reducible refine Kd.C_drew ?_)))
            (case side2 => exact (Kd.N_reads' HO210.out).2.1)
            rintro e w20 ⟨v212, rfl, ho0, hb⟩
            refine ⟨_, rfl, ?_⟩
            have n0_ := Aside0.mk (Kd.V_elder' (by (with_reducible repeat (first | apply Kd.V_alloc | apply Kd.V_drewN | apply Kd.V_drew)); exact HO0.out) (Kd.R_base ho0) hb)
            have n1_ := Aside0.mk (Kd.V_elder' (by (with_reducible repeat (first | apply Kd.V_alloc | apply Kd.V_drewN | apply Kd.V_drew)); exact HO202.out) (Kd.R_base ho0) hb)
            have n2_ := Aside0.mk (Kd.V_elder' (by (with_reducible repeat (first | apply Kd.V_alloc | apply Kd.V_drewN | apply Kd.V_drew)); exact HO207.out) (Kd.R_base ho0) hb)
            have n3_ := Aside0.mk (Kd.N_elder' (by (with_reducible repeat (first | apply Kd.N_alloc | apply Kd.N_drewN | apply Kd.N_drew)); exact HO210.out) (Kd.R_base ho0) hb)
            have n4_ := Aside0.mk (Kd.R_lower (Kd.R_newM (M := fun k_ => (w.heap.size ≤ k_)) ho0 (below_size (by repeat (first | (with_reducible first | exact HB.out | apply below_alloc | apply pw_below_drewN | apply below_drew1 | refine below_set ?_ GE195.out) | exact HB.out))) (fun k_ h_ => h_)) (below_size (by repeat (first | (with_reducible first | exact HB.out | apply below_alloc | apply pw_below_drewN | apply below_drew1 | refine below_set ?_ GE195.out) | exact HB.out))))
            have n5_ := Aside0.mk (blk_below (g := gb195) (o := .cells #[.string a1_0, .int .i64 a1_1] 24 (0, 0)) (by (with_reducible repeat (first | refine blk_drewN ?_ _ | refine blk_drew ?_ | refine blk_alloc ?_ _)); exact BK195.out) hb)
            have n6_ := Aside0.mk (below_step (by repeat (first | (with_reducible first | exact HB.out | apply below_alloc | apply pw_below_drewN | apply below_drew1 | refine below_set ?_ GE195.out) | exact HB.out)) hb)
            clear HO0
            clear HO202
            clear HO207
            clear HO210
            clear BK195
            clear HB
            have HO0 := n0_
            have HO202 := n1_
            have HO207 := n2_
            have HO210 := n3_
            have HO213 := n4_
            have BK195 := n5_
            have HB := n6_
            clear n0_ n1_ n2_ n3_ n4_ n5_ n6_
            (try clear hb)
            (try clear hb2)
            (try clear hk)
            (try clear hi)
            (try clear ho0)
            refine hK.out _ _ trivial (fun hHeld => ?_)
            clear hK K
            refine norm_ (a' := ?_) ?_ ?_
            rotate_left
            · show Act.put _ (some 26) _ = _
              simp only [Act.put, List.setIfInBounds_toArray, List.set_cons_zero, List.set_cons_succ, i64_w, i32_w]
              rfl
            refine pure_ (i := 9) (N := some 4) (v := ?_) (a' := ?_) #[true, true, true, true, true, true, true, true, true, true] rfl rfl (any_of HT_.out (by kernel_rfl)) (fun _ _ _ h => h) (Or.inl ⟨by rfl, ?_⟩) ?_ ?_
            rotate_left
            · intro w'
              go_simp
              with_reducible rfl
            rotate_left
            · simp only [Act.put, List.setIfInBounds_toArray, List.set_cons_zero, List.set_cons_succ, i64_w, i32_w]
              rfl
            refine done_ (done_of HT_.out (by kernel_rfl)) ?_
            try go_wp2
            go_ret
            exact ⟨_, by first | rfl | (simp [errW_none, errW_some] <;> rfl) | (simp only [← hji7]; first | rfl | (simp [errW_none, errW_some] <;> rfl)) | (simp [*, errW_none, errW_some] <;> rfl), by (with_reducible repeat (first | apply Kd.R_alloc | apply Kd.R_drewN | apply Kd.R_drew)); exact Kd.R_mono HO213.out (fun _ hk => hk.1), by repeat (first | (with_reducible first | exact HB.out | apply below_alloc | apply pw_below_drewN | apply below_drew1 | refine below_set ?_ GE195.out) | exact HB.out)⟩
          · rw [if_neg c9] at H
            exact absurd H (by simp)
        · rw [if_neg c8] at H
          exact absurd H (by simp)
      · rw [if_neg c6] at H
        exact absurd H (by simp)
    · rw [if_neg c5] at H
      exact absurd H (by simp)
  · replace c4 := Bool.eq_false_iff.mpr c4
    subst c4
    have H1 : ((api_Pair.f k (([l0] : List (List (S26))))).bind fun t217 => (some t217)) = some r := by rw [if_neg (show ¬ (false = true) by decide)] at H; exact H
    clear H
    have H := H1
    clear H1
    obtain ⟨y214, hy214⟩ : ∃ y_ : List (List (S26)), y_ = (([l0] : List (List (S26)))) := ⟨_, rfl⟩
    replace H : ((api_Pair.f k y214).bind fun t217 => (some t217)) = some r := by first | (rw [hy214]; with_reducible exact H) | (have H2_ := (Option.bind_some _ _).symm.trans H; rw [hy214]; with_reducible exact H2_) | (have H2_ := (Option.bind_some _ _).symm.trans H; with_reducible exact H2_) | with_reducible exact H | (rw [hy214]; exact H) | exact H
    have Ny214 := Aside0.mk hy214
    clear hy214
    replace H := Option.bind_eq_some_iff.mp H
    obtain ⟨t217, A210, H⟩ := H
    replace H : (some t217) = some r := H
    have A21 := Aside0.mk A210
    clear A210
    obtain rfl := Option.some.inj H
    go_enter Try.func19, Try.ntmps19
    go_wp2_with (first | ((with_reducible refine gate_dst (N := 3) rfl ?_); refine box_event ?hg (N := 3) ?hd (cs := #[.string a1_0, .int .i64 a1_1]) (t := 24) ?hr ?_; (case hd => rfl); (case hg => rfl); (case hr => first | (go_simp; done) | (go_simp; rfl)); intro gb195 hg w22 hbox hb; have n0_ := Aside0.mk (Kd.V_below (Kd.V_elderB (by (with_reducible repeat (first | apply Kd.V_alloc | apply Kd.V_drewN | apply Kd.V_drew)); exact HO0.out) gb195 (Nat.le_of_eq hg.symm)) hb); have n1_ := Aside0.mk (below_step (by repeat (first | (with_reducible first | exact HB.out | apply below_alloc | apply pw_below_drewN | apply below_drew1) | exact HB.out)) hb); have n2_ := Aside0.mk (hbox); have n3_ := Aside0.mk ((by rw [hg]; exact (below_size (by repeat (first | (with_reducible first | exact HB.out | apply below_alloc | apply pw_below_drewN | apply below_drew1) | exact HB.out))) : w.heap.size ≤ gb195)); have n4_ := Aside0.mk ((by rw [hg]; exact (below_size (by repeat (first | (with_reducible first | exact HB.out | apply below_alloc | apply pw_below_drewN | apply below_drew1) | exact HB.out))) : w.heap.size ≤ gb195)); clear HO0; clear HB; have HO0 := n0_; have HB := n1_; have BK195 := n2_; have GW195 := n3_; have GE195 := n4_; clear n0_ n1_ n2_ n3_ n4_; clear hb hbox hg; have hcz23_0 : w22.cell? ⟨gb195, 0, none⟩ = some (.string a1_0) := (blk_cell BK195.out 0).trans rfl; have hcz23_1 : w22.cell? ⟨gb195, 1, none⟩ = some (.int .i64 a1_1) := (blk_cell BK195.out 1).trans rfl; have hfz23_0 := blk_frozen BK195.out 0; have hfz23_1 := blk_frozen BK195.out 1) | ((with_reducible refine gate_callee (f := 15) rfl ?_); refine goesL_ (some 10) rfl rfl Try.func15 (by kernel_rfl) rfl #[.slice A0 l0.length c0, .agg #[.string a1_0, .int .i64 a1_1]] rfl (by (try simp only [List.map_toArray, List.map_cons, List.map_nil]); first | done | rfl | (simp only [List.length_drop, List.length_take]; rfl)) ?_; (with_reducible refine (node_Find.calls _ _ l0 a1_0 a1_1 t196 false _ ?side1 ?side2 A3.out).mono ?_); (case side1 => repeat (first | exact (Kd.V_reads' HO0.out).2.2 | (with_reducible refine Kd.C_alloc ?_ _) | (with_reducible refine Kd.C_drewN ?_ _) | (with_reducible refine Kd.C_drew ?_))); (case side2 => exact (Kd.V_reads' HO0.out).2.1); rintro e w24 ⟨rfl, hb⟩; refine ⟨_, rfl, ?_⟩; have n0_ := Aside0.mk (Kd.V_below (by (with_reducible repeat (first | apply Kd.V_alloc | apply Kd.V_drewN | apply Kd.V_drew)); exact HO0.out) hb); have n1_ := Aside0.mk (blk_below (g := gb195) (o := .cells #[.string a1_0, .int .i64 a1_1] 24 (0, 0)) (by (with_reducible repeat (first | refine blk_drewN ?_ _ | refine blk_drew ?_ | refine blk_alloc ?_ _)); exact BK195.out) hb); have n2_ := Aside0.mk (below_step (by repeat (first | (with_reducible first | exact HB.out | apply below_alloc | apply pw_below_drewN | apply below_drew1 | refine below_set ?_ GE195.out) | exact HB.out)) hb); clear HO0; clear BK195; clear HB; have HO0 := n0_; have BK195 := n1_; have HB := n2_; clear n0_ n1_ n2_; (try clear hb); (try clear hb2); (try clear hk); (try clear hi)) | ((with_reducible refine gate_dst (N := 16) rfl ?_); refine Kd.N_lit (Kd.slice 26 k26) _ 22 ?hg (N' := 16) ?hd (xs := ([l0] : List (List (S26)))) (inner := [.slice A0 l0.length c0]) (ok := (fun k_ => (P0_ k_ ∨ w.heap.size ≤ k_) ∧ k_ ≠ gb195)) (okp := (fun k_ => (P0_ k_ ∨ w.heap.size ≤ k_) ∧ k_ ≠ gb195)) ?hr ?hp (fun _ hk => hk) ((show ∀ k_, w24.heap.size ≤ k_ → (fun k_ => (P0_ k_ ∨ w.heap.size ≤ k_) ∧ k_ ≠ gb195) k_ from fun k_ hk => ⟨(.inr (Nat.le_trans (below_size (by repeat (first | (with_reducible first | exact HB.out | apply below_alloc | apply pw_below_drewN | apply below_drew1 | refine below_set ?_ GE195.out) | exact HB.out))) hk)), Kd.freshB (g := gb195) (o := .cells #[.string a1_0, .int .i64 a1_1] 24 (0, 0)) (by (with_reducible repeat (first | refine blk_drewN ?_ _ | refine blk_drew ?_ | refine blk_alloc ?_ _)); exact BK195.out) k_ hk⟩) _ (Nat.le_refl _)) (Below.refl _ _) (Nat.le_refl _) (by simp) ?_; (case hd => rfl); (case hg => rfl); (case hr => first | (go_simp; done) | (go_simp; rfl)); (case hp => exact (Reps.one (show Kd.FK (Kd.slice 26 k26) _ _ l0 [.slice A0 l0.length c0] from (Kd.FK_slice_mk (Kd.V_reads' (Kd.V_mono (ok' := (fun k_ => (P0_ k_ ∨ w.heap.size ≤ k_) ∧ k_ ≠ gb195)) (HO0.out) (fun k_ hk => ⟨hk.1, hk.2⟩))).2.1 (Kd.V_F (Kd.V_mono (ok' := (fun k_ => (P0_ k_ ∨ w.heap.size ≤ k_) ∧ k_ ≠ gb195)) (HO0.out) (fun k_ hk => ⟨hk.1, hk.2⟩))))) (Reps.none _ _))); intro v215 w25 ho26 hb hg_ hnew_; clear hg_ hnew_; (first | rw [← Ny214.out] at ho26 | (simp only [Int.reduceToNat] at ho26; rw [← Ny214.out] at ho26)); have n0_ := Aside0.mk (Kd.V_elder' (by (with_reducible repeat (first | apply Kd.V_alloc | apply Kd.V_drewN | apply Kd.V_drew)); exact HO0.out) (Kd.N_base ho26) hb); have n1_ := Aside0.mk (Kd.N_lower ho26 (below_size (by repeat (first | (with_reducible first | exact HB.out | apply below_alloc | apply pw_below_drewN | apply below_drew1 | refine below_set ?_ GE195.out) | exact HB.out)))); have n2_ := Aside0.mk (blk_below (g := gb195) (o := .cells #[.string a1_0, .int .i64 a1_1] 24 (0, 0)) (by (with_reducible repeat (first | refine blk_drewN ?_ _ | refine blk_drew ?_ | refine blk_alloc ?_ _)); exact BK195.out) hb); have n3_ := Aside0.mk (below_step (by repeat (first | (with_reducible first | exact HB.out | apply below_alloc | apply pw_below_drewN | apply below_drew1 | refine below_set ?_ GE195.out) | exact HB.out)) hb); clear HO0; clear BK195; clear HB; have HO0 := n0_; have HO216 := n1_; have BK195 := n2_; have HB := n3_; clear n0_ n1_ n2_ n3_; clear hb ho26; obtain ⟨Ao27, co27, eo27⟩ := Kd.N_slice HO216.out; subst eo27) | ((with_reducible refine gate_callee (f := 48) rfl ?_); refine goesL_ (some 17) rfl rfl Try.func48 (by kernel_rfl) rfl #[.slice Ao27 y214.length co27] rfl (by (try simp only [List.map_toArray, List.map_cons, List.map_nil]); first | done | rfl | (simp only [List.length_drop, List.length_take]; rfl)) ?_; (with_reducible refine (api_Pair.calls k _ _ y214 t217 _ ?side1 ?side2 A21.out).mono ?_); (case side1 => repeat (first | exact (Kd.N_reads' HO216.out).2.2 | (with_reducible refine Kd.C_alloc ?_ _) | (with_reducible refine Kd.C_drewN ?_ _) | (with_reducible refine Kd.C_drew ?_))); (case side2 => exact (Kd.N_reads' HO216.out).2.1); rintro e w28 ⟨v218, rfl, ho0, hb⟩; refine ⟨_, rfl, ?_⟩; have n0_ := Aside0.mk (Kd.V_elder' (by (with_reducible repeat (first | apply Kd.V_alloc | apply Kd.V_drewN | apply Kd.V_drew)); exact HO0.out) (Kd.R_base ho0) hb); have n1_ := Aside0.mk (Kd.N_elder' (by (with_reducible repeat (first | apply Kd.N_alloc | apply Kd.N_drewN | apply Kd.N_drew)); exact HO216.out) (Kd.R_base ho0) hb); have n2_ := Aside0.mk (Kd.R_lower (Kd.R_newM (M := fun k_ => (w.heap.size ≤ k_)) ho0 (below_size (by repeat (first | (with_reducible first | exact HB.out | apply below_alloc | apply pw_below_drewN | apply below_drew1 | refine below_set ?_ GE195.out) | exact HB.out))) (fun k_ h_ => h_)) (below_size (by repeat (first | (with_reducible first | exact HB.out | apply below_alloc | apply pw_below_drewN | apply below_drew1 | refine below_set ?_ GE195.out) | exact HB.out)))); have n3_ := Aside0.mk (blk_below (g := gb195) (o := .cells #[.string a1_0, .int .i64 a1_1] 24 (0, 0)) (by (with_reducible repeat (first | refine blk_drewN ?_ _ | refine blk_drew ?_ | refine blk_alloc ?_ _)); exact BK195.out) hb); have n4_ := Aside0.mk (below_step (by repeat (first | (with_reducible first | exact HB.out | apply below_alloc | apply pw_below_drewN | apply below_drew1 | refine below_set ?_ GE195.out) | exact HB.out)) hb); clear HO0; clear HO216; clear BK195; clear HB; have HO0 := n0_; have HO216 := n1_; have HO219 := n2_; have BK195 := n3_; have HB := n4_; clear n0_ n1_ n2_ n3_ n4_; (try clear hb); (try clear hb2); (try clear hk); (try clear hi); (try clear ho0)))
    go_ret
    exact ⟨_, by first | rfl | (simp [errW_none, errW_some] <;> rfl) | (simp [*, errW_none, errW_some] <;> rfl), by (with_reducible repeat (first | apply Kd.R_alloc | apply Kd.R_drewN | apply Kd.R_drew)); exact Kd.R_mono HO219.out (fun _ hk => hk.1), by repeat (first | (with_reducible first | exact HB.out | apply below_alloc | apply pw_below_drewN | apply below_drew1 | refine below_set ?_ GE195.out) | exact HB.out)⟩

end Go.Proofs.Ytoiohlmiofplcaa.P
-- Written by a program of this session (xprint.py) over the kit's print.py.
namespace Go.Proofs.Ytoiohlmiofplcaa.P
open Go.RowKit Go.Proofs.YtoiohlmiofplcaaW.PrintWords Go.Proofs.YtoiohlmiofplcaaW.PrintLast Go.Proofs.YtoiohlmiofplcaaW.PrintMore
attribute [local go_sem] max2_int min2_int max_two min_two max_three min_three max_four min_four   -- for this text's walks alone
set_option linter.unusedVariables false
set_option linter.unusedSimpArgs false

/-! ### node_Split: function 21 -/
end Go.Proofs.Ytoiohlmiofplcaa.P
-- Written by a program of this session (xprint.py) over the kit's print.py.
namespace Go.Proofs.Ytoiohlmiofplcaa.P
open Go.RowKit Go.Proofs.YtoiohlmiofplcaaW.PrintWords Go.Proofs.YtoiohlmiofplcaaW.PrintLast Go.Proofs.YtoiohlmiofplcaaW.PrintMore
attribute [local go_sem] max2_int min2_int max_two min_two max_three min_three max_four min_four   -- for this text's walks alone
set_option linter.unusedVariables false
set_option linter.unusedSimpArgs false

/-! ### node_Level: function 23 -/
end Go.Proofs.Ytoiohlmiofplcaa.P
-- Written by a program of this session (xprint.py) over the kit's print.py.
namespace Go.Proofs.Ytoiohlmiofplcaa.P
open Go.RowKit Go.Proofs.YtoiohlmiofplcaaW.PrintWords Go.Proofs.YtoiohlmiofplcaaW.PrintLast Go.Proofs.YtoiohlmiofplcaaW.PrintMore
attribute [local go_sem] max2_int min2_int max_two min_two max_three min_three max_four min_four   -- for this text's walks alone
set_option linter.unusedVariables false
set_option linter.unusedSimpArgs false

/-! ### node_Is: function 26 -/
end Go.Proofs.Ytoiohlmiofplcaa.P
-- Written by a program of this session (xprint.py) over the kit's print.py.
namespace Go.Proofs.Ytoiohlmiofplcaa.P
open Go.RowKit Go.Proofs.YtoiohlmiofplcaaW.PrintWords Go.Proofs.YtoiohlmiofplcaaW.PrintLast Go.Proofs.YtoiohlmiofplcaaW.PrintMore
attribute [local go_sem] max2_int min2_int max_two min_two max_three min_three max_four min_four   -- for this text's walks alone
set_option linter.unusedVariables false
set_option linter.unusedSimpArgs false

theorem eqA24 (d : Nat) (w : World) (x0 y0 : ByteArray) (x1 y1 : Int) :
    (Op.equalIn (d + 2) 24 (.agg #[.string x0, .int .i64 x1]) (.agg #[.string y0, .int .i64 y1])).run Try.prog w = .ok (x0.toList == y0.toList && (x1 == y1)) w := by
  refine eqA_of Try.underlying24 (by kernel_rfl) ?_
  refine eqf_cons (by rfl) (by go_simp; rfl) (by go_simp; rfl) (by go_simp) ?_
  exact eqf_last (by rfl) (by go_simp; rfl) (by go_simp; rfl) (by go_simp)
end Go.Proofs.Ytoiohlmiofplcaa.P
-- Written by a program of this session (xprint.py) over the kit's print.py.
namespace Go.Proofs.Ytoiohlmiofplcaa.P
open Go.RowKit Go.Proofs.YtoiohlmiofplcaaW.PrintWords Go.Proofs.YtoiohlmiofplcaaW.PrintLast Go.Proofs.YtoiohlmiofplcaaW.PrintMore
attribute [local go_sem] max2_int min2_int max_two min_two max_three min_three max_four min_four   -- for this text's walks alone
set_option linter.unusedVariables false
set_option linter.unusedSimpArgs false

theorem eqA26 (d : Nat) (w : World) (x0 y0 : ByteArray) (x1 y1 : Int) (x2 y2 : ByteArray) :
    (Op.equalIn (d + 3) 26 (.agg #[.string x0, .int .i64 x1, .string x2]) (.agg #[.string y0, .int .i64 y1, .string y2])).run Try.prog w = .ok ((x0.toList == y0.toList && (x1 == y1)) && (x2.toList == y2.toList)) w := by
  refine eqA_of Try.underlying26 (by kernel_rfl) ?_
  refine eqf_cons (by rfl) (by go_simp) (by go_simp) (eqA24 (d + 0) w _ _ _ _) ?_
  exact eqf_last (by rfl) (by go_simp; rfl) (by go_simp; rfl) (by go_simp)
end Go.Proofs.Ytoiohlmiofplcaa.P
-- Written by a program of this session (xprint.py) over the kit's print.py.
namespace Go.Proofs.Ytoiohlmiofplcaa.P
open Go.RowKit Go.Proofs.YtoiohlmiofplcaaW.PrintWords Go.Proofs.YtoiohlmiofplcaaW.PrintLast Go.Proofs.YtoiohlmiofplcaaW.PrintMore
attribute [local go_sem] max2_int min2_int max_two min_two max_three min_three max_four min_four   -- for this text's walks alone
set_option linter.unusedVariables false
set_option linter.unusedSimpArgs false

attribute [local go_sem high] eqA26
/-! ### sextonref09_Same: function 25 -/
def sextonref09_Same.l0 : Nat → List (S26) → List (S26) → Int → Option (Bool)
  | 0, _, _, _ => none
  | k + 1, x0, x1, x5 => if x5 < (x0.length : Int) then (if 0 ≤ x5 then (if x5 < (x1.length : Int) then (if ((!((((rd_T26 x0 x5).f0.f0).toList) == (((rd_T26 x1 x5).f0.f0).toList)) || (!(((rd_T26 x0 x5).f0.f1) == ((rd_T26 x1 x5).f0.f1)))) || (!((((rd_T26 x0 x5).f1).toList) == (((rd_T26 x1 x5).f1).toList)))) = true then (some false) else (sextonref09_Same.l0 k x0 x1 (wrap64 (x5 + 1)))) else (none)) else (none)) else (some true)
def sextonref09_Same.f (k : Nat) (l0 : List (S26)) (l1 : List (S26)) : Option (Bool) := if (l0.length : Int) = (l1.length : Int) then (sextonref09_Same.l0 k l0 l1 0) else (some false)
set_option maxHeartbeats 8000000 in
set_option maxRecDepth 100000 in
theorem sextonref09_Same.calls (k : Nat) (A0 : Option Addr) (c0 : Nat) (l0 : List (S26)) (A1 : Option Addr) (c1 : Nat) (l1 : List (S26)) (r : Bool) (w : World) (hr0 : Kd.C k26 w A0 l0.length l0) (hc0 : l0.length ≤ c0) (hr1 : Kd.C k26 w A1 l1.length l1) (hc1 : l1.length ≤ c1) (h : sextonref09_Same.f k l0 l1 = some r) :
    Calls Try.prog 25 #[.slice A0 l0.length c0, .slice A1 l1.length c1] w fun e w' => e = .returned (.bool r) ∧ Drawn0 w w' := by
  have hu26 := Try.underlying26
  have HR0 := Aside0.mk hr0
  have HC0 := Aside0.mk hc0
  clear hr0 hc0
  have HR1 := Aside0.mk hr1
  have HC1 := Aside0.mk hc1
  clear hr1 hc1
  have H : (if (l0.length : Int) = (l1.length : Int) then (sextonref09_Same.l0 k l0 l1 0) else (some false)) = some r := h
  clear h
  by_cases c3 : (l0.length : Int) = (l1.length : Int)
  · rw [if_pos c3] at H
    have c3b0 : ((l0.length : Int) == (l1.length : Int)) = true := beq_iff_eq.mpr c3
    have c3b1 : ((l0.length : Int) != (l1.length : Int)) = false := bne_eq_false_iff_eq.mpr c3
    have c3b2 : (l0.length == l1.length) = true := by first | simpa using c3 | (simp at c3 ⊢; omega)
    clear c3
    have H' := Aside0.mk H
    clear H
    go_enter Try.func25, Try.ntmps25
    go_wp2
    repeat (go_quiet (fail); try go_wp2)
    go_loopg [5] k (fun kq v5 w' => ∃ (x5_1 : Int), v5 = .int .i64 x5_1 ∧ Aside0 (sextonref09_Same.l0 kq l0 l1 x5_1 = some r) ∧ Aside0 (kq ≤ k) ∧ Drawn0 w w')
    case atStart => exact ⟨(0), (by first | rfl | (simp; done) | (simp [*]; done)), H', ⟨Nat.le_refl _⟩, by repeat (first | exact Drawn0.refl _ | apply Drawn0.step)⟩
    case round =>
      clear H'
      try clear c1
      try clear c2
      try clear p2
      try clear c3
      try clear c3b0
      try clear c3b1
      try clear c3b2
      obtain ⟨x5_1, rfl, HA, HK1, ⟨m1, rfl⟩⟩ := hrel
      cases gk with
      | zero => exact absurd HA.out (by simp [sextonref09_Same.l0])
      | succ k1 =>
        have H := HA.out
        clear HA
        simp only [sextonref09_Same.l0] at H
        by_cases c4 : x5_1 < (l0.length : Int)
        · rw [if_pos c4] at H
          have c4b0 : decide (x5_1 < (l0.length : Int)) = true := decide_eq_true c4
          clear c4
          by_cases c5 : 0 ≤ x5_1
          · rw [if_pos c5] at H
            have c5b0 : decide (0 ≤ x5_1) = true := decide_eq_true c5
            clear c5
            by_cases c6 : x5_1 < (l1.length : Int)
            · rw [if_pos c6] at H
              have c6b0 : decide (x5_1 < (l1.length : Int)) = true := decide_eq_true c6
              clear c6
              by_cases c7 : ((!((((rd_T26 l0 x5_1).f0.f0).toList) == (((rd_T26 l1 x5_1).f0.f0).toList)) || (!(((rd_T26 l0 x5_1).f0.f1) == ((rd_T26 l1 x5_1).f0.f1)))) || (!((((rd_T26 l0 x5_1).f1).toList) == (((rd_T26 l1 x5_1).f1).toList)))) = true
              · rw [if_pos c7] at H
                have c7b0 : ((!((((rd_T26 l0 x5_1).f0.f0).toList) == (((rd_T26 l1 x5_1).f0.f0).toList)) || (!(((rd_T26 l0 x5_1).f0.f1) == ((rd_T26 l1 x5_1).f0.f1)))) || (!((((rd_T26 l0 x5_1).f1).toList) == (((rd_T26 l1 x5_1).f1).toList)))) = true := c7
                clear c7
                obtain rfl := Option.some.inj H
                have p304 : 0 ≤ (x5_1 : Int) := of_decide_eq_true (by first | (with_reducible assumption) | assumption)
                have q304 : x5_1 < (l0.length : Int) := of_decide_eq_true (by first | (with_reducible assumption) | assumption)
                obtain ⟨ad304, e304, hx304_0, hx304_1, hx304_2⟩ := at_T26 HR0.out x5_1 p304 q304
                cases e304
                replace p304 := eq_true p304
                replace q304 := eq_true q304
                have p305 : 0 ≤ (x5_1 : Int) := of_decide_eq_true (by first | (with_reducible assumption) | assumption)
                have q305 : x5_1 < (l1.length : Int) := of_decide_eq_true (by first | (with_reducible assumption) | assumption)
                obtain ⟨ad305, e305, hx305_0, hx305_1, hx305_2⟩ := at_T26 HR1.out x5_1 p305 q305
                cases e305
                replace p305 := eq_true p305
                replace q305 := eq_true q305
                go_wp2
                repeat (go_quiet (fail); try go_wp2)
                go_ret
                exact ⟨by first | rfl | (simp; done) | (simp [*]; done), by repeat (first | exact Drawn0.refl _ | apply Drawn0.step)⟩
              · rw [if_neg c7] at H
                have c7b0 : ((!((((rd_T26 l0 x5_1).f0.f0).toList) == (((rd_T26 l1 x5_1).f0.f0).toList)) || (!(((rd_T26 l0 x5_1).f0.f1) == ((rd_T26 l1 x5_1).f0.f1)))) || (!((((rd_T26 l0 x5_1).f1).toList) == (((rd_T26 l1 x5_1).f1).toList)))) = false := by simpa using c7
                clear c7
                have H' := Aside0.mk H
                clear H
                have p304 : 0 ≤ (x5_1 : Int) := of_decide_eq_true (by first | (with_reducible assumption) | assumption)
                have q304 : x5_1 < (l0.length : Int) := of_decide_eq_true (by first | (with_reducible assumption) | assumption)
                obtain ⟨ad304, e304, hx304_0, hx304_1, hx304_2⟩ := at_T26 HR0.out x5_1 p304 q304
                cases e304
                replace p304 := eq_true p304
                replace q304 := eq_true q304
                have p305 : 0 ≤ (x5_1 : Int) := of_decide_eq_true (by first | (with_reducible assumption) | assumption)
                have q305 : x5_1 < (l1.length : Int) := of_decide_eq_true (by first | (with_reducible assumption) | assumption)
                obtain ⟨ad305, e305, hx305_0, hx305_1, hx305_2⟩ := at_T26 HR1.out x5_1 p305 q305
                cases e305
                replace p305 := eq_true p305
                replace q305 := eq_true q305
                go_wp2
                repeat (go_quiet (fail); try go_wp2)
                go_roundg k1
                case measure => have := HK1.out; omega
                case rel => exact ⟨(wrap64 (x5_1 + 1)), (by first | rfl | (simp; done) | (simp [*]; done)), H', ⟨by have := HK1.out; omega⟩, by repeat (first | exact Drawn0.refl _ | apply Drawn0.step)⟩
            · rw [if_neg c6] at H
              exact absurd H (by simp)
          · rw [if_neg c5] at H
            exact absurd H (by simp)
        · rw [if_neg c4] at H
          have c4b0 : decide (x5_1 < (l0.length : Int)) = false := decide_eq_false c4
          clear c4
          obtain rfl := Option.some.inj H
          go_wp2
          repeat (go_quiet (fail); try go_wp2)
          go_ret
          exact ⟨by first | rfl | (simp; done) | (simp [*]; done), by repeat (first | exact Drawn0.refl _ | apply Drawn0.step)⟩
  · rw [if_neg c3] at H
    have c3b0 : ((l0.length : Int) == (l1.length : Int)) = false := beq_eq_false_iff_ne.mpr c3
    have c3b1 : ((l0.length : Int) != (l1.length : Int)) = true := bne_iff_ne.mpr c3
    have c3b2 : (l0.length == l1.length) = false := by first | simpa using c3 | (simp at c3 ⊢; omega)
    obtain rfl := Option.some.inj H
    go_enter Try.func25, Try.ntmps25
    go_wp2
    repeat (go_quiet (fail); try go_wp2)
    go_ret
    exact ⟨by first | rfl | (simp; done) | (simp [*]; done), by repeat (first | exact Drawn0.refl _ | apply Drawn0.step)⟩

end Go.Proofs.Ytoiohlmiofplcaa.P
/-
  Pairs that rise, told plainly: the order of keys, where a key stands, and what Find, Put, Drop, Split, Level, Is and Same make of a row.
-/
namespace Go.Proofs.Ytoiohlmiofplcaa.ND
open Go.RowKit Go.Proofs.YtoiohlmiofplcaaW.PrintWords Go.Proofs.YtoiohlmiofplcaaW.PrintLast Go.Proofs.Ytoiohlmiofplcaa.P Go.Proofs.Plain

abbrev KV := S26
abbrev KY := S24
theorem bl_irrefl : ∀ x : List UInt8, Op.bytesLess x x = false
  | [] => rfl
  | a :: x => by simp [Op.bytesLess, bl_irrefl x]
theorem bl_trans : ∀ {x y z : List UInt8}, Op.bytesLess x y = true → Op.bytesLess y z = true → Op.bytesLess x z = true
  | _, _, [], _, h => by cases ‹List UInt8› <;> simp [Op.bytesLess] at h
  | _, [], _ :: _, h, _ => by cases ‹List UInt8› <;> simp [Op.bytesLess] at h
  | [], _ :: _, _ :: _, _, _ => rfl
  | a :: x, b :: y, c :: z, h1, h2 => by
    simp only [Op.bytesLess, Bool.or_eq_true, Bool.and_eq_true, decide_eq_true_eq, beq_iff_eq] at h1 h2 ⊢
    rcases h1 with h1 | ⟨rfl, h1⟩
    · rcases h2 with h2 | ⟨rfl, h2⟩
      · exact .inl (UInt8.lt_trans h1 h2)
      · exact .inl h1
    · rcases h2 with h2 | ⟨rfl, h2⟩
      · exact .inl h2
      · exact .inr ⟨rfl, bl_trans h1 h2⟩
theorem bl_total : ∀ {x y : List UInt8}, Op.bytesLess x y = false → Op.bytesLess y x = false → x = y
  | [], [], _, _ => rfl
  | [], _ :: _, h, _ => by simp [Op.bytesLess] at h
  | _ :: _, [], _, h => by simp [Op.bytesLess] at h
  | a :: x, b :: y, h1, h2 => by
    simp only [Op.bytesLess, Bool.or_eq_false_iff, Bool.and_eq_false_iff, decide_eq_false_iff_not, beq_eq_false_iff_ne] at h1 h2
    have hab : a = b := by
      have e1 := h1.1
      have e2 := h2.1
      exact UInt8.le_antisymm (UInt8.not_lt.1 e2) (UInt8.not_lt.1 e1)
    subst hab
    rcases h1.2 with h | h
    · exact absurd rfl h
    · rcases h2.2 with h' | h'
      · exact absurd rfl h'
      · rw [bl_total h h']
theorem tl_inj {a b : ByteArray} (h : a.toList = b.toList) : a = b := by
  rw [ByteArray.toList_eq, ByteArray.toList_eq] at h
  cases a; cases b
  congr
  exact Array.toList_inj.1 h

/-- Whether a key is ahead of another one. -/
def lt (x y : KY) : Bool := lessK x.f0 x.f1 y.f0 y.f1
theorem lt_iff (x y : KY) : lt x y = true ↔ (Op.bytesLess x.f0.toList y.f0.toList = true ∨ (x.f0.toList = y.f0.toList ∧ y.f1 < x.f1)) := by
  unfold lt lessK
  by_cases h : Op.bytesLess x.f0.toList y.f0.toList = true
  · simp [h]
  · rw [if_neg h]
    by_cases h2 : x.f0.toList = y.f0.toList
    · rw [if_pos h2]; simp [h2, h]
      intro h3; rw [h2, bl_irrefl] at *; simp at *
    · rw [if_neg h2]; simp [h, h2]
theorem lt_irrefl (x : KY) : lt x x = false := by
  rw [Bool.eq_false_iff]
  intro h
  rcases (lt_iff x x).1 h with h | h
  · rw [bl_irrefl] at h; cases h
  · omega
theorem lt_trans {x y z : KY} (h1 : lt x y = true) (h2 : lt y z = true) : lt x z = true := by
  rw [lt_iff] at *
  rcases h1 with h1 | ⟨e1, h1⟩
  · rcases h2 with h2 | ⟨e2, h2⟩
    · exact .inl (bl_trans h1 h2)
    · exact .inl (by rw [← e2]; exact h1)
  · rcases h2 with h2 | ⟨e2, h2⟩
    · exact .inl (by rw [e1]; exact h2)
    · exact .inr ⟨by rw [e1, e2], by omega⟩
theorem lt_total {x y : KY} (h1 : lt x y = false) (h2 : lt y x = false) : x = y := by
  have n1 : ¬ (lt x y = true) := by rw [h1]; decide
  have n2 : ¬ (lt y x = true) := by rw [h2]; decide
  rw [lt_iff] at n1 n2
  have e1 : Op.bytesLess x.f0.toList y.f0.toList = false := by
    rw [Bool.eq_false_iff]; exact fun h => n1 (.inl h)
  have e2 : Op.bytesLess y.f0.toList x.f0.toList = false := by
    rw [Bool.eq_false_iff]; exact fun h => n2 (.inl h)
  have e := bl_total e1 e2
  have h3 : ¬ y.f1 < x.f1 := fun h => n1 (.inr ⟨e, h⟩)
  have h4 : ¬ x.f1 < y.f1 := fun h => n2 (.inr ⟨e.symm, h⟩)
  cases x; cases y
  simp only at *
  rw [tl_inj e, show _ = _ from Int.le_antisymm (Int.not_lt.1 h3) (Int.not_lt.1 h4)]
theorem lt_ne {x y : KY} (h : lt x y = true) : x ≠ y := by
  rintro rfl; rw [lt_irrefl] at h; cases h
theorem lt_asymm {x y : KY} (h : lt x y = true) : lt y x = false := by
  rw [Bool.eq_false_iff]; intro h2; have := lt_trans h h2; rw [lt_irrefl] at this; cases this
theorem lt_of_not {x y : KY} (h : lt x y = false) (hn : x ≠ y) : lt y x = true := by
  cases h2 : lt y x with
  | true => rfl
  | false => exact absurd (lt_total h h2) hn
theorem eqK_iff (x : KV) (k : KY) : eqK x k.f0 k.f1 = true ↔ x.f0 = k := by
  unfold eqK
  simp only [Bool.and_eq_true, beq_iff_eq]
  obtain ⟨⟨p, a⟩, v⟩ := x
  obtain ⟨q, b⟩ := k
  simp only [S24.mk.injEq]
  exact ⟨fun h => ⟨tl_inj h.1, h.2⟩, fun h => ⟨by rw [h.1], h.2⟩⟩
theorem eqK_no {x : KV} {k : KY} (h : x.f0 ≠ k) : eqK x k.f0 k.f1 = false := by
  rw [Bool.eq_false_iff]; exact fun e => h ((eqK_iff x k).1 e)

/-- A row taken apart at a key: what is ahead, the pair of that key (or none), what is behind. -/
structure Dec (l : List KV) (k : KY) (A M C : List KV) : Prop where
  eq : l = A ++ (M ++ C)
  ahead : ∀ x ∈ A, lt x.f0 k = true
  mid : M = [] ∨ ∃ m, M = [m] ∧ m.f0 = k
  behind : M = [] → ∀ x C', C = x :: C' → lt x.f0 k = false ∧ x.f0 ≠ k

theorem dec_exists (l : List KV) (k : KY) : ∃ A M C, Dec l k A M C := by
  have h1 : l = l.takeWhile (fun x => lt x.f0 k) ++ l.dropWhile (fun x => lt x.f0 k) := (List.takeWhile_append_dropWhile).symm
  have h2 : ∀ x ∈ l.takeWhile (fun x => lt x.f0 k), lt x.f0 k = true := fun x hx => by
    have := List.all_takeWhile (p := fun x : KV => lt x.f0 k) (l := l)
    exact List.all_eq_true.1 this x hx
  have h3 : ∀ x B, l.dropWhile (fun x => lt x.f0 k) = x :: B → lt x.f0 k = false := by
    clear h1 h2
    induction l with
    | nil => intro x B h; simp at h
    | cons y l ih =>
      intro x B h
      simp only [List.dropWhile] at h
      cases hy : lt y.f0 k with
      | true => rw [hy] at h; exact ih x B h
      | false => rw [hy] at h; simp at h; rw [← h.1]; exact hy
  cases hB : l.dropWhile (fun x => lt x.f0 k) with
  | nil => exact ⟨_, [], [], ⟨by rw [hB] at h1; simpa using h1, h2, .inl rfl, fun _ x C' h => by cases h⟩⟩
  | cons b B =>
    rw [hB] at h1
    by_cases hk : b.f0 = k
    · exact ⟨_, [b], B, ⟨h1, h2, .inr ⟨b, rfl, hk⟩, fun h => by cases h⟩⟩
    · exact ⟨_, [], b :: B, ⟨h1, h2, .inl rfl, fun _ x C' h => by injection h with h _; subst h; exact ⟨h3 _ _ hB, hk⟩⟩⟩

theorem rd_at (l : List KV) (i : Nat) (h : i < l.length) : rd_T26 l (i : Int) = l[i] := by
  simp [rd_T26, List.getD_eq_getElem?_getD, h]
theorem find_dec {l : List KV} {k : KY} {A M C : List KV} (h : Dec l k A M C) : findV l k.f0 k.f1 = ((A.length : Int), !M.isEmpty) := by
  have hb : ∀ x ∈ A, behindP k.f0 k.f1 x = false := fun x hx => by
    have := h.ahead x hx
    unfold behindP; unfold lt at this; rw [this]; rfl
  have step : ∀ (m : KV) (D : List KV), M ++ C = m :: D → lt m.f0 k = false → idx (behindP k.f0 k.f1) l = (A.length : Int) ∧ rd_T26 l (A.length : Int) = m := by
    intro m D e hm
    have hl : l = A ++ m :: D := by rw [h.eq, e]
    have hlt : A.length < l.length := by rw [hl]; simp
    have hget : l[A.length] = m := by simp [hl]
    refine ⟨idx_at hlt (fun x hx => ?_) ?_, ?_⟩
    · rw [hl, List.take_left'] at hx
      · exact hb x hx
      · rfl
    · rw [hget]; unfold behindP; unfold lt at hm; rw [hm]; rfl
    · rw [rd_at l _ hlt, hget]
  unfold findV
  rcases h.mid with rfl | ⟨m, rfl, hm⟩
  · cases C with
    | nil =>
      have hl : l = A := by simpa using h.eq
      have : idx (behindP k.f0 k.f1) l = -1 := idx_none (fun x hx => hb x (by rw [← hl]; exact hx))
      rw [this, if_pos (by omega), hl]; rfl
    | cons c C' =>
      obtain ⟨h1, h2⟩ := h.behind rfl c C' rfl
      obtain ⟨e1, e2⟩ := step c C' rfl h1
      rw [e1, if_neg (by omega), e2, eqK_no h2]; rfl
  · obtain ⟨e1, e2⟩ := step m C rfl (by rw [hm]; exact lt_irrefl k)
    rw [e1, if_neg (by omega), e2, (eqK_iff m k).2 hm]; rfl
theorem findf_dec {l : List KV} {k : KY} {A M C : List KV} (h : Dec l k A M C) : node_Find.f l k.f0 k.f1 = some ((A.length : Int), !M.isEmpty) := by
  unfold node_Find.f; rw [find_dec h]

/-- Rows, one behind the other. -/
theorem joined_from (k : Nat) (rows : List (List KV)) (n : Nat) (hn : (rows.flatten).length ≤ 1000000) (hr : rows.length ≤ 1000) :
    ∀ (i : Nat) (acc : List KV), i + n = rows.length → n < k → acc = (rows.take i).flatten → api_Pair.l0 k acc rows (rows.length : Int) (i : Int) = some rows.flatten := by
  induction n generalizing k with
  | zero =>
    intro i acc hi hk ha
    obtain ⟨k, rfl⟩ : ∃ m, k = m + 1 := ⟨k - 1, by omega⟩
    simp only [api_Pair.l0]
    rw [if_neg (by omega), ha, List.take_of_length_le (by omega)]
  | succ n ih =>
    intro i acc hi hk ha
    obtain ⟨k, rfl⟩ : ∃ m, k = m + 1 := ⟨k - 1, by omega⟩
    have hlt : i < rows.length := by omega
    have hrd : rd_L4 rows (i : Int) = rows[i] := by simp [rd_L4, List.getD_eq_getElem?_getD, hlt]
    have hnext : acc ++ rows[i] = (rows.take (i + 1)).flatten := by
      rw [List.take_succ_eq_append_getElem hlt, List.flatten_append, ha]; simp
    have hlen : (acc ++ rows[i]).length ≤ rows.flatten.length := by
      rw [hnext]
      conv => rhs; rw [← List.take_append_drop (i + 1) rows, List.flatten_append, List.length_append]
      omega
    rw [List.length_append] at hlen
    simp only [api_Pair.l0]
    rw [if_pos (by omega), if_pos (by omega), if_pos (by omega), hrd, if_pos (by omega)]
    have := ih k (i + 1) (acc ++ rows[i]) (by omega) (by omega) hnext
    rw [show wrap64 ((i : Int) + 1) = ((i + 1 : Nat) : Int) by unfold wrap64; omega]
    exact this
theorem joined_f (k : Nat) (rows : List (List KV)) (hn : (rows.flatten).length ≤ 1000000) (hr : rows.length ≤ 1000) (hk : rows.length < k) : api_Pair.f k rows = some rows.flatten := by
  unfold api_Pair.f
  exact joined_from k rows rows.length hn hr 0 [] (by omega) hk rfl

theorem put_dec {l : List KV} {k : KY} {v : ByteArray} {A M C : List KV} (h : Dec l k A M C) (hl : l.length ≤ 100000) (n : Nat) (hn : 4 ≤ n) : node_Put.f n l k.f0 k.f1 v = some (A ++ ⟨k, v⟩ :: C) := by
  have hlen : l.length = A.length + (M.length + C.length) := by rw [h.eq]; simp
  have hd : l.drop A.length = M ++ C := by rw [h.eq]; simp
  have ht : l.take A.length = A := by rw [h.eq]; simp
  unfold node_Put.f
  rw [findf_dec h]
  simp only [Option.bind_some, Int.toNat_natCast]
  rw [if_pos (by omega), if_pos (by omega), hd, ht]
  rcases h.mid with rfl | ⟨m, rfl, hm⟩
  · rw [if_neg (by decide)]
    simp only [List.nil_append]
    rw [joined_f n _ (by simp at hlen ⊢; omega) (by simp) (by simp; omega)]
    simp
  · rw [if_pos (show (![m].isEmpty) = true from rfl), if_pos (by simp; omega)]
    rw [joined_f n _ (by simp at hlen ⊢; omega) (by simp) (by simp; omega)]
    simp
theorem drop_dec {l : List KV} {k : KY} {A M C : List KV} (h : Dec l k A M C) (hl : l.length ≤ 100000) (n : Nat) (hn : 4 ≤ n) : node_Drop.f n l k.f0 k.f1 = some (A ++ C) := by
  have hlen : l.length = A.length + (M.length + C.length) := by rw [h.eq]; simp
  have ht : l.take A.length = A := by rw [h.eq]; simp
  unfold node_Drop.f
  rw [findf_dec h]
  simp only [Option.bind_some, Int.toNat_natCast]
  rcases h.mid with rfl | ⟨m, rfl, hm⟩
  · rw [if_neg (by decide)]
    rw [joined_f n _ (by simp; omega) (by simp) (by simp; omega)]
    have := h.eq
    simp at this ⊢
    exact this
  · simp only [List.length_cons, List.length_nil] at hlen
    have hw : wrap64 ((A.length : Int) + 1) = ((A.length + 1 : Nat) : Int) := by unfold wrap64; omega
    have hd : l.drop (A.length + 1) = C := by
      rw [h.eq, show A.length + 1 = A.length + 1 from rfl, ← List.drop_drop]; simp
    rw [if_pos (show (![m].isEmpty) = true from rfl), if_pos (by omega), if_pos (by omega), hw, if_pos (by omega), if_pos (by omega), Int.toNat_natCast, ht, hd]
    rw [joined_f n _ (by simp; omega) (by simp) (by simp; omega)]
    simp
/-- Whether pairs rise. -/
def risB : List KV → Bool
  | [] => true
  | [_] => true
  | x :: y :: l => lt x.f0 y.f0 && risB (y :: l)
def Ris (l : List KV) : Prop := l.Pairwise (fun x y => lt x.f0 y.f0 = true)
theorem risB_iff : ∀ l : List KV, risB l = true ↔ Ris l
  | [] => by simp [risB, Ris]
  | [x] => by simp [risB, Ris]
  | x :: y :: l => by
    have ih := risB_iff (y :: l)
    simp only [risB, Bool.and_eq_true]
    rw [ih]
    unfold Ris
    rw [List.pairwise_cons (a := x)]
    refine ⟨fun ⟨h1, h2⟩ => ⟨fun z hz => ?_, h2⟩, fun ⟨h1, h2⟩ => ⟨h1 y List.mem_cons_self, h2⟩⟩
    rcases List.mem_cons.1 hz with rfl | hz
    · exact h1
    · exact lt_trans h1 ((List.pairwise_cons.1 h2).1 z hz)
theorem ne_test (x y : KV) : ((!(x.f0.f0.toList == y.f0.f0.toList) || (!(x.f0.f1 == y.f0.f1))) || (!(x.f1.toList == y.f1.toList))) = true ↔ x ≠ y := by
  obtain ⟨⟨p, a⟩, v⟩ := x
  obtain ⟨⟨q, b⟩, u⟩ := y
  simp only [Bool.or_eq_true, Bool.not_eq_true', beq_eq_false_iff_ne]
  constructor
  · rintro ((h | h) | h) e
    · injection e with e _; injection e with e _; exact h (by rw [e])
    · injection e with e _; injection e with _ e; exact h e
    · injection e with _ e; exact h (by rw [e])
  · intro h
    apply Classical.byContradiction
    intro hn
    have h1 : p.toList = q.toList := Classical.byContradiction fun e => hn (.inl (.inl e))
    have h2 : a = b := Classical.byContradiction fun e => hn (.inl (.inr e))
    have h3 : v.toList = u.toList := Classical.byContradiction fun e => hn (.inr e)
    exact h (by rw [tl_inj h1, h2, tl_inj h3])
/-- Rows that are the same are found the same. -/
theorem same_from (l : List KV) (hl : l.length ≤ 100000) (n : Nat) : ∀ (k i : Nat), i + n = l.length → n < k → sextonref09_Same.l0 k l l (i : Int) = some true := by
  induction n with
  | zero =>
    intro k i hi hk
    obtain ⟨k, rfl⟩ : ∃ m, k = m + 1 := ⟨k - 1, by omega⟩
    simp only [sextonref09_Same.l0]
    rw [if_neg (by omega)]
  | succ n ih =>
    intro k i hi hk
    obtain ⟨k, rfl⟩ : ∃ m, k = m + 1 := ⟨k - 1, by omega⟩
    simp only [sextonref09_Same.l0]
    rw [if_pos (by omega), if_pos (by omega), if_pos (by omega), if_neg (by rw [ne_test]; simp), show wrap64 ((i : Int) + 1) = ((i + 1 : Nat) : Int) by unfold wrap64; omega]
    exact ih k (i + 1) (by omega) (by omega)
theorem same_f (l : List KV) (hl : l.length ≤ 100000) (k : Nat) (hk : l.length < k) : sextonref09_Same.f k l l = some true := by
  unfold sextonref09_Same.f
  rw [if_pos rfl]
  exact same_from l hl l.length k 0 (by omega) hk
end Go.Proofs.Ytoiohlmiofplcaa.ND
-- Written by a program of this session (xprint.py) over the kit's print.py.
namespace Go.Proofs.Ytoiohlmiofplcaa.P
open Go.RowKit Go.Proofs.YtoiohlmiofplcaaW.PrintWords Go.Proofs.YtoiohlmiofplcaaW.PrintLast Go.Proofs.YtoiohlmiofplcaaW.PrintMore
attribute [local go_sem] max2_int min2_int max_two min_two max_three min_three max_four min_four   -- for this text's walks alone
set_option linter.unusedVariables false
set_option linter.unusedSimpArgs false

/-! ### sextonref09_Big: function 13 -/
end Go.Proofs.Ytoiohlmiofplcaa.P
/-
  Rows that rise: put, drop and find keep them so; rows that rise and have the same pairs are the same row.
-/
namespace Go.Proofs.Ytoiohlmiofplcaa.ND
open Go.RowKit Go.Proofs.YtoiohlmiofplcaaW.PrintWords Go.Proofs.YtoiohlmiofplcaaW.PrintLast Go.Proofs.Ytoiohlmiofplcaa.P Go.Proofs.Plain

theorem ris_behind {l : List KV} {k : KY} {A M C : List KV} (hr : Ris l) (h : Dec l k A M C) : ∀ c ∈ C, lt k c.f0 = true := by
  unfold Ris at hr
  rw [h.eq] at hr
  have hMC := (List.pairwise_append.1 hr).2.1
  intro c hc
  rcases h.mid with rfl | ⟨m, rfl, hm⟩
  · cases C with
    | nil => cases hc
    | cons b C' =>
      obtain ⟨h1, h2⟩ := h.behind rfl b C' rfl
      have hb := lt_of_not h1 h2
      rcases List.mem_cons.1 hc with rfl | hc
      · exact hb
      · exact lt_trans hb ((List.pairwise_cons.1 hMC).1 c hc)
  · have := (List.pairwise_cons.1 hMC).1 c hc
    rw [hm] at this
    exact this
theorem ris_parts {l : List KV} {k : KY} {A M C : List KV} (hr : Ris l) (h : Dec l k A M C) : Ris A ∧ Ris C ∧ ∀ a ∈ A, ∀ c ∈ C, lt a.f0 c.f0 = true := by
  unfold Ris at *
  rw [h.eq] at hr
  obtain ⟨h1, h2, h3⟩ := List.pairwise_append.1 hr
  exact ⟨h1, (List.pairwise_append.1 h2).2.1, fun a ha c hc => h3 a ha c (List.mem_append_right _ hc)⟩
theorem ris_put {l : List KV} {k : KY} {A M C : List KV} (hr : Ris l) (h : Dec l k A M C) (v : ByteArray) : Ris (A ++ ⟨k, v⟩ :: C) := by
  obtain ⟨h1, h2, h3⟩ := ris_parts hr h
  have hb := ris_behind hr h
  unfold Ris at *
  refine List.pairwise_append.2 ⟨h1, List.pairwise_cons.2 ⟨fun c hc => hb c hc, h2⟩, fun a ha c hc => ?_⟩
  rcases List.mem_cons.1 hc with rfl | hc
  · exact h.ahead a ha
  · exact h3 a ha c hc
theorem ris_drop {l : List KV} {k : KY} {A M C : List KV} (hr : Ris l) (h : Dec l k A M C) : Ris (A ++ C) := by
  obtain ⟨h1, h2, h3⟩ := ris_parts hr h
  unfold Ris at *
  exact List.pairwise_append.2 ⟨h1, h2, h3⟩
theorem dec_drop {l : List KV} {k : KY} {A M C : List KV} (hr : Ris l) (h : Dec l k A M C) : Dec (A ++ C) k A [] C := by
  refine ⟨rfl, h.ahead, .inl rfl, fun _ x C' e => ?_⟩
  have := ris_behind hr h x (by rw [e]; exact List.mem_cons_self)
  exact ⟨lt_asymm this, fun e => by rw [e, lt_irrefl] at this; cases this⟩
/-- A row with one put. -/
def putL (l : List KV) (x : KV) : List KV := (node_Put.f 4 l x.f0.f0 x.f0.f1 x.f1).getD []
theorem putL_dec {l : List KV} {x : KV} {A M C : List KV} (h : Dec l x.f0 A M C) (hl : l.length ≤ 100000) : putL l x = A ++ x :: C := by
  unfold putL
  rw [put_dec h hl 4 (by omega)]; rfl
theorem putL_f (l : List KV) (x : KV) (hl : l.length ≤ 100000) (n : Nat) (hn : 4 ≤ n) : node_Put.f n l x.f0.f0 x.f0.f1 x.f1 = some (putL l x) := by
  obtain ⟨A, M, C, h⟩ := dec_exists l x.f0
  rw [put_dec h hl n hn, putL_dec h hl]
theorem putL_len (l : List KV) (x : KV) (hl : l.length ≤ 100000) : (putL l x).length ≤ l.length + 1 := by
  obtain ⟨A, M, C, h⟩ := dec_exists l x.f0
  rw [putL_dec h hl]
  have : l.length = A.length + (M.length + C.length) := by rw [h.eq]; simp
  simp; omega
end Go.Proofs.Ytoiohlmiofplcaa.ND
