/-
  The walk and the plain statement of NetSplit, joined.
-/
import Derived.Test.YtfejidinfcmfjaaPx0
import Derived.Test.YtfejidinfcmfjaaCn5ea
import Derived.Test.YtfejidinfcmfjaaCn5eb
import Derived.Test.YtfejidinfcmfjaaCn5ed
import Derived.Test.YtfejidinfcmfjaaCn5ee
set_option linter.unusedVariables false
set_option linter.unusedSimpArgs false
/-
  The walk of NetSplit, by the print; the ways that would answer false are closed.
-/
namespace Go.Proofs.Ytfejidinfcmfjaa.P
open Go.RowKit Go.Proofs.YtfejidinfcmfjaaW.PrintWords Go.Proofs.YtfejidinfcmfjaaW.PrintLast Go.Proofs.YtfejidinfcmfjaaW.PrintMore
attribute [local go_sem] max2_int min2_int max_two min_two max_three min_three max_four min_four   -- for this text's walks alone
set_option linter.unusedVariables false
set_option linter.unusedSimpArgs false

/-! ### sextonlaw25_NetSplit: function 5 -/
mutual
def sextonlaw25_NetSplit.j0 : Nat → List (S29) → Int → Int → Int → Bool → Option (Bool)
  | 0, _, _, _, _, _ => none
  | k + 1, x0, x1, x2, x3, x25 => if x25 = true then (some true) else ((net_Split.f x0 x1).bind fun t155 => (sextonlaw25_NetSplit.l0 k x0 x1 x2 x3 t155 0 0))
def sextonlaw25_NetSplit.l0 : Nat → List (S29) → Int → Int → Int → List (List (S29)) → Int → Int → Option (Bool)
  | 0, _, _, _, _, _, _, _ => none
  | k + 1, x0, x1, x2, x3, x9, x10, x11 => if x11 < (x0.length : Int) then (if 0 ≤ x11 then (if ((rd_T29 x0 x11).f2) ≥ 0 then (if ((rd_T29 x0 x11).f2) < x1 then (sextonlaw25_NetSplit.l0 k x0 x1 x2 x3 x9 (wrap64 (x10 + 1)) (wrap64 (x11 + 1))) else (sextonlaw25_NetSplit.l0 k x0 x1 x2 x3 x9 x10 (wrap64 (x11 + 1)))) else (sextonlaw25_NetSplit.l0 k x0 x1 x2 x3 x9 x10 (wrap64 (x11 + 1)))) else (none)) else (sextonlaw25_NetSplit.l1 k x0 x1 x2 x3 x9 x10 0)
def sextonlaw25_NetSplit.l1 : Nat → List (S29) → Int → Int → Int → List (List (S29)) → Int → Int → Option (Bool)
  | 0, _, _, _, _, _, _, _ => none
  | k + 1, x0, x1, x2, x3, x9, x10, x12 => if x12 < (x9.length : Int) then (if 0 ≤ x12 then (sextonlaw25_NetSplit.l2 k x0 x1 x2 x3 x9 (wrap64 (x10 - ((rd_L4 x9 x12).length : Int))) x12 0) else (none)) else ((net_Cut.f x0 x2 x3).bind fun t164 => (sextonlaw25_NetSplit.l3 k x1 x2 x3 x9 x10 t164 0))
def sextonlaw25_NetSplit.l2 : Nat → List (S29) → Int → Int → Int → List (List (S29)) → Int → Int → Int → Option (Bool)
  | 0, _, _, _, _, _, _, _, _ => none
  | k + 1, x0, x1, x2, x3, x9, x10, x12, x13 => if 0 ≤ x12 then (if x12 < (x9.length : Int) then (if x13 < ((rd_L4 x9 x12).length : Int) then (if 0 ≤ x13 then (if ((rd_T29 (rd_L4 x9 x12) x13).f2) = x12 then (sextonlaw25_NetSplit.l2 k x0 x1 x2 x3 x9 x10 x12 (wrap64 (x13 + 1))) else (some false)) else (none)) else (sextonlaw25_NetSplit.l1 k x0 x1 x2 x3 x9 x10 (wrap64 (x12 + 1)))) else (none)) else (none)
def sextonlaw25_NetSplit.l3 : Nat → Int → Int → Int → List (List (S29)) → Int → List (S29) → Int → Option (Bool)
  | 0, _, _, _, _, _, _, _ => none
  | k + 1, x1, x2, x3, x9, x10, x14, x15 => if x15 < (x14.length : Int) then (if 0 ≤ x15 then (if ((rd_T29 x14 x15).f1) = x2 then (if ((rd_T29 x14 x15).f2) = x3 then (some false) else (if ((rd_T29 x14 x15).f1) = x3 then (if ((rd_T29 x14 x15).f2) = x2 then (some false) else (sextonlaw25_NetSplit.l3 k x1 x2 x3 x9 x10 x14 (wrap64 (x15 + 1)))) else (sextonlaw25_NetSplit.l3 k x1 x2 x3 x9 x10 x14 (wrap64 (x15 + 1))))) else (if ((rd_T29 x14 x15).f1) = x3 then (if ((rd_T29 x14 x15).f2) = x2 then (some false) else (sextonlaw25_NetSplit.l3 k x1 x2 x3 x9 x10 x14 (wrap64 (x15 + 1)))) else (sextonlaw25_NetSplit.l3 k x1 x2 x3 x9 x10 x14 (wrap64 (x15 + 1))))) else (none)) else ((sextonlaw25_carried.f).bind fun t173 => (if t173 = true then (if (x9.length : Int) = x1 then (if x10 = 0 then ((net_Cut.f x14 x3 x2).bind fun t174 => ((sextonref23_SameRow.f k t174 x14).bind fun t177 => (some t177))) else (some false)) else (some false)) else (some false)))
end
def sextonlaw25_NetSplit.f (k : Nat) (l0 : List (S29)) (a1 : Int) (a2 : Int) (a3 : Int) : Option (Bool) := (sextonref25_Big.f k l0).bind fun t154 => (if t154 = true then (sextonlaw25_NetSplit.j0 k l0 a1 a2 a3 true) else (if a1 < 1 then (sextonlaw25_NetSplit.j0 k l0 a1 a2 a3 true) else (sextonlaw25_NetSplit.j0 k l0 a1 a2 a3 (decide (a1 > 7)))))
set_option maxHeartbeats 8000000 in
set_option maxRecDepth 100000 in
theorem sextonlaw25_NetSplit.calls (k : Nat) (A0 : Option Addr) (c0 : Nat) (l0 : List (S29)) (a1 : Int) (a2 : Int) (a3 : Int) (r : Bool) (hrt : r = true := by rfl) (w : World) (hr0 : Kd.C k29 w A0 l0.length l0) (hc0 : l0.length ≤ c0) (h : sextonlaw25_NetSplit.f k l0 a1 a2 a3 = some r) :
    Calls Try.prog 5 #[.slice A0 l0.length c0, .int .i64 a1, .int .i64 a2, .int .i64 a3] w fun e w' => e = .returned (.bool r) ∧ Below w.heap.size w w' := by
  have HRT := Aside0.mk hrt
  have HR0 := Aside0.mk hr0
  have HC0 := Aside0.mk hc0
  clear hr0 hc0
  have HB := Aside0.mk (Below.refl w.heap.size w)
  have H : ((sextonref25_Big.f k l0).bind fun t154 => (if t154 = true then (sextonlaw25_NetSplit.j0 k l0 a1 a2 a3 true) else (if a1 < 1 then (sextonlaw25_NetSplit.j0 k l0 a1 a2 a3 true) else (sextonlaw25_NetSplit.j0 k l0 a1 a2 a3 (decide (a1 > 7)))))) = some r := h
  clear h
  have HC5 := Aside0.mk H
  clear H
  go_enter Try.func5, Try.ntmps5
  go_upto_region 1 with (fail)
  go_cut [25] (fun v25 wc => ∃ (kq : Nat) (x25_4 : Bool), v25 = .bool x25_4 ∧ Aside0 (sextonlaw25_NetSplit.j0 kq l0 a1 a2 a3 x25_4 = some r) ∧ Aside0 (kq ≤ k) ∧ Aside0 (Below w.heap.size w wc))
  case first =>
    have H := HC5.out
    clear HC5
    replace H := Option.bind_eq_some_iff.mp H
    obtain ⟨t154, A60, H⟩ := H
    replace H : (if t154 = true then (sextonlaw25_NetSplit.j0 k l0 a1 a2 a3 true) else (if a1 < 1 then (sextonlaw25_NetSplit.j0 k l0 a1 a2 a3 true) else (sextonlaw25_NetSplit.j0 k l0 a1 a2 a3 (decide (a1 > 7))))) = some r := H
    have A6 := Aside0.mk A60
    clear A60
    by_cases c7 : t154 = true
    · subst c7
      have H1 : (sextonlaw25_NetSplit.j0 k l0 a1 a2 a3 true) = some r := by rw [if_pos rfl] at H; exact H
      clear H
      have H := H1
      clear H1
      have H' := Aside0.mk H
      clear H
      go_wp2_with (first | ((with_reducible refine gate_callee (f := 13) rfl ?_); refine goesL_ (some 17) rfl rfl Try.func13 (by kernel_rfl) rfl #[.slice A0 l0.length c0] rfl (by (try simp only [List.map_toArray, List.map_cons, List.map_nil]); first | done | rfl | (simp only [List.length_drop, List.length_take]; rfl)) ?_; (with_reducible refine (sextonref25_Big.calls k _ _ l0 true _ ?side1 ?side2 A6.out).mono ?_); (case side1 => repeat (first | exact (Kd.C_below HR0.out HB.out) | (with_reducible refine Kd.C_alloc ?_ _) | (with_reducible refine Kd.C_drewN ?_ _) | (with_reducible refine Kd.C_drew ?_))); (case side2 => exact HC0.out); rintro e w8 ⟨rfl, hb⟩; refine ⟨_, rfl, ?_⟩; have n0_ := Aside0.mk (below_step (by repeat (first | (with_reducible first | exact HB.out | apply below_alloc | apply pw_below_drewN | apply below_drew1) | exact HB.out)) hb); clear HB; have HB := n0_; clear n0_; (try clear hb); (try clear hb2); (try clear hk); (try clear hi)))
      go_meet
      case rel => exact ⟨_, (true), (by first | rfl | (simp; done) | (simp [*]; done)), H', ⟨by first | omega | exact Nat.le_refl _⟩, ⟨by repeat (first | (with_reducible first | exact HB.out | apply below_alloc | apply pw_below_drewN | apply below_drew1) | exact HB.out)⟩⟩
    · replace c7 := Bool.eq_false_iff.mpr c7
      subst c7
      have H1 : (if a1 < 1 then (sextonlaw25_NetSplit.j0 k l0 a1 a2 a3 true) else (sextonlaw25_NetSplit.j0 k l0 a1 a2 a3 (decide (a1 > 7)))) = some r := by rw [if_neg (show ¬ (false = true) by decide)] at H; exact H
      clear H
      have H := H1
      clear H1
      by_cases c9 : a1 < 1
      · rw [if_pos c9] at H
        have c9b0 : decide (a1 < 1) = true := decide_eq_true c9
        clear c9
        (first | rw [c9b0] | (simp only [i64_w, i32_w]; rw [c9b0]) | skip)
        have H' := Aside0.mk H
        clear H
        go_wp2_with (first | ((with_reducible refine gate_callee (f := 13) rfl ?_); refine goesL_ (some 17) rfl rfl Try.func13 (by kernel_rfl) rfl #[.slice A0 l0.length c0] rfl (by (try simp only [List.map_toArray, List.map_cons, List.map_nil]); first | done | rfl | (simp only [List.length_drop, List.length_take]; rfl)) ?_; (with_reducible refine (sextonref25_Big.calls k _ _ l0 false _ ?side1 ?side2 A6.out).mono ?_); (case side1 => repeat (first | exact (Kd.C_below HR0.out HB.out) | (with_reducible refine Kd.C_alloc ?_ _) | (with_reducible refine Kd.C_drewN ?_ _) | (with_reducible refine Kd.C_drew ?_))); (case side2 => exact HC0.out); rintro e w10 ⟨rfl, hb⟩; refine ⟨_, rfl, ?_⟩; have n0_ := Aside0.mk (below_step (by repeat (first | (with_reducible first | exact HB.out | apply below_alloc | apply pw_below_drewN | apply below_drew1) | exact HB.out)) hb); clear HB; have HB := n0_; clear n0_; (try clear hb); (try clear hb2); (try clear hk); (try clear hi)))
        go_meet
        case rel => exact ⟨_, (true), (by first | rfl | (simp; done) | (simp [*]; done)), H', ⟨by first | omega | exact Nat.le_refl _⟩, ⟨by repeat (first | (with_reducible first | exact HB.out | apply below_alloc | apply pw_below_drewN | apply below_drew1) | exact HB.out)⟩⟩
      · rw [if_neg c9] at H
        have c9b0 : decide (a1 < 1) = false := decide_eq_false c9
        clear c9
        (first | rw [c9b0] | (simp only [i64_w, i32_w]; rw [c9b0]) | skip)
        have H' := Aside0.mk H
        clear H
        go_wp2_with (first | ((with_reducible refine gate_callee (f := 13) rfl ?_); refine goesL_ (some 17) rfl rfl Try.func13 (by kernel_rfl) rfl #[.slice A0 l0.length c0] rfl (by (try simp only [List.map_toArray, List.map_cons, List.map_nil]); first | done | rfl | (simp only [List.length_drop, List.length_take]; rfl)) ?_; (with_reducible refine (sextonref25_Big.calls k _ _ l0 false _ ?side1 ?side2 A6.out).mono ?_); (case side1 => repeat (first | exact (Kd.C_below HR0.out HB.out) | (with_reducible refine Kd.C_alloc ?_ _) | (with_reducible refine Kd.C_drewN ?_ _) | (with_reducible refine Kd.C_drew ?_))); (case side2 => exact HC0.out); rintro e w11 ⟨rfl, hb⟩; refine ⟨_, rfl, ?_⟩; have n0_ := Aside0.mk (below_step (by repeat (first | (with_reducible first | exact HB.out | apply below_alloc | apply pw_below_drewN | apply below_drew1) | exact HB.out)) hb); clear HB; have HB := n0_; clear n0_; (try clear hb); (try clear hb2); (try clear hk); (try clear hi)))
        go_meet
        case rel => exact ⟨_, (decide (a1 > 7)), (by first | rfl | (simp; done) | (simp [*]; done)), H', ⟨by first | omega | exact Nat.le_refl _⟩, ⟨by repeat (first | (with_reducible first | exact HB.out | apply below_alloc | apply pw_below_drewN | apply below_drew1) | exact HB.out)⟩⟩
  case rest =>
    clear HC5
    try clear c1
    try clear p2
    try clear c5
    try clear c7
    try clear c9
    try clear c9b0
    obtain ⟨kq, x25_4, rfl, HA, HJ4, HB⟩ := hcut
    cases kq with
    | zero => exact absurd HA.out (by simp [sextonlaw25_NetSplit.j0])
    | succ kj4 =>
      have H := HA.out
      clear HA
      simp only [sextonlaw25_NetSplit.j0] at H
      by_cases c12 : x25_4 = true
      · subst c12
        have H1 : (some true) = some r := by rw [if_pos rfl] at H; exact H
        clear H
        have H := H1
        clear H1
        obtain rfl := Option.some.inj H
        go_wp2
        go_ret
        exact ⟨by first | rfl | (simp [errW_none, errW_some] <;> rfl) | (simp [*, errW_none, errW_some] <;> rfl), by repeat (first | (with_reducible first | exact HB.out | apply below_alloc | apply pw_below_drewN | apply below_drew1) | exact HB.out)⟩
      · replace c12 := Bool.eq_false_iff.mpr c12
        subst c12
        have H1 : ((net_Split.f l0 a1).bind fun t155 => (sextonlaw25_NetSplit.l0 kj4 l0 a1 a2 a3 t155 0 0)) = some r := by rw [if_neg (show ¬ (false = true) by decide)] at H; exact H
        clear H
        have H := H1
        clear H1
        replace H := Option.bind_eq_some_iff.mp H
        obtain ⟨t155, A130, H⟩ := H
        replace H : (sextonlaw25_NetSplit.l0 kj4 l0 a1 a2 a3 t155 0 0) = some r := H
        have A13 := Aside0.mk A130
        clear A130
        have H' := Aside0.mk H
        clear H
        go_wp2_with (first | ((with_reducible refine gate_callee (f := 21) rfl ?_); refine goesL_ (some 28) rfl rfl Try.func21 (by kernel_rfl) rfl #[.slice A0 l0.length c0, .int .i64 a1] rfl (by (try simp only [List.map_toArray, List.map_cons, List.map_nil]); first | done | rfl | (simp only [List.length_drop, List.length_take]; rfl)) ?_; (with_reducible refine (net_Split.calls _ _ l0 a1 t155 _ ?side1 ?side2 A13.out).mono ?_); (case side1 => repeat (first | exact (Kd.C_below HR0.out HB.out) | (with_reducible refine Kd.C_alloc ?_ _) | (with_reducible refine Kd.C_drewN ?_ _) | (with_reducible refine Kd.C_drew ?_))); (case side2 => exact HC0.out); rintro e w14 ⟨v156, rfl, ho0, hb⟩; refine ⟨_, rfl, ?_⟩; have n0_ := Aside0.mk (Kd.R_lower ho0 (below_size (by repeat (first | (with_reducible first | exact HB.out | apply below_alloc | apply pw_below_drewN | apply below_drew1) | exact HB.out)))); have n1_ := Aside0.mk (below_step (by repeat (first | (with_reducible first | exact HB.out | apply below_alloc | apply pw_below_drewN | apply below_drew1) | exact HB.out)) hb); clear HB; have HO157 := n0_; have HB := n1_; clear n0_ n1_; (try clear hb); (try clear hb2); (try clear hk); (try clear hi); (try clear ho0)))
        go_loopg [10, 11] kj4 (fun kq v10 v11 w' => ∃ (x10_2 : Int) (x11_2 : Int), v10 = .int .i64 x10_2 ∧ v11 = .int .i64 x11_2 ∧ Aside0 (sextonlaw25_NetSplit.l0 kq l0 a1 a2 a3 t155 x10_2 x11_2 = some r) ∧ Aside0 (kq ≤ kj4) ∧ Aside0 (Kd.R (Kd.slice 29 k29) 22 w' w.heap.size (fun _ => True) v156 t155) ∧ Aside0 (Below w.heap.size w w'))
        case atStart => exact ⟨(0), (0), (by first | rfl | (simp; done) | (simp [*]; done)), (by first | rfl | (simp; done) | (simp [*]; done)), H', ⟨Nat.le_refl _⟩, ⟨by (with_reducible repeat (first | apply Kd.R_alloc | apply Kd.R_drewN | apply Kd.R_drew)); exact HO157.out⟩, ⟨by repeat (first | (with_reducible first | exact HB.out | apply below_alloc | apply pw_below_drewN | apply below_drew1) | exact HB.out)⟩⟩
        case round =>
          clear H'
          try clear c1
          try clear c2
          try clear p2
          try clear c5
          try clear c7
          try clear c9
          try clear c9b0
          try clear c12
          try clear c13
          try clear p2
          obtain ⟨x10_2, x11_2, rfl, rfl, HA, HK2, HO_9, HB⟩ := hrel
          cases gk with
          | zero => exact absurd HA.out (by simp [sextonlaw25_NetSplit.l0])
          | succ k2 =>
            have H := HA.out
            clear HA
            simp only [sextonlaw25_NetSplit.l0] at H
            by_cases c15 : x11_2 < (l0.length : Int)
            · rw [if_pos c15] at H
              have c15b0 : decide (x11_2 < (l0.length : Int)) = true := decide_eq_true c15
              clear c15
              by_cases c16 : 0 ≤ x11_2
              · rw [if_pos c16] at H
                have c16b0 : decide (0 ≤ x11_2) = true := decide_eq_true c16
                clear c16
                by_cases c17 : ((rd_T29 l0 x11_2).f2) ≥ 0
                · rw [if_pos c17] at H
                  have c17b0 : decide (0 ≤ ((rd_T29 l0 x11_2).f2)) = true := decide_eq_true c17
                  clear c17
                  by_cases c18 : ((rd_T29 l0 x11_2).f2) < a1
                  · rw [if_pos c18] at H
                    have c18b0 : decide (((rd_T29 l0 x11_2).f2) < a1) = true := decide_eq_true c18
                    clear c18
                    have H' := Aside0.mk H
                    clear H
                    have p158 : 0 ≤ (x11_2 : Int) := of_decide_eq_true (by first | (with_reducible assumption) | assumption)
                    have q158 : x11_2 < (l0.length : Int) := of_decide_eq_true (by first | (with_reducible assumption) | assumption)
                    obtain ⟨ad158, A158_7, c158_7, e158, hx158_0, hx158_1, hx158_2, hx158_3, hx158_4, hx158_5, hx158_6, hx158_7, hl158_7, hi158_7⟩ := at_T29 HR0.out x11_2 p158 q158
                    cases e158
                    replace hx158_0 := (HB.out.cell (World.block_lt_of_cell? w _ hx158_0)).trans hx158_0
                    replace hx158_1 := (HB.out.cell (World.block_lt_of_cell? w _ hx158_1)).trans hx158_1
                    replace hx158_2 := (HB.out.cell (World.block_lt_of_cell? w _ hx158_2)).trans hx158_2
                    replace hx158_3 := (HB.out.cell (World.block_lt_of_cell? w _ hx158_3)).trans hx158_3
                    replace hx158_4 := (HB.out.cell (World.block_lt_of_cell? w _ hx158_4)).trans hx158_4
                    replace hx158_5 := (HB.out.cell (World.block_lt_of_cell? w _ hx158_5)).trans hx158_5
                    replace hx158_6 := (HB.out.cell (World.block_lt_of_cell? w _ hx158_6)).trans hx158_6
                    replace hx158_7 := (HB.out.cell (World.block_lt_of_cell? w _ hx158_7)).trans hx158_7
                    have HR158_7 := Aside0.mk hi158_7
                    have HC158_7 := Aside0.mk hl158_7
                    clear hi158_7 hl158_7
                    replace p158 := eq_true p158
                    replace q158 := eq_true q158
                    have p159 : 0 ≤ (x11_2 : Int) := of_decide_eq_true (by first | (with_reducible assumption) | assumption)
                    have q159 : x11_2 < (l0.length : Int) := of_decide_eq_true (by first | (with_reducible assumption) | assumption)
                    obtain ⟨ad159, A159_7, c159_7, e159, hx159_0, hx159_1, hx159_2, hx159_3, hx159_4, hx159_5, hx159_6, hx159_7, hl159_7, hi159_7⟩ := at_T29 HR0.out x11_2 p159 q159
                    obtain rfl : ad158 = ad159 := (by injection e159)
                    replace hx159_0 := (HB.out.cell (World.block_lt_of_cell? w _ hx159_0)).trans hx159_0
                    replace hx159_1 := (HB.out.cell (World.block_lt_of_cell? w _ hx159_1)).trans hx159_1
                    replace hx159_2 := (HB.out.cell (World.block_lt_of_cell? w _ hx159_2)).trans hx159_2
                    replace hx159_3 := (HB.out.cell (World.block_lt_of_cell? w _ hx159_3)).trans hx159_3
                    replace hx159_4 := (HB.out.cell (World.block_lt_of_cell? w _ hx159_4)).trans hx159_4
                    replace hx159_5 := (HB.out.cell (World.block_lt_of_cell? w _ hx159_5)).trans hx159_5
                    replace hx159_6 := (HB.out.cell (World.block_lt_of_cell? w _ hx159_6)).trans hx159_6
                    replace hx159_7 := (HB.out.cell (World.block_lt_of_cell? w _ hx159_7)).trans hx159_7
                    have HR159_7 := Aside0.mk hi159_7
                    have HC159_7 := Aside0.mk hl159_7
                    clear hi159_7 hl159_7
                    replace p159 := eq_true p159
                    replace q159 := eq_true q159
                    have ea_ := Option.some.inj (hx158_7.symm.trans hx159_7)
                    injection ea_ with ea_ en_ ec_
                    subst ea_
                    subst ec_
                    clear en_
                    go_wp2
                    go_roundg k2
                    case measure => have := HJ4.out; have := HK2.out; omega
                    case rel => exact ⟨(wrap64 (x10_2 + 1)), (wrap64 (x11_2 + 1)), (by first | rfl | (simp; done) | (simp [*]; done)), (by first | rfl | (simp; done) | (simp [*]; done)), H', ⟨by have := HJ4.out; have := HK2.out; omega⟩, ⟨by (with_reducible repeat (first | apply Kd.R_alloc | apply Kd.R_drewN | apply Kd.R_drew)); exact HO_9.out⟩, ⟨by repeat (first | (with_reducible first | exact HB.out | apply below_alloc | apply pw_below_drewN | apply below_drew1) | exact HB.out)⟩⟩
                  · rw [if_neg c18] at H
                    have c18b0 : decide (((rd_T29 l0 x11_2).f2) < a1) = false := decide_eq_false c18
                    clear c18
                    have H' := Aside0.mk H
                    clear H
                    have p158 : 0 ≤ (x11_2 : Int) := of_decide_eq_true (by first | (with_reducible assumption) | assumption)
                    have q158 : x11_2 < (l0.length : Int) := of_decide_eq_true (by first | (with_reducible assumption) | assumption)
                    obtain ⟨ad158, A158_7, c158_7, e158, hx158_0, hx158_1, hx158_2, hx158_3, hx158_4, hx158_5, hx158_6, hx158_7, hl158_7, hi158_7⟩ := at_T29 HR0.out x11_2 p158 q158
                    cases e158
                    replace hx158_0 := (HB.out.cell (World.block_lt_of_cell? w _ hx158_0)).trans hx158_0
                    replace hx158_1 := (HB.out.cell (World.block_lt_of_cell? w _ hx158_1)).trans hx158_1
                    replace hx158_2 := (HB.out.cell (World.block_lt_of_cell? w _ hx158_2)).trans hx158_2
                    replace hx158_3 := (HB.out.cell (World.block_lt_of_cell? w _ hx158_3)).trans hx158_3
                    replace hx158_4 := (HB.out.cell (World.block_lt_of_cell? w _ hx158_4)).trans hx158_4
                    replace hx158_5 := (HB.out.cell (World.block_lt_of_cell? w _ hx158_5)).trans hx158_5
                    replace hx158_6 := (HB.out.cell (World.block_lt_of_cell? w _ hx158_6)).trans hx158_6
                    replace hx158_7 := (HB.out.cell (World.block_lt_of_cell? w _ hx158_7)).trans hx158_7
                    have HR158_7 := Aside0.mk hi158_7
                    have HC158_7 := Aside0.mk hl158_7
                    clear hi158_7 hl158_7
                    replace p158 := eq_true p158
                    replace q158 := eq_true q158
                    have p159 : 0 ≤ (x11_2 : Int) := of_decide_eq_true (by first | (with_reducible assumption) | assumption)
                    have q159 : x11_2 < (l0.length : Int) := of_decide_eq_true (by first | (with_reducible assumption) | assumption)
                    obtain ⟨ad159, A159_7, c159_7, e159, hx159_0, hx159_1, hx159_2, hx159_3, hx159_4, hx159_5, hx159_6, hx159_7, hl159_7, hi159_7⟩ := at_T29 HR0.out x11_2 p159 q159
                    obtain rfl : ad158 = ad159 := (by injection e159)
                    replace hx159_0 := (HB.out.cell (World.block_lt_of_cell? w _ hx159_0)).trans hx159_0
                    replace hx159_1 := (HB.out.cell (World.block_lt_of_cell? w _ hx159_1)).trans hx159_1
                    replace hx159_2 := (HB.out.cell (World.block_lt_of_cell? w _ hx159_2)).trans hx159_2
                    replace hx159_3 := (HB.out.cell (World.block_lt_of_cell? w _ hx159_3)).trans hx159_3
                    replace hx159_4 := (HB.out.cell (World.block_lt_of_cell? w _ hx159_4)).trans hx159_4
                    replace hx159_5 := (HB.out.cell (World.block_lt_of_cell? w _ hx159_5)).trans hx159_5
                    replace hx159_6 := (HB.out.cell (World.block_lt_of_cell? w _ hx159_6)).trans hx159_6
                    replace hx159_7 := (HB.out.cell (World.block_lt_of_cell? w _ hx159_7)).trans hx159_7
                    have HR159_7 := Aside0.mk hi159_7
                    have HC159_7 := Aside0.mk hl159_7
                    clear hi159_7 hl159_7
                    replace p159 := eq_true p159
                    replace q159 := eq_true q159
                    have ea_ := Option.some.inj (hx158_7.symm.trans hx159_7)
                    injection ea_ with ea_ en_ ec_
                    subst ea_
                    subst ec_
                    clear en_
                    go_wp2
                    go_roundg k2
                    case measure => have := HJ4.out; have := HK2.out; omega
                    case rel => exact ⟨(x10_2), (wrap64 (x11_2 + 1)), (by first | rfl | (simp; done) | (simp [*]; done)), (by first | rfl | (simp; done) | (simp [*]; done)), H', ⟨by have := HJ4.out; have := HK2.out; omega⟩, ⟨by (with_reducible repeat (first | apply Kd.R_alloc | apply Kd.R_drewN | apply Kd.R_drew)); exact HO_9.out⟩, ⟨by repeat (first | (with_reducible first | exact HB.out | apply below_alloc | apply pw_below_drewN | apply below_drew1) | exact HB.out)⟩⟩
                · rw [if_neg c17] at H
                  have c17b0 : decide (0 ≤ ((rd_T29 l0 x11_2).f2)) = false := decide_eq_false c17
                  clear c17
                  have H' := Aside0.mk H
                  clear H
                  have p158 : 0 ≤ (x11_2 : Int) := of_decide_eq_true (by first | (with_reducible assumption) | assumption)
                  have q158 : x11_2 < (l0.length : Int) := of_decide_eq_true (by first | (with_reducible assumption) | assumption)
                  obtain ⟨ad158, A158_7, c158_7, e158, hx158_0, hx158_1, hx158_2, hx158_3, hx158_4, hx158_5, hx158_6, hx158_7, hl158_7, hi158_7⟩ := at_T29 HR0.out x11_2 p158 q158
                  cases e158
                  replace hx158_0 := (HB.out.cell (World.block_lt_of_cell? w _ hx158_0)).trans hx158_0
                  replace hx158_1 := (HB.out.cell (World.block_lt_of_cell? w _ hx158_1)).trans hx158_1
                  replace hx158_2 := (HB.out.cell (World.block_lt_of_cell? w _ hx158_2)).trans hx158_2
                  replace hx158_3 := (HB.out.cell (World.block_lt_of_cell? w _ hx158_3)).trans hx158_3
                  replace hx158_4 := (HB.out.cell (World.block_lt_of_cell? w _ hx158_4)).trans hx158_4
                  replace hx158_5 := (HB.out.cell (World.block_lt_of_cell? w _ hx158_5)).trans hx158_5
                  replace hx158_6 := (HB.out.cell (World.block_lt_of_cell? w _ hx158_6)).trans hx158_6
                  replace hx158_7 := (HB.out.cell (World.block_lt_of_cell? w _ hx158_7)).trans hx158_7
                  have HR158_7 := Aside0.mk hi158_7
                  have HC158_7 := Aside0.mk hl158_7
                  clear hi158_7 hl158_7
                  replace p158 := eq_true p158
                  replace q158 := eq_true q158
                  go_wp2
                  go_roundg k2
                  case measure => have := HJ4.out; have := HK2.out; omega
                  case rel => exact ⟨(x10_2), (wrap64 (x11_2 + 1)), (by first | rfl | (simp; done) | (simp [*]; done)), (by first | rfl | (simp; done) | (simp [*]; done)), H', ⟨by have := HJ4.out; have := HK2.out; omega⟩, ⟨by (with_reducible repeat (first | apply Kd.R_alloc | apply Kd.R_drewN | apply Kd.R_drew)); exact HO_9.out⟩, ⟨by repeat (first | (with_reducible first | exact HB.out | apply below_alloc | apply pw_below_drewN | apply below_drew1) | exact HB.out)⟩⟩
              · rw [if_neg c16] at H
                exact absurd H (by simp)
            · rw [if_neg c15] at H
              have c15b0 : decide (x11_2 < (l0.length : Int)) = false := decide_eq_false c15
              clear c15
              have H' := Aside0.mk H
              clear H
              go_wp2
              go_loopg [10, 12] k2 (fun kq v10 v12 w' => ∃ (x10_3 : Int) (x12_3 : Int), v10 = .int .i64 x10_3 ∧ v12 = .int .i64 x12_3 ∧ Aside0 (sextonlaw25_NetSplit.l1 kq l0 a1 a2 a3 t155 x10_3 x12_3 = some r) ∧ Aside0 (kq ≤ k2) ∧ Aside0 (Kd.R (Kd.slice 29 k29) 22 w' w.heap.size (fun _ => True) v156 t155) ∧ Aside0 (Below w.heap.size w w'))
              case atStart => exact ⟨(x10_2), (0), (by first | rfl | (simp; done) | (simp [*]; done)), (by first | rfl | (simp; done) | (simp [*]; done)), H', ⟨Nat.le_refl _⟩, ⟨by (with_reducible repeat (first | apply Kd.R_alloc | apply Kd.R_drewN | apply Kd.R_drew)); exact HO_9.out⟩, ⟨by repeat (first | (with_reducible first | exact HB.out | apply below_alloc | apply pw_below_drewN | apply below_drew1) | exact HB.out)⟩⟩
              case round =>
                clear H'
                try clear c1
                try clear p1
                try clear q1
                try clear hx1
                try clear c2
                try clear p2
                try clear c5
                try clear p6
                try clear c7
                try clear c9
                try clear c9b0
                try clear c12
                try clear c13
                try clear c15
                try clear c15b0
                try clear p15
                try clear q15
                try clear hx15
                try clear c16
                try clear c16b0
                try clear c17
                try clear c17b0
                try clear c18
                try clear c18b0
                try clear hx158_0
                try clear hx158_1
                try clear hx158_2
                try clear hx158_3
                try clear hx158_4
                try clear hx158_5
                try clear hx158_6
                try clear hx158_7
                try clear hx159_0
                try clear hx159_1
                try clear hx159_2
                try clear hx159_3
                try clear hx159_4
                try clear hx159_5
                try clear hx159_6
                try clear hx159_7
                try clear p158
                try clear p159
                try clear p2
                try clear q158
                try clear q159
                obtain ⟨x10_3, x12_3, rfl, rfl, HA, HK3, HO_9, HB⟩ := hrel
                cases gk with
                | zero => exact absurd HA.out (by simp [sextonlaw25_NetSplit.l1])
                | succ k3 =>
                  have H := HA.out
                  clear HA
                  simp only [sextonlaw25_NetSplit.l1] at H
                  by_cases c19 : x12_3 < (t155.length : Int)
                  · rw [if_pos c19] at H
                    have c19b0 : decide (x12_3 < (t155.length : Int)) = true := decide_eq_true c19
                    clear c19
                    by_cases c20 : 0 ≤ x12_3
                    · rw [if_pos c20] at H
                      have c20b0 : decide (0 ≤ x12_3) = true := decide_eq_true c20
                      clear c20
                      have H' := Aside0.mk H
                      clear H
                      obtain ⟨Ao21, co21, eo21⟩ := Kd.R_slice HO_9.out
                      subst eo21
                      have p160 : 0 ≤ (x12_3 : Int) := of_decide_eq_true (by first | (with_reducible assumption) | assumption)
                      have q160 : x12_3 < (t155.length : Int) := of_decide_eq_true (by first | (with_reducible assumption) | assumption)
                      obtain ⟨ad160, A160_0, c160_0, e160, hx160_0, hl160_0, hi160_0⟩ := at_L4 (Kd.R_reads' HO_9.out).2.2 x12_3 p160 q160
                      cases e160
                      obtain ⟨ce160, hce160, hMe160, hcc160⟩ := Kd.R_get HO_9.out [] x12_3 p160 (by first | exact q160 | exact of_decide_eq_true (by first | (with_reducible assumption) | assumption) | (have e_ := (Kd.R_reads' HO_9.out).1; omega))
                      obtain ⟨ve160_0, rfl, ge160_0⟩ := hMe160
                      have hv160_0 := hcc160 0 _ rfl
                      rw [Nat.add_zero, show ((Kd.slice 29 k29)).sz = 1 from rfl, Nat.mul_one] at hv160_0
                      replace hv160_0 := Option.some.inj (hv160_0.symm.trans hx160_0)
                      rw [hv160_0] at ge160_0
                      have HL160_0 := Aside0.mk (show Kd.R k29 29 _ _ _ _ (rd_L4 t155 x12_3) from ge160_0)
                      clear hv160_0 ge160_0
                      clear hcc160 hce160
                      have HR160_0 := Aside0.mk hi160_0
                      have HC160_0 := Aside0.mk hl160_0
                      clear hi160_0 hl160_0
                      replace p160 := eq_true p160
                      replace q160 := eq_true q160
                      go_wp2
                      go_loopg [13] k3 (fun kq v13 w' => ∃ (x13_4 : Int), v13 = .int .i64 x13_4 ∧ Aside0 (sextonlaw25_NetSplit.l2 kq l0 a1 a2 a3 t155 (wrap64 (x10_3 - ((rd_L4 t155 x12_3).length : Int))) x12_3 x13_4 = some r) ∧ Aside0 (kq ≤ k3) ∧ Aside0 (Kd.R (Kd.slice 29 k29) 22 w' w.heap.size (fun _ => True) (.slice (some ad160) t155.length co21) t155) ∧ Aside0 (Kd.C k29 w' A160_0 (rd_L4 t155 x12_3).length (rd_L4 t155 x12_3)) ∧ Aside0 (Below w.heap.size w w'))
                      case atStart => exact ⟨(0), (by first | rfl | (simp; done) | (simp [*]; done)), H', ⟨Nat.le_refl _⟩, ⟨by (with_reducible repeat (first | apply Kd.R_alloc | apply Kd.R_drewN | apply Kd.R_drew)); exact HO_9.out⟩, ⟨by repeat (first | (with_reducible exact HR160_0.out) | (with_reducible refine Kd.C_alloc ?_ _) | (with_reducible refine Kd.C_drewN ?_ _) | (with_reducible refine Kd.C_drew ?_) | exact HR160_0.out)⟩, ⟨by repeat (first | (with_reducible first | exact HB.out | apply below_alloc | apply pw_below_drewN | apply below_drew1) | exact HB.out)⟩⟩
                      case round =>
                        clear H'
                        try clear c1
                        try clear p1
                        try clear q1
                        try clear hx1
                        try clear c2
                        try clear p2
                        try clear c5
                        try clear p6
                        try clear c7
                        try clear c9
                        try clear c9b0
                        try clear c12
                        try clear c13
                        try clear c15
                        try clear c15b0
                        try clear p15
                        try clear q15
                        try clear hx15
                        try clear c16
                        try clear c16b0
                        try clear p16
                        try clear q16
                        try clear hx16
                        try clear c17
                        try clear c17b0
                        try clear c18
                        try clear c18b0
                        try clear c19
                        try clear c19b0
                        try clear c20
                        try clear c20b0
                        try clear c21
                        try clear hx158_0
                        try clear hx158_1
                        try clear hx158_2
                        try clear hx158_3
                        try clear hx158_4
                        try clear hx158_5
                        try clear hx158_6
                        try clear hx158_7
                        try clear hx159_0
                        try clear hx159_1
                        try clear hx159_2
                        try clear hx159_3
                        try clear hx159_4
                        try clear hx159_5
                        try clear hx159_6
                        try clear hx159_7
                        try clear hx160_0
                        try clear p1
                        try clear p15
                        try clear p158
                        try clear p159
                        try clear p160
                        try clear p2
                        try clear p6
                        try clear q1
                        try clear q15
                        try clear q158
                        try clear q159
                        try clear q160
                        obtain ⟨x13_4, rfl, HA, HK4, HO_9, HR160_0, HB⟩ := hrel
                        cases gk with
                        | zero => exact absurd HA.out (by simp [sextonlaw25_NetSplit.l2])
                        | succ k4 =>
                          have H := HA.out
                          clear HA
                          simp only [sextonlaw25_NetSplit.l2] at H
                          by_cases c22 : 0 ≤ x12_3
                          · rw [if_pos c22] at H
                            have c22b0 : decide (0 ≤ x12_3) = true := decide_eq_true c22
                            clear c22
                            by_cases c23 : x12_3 < (t155.length : Int)
                            · rw [if_pos c23] at H
                              have c23b0 : decide (x12_3 < (t155.length : Int)) = true := decide_eq_true c23
                              clear c23
                              by_cases c24 : x13_4 < ((rd_L4 t155 x12_3).length : Int)
                              · rw [if_pos c24] at H
                                have c24b0 : decide (x13_4 < ((rd_L4 t155 x12_3).length : Int)) = true := decide_eq_true c24
                                clear c24
                                by_cases c25 : 0 ≤ x13_4
                                · rw [if_pos c25] at H
                                  have c25b0 : decide (0 ≤ x13_4) = true := decide_eq_true c25
                                  clear c25
                                  by_cases c26 : ((rd_T29 (rd_L4 t155 x12_3) x13_4).f2) = x12_3
                                  · rw [if_pos c26] at H
                                    have c26b0 : (((rd_T29 (rd_L4 t155 x12_3) x13_4).f2) == x12_3) = true := beq_iff_eq.mpr c26
                                    have c26b1 : (((rd_T29 (rd_L4 t155 x12_3) x13_4).f2) != x12_3) = false := bne_eq_false_iff_eq.mpr c26
                                    clear c26
                                    have H' := Aside0.mk H
                                    clear H
                                    have p161 : 0 ≤ (x12_3 : Int) := of_decide_eq_true (by first | (with_reducible assumption) | assumption)
                                    have q161 : x12_3 < (t155.length : Int) := of_decide_eq_true (by first | (with_reducible assumption) | assumption)
                                    obtain ⟨ad161, A161_0, c161_0, e161, hx161_0, hl161_0, hi161_0⟩ := at_L4 (Kd.R_reads' HO_9.out).2.2 x12_3 p161 q161
                                    obtain rfl : ad160 = ad161 := (by injection e161)
                                    obtain ⟨ce161, hce161, hMe161, hcc161⟩ := Kd.R_get HO_9.out [] x12_3 p161 (by first | exact q161 | exact of_decide_eq_true (by first | (with_reducible assumption) | assumption) | (have e_ := (Kd.R_reads' HO_9.out).1; omega))
                                    obtain ⟨ve161_0, rfl, ge161_0⟩ := hMe161
                                    have hv161_0 := hcc161 0 _ rfl
                                    rw [Nat.add_zero, show ((Kd.slice 29 k29)).sz = 1 from rfl, Nat.mul_one] at hv161_0
                                    replace hv161_0 := Option.some.inj (hv161_0.symm.trans hx161_0)
                                    rw [hv161_0] at ge161_0
                                    have HL161_0 := Aside0.mk (show Kd.R k29 29 _ _ _ _ (rd_L4 t155 x12_3) from ge161_0)
                                    clear hv161_0 ge161_0
                                    clear hcc161 hce161
                                    have HR161_0 := Aside0.mk hi161_0
                                    have HC161_0 := Aside0.mk hl161_0
                                    clear hi161_0 hl161_0
                                    replace p161 := eq_true p161
                                    replace q161 := eq_true q161
                                    have p162 : 0 ≤ (x12_3 : Int) := of_decide_eq_true (by first | (with_reducible assumption) | assumption)
                                    have q162 : x12_3 < (t155.length : Int) := of_decide_eq_true (by first | (with_reducible assumption) | assumption)
                                    obtain ⟨ad162, A162_0, c162_0, e162, hx162_0, hl162_0, hi162_0⟩ := at_L4 (Kd.R_reads' HO_9.out).2.2 x12_3 p162 q162
                                    obtain rfl : ad160 = ad162 := (by injection e162)
                                    obtain ⟨ce162, hce162, hMe162, hcc162⟩ := Kd.R_get HO_9.out [] x12_3 p162 (by first | exact q162 | exact of_decide_eq_true (by first | (with_reducible assumption) | assumption) | (have e_ := (Kd.R_reads' HO_9.out).1; omega))
                                    obtain ⟨ve162_0, rfl, ge162_0⟩ := hMe162
                                    have hv162_0 := hcc162 0 _ rfl
                                    rw [Nat.add_zero, show ((Kd.slice 29 k29)).sz = 1 from rfl, Nat.mul_one] at hv162_0
                                    replace hv162_0 := Option.some.inj (hv162_0.symm.trans hx162_0)
                                    rw [hv162_0] at ge162_0
                                    have HL162_0 := Aside0.mk (show Kd.R k29 29 _ _ _ _ (rd_L4 t155 x12_3) from ge162_0)
                                    clear hv162_0 ge162_0
                                    clear hcc162 hce162
                                    have HR162_0 := Aside0.mk hi162_0
                                    have HC162_0 := Aside0.mk hl162_0
                                    clear hi162_0 hl162_0
                                    replace p162 := eq_true p162
                                    replace q162 := eq_true q162
                                    have ea_ := Option.some.inj (hx161_0.symm.trans hx162_0)
                                    injection ea_ with ea_ en_ ec_
                                    subst ea_
                                    subst ec_
                                    clear en_
                                    have p163 : 0 ≤ (x13_4 : Int) := of_decide_eq_true (by first | (with_reducible assumption) | assumption)
                                    have q163 : x13_4 < ((rd_L4 t155 x12_3).length : Int) := of_decide_eq_true (by first | (with_reducible assumption) | assumption)
                                    obtain ⟨ad163, A163_7, c163_7, e163, hx163_0, hx163_1, hx163_2, hx163_3, hx163_4, hx163_5, hx163_6, hx163_7, hl163_7, hi163_7⟩ := at_T29 (by repeat (first | (with_reducible exact HR162_0.out) | (with_reducible refine Kd.C_alloc ?_ _) | (with_reducible refine Kd.C_drewN ?_ _) | (with_reducible refine Kd.C_drew ?_) | exact HR162_0.out)) x13_4 p163 q163
                                    cases e163
                                    obtain ⟨ce163, hce163, hMe163, hcc163⟩ := Kd.R_get HL162_0.out z29 x13_4 p163 (by first | exact q163 | exact of_decide_eq_true (by first | (with_reducible assumption) | assumption) | (have e_ := (Kd.R_reads' HL162_0.out).1; omega))
                                    obtain ⟨ve163_7, rfl, ge163_7⟩ := k29_openM hMe163
                                    have hv163_7 := hcc163 7 _ rfl
                                    rw [add_field _ _ 7 (by omega)] at hv163_7
                                    replace hv163_7 := Option.some.inj (hv163_7.symm.trans hx163_7)
                                    rw [hv163_7] at ge163_7
                                    have HL163_7 := Aside0.mk (show Kd.R Kd.string 9 _ _ _ _ ((rd_T29 (rd_L4 t155 x12_3) x13_4).f7) from ge163_7)
                                    clear hv163_7 ge163_7
                                    clear hcc163 hce163
                                    have HR163_7 := Aside0.mk hi163_7
                                    have HC163_7 := Aside0.mk hl163_7
                                    clear hi163_7 hl163_7
                                    replace p163 := eq_true p163
                                    replace q163 := eq_true q163
                                    go_wp2
                                    go_roundg k4
                                    case measure => have := HJ4.out; have := HK2.out; have := HK3.out; have := HK4.out; omega
                                    case rel => exact ⟨(wrap64 (x13_4 + 1)), (by first | rfl | (simp; done) | (simp [*]; done)), H', ⟨by have := HJ4.out; have := HK2.out; have := HK3.out; have := HK4.out; omega⟩, ⟨by (with_reducible repeat (first | apply Kd.R_alloc | apply Kd.R_drewN | apply Kd.R_drew)); exact HO_9.out⟩, ⟨by repeat (first | (with_reducible exact HR160_0.out) | (with_reducible refine Kd.C_alloc ?_ _) | (with_reducible refine Kd.C_drewN ?_ _) | (with_reducible refine Kd.C_drew ?_) | exact HR160_0.out)⟩, ⟨by repeat (first | (with_reducible first | exact HB.out | apply below_alloc | apply pw_below_drewN | apply below_drew1) | exact HB.out)⟩⟩
                                  · rw [if_neg c26] at H
                                    have c26b0 : (((rd_T29 (rd_L4 t155 x12_3) x13_4).f2) == x12_3) = false := beq_eq_false_iff_ne.mpr c26
                                    have c26b1 : (((rd_T29 (rd_L4 t155 x12_3) x13_4).f2) != x12_3) = true := bne_iff_ne.mpr c26
                                    obtain rfl := Option.some.inj H
                                    exact absurd hrt (by decide)
                                · rw [if_neg c25] at H
                                  exact absurd H (by simp)
                              · rw [if_neg c24] at H
                                have c24b0 : decide (x13_4 < ((rd_L4 t155 x12_3).length : Int)) = false := decide_eq_false c24
                                clear c24
                                have H' := Aside0.mk H
                                clear H
                                have p161 : 0 ≤ (x12_3 : Int) := of_decide_eq_true (by first | (with_reducible assumption) | assumption)
                                have q161 : x12_3 < (t155.length : Int) := of_decide_eq_true (by first | (with_reducible assumption) | assumption)
                                obtain ⟨ad161, A161_0, c161_0, e161, hx161_0, hl161_0, hi161_0⟩ := at_L4 (Kd.R_reads' HO_9.out).2.2 x12_3 p161 q161
                                obtain rfl : ad160 = ad161 := (by injection e161)
                                obtain ⟨ce161, hce161, hMe161, hcc161⟩ := Kd.R_get HO_9.out [] x12_3 p161 (by first | exact q161 | exact of_decide_eq_true (by first | (with_reducible assumption) | assumption) | (have e_ := (Kd.R_reads' HO_9.out).1; omega))
                                obtain ⟨ve161_0, rfl, ge161_0⟩ := hMe161
                                have hv161_0 := hcc161 0 _ rfl
                                rw [Nat.add_zero, show ((Kd.slice 29 k29)).sz = 1 from rfl, Nat.mul_one] at hv161_0
                                replace hv161_0 := Option.some.inj (hv161_0.symm.trans hx161_0)
                                rw [hv161_0] at ge161_0
                                have HL161_0 := Aside0.mk (show Kd.R k29 29 _ _ _ _ (rd_L4 t155 x12_3) from ge161_0)
                                clear hv161_0 ge161_0
                                clear hcc161 hce161
                                have HR161_0 := Aside0.mk hi161_0
                                have HC161_0 := Aside0.mk hl161_0
                                clear hi161_0 hl161_0
                                replace p161 := eq_true p161
                                replace q161 := eq_true q161
                                go_wp2
                                go_roundg k4
                                case measure => have := HJ4.out; have := HK2.out; have := HK3.out; have := HK4.out; omega
                                case rel => exact ⟨((wrap64 (x10_3 - ((rd_L4 t155 x12_3).length : Int)))), (wrap64 (x12_3 + 1)), (by first | rfl | (simp; done) | (simp [*]; done)), (by first | rfl | (simp; done) | (simp [*]; done)), H', ⟨by have := HJ4.out; have := HK2.out; have := HK3.out; have := HK4.out; omega⟩, ⟨by (with_reducible repeat (first | apply Kd.R_alloc | apply Kd.R_drewN | apply Kd.R_drew)); exact HO_9.out⟩, ⟨by repeat (first | (with_reducible first | exact HB.out | apply below_alloc | apply pw_below_drewN | apply below_drew1) | exact HB.out)⟩⟩
                            · rw [if_neg c23] at H
                              exact absurd H (by simp)
                          · rw [if_neg c22] at H
                            exact absurd H (by simp)
                    · rw [if_neg c20] at H
                      exact absurd H (by simp)
                  · rw [if_neg c19] at H
                    have c19b0 : decide (x12_3 < (t155.length : Int)) = false := decide_eq_false c19
                    clear c19
                    replace H := Option.bind_eq_some_iff.mp H
                    obtain ⟨t164, A270, H⟩ := H
                    replace H : (sextonlaw25_NetSplit.l3 k3 a1 a2 a3 t155 x10_3 t164 0) = some r := H
                    have A27 := Aside0.mk A270
                    clear A270
                    have H' := Aside0.mk H
                    clear H
                    obtain ⟨Ao28, co28, eo28⟩ := Kd.R_slice HO_9.out
                    subst eo28
                    go_wp2_with (first | ((with_reducible refine gate_callee (f := 23) rfl ?_); refine goesL_ (some 87) rfl rfl Try.func23 (by kernel_rfl) rfl #[.slice A0 l0.length c0, .int .i64 a2, .int .i64 a3] rfl (by (try simp only [List.map_toArray, List.map_cons, List.map_nil]); first | done | rfl | (simp only [List.length_drop, List.length_take]; rfl)) ?_; (with_reducible refine (net_Cut.calls _ _ l0 a2 a3 t164 _ ?side1 ?side2 A27.out).mono ?_); (case side1 => repeat (first | exact (Kd.C_below HR0.out HB.out) | (with_reducible refine Kd.C_alloc ?_ _) | (with_reducible refine Kd.C_drewN ?_ _) | (with_reducible refine Kd.C_drew ?_))); (case side2 => exact HC0.out); rintro e w29 ⟨v165, rfl, ho0, hb⟩; refine ⟨_, rfl, ?_⟩; have n0_ := Aside0.mk (Kd.R_elder' (by (with_reducible repeat (first | apply Kd.R_alloc | apply Kd.R_drewN | apply Kd.R_drew)); exact HO_9.out) (Kd.R_base ho0) hb); have n1_ := Aside0.mk (Kd.R_lower ho0 (below_size (by repeat (first | (with_reducible first | exact HB.out | apply below_alloc | apply pw_below_drewN | apply below_drew1) | exact HB.out)))); have n2_ := Aside0.mk (below_step (by repeat (first | (with_reducible first | exact HB.out | apply below_alloc | apply pw_below_drewN | apply below_drew1) | exact HB.out)) hb); clear HO_9; clear HB; have HO_9 := n0_; have HO166 := n1_; have HB := n2_; clear n0_ n1_ n2_; (try clear hb); (try clear hb2); (try clear hk); (try clear hi); (try clear ho0)))
                    go_loopg [15] k3 (fun kq v15 w' => ∃ (x15_4 : Int), v15 = .int .i64 x15_4 ∧ Aside0 (sextonlaw25_NetSplit.l3 kq a1 a2 a3 t155 x10_3 t164 x15_4 = some r) ∧ Aside0 (kq ≤ k3) ∧ Aside0 (Kd.R (Kd.slice 29 k29) 22 w' w.heap.size (fun k_ => some k_ ≠ (v165 : Value).ownBlock) (.slice Ao28 t155.length co28) t155) ∧ Aside0 (Kd.R k29 29 w' w.heap.size (fun _ => True) v165 t164) ∧ Aside0 (Below w.heap.size w w'))
                    case atStart => exact ⟨(0), (by first | rfl | (simp; done) | (simp [*]; done)), H', ⟨Nat.le_refl _⟩, ⟨by (with_reducible repeat (first | apply Kd.R_alloc | apply Kd.R_drewN | apply Kd.R_drew)); exact Kd.R_mono HO_9.out (fun _ hk => hk.2)⟩, ⟨by (with_reducible repeat (first | apply Kd.R_alloc | apply Kd.R_drewN | apply Kd.R_drew)); exact HO166.out⟩, ⟨by repeat (first | (with_reducible first | exact HB.out | apply below_alloc | apply pw_below_drewN | apply below_drew1) | exact HB.out)⟩⟩
                    case round =>
                      clear H'
                      try clear c1
                      try clear p1
                      try clear q1
                      try clear hx1
                      try clear c2
                      try clear p2
                      try clear c5
                      try clear p6
                      try clear c7
                      try clear c9
                      try clear c9b0
                      try clear c12
                      try clear c13
                      try clear c15
                      try clear c15b0
                      try clear p15
                      try clear q15
                      try clear hx15
                      try clear c16
                      try clear c16b0
                      try clear p16
                      try clear q16
                      try clear hx16
                      try clear c17
                      try clear c17b0
                      try clear c18
                      try clear c18b0
                      try clear c19
                      try clear c19b0
                      try clear c20
                      try clear c20b0
                      try clear c21
                      try clear c22
                      try clear c22b0
                      try clear c23
                      try clear c23b0
                      try clear c24
                      try clear c24b0
                      try clear c25
                      try clear c25b0
                      try clear c26
                      try clear c26b0
                      try clear c26b1
                      try clear hx158_0
                      try clear hx158_1
                      try clear hx158_2
                      try clear hx158_3
                      try clear hx158_4
                      try clear hx158_5
                      try clear hx158_6
                      try clear hx158_7
                      try clear hx159_0
                      try clear hx159_1
                      try clear hx159_2
                      try clear hx159_3
                      try clear hx159_4
                      try clear hx159_5
                      try clear hx159_6
                      try clear hx159_7
                      try clear hx160_0
                      try clear hx161_0
                      try clear hx162_0
                      try clear hx163_0
                      try clear hx163_1
                      try clear hx163_2
                      try clear hx163_3
                      try clear hx163_4
                      try clear hx163_5
                      try clear hx163_6
                      try clear hx163_7
                      try clear p1
                      try clear p15
                      try clear p158
                      try clear p159
                      try clear p16
                      try clear p160
                      try clear p161
                      try clear p162
                      try clear p163
                      try clear p2
                      try clear p6
                      try clear q1
                      try clear q15
                      try clear q158
                      try clear q159
                      try clear q16
                      try clear q160
                      try clear q161
                      try clear q162
                      try clear q163
                      obtain ⟨x15_4, rfl, HA, HK4, HO_9, HO_14, HB⟩ := hrel
                      cases gk with
                      | zero => exact absurd HA.out (by simp [sextonlaw25_NetSplit.l3])
                      | succ k4 =>
                        have H := HA.out
                        clear HA
                        simp only [sextonlaw25_NetSplit.l3] at H
                        by_cases c30 : x15_4 < (t164.length : Int)
                        · rw [if_pos c30] at H
                          have c30b0 : decide (x15_4 < (t164.length : Int)) = true := decide_eq_true c30
                          clear c30
                          by_cases c31 : 0 ≤ x15_4
                          · rw [if_pos c31] at H
                            have c31b0 : decide (0 ≤ x15_4) = true := decide_eq_true c31
                            clear c31
                            by_cases c32 : ((rd_T29 t164 x15_4).f1) = a2
                            · rw [if_pos c32] at H
                              have c32b0 : (((rd_T29 t164 x15_4).f1) == a2) = true := beq_iff_eq.mpr c32
                              have c32b1 : (((rd_T29 t164 x15_4).f1) != a2) = false := bne_eq_false_iff_eq.mpr c32
                              clear c32
                              by_cases c33 : ((rd_T29 t164 x15_4).f2) = a3
                              · rw [if_pos c33] at H
                                have c33b0 : (((rd_T29 t164 x15_4).f2) == a3) = true := beq_iff_eq.mpr c33
                                have c33b1 : (((rd_T29 t164 x15_4).f2) != a3) = false := bne_eq_false_iff_eq.mpr c33
                                clear c33
                                obtain rfl := Option.some.inj H
                                exact absurd hrt (by decide)
                              · rw [if_neg c33] at H
                                have c33b0 : (((rd_T29 t164 x15_4).f2) == a3) = false := beq_eq_false_iff_ne.mpr c33
                                have c33b1 : (((rd_T29 t164 x15_4).f2) != a3) = true := bne_iff_ne.mpr c33
                                by_cases c35 : ((rd_T29 t164 x15_4).f1) = a3
                                · rw [if_pos c35] at H
                                  have c35b0 : (((rd_T29 t164 x15_4).f1) == a3) = true := beq_iff_eq.mpr c35
                                  have c35b1 : (((rd_T29 t164 x15_4).f1) != a3) = false := bne_eq_false_iff_eq.mpr c35
                                  clear c35
                                  by_cases c36 : ((rd_T29 t164 x15_4).f2) = a2
                                  · rw [if_pos c36] at H
                                    have c36b0 : (((rd_T29 t164 x15_4).f2) == a2) = true := beq_iff_eq.mpr c36
                                    have c36b1 : (((rd_T29 t164 x15_4).f2) != a2) = false := bne_eq_false_iff_eq.mpr c36
                                    clear c36
                                    obtain rfl := Option.some.inj H
                                    exact absurd hrt (by decide)
                                  · rw [if_neg c36] at H
                                    have c36b0 : (((rd_T29 t164 x15_4).f2) == a2) = false := beq_eq_false_iff_ne.mpr c36
                                    have c36b1 : (((rd_T29 t164 x15_4).f2) != a2) = true := bne_iff_ne.mpr c36
                                    have H' := Aside0.mk H
                                    clear H
                                    obtain ⟨Ao38, co38, eo38⟩ := Kd.R_slice HO_14.out
                                    subst eo38
                                    have p167 : 0 ≤ (x15_4 : Int) := of_decide_eq_true (by first | (with_reducible assumption) | assumption)
                                    have q167 : x15_4 < (t164.length : Int) := of_decide_eq_true (by first | (with_reducible assumption) | assumption)
                                    obtain ⟨ad167, A167_7, c167_7, e167, hx167_0, hx167_1, hx167_2, hx167_3, hx167_4, hx167_5, hx167_6, hx167_7, hl167_7, hi167_7⟩ := at_T29 (Kd.R_reads' HO_14.out).2.2 x15_4 p167 q167
                                    cases e167
                                    obtain ⟨ce167, hce167, hMe167, hcc167⟩ := Kd.R_getA HO_14.out z29 x15_4 p167 (by first | exact q167 | exact of_decide_eq_true (by first | (with_reducible assumption) | assumption) | (have e_ := (Kd.R_reads' HO_14.out).1; omega))
                                    obtain ⟨ve167_7, rfl, ge167_7⟩ := k29_openM hMe167
                                    have hv167_7 := hcc167 7 _ rfl
                                    rw [add_field _ _ 7 (by omega)] at hv167_7
                                    replace hv167_7 := Option.some.inj (hv167_7.symm.trans hx167_7)
                                    rw [hv167_7] at ge167_7
                                    have HL167_7 := Aside0.mk (show Kd.R Kd.string 9 _ _ _ _ ((rd_T29 t164 x15_4).f7) from ge167_7)
                                    clear hv167_7 ge167_7
                                    clear hcc167 hce167
                                    have HR167_7 := Aside0.mk hi167_7
                                    have HC167_7 := Aside0.mk hl167_7
                                    clear hi167_7 hl167_7
                                    replace p167 := eq_true p167
                                    replace q167 := eq_true q167
                                    have p168 : 0 ≤ (x15_4 : Int) := of_decide_eq_true (by first | (with_reducible assumption) | assumption)
                                    have q168 : x15_4 < (t164.length : Int) := of_decide_eq_true (by first | (with_reducible assumption) | assumption)
                                    obtain ⟨ad168, A168_7, c168_7, e168, hx168_0, hx168_1, hx168_2, hx168_3, hx168_4, hx168_5, hx168_6, hx168_7, hl168_7, hi168_7⟩ := at_T29 (Kd.R_reads' HO_14.out).2.2 x15_4 p168 q168
                                    obtain rfl : ad167 = ad168 := (by injection e168)
                                    obtain ⟨ce168, hce168, hMe168, hcc168⟩ := Kd.R_getA HO_14.out z29 x15_4 p168 (by first | exact q168 | exact of_decide_eq_true (by first | (with_reducible assumption) | assumption) | (have e_ := (Kd.R_reads' HO_14.out).1; omega))
                                    obtain ⟨ve168_7, rfl, ge168_7⟩ := k29_openM hMe168
                                    have hv168_7 := hcc168 7 _ rfl
                                    rw [add_field _ _ 7 (by omega)] at hv168_7
                                    replace hv168_7 := Option.some.inj (hv168_7.symm.trans hx168_7)
                                    rw [hv168_7] at ge168_7
                                    have HL168_7 := Aside0.mk (show Kd.R Kd.string 9 _ _ _ _ ((rd_T29 t164 x15_4).f7) from ge168_7)
                                    clear hv168_7 ge168_7
                                    clear hcc168 hce168
                                    have HR168_7 := Aside0.mk hi168_7
                                    have HC168_7 := Aside0.mk hl168_7
                                    clear hi168_7 hl168_7
                                    replace p168 := eq_true p168
                                    replace q168 := eq_true q168
                                    have ea_ := Option.some.inj (hx167_7.symm.trans hx168_7)
                                    injection ea_ with ea_ en_ ec_
                                    subst ea_
                                    subst ec_
                                    clear en_
                                    have p169 : 0 ≤ (x15_4 : Int) := of_decide_eq_true (by first | (with_reducible assumption) | assumption)
                                    have q169 : x15_4 < (t164.length : Int) := of_decide_eq_true (by first | (with_reducible assumption) | assumption)
                                    obtain ⟨ad169, A169_7, c169_7, e169, hx169_0, hx169_1, hx169_2, hx169_3, hx169_4, hx169_5, hx169_6, hx169_7, hl169_7, hi169_7⟩ := at_T29 (Kd.R_reads' HO_14.out).2.2 x15_4 p169 q169
                                    obtain rfl : ad167 = ad169 := (by injection e169)
                                    obtain ⟨ce169, hce169, hMe169, hcc169⟩ := Kd.R_getA HO_14.out z29 x15_4 p169 (by first | exact q169 | exact of_decide_eq_true (by first | (with_reducible assumption) | assumption) | (have e_ := (Kd.R_reads' HO_14.out).1; omega))
                                    obtain ⟨ve169_7, rfl, ge169_7⟩ := k29_openM hMe169
                                    have hv169_7 := hcc169 7 _ rfl
                                    rw [add_field _ _ 7 (by omega)] at hv169_7
                                    replace hv169_7 := Option.some.inj (hv169_7.symm.trans hx169_7)
                                    rw [hv169_7] at ge169_7
                                    have HL169_7 := Aside0.mk (show Kd.R Kd.string 9 _ _ _ _ ((rd_T29 t164 x15_4).f7) from ge169_7)
                                    clear hv169_7 ge169_7
                                    clear hcc169 hce169
                                    have HR169_7 := Aside0.mk hi169_7
                                    have HC169_7 := Aside0.mk hl169_7
                                    clear hi169_7 hl169_7
                                    replace p169 := eq_true p169
                                    replace q169 := eq_true q169
                                    have ea_ := Option.some.inj (hx167_7.symm.trans hx169_7)
                                    injection ea_ with ea_ en_ ec_
                                    subst ea_
                                    subst ec_
                                    clear en_
                                    have p170 : 0 ≤ (x15_4 : Int) := of_decide_eq_true (by first | (with_reducible assumption) | assumption)
                                    have q170 : x15_4 < (t164.length : Int) := of_decide_eq_true (by first | (with_reducible assumption) | assumption)
                                    obtain ⟨ad170, A170_7, c170_7, e170, hx170_0, hx170_1, hx170_2, hx170_3, hx170_4, hx170_5, hx170_6, hx170_7, hl170_7, hi170_7⟩ := at_T29 (Kd.R_reads' HO_14.out).2.2 x15_4 p170 q170
                                    obtain rfl : ad167 = ad170 := (by injection e170)
                                    obtain ⟨ce170, hce170, hMe170, hcc170⟩ := Kd.R_getA HO_14.out z29 x15_4 p170 (by first | exact q170 | exact of_decide_eq_true (by first | (with_reducible assumption) | assumption) | (have e_ := (Kd.R_reads' HO_14.out).1; omega))
                                    obtain ⟨ve170_7, rfl, ge170_7⟩ := k29_openM hMe170
                                    have hv170_7 := hcc170 7 _ rfl
                                    rw [add_field _ _ 7 (by omega)] at hv170_7
                                    replace hv170_7 := Option.some.inj (hv170_7.symm.trans hx170_7)
                                    rw [hv170_7] at ge170_7
                                    have HL170_7 := Aside0.mk (show Kd.R Kd.string 9 _ _ _ _ ((rd_T29 t164 x15_4).f7) from ge170_7)
                                    clear hv170_7 ge170_7
                                    clear hcc170 hce170
                                    have HR170_7 := Aside0.mk hi170_7
                                    have HC170_7 := Aside0.mk hl170_7
                                    clear hi170_7 hl170_7
                                    replace p170 := eq_true p170
                                    replace q170 := eq_true q170
                                    have ea_ := Option.some.inj (hx167_7.symm.trans hx170_7)
                                    injection ea_ with ea_ en_ ec_
                                    subst ea_
                                    subst ec_
                                    clear en_
                                    go_wp2
                                    go_roundg k4
                                    case measure => have := HJ4.out; have := HK2.out; have := HK3.out; have := HK4.out; omega
                                    case rel => exact ⟨(wrap64 (x15_4 + 1)), (by first | rfl | (simp; done) | (simp [*]; done)), H', ⟨by have := HJ4.out; have := HK2.out; have := HK3.out; have := HK4.out; omega⟩, ⟨by (with_reducible repeat (first | apply Kd.R_alloc | apply Kd.R_drewN | apply Kd.R_drew)); exact HO_9.out⟩, ⟨by (with_reducible repeat (first | apply Kd.R_alloc | apply Kd.R_drewN | apply Kd.R_drew)); exact HO_14.out⟩, ⟨by repeat (first | (with_reducible first | exact HB.out | apply below_alloc | apply pw_below_drewN | apply below_drew1) | exact HB.out)⟩⟩
                                · rw [if_neg c35] at H
                                  have c35b0 : (((rd_T29 t164 x15_4).f1) == a3) = false := beq_eq_false_iff_ne.mpr c35
                                  have c35b1 : (((rd_T29 t164 x15_4).f1) != a3) = true := bne_iff_ne.mpr c35
                                  have H' := Aside0.mk H
                                  clear H
                                  obtain ⟨Ao39, co39, eo39⟩ := Kd.R_slice HO_14.out
                                  subst eo39
                                  have p167 : 0 ≤ (x15_4 : Int) := of_decide_eq_true (by first | (with_reducible assumption) | assumption)
                                  have q167 : x15_4 < (t164.length : Int) := of_decide_eq_true (by first | (with_reducible assumption) | assumption)
                                  obtain ⟨ad167, A167_7, c167_7, e167, hx167_0, hx167_1, hx167_2, hx167_3, hx167_4, hx167_5, hx167_6, hx167_7, hl167_7, hi167_7⟩ := at_T29 (Kd.R_reads' HO_14.out).2.2 x15_4 p167 q167
                                  cases e167
                                  obtain ⟨ce167, hce167, hMe167, hcc167⟩ := Kd.R_getA HO_14.out z29 x15_4 p167 (by first | exact q167 | exact of_decide_eq_true (by first | (with_reducible assumption) | assumption) | (have e_ := (Kd.R_reads' HO_14.out).1; omega))
                                  obtain ⟨ve167_7, rfl, ge167_7⟩ := k29_openM hMe167
                                  have hv167_7 := hcc167 7 _ rfl
                                  rw [add_field _ _ 7 (by omega)] at hv167_7
                                  replace hv167_7 := Option.some.inj (hv167_7.symm.trans hx167_7)
                                  rw [hv167_7] at ge167_7
                                  have HL167_7 := Aside0.mk (show Kd.R Kd.string 9 _ _ _ _ ((rd_T29 t164 x15_4).f7) from ge167_7)
                                  clear hv167_7 ge167_7
                                  clear hcc167 hce167
                                  have HR167_7 := Aside0.mk hi167_7
                                  have HC167_7 := Aside0.mk hl167_7
                                  clear hi167_7 hl167_7
                                  replace p167 := eq_true p167
                                  replace q167 := eq_true q167
                                  have p168 : 0 ≤ (x15_4 : Int) := of_decide_eq_true (by first | (with_reducible assumption) | assumption)
                                  have q168 : x15_4 < (t164.length : Int) := of_decide_eq_true (by first | (with_reducible assumption) | assumption)
                                  obtain ⟨ad168, A168_7, c168_7, e168, hx168_0, hx168_1, hx168_2, hx168_3, hx168_4, hx168_5, hx168_6, hx168_7, hl168_7, hi168_7⟩ := at_T29 (Kd.R_reads' HO_14.out).2.2 x15_4 p168 q168
                                  obtain rfl : ad167 = ad168 := (by injection e168)
                                  obtain ⟨ce168, hce168, hMe168, hcc168⟩ := Kd.R_getA HO_14.out z29 x15_4 p168 (by first | exact q168 | exact of_decide_eq_true (by first | (with_reducible assumption) | assumption) | (have e_ := (Kd.R_reads' HO_14.out).1; omega))
                                  obtain ⟨ve168_7, rfl, ge168_7⟩ := k29_openM hMe168
                                  have hv168_7 := hcc168 7 _ rfl
                                  rw [add_field _ _ 7 (by omega)] at hv168_7
                                  replace hv168_7 := Option.some.inj (hv168_7.symm.trans hx168_7)
                                  rw [hv168_7] at ge168_7
                                  have HL168_7 := Aside0.mk (show Kd.R Kd.string 9 _ _ _ _ ((rd_T29 t164 x15_4).f7) from ge168_7)
                                  clear hv168_7 ge168_7
                                  clear hcc168 hce168
                                  have HR168_7 := Aside0.mk hi168_7
                                  have HC168_7 := Aside0.mk hl168_7
                                  clear hi168_7 hl168_7
                                  replace p168 := eq_true p168
                                  replace q168 := eq_true q168
                                  have ea_ := Option.some.inj (hx167_7.symm.trans hx168_7)
                                  injection ea_ with ea_ en_ ec_
                                  subst ea_
                                  subst ec_
                                  clear en_
                                  have p169 : 0 ≤ (x15_4 : Int) := of_decide_eq_true (by first | (with_reducible assumption) | assumption)
                                  have q169 : x15_4 < (t164.length : Int) := of_decide_eq_true (by first | (with_reducible assumption) | assumption)
                                  obtain ⟨ad169, A169_7, c169_7, e169, hx169_0, hx169_1, hx169_2, hx169_3, hx169_4, hx169_5, hx169_6, hx169_7, hl169_7, hi169_7⟩ := at_T29 (Kd.R_reads' HO_14.out).2.2 x15_4 p169 q169
                                  obtain rfl : ad167 = ad169 := (by injection e169)
                                  obtain ⟨ce169, hce169, hMe169, hcc169⟩ := Kd.R_getA HO_14.out z29 x15_4 p169 (by first | exact q169 | exact of_decide_eq_true (by first | (with_reducible assumption) | assumption) | (have e_ := (Kd.R_reads' HO_14.out).1; omega))
                                  obtain ⟨ve169_7, rfl, ge169_7⟩ := k29_openM hMe169
                                  have hv169_7 := hcc169 7 _ rfl
                                  rw [add_field _ _ 7 (by omega)] at hv169_7
                                  replace hv169_7 := Option.some.inj (hv169_7.symm.trans hx169_7)
                                  rw [hv169_7] at ge169_7
                                  have HL169_7 := Aside0.mk (show Kd.R Kd.string 9 _ _ _ _ ((rd_T29 t164 x15_4).f7) from ge169_7)
                                  clear hv169_7 ge169_7
                                  clear hcc169 hce169
                                  have HR169_7 := Aside0.mk hi169_7
                                  have HC169_7 := Aside0.mk hl169_7
                                  clear hi169_7 hl169_7
                                  replace p169 := eq_true p169
                                  replace q169 := eq_true q169
                                  have ea_ := Option.some.inj (hx167_7.symm.trans hx169_7)
                                  injection ea_ with ea_ en_ ec_
                                  subst ea_
                                  subst ec_
                                  clear en_
                                  go_wp2
                                  go_roundg k4
                                  case measure => have := HJ4.out; have := HK2.out; have := HK3.out; have := HK4.out; omega
                                  case rel => exact ⟨(wrap64 (x15_4 + 1)), (by first | rfl | (simp; done) | (simp [*]; done)), H', ⟨by have := HJ4.out; have := HK2.out; have := HK3.out; have := HK4.out; omega⟩, ⟨by (with_reducible repeat (first | apply Kd.R_alloc | apply Kd.R_drewN | apply Kd.R_drew)); exact HO_9.out⟩, ⟨by (with_reducible repeat (first | apply Kd.R_alloc | apply Kd.R_drewN | apply Kd.R_drew)); exact HO_14.out⟩, ⟨by repeat (first | (with_reducible first | exact HB.out | apply below_alloc | apply pw_below_drewN | apply below_drew1) | exact HB.out)⟩⟩
                            · rw [if_neg c32] at H
                              have c32b0 : (((rd_T29 t164 x15_4).f1) == a2) = false := beq_eq_false_iff_ne.mpr c32
                              have c32b1 : (((rd_T29 t164 x15_4).f1) != a2) = true := bne_iff_ne.mpr c32
                              by_cases c40 : ((rd_T29 t164 x15_4).f1) = a3
                              · rw [if_pos c40] at H
                                have c40b0 : (((rd_T29 t164 x15_4).f1) == a3) = true := beq_iff_eq.mpr c40
                                have c40b1 : (((rd_T29 t164 x15_4).f1) != a3) = false := bne_eq_false_iff_eq.mpr c40
                                clear c40
                                by_cases c41 : ((rd_T29 t164 x15_4).f2) = a2
                                · rw [if_pos c41] at H
                                  have c41b0 : (((rd_T29 t164 x15_4).f2) == a2) = true := beq_iff_eq.mpr c41
                                  have c41b1 : (((rd_T29 t164 x15_4).f2) != a2) = false := bne_eq_false_iff_eq.mpr c41
                                  clear c41
                                  obtain rfl := Option.some.inj H
                                  exact absurd hrt (by decide)
                                · rw [if_neg c41] at H
                                  have c41b0 : (((rd_T29 t164 x15_4).f2) == a2) = false := beq_eq_false_iff_ne.mpr c41
                                  have c41b1 : (((rd_T29 t164 x15_4).f2) != a2) = true := bne_iff_ne.mpr c41
                                  have H' := Aside0.mk H
                                  clear H
                                  obtain ⟨Ao43, co43, eo43⟩ := Kd.R_slice HO_14.out
                                  subst eo43
                                  have p167 : 0 ≤ (x15_4 : Int) := of_decide_eq_true (by first | (with_reducible assumption) | assumption)
                                  have q167 : x15_4 < (t164.length : Int) := of_decide_eq_true (by first | (with_reducible assumption) | assumption)
                                  obtain ⟨ad167, A167_7, c167_7, e167, hx167_0, hx167_1, hx167_2, hx167_3, hx167_4, hx167_5, hx167_6, hx167_7, hl167_7, hi167_7⟩ := at_T29 (Kd.R_reads' HO_14.out).2.2 x15_4 p167 q167
                                  cases e167
                                  obtain ⟨ce167, hce167, hMe167, hcc167⟩ := Kd.R_getA HO_14.out z29 x15_4 p167 (by first | exact q167 | exact of_decide_eq_true (by first | (with_reducible assumption) | assumption) | (have e_ := (Kd.R_reads' HO_14.out).1; omega))
                                  obtain ⟨ve167_7, rfl, ge167_7⟩ := k29_openM hMe167
                                  have hv167_7 := hcc167 7 _ rfl
                                  rw [add_field _ _ 7 (by omega)] at hv167_7
                                  replace hv167_7 := Option.some.inj (hv167_7.symm.trans hx167_7)
                                  rw [hv167_7] at ge167_7
                                  have HL167_7 := Aside0.mk (show Kd.R Kd.string 9 _ _ _ _ ((rd_T29 t164 x15_4).f7) from ge167_7)
                                  clear hv167_7 ge167_7
                                  clear hcc167 hce167
                                  have HR167_7 := Aside0.mk hi167_7
                                  have HC167_7 := Aside0.mk hl167_7
                                  clear hi167_7 hl167_7
                                  replace p167 := eq_true p167
                                  replace q167 := eq_true q167
                                  have p171 : 0 ≤ (x15_4 : Int) := of_decide_eq_true (by first | (with_reducible assumption) | assumption)
                                  have q171 : x15_4 < (t164.length : Int) := of_decide_eq_true (by first | (with_reducible assumption) | assumption)
                                  obtain ⟨ad171, A171_7, c171_7, e171, hx171_0, hx171_1, hx171_2, hx171_3, hx171_4, hx171_5, hx171_6, hx171_7, hl171_7, hi171_7⟩ := at_T29 (Kd.R_reads' HO_14.out).2.2 x15_4 p171 q171
                                  obtain rfl : ad167 = ad171 := (by injection e171)
                                  obtain ⟨ce171, hce171, hMe171, hcc171⟩ := Kd.R_getA HO_14.out z29 x15_4 p171 (by first | exact q171 | exact of_decide_eq_true (by first | (with_reducible assumption) | assumption) | (have e_ := (Kd.R_reads' HO_14.out).1; omega))
                                  obtain ⟨ve171_7, rfl, ge171_7⟩ := k29_openM hMe171
                                  have hv171_7 := hcc171 7 _ rfl
                                  rw [add_field _ _ 7 (by omega)] at hv171_7
                                  replace hv171_7 := Option.some.inj (hv171_7.symm.trans hx171_7)
                                  rw [hv171_7] at ge171_7
                                  have HL171_7 := Aside0.mk (show Kd.R Kd.string 9 _ _ _ _ ((rd_T29 t164 x15_4).f7) from ge171_7)
                                  clear hv171_7 ge171_7
                                  clear hcc171 hce171
                                  have HR171_7 := Aside0.mk hi171_7
                                  have HC171_7 := Aside0.mk hl171_7
                                  clear hi171_7 hl171_7
                                  replace p171 := eq_true p171
                                  replace q171 := eq_true q171
                                  have ea_ := Option.some.inj (hx167_7.symm.trans hx171_7)
                                  injection ea_ with ea_ en_ ec_
                                  subst ea_
                                  subst ec_
                                  clear en_
                                  have p172 : 0 ≤ (x15_4 : Int) := of_decide_eq_true (by first | (with_reducible assumption) | assumption)
                                  have q172 : x15_4 < (t164.length : Int) := of_decide_eq_true (by first | (with_reducible assumption) | assumption)
                                  obtain ⟨ad172, A172_7, c172_7, e172, hx172_0, hx172_1, hx172_2, hx172_3, hx172_4, hx172_5, hx172_6, hx172_7, hl172_7, hi172_7⟩ := at_T29 (Kd.R_reads' HO_14.out).2.2 x15_4 p172 q172
                                  obtain rfl : ad167 = ad172 := (by injection e172)
                                  obtain ⟨ce172, hce172, hMe172, hcc172⟩ := Kd.R_getA HO_14.out z29 x15_4 p172 (by first | exact q172 | exact of_decide_eq_true (by first | (with_reducible assumption) | assumption) | (have e_ := (Kd.R_reads' HO_14.out).1; omega))
                                  obtain ⟨ve172_7, rfl, ge172_7⟩ := k29_openM hMe172
                                  have hv172_7 := hcc172 7 _ rfl
                                  rw [add_field _ _ 7 (by omega)] at hv172_7
                                  replace hv172_7 := Option.some.inj (hv172_7.symm.trans hx172_7)
                                  rw [hv172_7] at ge172_7
                                  have HL172_7 := Aside0.mk (show Kd.R Kd.string 9 _ _ _ _ ((rd_T29 t164 x15_4).f7) from ge172_7)
                                  clear hv172_7 ge172_7
                                  clear hcc172 hce172
                                  have HR172_7 := Aside0.mk hi172_7
                                  have HC172_7 := Aside0.mk hl172_7
                                  clear hi172_7 hl172_7
                                  replace p172 := eq_true p172
                                  replace q172 := eq_true q172
                                  have ea_ := Option.some.inj (hx167_7.symm.trans hx172_7)
                                  injection ea_ with ea_ en_ ec_
                                  subst ea_
                                  subst ec_
                                  clear en_
                                  go_wp2
                                  go_roundg k4
                                  case measure => have := HJ4.out; have := HK2.out; have := HK3.out; have := HK4.out; omega
                                  case rel => exact ⟨(wrap64 (x15_4 + 1)), (by first | rfl | (simp; done) | (simp [*]; done)), H', ⟨by have := HJ4.out; have := HK2.out; have := HK3.out; have := HK4.out; omega⟩, ⟨by (with_reducible repeat (first | apply Kd.R_alloc | apply Kd.R_drewN | apply Kd.R_drew)); exact HO_9.out⟩, ⟨by (with_reducible repeat (first | apply Kd.R_alloc | apply Kd.R_drewN | apply Kd.R_drew)); exact HO_14.out⟩, ⟨by repeat (first | (with_reducible first | exact HB.out | apply below_alloc | apply pw_below_drewN | apply below_drew1) | exact HB.out)⟩⟩
                              · rw [if_neg c40] at H
                                have c40b0 : (((rd_T29 t164 x15_4).f1) == a3) = false := beq_eq_false_iff_ne.mpr c40
                                have c40b1 : (((rd_T29 t164 x15_4).f1) != a3) = true := bne_iff_ne.mpr c40
                                have H' := Aside0.mk H
                                clear H
                                obtain ⟨Ao44, co44, eo44⟩ := Kd.R_slice HO_14.out
                                subst eo44
                                have p167 : 0 ≤ (x15_4 : Int) := of_decide_eq_true (by first | (with_reducible assumption) | assumption)
                                have q167 : x15_4 < (t164.length : Int) := of_decide_eq_true (by first | (with_reducible assumption) | assumption)
                                obtain ⟨ad167, A167_7, c167_7, e167, hx167_0, hx167_1, hx167_2, hx167_3, hx167_4, hx167_5, hx167_6, hx167_7, hl167_7, hi167_7⟩ := at_T29 (Kd.R_reads' HO_14.out).2.2 x15_4 p167 q167
                                cases e167
                                obtain ⟨ce167, hce167, hMe167, hcc167⟩ := Kd.R_getA HO_14.out z29 x15_4 p167 (by first | exact q167 | exact of_decide_eq_true (by first | (with_reducible assumption) | assumption) | (have e_ := (Kd.R_reads' HO_14.out).1; omega))
                                obtain ⟨ve167_7, rfl, ge167_7⟩ := k29_openM hMe167
                                have hv167_7 := hcc167 7 _ rfl
                                rw [add_field _ _ 7 (by omega)] at hv167_7
                                replace hv167_7 := Option.some.inj (hv167_7.symm.trans hx167_7)
                                rw [hv167_7] at ge167_7
                                have HL167_7 := Aside0.mk (show Kd.R Kd.string 9 _ _ _ _ ((rd_T29 t164 x15_4).f7) from ge167_7)
                                clear hv167_7 ge167_7
                                clear hcc167 hce167
                                have HR167_7 := Aside0.mk hi167_7
                                have HC167_7 := Aside0.mk hl167_7
                                clear hi167_7 hl167_7
                                replace p167 := eq_true p167
                                replace q167 := eq_true q167
                                have p171 : 0 ≤ (x15_4 : Int) := of_decide_eq_true (by first | (with_reducible assumption) | assumption)
                                have q171 : x15_4 < (t164.length : Int) := of_decide_eq_true (by first | (with_reducible assumption) | assumption)
                                obtain ⟨ad171, A171_7, c171_7, e171, hx171_0, hx171_1, hx171_2, hx171_3, hx171_4, hx171_5, hx171_6, hx171_7, hl171_7, hi171_7⟩ := at_T29 (Kd.R_reads' HO_14.out).2.2 x15_4 p171 q171
                                obtain rfl : ad167 = ad171 := (by injection e171)
                                obtain ⟨ce171, hce171, hMe171, hcc171⟩ := Kd.R_getA HO_14.out z29 x15_4 p171 (by first | exact q171 | exact of_decide_eq_true (by first | (with_reducible assumption) | assumption) | (have e_ := (Kd.R_reads' HO_14.out).1; omega))
                                obtain ⟨ve171_7, rfl, ge171_7⟩ := k29_openM hMe171
                                have hv171_7 := hcc171 7 _ rfl
                                rw [add_field _ _ 7 (by omega)] at hv171_7
                                replace hv171_7 := Option.some.inj (hv171_7.symm.trans hx171_7)
                                rw [hv171_7] at ge171_7
                                have HL171_7 := Aside0.mk (show Kd.R Kd.string 9 _ _ _ _ ((rd_T29 t164 x15_4).f7) from ge171_7)
                                clear hv171_7 ge171_7
                                clear hcc171 hce171
                                have HR171_7 := Aside0.mk hi171_7
                                have HC171_7 := Aside0.mk hl171_7
                                clear hi171_7 hl171_7
                                replace p171 := eq_true p171
                                replace q171 := eq_true q171
                                have ea_ := Option.some.inj (hx167_7.symm.trans hx171_7)
                                injection ea_ with ea_ en_ ec_
                                subst ea_
                                subst ec_
                                clear en_
                                go_wp2
                                go_roundg k4
                                case measure => have := HJ4.out; have := HK2.out; have := HK3.out; have := HK4.out; omega
                                case rel => exact ⟨(wrap64 (x15_4 + 1)), (by first | rfl | (simp; done) | (simp [*]; done)), H', ⟨by have := HJ4.out; have := HK2.out; have := HK3.out; have := HK4.out; omega⟩, ⟨by (with_reducible repeat (first | apply Kd.R_alloc | apply Kd.R_drewN | apply Kd.R_drew)); exact HO_9.out⟩, ⟨by (with_reducible repeat (first | apply Kd.R_alloc | apply Kd.R_drewN | apply Kd.R_drew)); exact HO_14.out⟩, ⟨by repeat (first | (with_reducible first | exact HB.out | apply below_alloc | apply pw_below_drewN | apply below_drew1) | exact HB.out)⟩⟩
                          · rw [if_neg c31] at H
                            exact absurd H (by simp)
                        · rw [if_neg c30] at H
                          have c30b0 : decide (x15_4 < (t164.length : Int)) = false := decide_eq_false c30
                          clear c30
                          replace H := Option.bind_eq_some_iff.mp H
                          obtain ⟨t173, A450, H⟩ := H
                          replace H : (if t173 = true then (if (t155.length : Int) = a1 then (if x10_3 = 0 then ((net_Cut.f t164 a3 a2).bind fun t174 => ((sextonref23_SameRow.f k4 t174 t164).bind fun t177 => (some t177))) else (some false)) else (some false)) else (some false)) = some r := H
                          have A45 := Aside0.mk A450
                          clear A450
                          by_cases c46 : t173 = true
                          · subst c46
                            have H1 : (if (t155.length : Int) = a1 then (if x10_3 = 0 then ((net_Cut.f t164 a3 a2).bind fun t174 => ((sextonref23_SameRow.f k4 t174 t164).bind fun t177 => (some t177))) else (some false)) else (some false)) = some r := by rw [if_pos rfl] at H; exact H
                            clear H
                            have H := H1
                            clear H1
                            by_cases c47 : (t155.length : Int) = a1
                            · rw [if_pos c47] at H
                              have c47b0 : ((t155.length : Int) == a1) = true := beq_iff_eq.mpr c47
                              have c47b1 : ((t155.length : Int) != a1) = false := bne_eq_false_iff_eq.mpr c47
                              clear c47
                              by_cases c48 : x10_3 = 0
                              · rw [if_pos c48] at H
                                have c48b0 : (x10_3 == 0) = true := beq_iff_eq.mpr c48
                                have c48b1 : (x10_3 != 0) = false := bne_eq_false_iff_eq.mpr c48
                                clear c48
                                replace H := Option.bind_eq_some_iff.mp H
                                obtain ⟨t174, A490, H⟩ := H
                                replace H : ((sextonref23_SameRow.f k4 t174 t164).bind fun t177 => (some t177)) = some r := H
                                have A49 := Aside0.mk A490
                                clear A490
                                replace H := Option.bind_eq_some_iff.mp H
                                obtain ⟨t177, A500, H⟩ := H
                                replace H : (some t177) = some r := H
                                have A50 := Aside0.mk A500
                                clear A500
                                obtain rfl := Option.some.inj H
                                obtain ⟨Ao51, co51, eo51⟩ := Kd.R_slice HO_14.out
                                subst eo51
                                go_wp2_with (first | ((with_reducible refine gate_callee (f := 29) rfl ?_); refine goesL_ (some 128) rfl rfl Try.func29 (by kernel_rfl) rfl #[] rfl (by (try simp only [List.map_toArray, List.map_cons, List.map_nil]); first | done | rfl | (simp only [List.length_drop, List.length_take]; rfl)) ?_; (with_reducible refine (sextonlaw25_carried.calls  true _ A45.out).mono ?_); rintro e w52 ⟨rfl, hb⟩; refine ⟨_, rfl, ?_⟩; have n0_ := Aside0.mk (Kd.R_below (by (with_reducible repeat (first | apply Kd.R_alloc | apply Kd.R_drewN | apply Kd.R_drew)); exact HO_9.out) hb); have n1_ := Aside0.mk (Kd.R_below (by (with_reducible repeat (first | apply Kd.R_alloc | apply Kd.R_drewN | apply Kd.R_drew)); exact HO_14.out) hb); have n2_ := Aside0.mk (below_step (by repeat (first | (with_reducible first | exact HB.out | apply below_alloc | apply pw_below_drewN | apply below_drew1) | exact HB.out)) hb); clear HO_9; clear HO_14; clear HB; have HO_9 := n0_; have HO_14 := n1_; have HB := n2_; clear n0_ n1_ n2_; (try clear hb); (try clear hb2); (try clear hk); (try clear hi)) | (go_at_call 23; (with_reducible refine (net_Cut.calls _ _ t164 a3 a2 t174 _ ?side1 ?side2 A49.out).mono ?_); (case side1 => repeat (first | exact (Kd.R_reads' HO_14.out).2.2 | (with_reducible refine Kd.C_alloc ?_ _) | (with_reducible refine Kd.C_drewN ?_ _) | (with_reducible refine Kd.C_drew ?_))); (case side2 => exact (Kd.R_reads' HO_14.out).2.1); rintro e w53 ⟨v175, rfl, ho0, hb⟩; have n0_ := Aside0.mk (Kd.R_elder' (by (with_reducible repeat (first | apply Kd.R_alloc | apply Kd.R_drewN | apply Kd.R_drew)); exact HO_9.out) (Kd.R_base ho0) hb); have n1_ := Aside0.mk (Kd.R_elder' (by (with_reducible repeat (first | apply Kd.R_alloc | apply Kd.R_drewN | apply Kd.R_drew)); exact HO_14.out) (Kd.R_base ho0) hb); have n2_ := Aside0.mk (Kd.R_lower (Kd.R_new' ho0 (Kd.R_lt (by (with_reducible repeat (first | apply Kd.R_alloc | apply Kd.R_drewN | apply Kd.R_drew)); exact HO_14.out))) (below_size (by repeat (first | (with_reducible first | exact HB.out | apply below_alloc | apply pw_below_drewN | apply below_drew1) | exact HB.out)))); have n3_ := Aside0.mk (below_step (by repeat (first | (with_reducible first | exact HB.out | apply below_alloc | apply pw_below_drewN | apply below_drew1) | exact HB.out)) hb); clear HO_9; clear HO_14; clear HB; have HO_9 := n0_; have HO_14 := n1_; have HO176 := n2_; have HB := n3_; clear n0_ n1_ n2_ n3_; (try clear hb); (try clear hb2); (try clear hk); (try clear hi); (try clear ho0); obtain ⟨Ao54, co54, eo54⟩ := Kd.R_slice HO176.out; subst eo54) | (go_at_call 25; (with_reducible refine (sextonref23_SameRow.calls k4 _ _ t174 _ _ t164 t177 _ ?side1 ?side2 ?side3 ?side4 A50.out).mono ?_); (case side1 => repeat (first | exact (Kd.R_reads' HO176.out).2.2 | (with_reducible refine Kd.C_alloc ?_ _) | (with_reducible refine Kd.C_drewN ?_ _) | (with_reducible refine Kd.C_drew ?_))); (case side2 => exact (Kd.R_reads' HO176.out).2.1); (case side3 => repeat (first | exact (Kd.R_reads' HO_14.out).2.2 | (with_reducible refine Kd.C_alloc ?_ _) | (with_reducible refine Kd.C_drewN ?_ _) | (with_reducible refine Kd.C_drew ?_))); (case side4 => exact (Kd.R_reads' HO_14.out).2.1); rintro e w55 ⟨rfl, hb⟩; have n0_ := Aside0.mk (Kd.R_below (by (with_reducible repeat (first | apply Kd.R_alloc | apply Kd.R_drewN | apply Kd.R_drew)); exact HO_9.out) hb); have n1_ := Aside0.mk (Kd.R_below (by (with_reducible repeat (first | apply Kd.R_alloc | apply Kd.R_drewN | apply Kd.R_drew)); exact HO_14.out) hb); have n2_ := Aside0.mk (Kd.R_below (by (with_reducible repeat (first | apply Kd.R_alloc | apply Kd.R_drewN | apply Kd.R_drew)); exact HO176.out) hb); have n3_ := Aside0.mk (below_step (by repeat (first | (with_reducible first | exact HB.out | apply below_alloc | apply pw_below_drewN | apply below_drew1) | exact HB.out)) hb); clear HO_9; clear HO_14; clear HO176; clear HB; have HO_9 := n0_; have HO_14 := n1_; have HO176 := n2_; have HB := n3_; clear n0_ n1_ n2_ n3_; (try clear hb); (try clear hb2); (try clear hk); (try clear hi)))
                                go_ret
                                exact ⟨by first | rfl | (simp [errW_none, errW_some] <;> rfl) | (simp [*, errW_none, errW_some] <;> rfl), by repeat (first | (with_reducible first | exact HB.out | apply below_alloc | apply pw_below_drewN | apply below_drew1) | exact HB.out)⟩
                              · rw [if_neg c48] at H
                                exact absurd (H.trans (congrArg some HRT.out)) (by decide)
                            · rw [if_neg c47] at H
                              exact absurd (H.trans (congrArg some HRT.out)) (by decide)
                          · replace c46 := Bool.eq_false_iff.mpr c46
                            subst c46
                            have H1 : (some false) = some r := by rw [if_neg (show ¬ (false = true) by decide)] at H; exact H
                            exact absurd (H1.trans (congrArg some HRT.out)) (by decide)

end Go.Proofs.Ytfejidinfcmfjaa.P
/-
  The plain statement of NetSplit: what is split is all that goes to a node; what is cut goes neither way.
-/
namespace Go.Proofs.Ytfejidinfcmfjaa.Pure
open Go.RowKit Go.Proofs Go.Proofs.CodecPlain Go.Proofs.YtfejidinfcmfjaaW.PrintWords Go.Proofs.YtfejidinfcmfjaaW.PrintLast Go.Proofs.Ytfejidinfcmfjaa.P

theorem cut_f (a : List S29) (h : a.length ≤ 1000) (ha : ∀ x ∈ a, x.f7.length ≤ 80) (p q : Int) : net_Cut.f a p q = some (a.filter (fun x => !cutP p q x)) := by
  unfold net_Cut.f
  rw [if_pos ⟨by omega, fun x h => Nat.le_trans (ha x h) (by omega)⟩]
/-- What goes to node i. -/
def toM (a : List S29) (i : Nat) : List S29 := a.filter (fun x => x.f2 == (i : Int))
theorem split_f (a : List S29) (h : a.length ≤ 1000) (ha : ∀ x ∈ a, x.f7.length ≤ 80) (n : Nat) (h1 : 1 ≤ n) (h7 : n ≤ 7) : net_Split.f a (n : Int) = some ((List.range n).map (toM a)) := by
  unfold net_Split.f splitM
  rw [if_pos ⟨by omega, fun x h => Nat.le_trans (ha x h) (by omega)⟩, if_neg (by omega), Int.toNat_natCast]
  rfl
theorem rd_to (a : List S29) (n i : Nat) (h : i < n) : rd_L4 ((List.range n).map (toM a)) (i : Int) = toM a i := by
  simp [rd_L4, List.getD_eq_getElem?_getD, h]
/-- Does it go to one of n nodes? -/
def inN (n : Nat) (x : S29) : Bool := decide (0 ≤ x.f2) && decide (x.f2 < (n : Int))
/-- How many go to the m nodes from i on. -/
def restM (a : List S29) : Nat → Nat → Nat
  | 0, _ => 0
  | m + 1, i => (toM a i).length + restM a m (i + 1)
theorem restM_nil : ∀ m i, restM [] m i = 0
  | 0, _ => rfl
  | m + 1, i => by show 0 + restM [] m (i + 1) = 0; rw [restM_nil m (i + 1)]
theorem restM_cons (x : S29) (r : List S29) : ∀ m i : Nat, restM (x :: r) m i = restM r m i + (if (i : Int) ≤ x.f2 ∧ x.f2 < ((i + m : Nat) : Int) then 1 else 0)
  | 0, i => by
    show 0 = 0 + _
    rw [if_neg (by omega)]
  | m + 1, i => by
    show (toM (x :: r) i).length + restM (x :: r) m (i + 1) = (toM r i).length + restM r m (i + 1) + _
    rw [restM_cons x r m (i + 1)]
    unfold toM
    rw [List.filter_cons]
    by_cases h : x.f2 = (i : Int)
    · have e1 : (if (i : Int) ≤ x.f2 ∧ x.f2 < ((i + (m + 1) : Nat) : Int) then 1 else 0) = 1 := if_pos ⟨by omega, by omega⟩
      have e2 : (if ((i + 1 : Nat) : Int) ≤ x.f2 ∧ x.f2 < ((i + 1 + m : Nat) : Int) then 1 else 0) = 0 := if_neg (by omega)
      rw [e1, e2, if_pos (by rw [h]; simp), List.length_cons]
      omega
    · rw [if_neg (by simpa using h)]
      by_cases h2 : ((i + 1 : Nat) : Int) ≤ x.f2 ∧ x.f2 < ((i + 1 + m : Nat) : Int)
      · have e1 : (if (i : Int) ≤ x.f2 ∧ x.f2 < ((i + (m + 1) : Nat) : Int) then 1 else 0) = 1 := if_pos ⟨by omega, by omega⟩
        rw [if_pos h2, e1]; omega
      · have e1 : (if (i : Int) ≤ x.f2 ∧ x.f2 < ((i + (m + 1) : Nat) : Int) then 1 else 0) = 0 := if_neg (by omega)
        rw [if_neg h2, e1]; omega
theorem restM_all (n : Nat) : ∀ a : List S29, restM a n 0 = (a.filter (inN n)).length
  | [] => by rw [restM_nil]; rfl
  | x :: r => by
    rw [restM_cons, restM_all n r, List.filter_cons]
    by_cases h : ((0 : Nat) : Int) ≤ x.f2 ∧ x.f2 < ((0 + n : Nat) : Int)
    · rw [if_pos h, if_pos (by unfold inN; simp; omega), List.length_cons]
    · rw [if_neg h, if_neg (by unfold inN; simp; omega)]; omega
theorem split_l3 (a : List S29) (hl : a.length ≤ 260) (hx : ∀ x ∈ a, x.f7.length ≤ 80) (n : Nat) (p q : Int) (c : List S29) (hc : c = a.filter (fun x => !cutP p q x)) (d : Nat) : ∀ k : Nat, k + d = c.length → Ev (fun r => sextonlaw25_NetSplit.l3 r (n : Int) p q ((List.range n).map (toM a)) 0 c (k : Int)) true := by
  have hcl : c.length ≤ 260 := by rw [hc]; exact Nat.le_trans (List.length_filter_le _ _) hl
  have hcx : ∀ x ∈ c, x.f7.length ≤ 80 := fun x h => by rw [hc] at h; exact hx x (List.mem_filter.1 h).1
  have hcc : ∀ x ∈ c, cutP p q x = false := fun x h => by rw [hc] at h; simpa using (List.mem_filter.1 h).2
  induction d with
  | zero =>
    intro k hk
    have hsame : c.filter (fun x => !cutP q p x) = c := List.filter_eq_self.2 (fun x h => by
      have := hcc x h
      unfold cutP at this ⊢
      rw [Bool.or_comm, this]; rfl)
    refine Ev.step (f := fun r => (sextonref23_SameRow.f r c c).bind fun t => some t) (fun r => ?_) (Ev.bind (row_yes c (by omega) (fun x h => Nat.le_trans (hcx x h) (by omega))) (Ev.now _))
    simp only [sextonlaw25_NetSplit.l3, sextonlaw25_carried.f]
    rw [if_neg (by omega), Option.bind_some, if_pos rfl, if_pos (by simp), if_pos trivial, cut_f c (by omega) hcx, Option.bind_some, hsame]
  | succ d ih =>
    intro k hk
    have hlt : k < c.length := by omega
    have hcut := hcc _ (List.getElem_mem hlt)
    unfold cutP at hcut
    refine Ev.step (fun r => ?_) (ih (k + 1) (by omega))
    simp only [sextonlaw25_NetSplit.l3]
    rw [if_pos (by omega), if_pos (by omega), rd_msg c k hlt, wrap_id (by omega) (by omega)]
    show _ = sextonlaw25_NetSplit.l3 r (n : Int) p q ((List.range n).map (toM a)) 0 c ((k : Int) + 1)
    simp only [Bool.or_eq_false_iff, Bool.and_eq_false_iff, beq_eq_false_iff_ne] at hcut
    split
    · split
      · omega
      · split
        · split
          · omega
          · rfl
        · rfl
    · split
      · split
        · omega
        · rfl
      · rfl
section
variable (a : List S29) (hl : a.length ≤ 260) (hx : ∀ x ∈ a, x.f7.length ≤ 80) (n : Nat) (h1 : 1 ≤ n) (h7 : n ≤ 7) (p q : Int)
include hl hx h1 h7
theorem split_l1 (m : Nat) : ∀ i : Nat, i + m = n → Ev (fun r => sextonlaw25_NetSplit.l1 r a (n : Int) p q ((List.range n).map (toM a)) (restM a m i : Nat) (i : Int)) true := by
  have hlen : ((List.range n).map (toM a)).length = n := by simp
  have hrest : ∀ m i, restM a m i ≤ 260 * m := by
    intro m
    induction m with
    | zero => intro i; exact Nat.le_refl _
    | succ m ih =>
      intro i
      have h2 := ih (i + 1)
      have h3 : (toM a i).length ≤ a.length := List.length_filter_le _ _
      show (toM a i).length + restM a m (i + 1) ≤ _
      omega
  induction m with
  | zero =>
    intro i hi
    refine Ev.step (f := fun r => sextonlaw25_NetSplit.l3 r (n : Int) p q ((List.range n).map (toM a)) 0 (a.filter (fun x => !cutP p q x)) ((0 : Nat) : Int)) (fun r => ?_) (split_l3 a hl hx n p q _ rfl _ 0 (Nat.zero_add _))
    simp only [sextonlaw25_NetSplit.l1]
    rw [if_neg (by omega), cut_f a (by omega) hx, Option.bind_some]
    rfl
  | succ m ih =>
    intro i hi
    have hin : i < n := by omega
    have htl : (toM a i).length ≤ 260 := Nat.le_trans (List.length_filter_le _ _) hl
    have hr1 := hrest (m + 1) i
    have hr : (restM a (m + 1) i : Int) - ((toM a i).length : Int) = (restM a m (i + 1) : Int) := by
      show (((toM a i).length + restM a m (i + 1) : Nat) : Int) - _ = _
      omega
    have inner : ∀ d k : Nat, k + d = (toM a i).length → Ev (fun r => sextonlaw25_NetSplit.l2 r a (n : Int) p q ((List.range n).map (toM a)) (restM a m (i + 1) : Nat) (i : Int) (k : Int)) true := by
      intro d
      induction d with
      | zero =>
        intro k hk
        refine Ev.step (fun r => ?_) (ih (i + 1) (by omega))
        simp only [sextonlaw25_NetSplit.l2]
        rw [if_pos (by omega), if_pos (by omega), rd_to a n i hin, if_neg (by omega), wrap_id (by omega) (by omega)]
        rfl
      | succ d ihd =>
        intro k hk
        have hkl : k < (toM a i).length := by omega
        have hf : (toM a i)[k].f2 = (i : Int) := by
          have hm : (toM a i)[k] ∈ a.filter (fun x => x.f2 == (i : Int)) := List.getElem_mem hkl
          exact beq_iff_eq.1 (List.mem_filter.1 hm).2
        refine Ev.step (fun r => ?_) (ihd (k + 1) (by omega))
        simp only [sextonlaw25_NetSplit.l2]
        rw [if_pos (by omega), if_pos (by omega), rd_to a n i hin, if_pos (by omega), if_pos (by omega), rd_msg (toM a i) k hkl, if_pos hf, wrap_id (by omega) (by omega)]
        rfl
    refine Ev.step (f := fun r => sextonlaw25_NetSplit.l2 r a (n : Int) p q ((List.range n).map (toM a)) (restM a m (i + 1) : Nat) (i : Int) ((0 : Nat) : Int)) (fun r => ?_) (inner _ 0 (Nat.zero_add _))
    simp only [sextonlaw25_NetSplit.l1]
    rw [if_pos (by omega), if_pos (by omega), rd_to a n i hin, hr, wrap_id (by have := hrest m (i + 1); omega) (by have := hrest m (i + 1); omega)]
    rfl
theorem split_l0 (d : Nat) : ∀ k : Nat, k + d = a.length → Ev (fun r => sextonlaw25_NetSplit.l0 r a (n : Int) p q ((List.range n).map (toM a)) (((a.take k).filter (inN n)).length : Nat) (k : Int)) true := by
  induction d with
  | zero =>
    intro k hk
    refine Ev.step (f := fun r => sextonlaw25_NetSplit.l1 r a (n : Int) p q ((List.range n).map (toM a)) (restM a n 0 : Nat) ((0 : Nat) : Int)) (fun r => ?_) (split_l1 a hl hx n h1 h7 p q n 0 (by omega))
    simp only [sextonlaw25_NetSplit.l0]
    rw [if_neg (by omega), List.take_of_length_le (by omega), restM_all]
    rfl
  | succ d ih =>
    intro k hk
    have hlt : k < a.length := by omega
    have hcnt : ((a.take (k + 1)).filter (inN n)).length = ((a.take k).filter (inN n)).length + (if inN n a[k] = true then 1 else 0) := by
      rw [List.take_succ_eq_append_getElem hlt, List.filter_append, List.length_append]
      congr 1
      by_cases h : inN n a[k] = true
      · rw [if_pos h]; simp [h]
      · rw [if_neg h]; simp [h]
    have hle : ((a.take k).filter (inN n)).length ≤ 260 := Nat.le_trans (List.length_filter_le _ _) (by rw [List.length_take]; omega)
    refine Ev.step (fun r => ?_) (ih (k + 1) (by omega))
    simp only [sextonlaw25_NetSplit.l0]
    rw [if_pos (by omega), if_pos (by omega), rd_msg a k hlt, show wrap64 ((k : Int) + 1) = ((k + 1 : Nat) : Int) from wrap_id (by omega) (by omega), show wrap64 ((((a.take k).filter (inN n)).length : Int) + 1) = ((((a.take k).filter (inN n)).length + 1 : Nat) : Int) from wrap_id (by omega) (by omega), hcnt]
    by_cases g1 : a[k].f2 ≥ 0
    · by_cases g2 : a[k].f2 < (n : Int)
      · rw [if_pos g1, if_pos g2, if_pos (by unfold inN; simp; omega)]
      · rw [if_pos g1, if_neg g2, if_neg (by unfold inN; simp; omega)]; rfl
    · rw [if_neg g1, if_neg (by unfold inN; simp; omega)]; rfl
end
theorem NetSplit (l0 : (List S29)) (a1 : Int) (a2 : Int) (a3 : Int) {ok0 : Prop} (h0 : ok0) {ok1 : Prop} (h1 : ok1) {ok2 : Prop} (h2 : ok2) {ok3 : Prop} (h3 : ok3) :
    ∃ k, sextonlaw25_NetSplit.f k l0 a1 a2 a3 = some true := by
  obtain ⟨b, hb, hs⟩ := big25 l0
  have yes : Ev (fun k => sextonlaw25_NetSplit.j0 k l0 a1 a2 a3 true) true := Ev.step (f := fun _ => some true) (fun k => by simp only [sextonlaw25_NetSplit.j0]; rw [if_pos trivial]) (Ev.now _)
  have key : Ev (fun k => sextonlaw25_NetSplit.f k l0 a1 a2 a3) true := by
    refine Ev.bind hb ?_
    cases b
    rotate_left
    · exact Ev.congr (fun k => by rw [if_pos rfl]) yes
    obtain ⟨hl, hx⟩ := hs rfl
    by_cases g2 : a1 < 1
    · exact Ev.congr (fun k => by rw [if_neg (by decide), if_pos g2]) yes
    by_cases g3 : a1 > 7
    · exact Ev.congr (fun k => by rw [if_neg (by decide), if_neg g2, decide_eq_true g3]) yes
    refine Ev.congr (f := fun k => sextonlaw25_NetSplit.j0 k l0 a1 a2 a3 false) (fun k => by rw [if_neg (by decide), if_neg g2, decide_eq_false g3]) ?_
    obtain ⟨n, rfl⟩ : ∃ n : Nat, a1 = (n : Int) := ⟨a1.toNat, by omega⟩
    refine Ev.step (f := fun r => sextonlaw25_NetSplit.l0 r l0 (n : Int) a2 a3 ((List.range n).map (toM l0)) (((l0.take 0).filter (inN n)).length : Nat) ((0 : Nat) : Int)) (fun k => ?_) (split_l0 l0 hl hx n (by omega) (by omega) a2 a3 l0.length 0 (by omega))
    simp only [sextonlaw25_NetSplit.j0]
    rw [if_neg (by decide), split_f l0 (by omega) hx n (by omega) (by omega), Option.bind_some]
    rfl
  obtain ⟨K, e⟩ := key
  exact ⟨K, e K (Nat.le_refl _)⟩
end Go.Proofs.Ytfejidinfcmfjaa.Pure
