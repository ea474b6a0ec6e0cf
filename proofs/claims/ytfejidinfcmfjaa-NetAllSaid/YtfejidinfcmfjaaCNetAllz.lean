/-
  The walk and the plain statement of NetAll, joined.
-/
import Derived.Test.YtfejidinfcmfjaaPx0
import Derived.Test.YtfejidinfcmfjaaCn5ba
import Derived.Test.YtfejidinfcmfjaaCn5bd
import Derived.Test.YtfejidinfcmfjaaCn5be
import Derived.Test.YtfejidinfcmfjaaCn5bf
set_option linter.unusedVariables false
set_option linter.unusedSimpArgs false
/-
  The walk of NetAll, by the print; the ways that would answer false are closed.
-/
namespace Go.Proofs.Ytfejidinfcmfjaa.P
open Go.RowKit Go.Proofs.YtfejidinfcmfjaaW.PrintWords Go.Proofs.YtfejidinfcmfjaaW.PrintLast Go.Proofs.YtfejidinfcmfjaaW.PrintMore
attribute [local go_sem] max2_int min2_int max_two min_two max_three min_three max_four min_four   -- for this text's walks alone
set_option linter.unusedVariables false
set_option linter.unusedSimpArgs false

/-! ### sextonlaw25_NetAll: function 4 -/
mutual
def sextonlaw25_NetAll.j0 : Nat → List (S29) → Bool → Option (Bool)
  | 0, _, _ => none
  | k + 1, x0, x18 => if x18 = true then (some true) else ((net_Put.f ([] : List (S29)) x0).bind fun bt117 => (sextonlaw25_NetAll.l0 k x0 bt117.1 bt117.2 (wrap64 ((x0.length : Int) - 1))))
def sextonlaw25_NetAll.l0 : Nat → List (S29) → List (S29) → Int → Int → Option (Bool)
  | 0, _, _, _, _ => none
  | k + 1, x0, x3, x4, x5 => if x5 ≥ 0 then ((net_Take.f x3 x5).bind fun bt137 => (if bt137.2.2.2.2.2.2.2.2.2 = true then (if 0 ≤ x5 then (if x5 < (x0.length : Int) then ((sextonref23_Same.f k bt137.1 bt137.2.1 bt137.2.2.1 bt137.2.2.2.1 bt137.2.2.2.2.1 bt137.2.2.2.2.2.1 bt137.2.2.2.2.2.2.1 bt137.2.2.2.2.2.2.2.1 ((rd_T29 x0 x5).f0) ((rd_T29 x0 x5).f1) ((rd_T29 x0 x5).f2) ((rd_T29 x0 x5).f3) ((rd_T29 x0 x5).f4) ((rd_T29 x0 x5).f5) ((rd_T29 x0 x5).f6) ((rd_T29 x0 x5).f7)).bind fun t153 => (if t153 = true then (if (bt137.2.2.2.2.2.2.2.2.1.length : Int) = x5 then (sextonlaw25_NetAll.l0 k x0 bt137.2.2.2.2.2.2.2.2.1 x4 (wrap64 (x5 - 1))) else (some false)) else (some false))) else (none)) else (none)) else (some false))) else ((net_Take.f x3 0).bind fun bt121 => ((sextonlaw25_carried.f).bind fun t136 => (if t136 = true then (if x4 = 0 then (some (!bt121.2.2.2.2.2.2.2.2.2)) else (some false)) else (some false))))
end
def sextonlaw25_NetAll.f (k : Nat) (l0 : List (S29)) : Option (Bool) := (sextonref25_Big.f k l0).bind fun t116 => (if t116 = true then (sextonlaw25_NetAll.j0 k l0 true) else (sextonlaw25_NetAll.j0 k l0 (decide ((l0.length : Int) > 150))))
def sextonlaw25_NetAll.T8 : Bool × List (List Nat × List Nat) := (true, [([], []), ([0], [0]), ([1], [1]), ([2], [2]), ([2], [2]), ([2], [2]), ([4, 5, 2], [2, 4, 5]), ([6, 2], [2, 6]), ([3, 7, 2, 2], [2, 3, 7]), ([8, 2], [2, 8]), ([2, 9], [2, 9]), ([10, 8], [10]), ([11], [11]), ([12, 11], [11, 12]), ([11], [11]), ([13, 14, 11], [11, 13, 14]), ([11, 15], [11, 15])])
def sextonlaw25_NetAll.B8 : List Nat := [0, 1, 3, 7, 7, 7, 55, 119, 255, 511, 1023, 2047, 4095, 8191, 4095, 32767, 65535]
theorem sextonlaw25_NetAll.tab8 : rtab .any (opsOf Try.f4 8) = sextonlaw25_NetAll.T8 := by kernel_rfl
theorem sextonlaw25_NetAll.bits8 : waitsOk sextonlaw25_NetAll.T8.2 sextonlaw25_NetAll.B8 = true := by kernel_rfl
set_option maxHeartbeats 8000000 in
set_option maxRecDepth 100000 in
theorem sextonlaw25_NetAll.calls (k : Nat) (A0 : Option Addr) (c0 : Nat) (l0 : List (S29)) (r : Bool) (hrt : r = true := by rfl) (w : World) (hr0 : Kd.C k29 w A0 l0.length l0) (hc0 : l0.length ≤ c0) (h : sextonlaw25_NetAll.f k l0 = some r) :
    Calls Try.prog 4 #[.slice A0 l0.length c0] w fun e w' => e = .returned (.bool r) ∧ Below w.heap.size w w' := by
  have HRT := Aside0.mk hrt
  have hu29 := Try.underlying29
  have HR0 := Aside0.mk hr0
  have HC0 := Aside0.mk hc0
  clear hr0 hc0
  have HB := Aside0.mk (Below.refl w.heap.size w)
  have H : ((sextonref25_Big.f k l0).bind fun t116 => (if t116 = true then (sextonlaw25_NetAll.j0 k l0 true) else (sextonlaw25_NetAll.j0 k l0 (decide ((l0.length : Int) > 150))))) = some r := h
  clear h
  have HC2 := Aside0.mk H
  clear H
  go_enter Try.func4, Try.ntmps4
  go_upto_region 1 with (fail)
  go_cut [18] (fun v18 wc => ∃ (kq : Nat) (x18_1 : Bool), v18 = .bool x18_1 ∧ Aside0 (sextonlaw25_NetAll.j0 kq l0 x18_1 = some r) ∧ Aside0 (kq ≤ k) ∧ Aside0 (Below w.heap.size w wc))
  case first =>
    have H := HC2.out
    clear HC2
    replace H := Option.bind_eq_some_iff.mp H
    obtain ⟨t116, A30, H⟩ := H
    replace H : (if t116 = true then (sextonlaw25_NetAll.j0 k l0 true) else (sextonlaw25_NetAll.j0 k l0 (decide ((l0.length : Int) > 150)))) = some r := H
    have A3 := Aside0.mk A30
    clear A30
    by_cases c4 : t116 = true
    · subst c4
      have H1 : (sextonlaw25_NetAll.j0 k l0 true) = some r := by rw [if_pos rfl] at H; exact H
      clear H
      have H := H1
      clear H1
      have H' := Aside0.mk H
      clear H
      go_wp2_with (first | ((with_reducible refine gate_callee (f := 13) rfl ?_); refine goesL_ (some 13) rfl rfl Try.func13 (by kernel_rfl) rfl #[.slice A0 l0.length c0] rfl (by (try simp only [List.map_toArray, List.map_cons, List.map_nil]); first | done | rfl | (simp only [List.length_drop, List.length_take]; rfl)) ?_; (with_reducible refine (sextonref25_Big.calls k _ _ l0 true _ ?side1 ?side2 A3.out).mono ?_); (case side1 => repeat (first | exact (Kd.C_below HR0.out HB.out) | (with_reducible refine Kd.C_alloc ?_ _) | (with_reducible refine Kd.C_drewN ?_ _) | (with_reducible refine Kd.C_drew ?_))); (case side2 => exact HC0.out); rintro e w5 ⟨rfl, hb⟩; refine ⟨_, rfl, ?_⟩; have n0_ := Aside0.mk (below_step (by repeat (first | (with_reducible first | exact HB.out | apply below_alloc | apply pw_below_drewN | apply below_drew1) | exact HB.out)) hb); clear HB; have HB := n0_; clear n0_; (try clear hb); (try clear hb2); (try clear hk); (try clear hi)))
      go_meet
      case rel => exact ⟨_, (true), (by first | rfl | (simp; done) | (simp [*]; done)), H', ⟨by first | omega | exact Nat.le_refl _⟩, ⟨by repeat (first | (with_reducible first | exact HB.out | apply below_alloc | apply pw_below_drewN | apply below_drew1) | exact HB.out)⟩⟩
    · replace c4 := Bool.eq_false_iff.mpr c4
      subst c4
      have H1 : (sextonlaw25_NetAll.j0 k l0 (decide ((l0.length : Int) > 150))) = some r := by rw [if_neg (show ¬ (false = true) by decide)] at H; exact H
      clear H
      have H := H1
      clear H1
      have H' := Aside0.mk H
      clear H
      go_wp2_with (first | ((with_reducible refine gate_callee (f := 13) rfl ?_); refine goesL_ (some 13) rfl rfl Try.func13 (by kernel_rfl) rfl #[.slice A0 l0.length c0] rfl (by (try simp only [List.map_toArray, List.map_cons, List.map_nil]); first | done | rfl | (simp only [List.length_drop, List.length_take]; rfl)) ?_; (with_reducible refine (sextonref25_Big.calls k _ _ l0 false _ ?side1 ?side2 A3.out).mono ?_); (case side1 => repeat (first | exact (Kd.C_below HR0.out HB.out) | (with_reducible refine Kd.C_alloc ?_ _) | (with_reducible refine Kd.C_drewN ?_ _) | (with_reducible refine Kd.C_drew ?_))); (case side2 => exact HC0.out); rintro e w6 ⟨rfl, hb⟩; refine ⟨_, rfl, ?_⟩; have n0_ := Aside0.mk (below_step (by repeat (first | (with_reducible first | exact HB.out | apply below_alloc | apply pw_below_drewN | apply below_drew1) | exact HB.out)) hb); clear HB; have HB := n0_; clear n0_; (try clear hb); (try clear hb2); (try clear hk); (try clear hi)))
      go_meet
      case rel => exact ⟨_, (decide ((l0.length : Int) > 150)), (by first | rfl | (simp; done) | (simp [*]; done)), H', ⟨by first | omega | exact Nat.le_refl _⟩, ⟨by repeat (first | (with_reducible first | exact HB.out | apply below_alloc | apply pw_below_drewN | apply below_drew1) | exact HB.out)⟩⟩
  case rest =>
    clear HC2
    try clear c1
    try clear p2
    try clear c4
    obtain ⟨kq, x18_1, rfl, HA, HJ1, HB⟩ := hcut
    cases kq with
    | zero => exact absurd HA.out (by simp [sextonlaw25_NetAll.j0])
    | succ kj1 =>
      have H := HA.out
      clear HA
      simp only [sextonlaw25_NetAll.j0] at H
      by_cases c7 : x18_1 = true
      · subst c7
        have H1 : (some true) = some r := by rw [if_pos rfl] at H; exact H
        clear H
        have H := H1
        clear H1
        obtain rfl := Option.some.inj H
        go_wp2
        go_ret
        exact ⟨by first | rfl | (simp [errW_none, errW_some] <;> rfl) | (simp [*, errW_none, errW_some] <;> rfl), by repeat (first | (with_reducible first | exact HB.out | apply below_alloc | apply pw_below_drewN | apply below_drew1) | exact HB.out)⟩
      · replace c7 := Bool.eq_false_iff.mpr c7
        subst c7
        have H1 : ((net_Put.f ([] : List (S29)) l0).bind fun bt117 => (sextonlaw25_NetAll.l0 kj1 l0 bt117.1 bt117.2 (wrap64 ((l0.length : Int) - 1)))) = some r := by rw [if_neg (show ¬ (false = true) by decide)] at H; exact H
        clear H
        have H := H1
        clear H1
        replace H := Option.bind_eq_some_iff.mp H
        obtain ⟨⟨t117, t118⟩, A80, H⟩ := H
        replace H : (sextonlaw25_NetAll.l0 kj1 l0 t117 t118 (wrap64 ((l0.length : Int) - 1))) = some r := H
        have A8 := Aside0.mk A80
        clear A80
        have H' := Aside0.mk H
        clear H
        go_wp2_with (first | ((with_reducible refine gate_callee (f := 15) rfl ?_); refine goesL_ (some 21) rfl rfl Try.func15 (by kernel_rfl) rfl #[.slice none 0 0, .slice A0 l0.length c0] rfl (by (try simp only [List.map_toArray, List.map_cons, List.map_nil]); first | done | rfl | (simp only [List.length_drop, List.length_take]; rfl)) ?_; (refine (net_Put.calls _ _ ([] : List (S29)) _ _ l0 t117 t118 _ ?side1 ?side2 ?side3 ?side4 A8.out).mono ?_); (case side1 => exact Kd.C_nil _ _); (case side2 => exact Nat.le_refl _); (case side3 => repeat (first | exact (Kd.C_below HR0.out HB.out) | (with_reducible refine Kd.C_alloc ?_ _) | (with_reducible refine Kd.C_drewN ?_ _) | (with_reducible refine Kd.C_drew ?_))); (case side4 => exact HC0.out); rintro e w9 ⟨v119, rfl, ho0, hb⟩; refine ⟨_, rfl, ?_⟩; have n0_ := Aside0.mk (Kd.R_lower ho0 (below_size (by repeat (first | (with_reducible first | exact HB.out | apply below_alloc | apply pw_below_drewN | apply below_drew1) | exact HB.out)))); have n1_ := Aside0.mk (below_step (by repeat (first | (with_reducible first | exact HB.out | apply below_alloc | apply pw_below_drewN | apply below_drew1) | exact HB.out)) hb); clear HB; have HO120 := n0_; have HB := n1_; clear n0_ n1_; (try clear hb); (try clear hb2); (try clear hk); (try clear hi); (try clear ho0)))
        go_loopg [3, 5] kj1 (fun kq v3 v5 w' => ∃ (x3_2 : List (S29)) (x5_2 : Int), v5 = .int .i64 x5_2 ∧ Aside0 (sextonlaw25_NetAll.l0 kq l0 x3_2 t118 x5_2 = some r) ∧ Aside0 (kq ≤ kj1) ∧ Aside0 (Kd.R k29 29 w' w.heap.size (fun _ => True) v3 x3_2) ∧ Aside0 (Below w.heap.size w w'))
        case atStart => exact ⟨(t117), (wrap64 ((l0.length : Int) - 1)), (by first | rfl | (simp; done) | (simp [*]; done)), H', ⟨Nat.le_refl _⟩, ⟨by (with_reducible repeat (first | apply Kd.R_alloc | apply Kd.R_drewN | apply Kd.R_drew)); exact HO120.out⟩, ⟨by repeat (first | (with_reducible first | exact HB.out | apply below_alloc | apply pw_below_drewN | apply below_drew1) | exact HB.out)⟩⟩
        case round =>
          clear H'
          try clear c1
          try clear p2
          try clear c4
          try clear p6
          try clear c7
          try clear p2
          obtain ⟨x3_2, x5_2, rfl, HA, HK2, HO_3, HB⟩ := hrel
          cases gk with
          | zero => exact absurd HA.out (by simp [sextonlaw25_NetAll.l0])
          | succ k2 =>
            have H := HA.out
            clear HA
            simp only [sextonlaw25_NetAll.l0] at H
            by_cases c10 : x5_2 ≥ 0
            · rw [if_pos c10] at H
              have c10b0 : decide (0 ≤ x5_2) = true := decide_eq_true c10
              clear c10
              replace H := Option.bind_eq_some_iff.mp H
              obtain ⟨⟨t137, t138, t139, t140, t141, t142, t143, t144, t147, t150⟩, A110, H⟩ := H
              replace H : (if t150 = true then (if 0 ≤ x5_2 then (if x5_2 < (l0.length : Int) then ((sextonref23_Same.f k2 t137 t138 t139 t140 t141 t142 t143 t144 ((rd_T29 l0 x5_2).f0) ((rd_T29 l0 x5_2).f1) ((rd_T29 l0 x5_2).f2) ((rd_T29 l0 x5_2).f3) ((rd_T29 l0 x5_2).f4) ((rd_T29 l0 x5_2).f5) ((rd_T29 l0 x5_2).f6) ((rd_T29 l0 x5_2).f7)).bind fun t153 => (if t153 = true then (if (t147.length : Int) = x5_2 then (sextonlaw25_NetAll.l0 k2 l0 t147 t118 (wrap64 (x5_2 - 1))) else (some false)) else (some false))) else (none)) else (none)) else (some false)) = some r := H
              have A11 := Aside0.mk A110
              clear A110
              by_cases c12 : t150 = true
              · subst c12
                have H1 : (if 0 ≤ x5_2 then (if x5_2 < (l0.length : Int) then ((sextonref23_Same.f k2 t137 t138 t139 t140 t141 t142 t143 t144 ((rd_T29 l0 x5_2).f0) ((rd_T29 l0 x5_2).f1) ((rd_T29 l0 x5_2).f2) ((rd_T29 l0 x5_2).f3) ((rd_T29 l0 x5_2).f4) ((rd_T29 l0 x5_2).f5) ((rd_T29 l0 x5_2).f6) ((rd_T29 l0 x5_2).f7)).bind fun t153 => (if t153 = true then (if (t147.length : Int) = x5_2 then (sextonlaw25_NetAll.l0 k2 l0 t147 t118 (wrap64 (x5_2 - 1))) else (some false)) else (some false))) else (none)) else (none)) = some r := by rw [if_pos rfl] at H; exact H
                clear H
                have H := H1
                clear H1
                by_cases c13 : 0 ≤ x5_2
                · rw [if_pos c13] at H
                  have c13b0 : decide (0 ≤ x5_2) = true := decide_eq_true c13
                  clear c13
                  by_cases c14 : x5_2 < (l0.length : Int)
                  · rw [if_pos c14] at H
                    have c14b0 : decide (x5_2 < (l0.length : Int)) = true := decide_eq_true c14
                    clear c14
                    replace H := Option.bind_eq_some_iff.mp H
                    obtain ⟨t153, A150, H⟩ := H
                    replace H : (if t153 = true then (if (t147.length : Int) = x5_2 then (sextonlaw25_NetAll.l0 k2 l0 t147 t118 (wrap64 (x5_2 - 1))) else (some false)) else (some false)) = some r := H
                    have A15 := Aside0.mk A150
                    clear A150
                    by_cases c16 : t153 = true
                    · subst c16
                      have H1 : (if (t147.length : Int) = x5_2 then (sextonlaw25_NetAll.l0 k2 l0 t147 t118 (wrap64 (x5_2 - 1))) else (some false)) = some r := by rw [if_pos rfl] at H; exact H
                      clear H
                      have H := H1
                      clear H1
                      by_cases c17 : (t147.length : Int) = x5_2
                      · rw [if_pos c17] at H
                        have c17b0 : ((t147.length : Int) == x5_2) = true := beq_iff_eq.mpr c17
                        have c17b1 : ((t147.length : Int) != x5_2) = false := bne_eq_false_iff_eq.mpr c17
                        clear c17
                        have H' := Aside0.mk H
                        clear H
                        obtain ⟨Ao18, co18, eo18⟩ := Kd.R_slice HO_3.out
                        subst eo18
                        try go_wp2_with (first | ((with_reducible refine gate_callee (f := 17) rfl ?_); refine goesL_ (some 34) rfl rfl Try.func17 (by kernel_rfl) rfl #[.slice Ao18 x3_2.length co18, .int .i64 x5_2] rfl (by (try simp only [List.map_toArray, List.map_cons, List.map_nil]); first | done | rfl | (simp only [List.length_drop, List.length_take]; rfl)) ?_; (with_reducible refine (net_Take.calls _ _ x3_2 x5_2 t137 t138 t139 t140 t141 t142 t143 t144 t147 true _ ?side1 ?side2 A11.out).mono ?_); (case side1 => repeat (first | exact (Kd.R_reads' HO_3.out).2.2 | (with_reducible refine Kd.C_alloc ?_ _) | (with_reducible refine Kd.C_drewN ?_ _) | (with_reducible refine Kd.C_drew ?_))); (case side2 => exact (Kd.R_reads' HO_3.out).2.1); rintro e w19 ⟨v145, v148, rfl, ho0, ho1, hb⟩; refine ⟨_, rfl, ?_⟩; have n0_ := Aside0.mk (Kd.R_mono (Kd.R_told (Kd.R_told (Kd.R_old (by (with_reducible repeat (first | apply Kd.R_alloc | apply Kd.R_drewN | apply Kd.R_drew)); exact HO_3.out) hb) (Kd.R_base ho0)) (Kd.R_base ho1)) (fun _ h_ => h_.1)); have n1_ := Aside0.mk (Kd.R_lower ho0 (below_size (by repeat (first | (with_reducible first | exact HB.out | apply below_alloc | apply pw_below_drewN | apply below_drew1) | exact HB.out)))); have n2_ := Aside0.mk (Kd.R_lower (Kd.R_new' ho1 (Kd.R_lt (by (with_reducible repeat (first | apply Kd.R_alloc | apply Kd.R_drewN | apply Kd.R_drew)); exact HO_3.out))) (below_size (by repeat (first | (with_reducible first | exact HB.out | apply below_alloc | apply pw_below_drewN | apply below_drew1) | exact HB.out)))); have n3_ := Aside0.mk (below_step (by repeat (first | (with_reducible first | exact HB.out | apply below_alloc | apply pw_below_drewN | apply below_drew1) | exact HB.out)) hb); clear HO_3; clear HB; have HO_3 := n0_; have HO146 := n1_; have HO149 := n2_; have HB := n3_; clear n0_ n1_ n2_ n3_; (try clear hb); (try clear hb2); (try clear hk); (try clear hi); (try clear ho0); (try clear ho1)) | ((with_reducible refine gate_dst (N := 6) rfl ?_); (try (refine gate_guard (by rfl) ?_; dsimp only)); refine box_event ?hg (N := 6) ?hd (cs := #[.int .i64 0, .int .i64 0, .int .i64 0, .int .i64 0, .int .i64 0, .int .i64 0, .int .i64 0, .slice none 0 0]) (t := 29) ?hr ?_; (case hd => rfl); (case hg => rfl); (case hr => first | (go_simp; done) | (go_simp; rfl)); intro gb151 hg w20 hbox hb; have n0_ := Aside0.mk (Kd.R_below (Kd.R_elderB (by (with_reducible repeat (first | apply Kd.R_alloc | apply Kd.R_drewN | apply Kd.R_drew)); exact HO_3.out) gb151 (Nat.le_of_eq hg.symm)) hb); have n1_ := Aside0.mk (Kd.R_below (by (with_reducible repeat (first | apply Kd.R_alloc | apply Kd.R_drewN | apply Kd.R_drew)); exact HO146.out) hb); have n2_ := Aside0.mk (Kd.R_below (Kd.R_elderB (by (with_reducible repeat (first | apply Kd.R_alloc | apply Kd.R_drewN | apply Kd.R_drew)); exact HO149.out) gb151 (Nat.le_of_eq hg.symm)) hb); have n3_ := Aside0.mk (below_step (by repeat (first | (with_reducible first | exact HB.out | apply below_alloc | apply pw_below_drewN | apply below_drew1) | exact HB.out)) hb); have n4_ := Aside0.mk (hbox); have n5_ := Aside0.mk ((by rw [hg]; exact (below_size (by repeat (first | (with_reducible first | exact HB.out | apply below_alloc | apply pw_below_drewN | apply below_drew1) | exact HB.out))) : w.heap.size ≤ gb151)); have n6_ := Aside0.mk ((by rw [hg]; exact (below_size (by repeat (first | (with_reducible first | exact HB.out | apply below_alloc | apply pw_below_drewN | apply below_drew1) | exact HB.out))) : w.heap.size ≤ gb151)); clear HO_3; clear HO146; clear HO149; clear HB; have HO_3 := n0_; have HO146 := n1_; have HO149 := n2_; have HB := n3_; have BK151 := n4_; have GW151 := n5_; have GE151 := n6_; clear n0_ n1_ n2_ n3_ n4_ n5_ n6_; clear hb hbox hg; have hcz21_0 : w20.cell? ⟨gb151, 0, none⟩ = some (.int .i64 0) := (blk_cell BK151.out 0).trans rfl; have hcz21_1 : w20.cell? ⟨gb151, 1, none⟩ = some (.int .i64 0) := (blk_cell BK151.out 1).trans rfl; have hcz21_2 : w20.cell? ⟨gb151, 2, none⟩ = some (.int .i64 0) := (blk_cell BK151.out 2).trans rfl; have hcz21_3 : w20.cell? ⟨gb151, 3, none⟩ = some (.int .i64 0) := (blk_cell BK151.out 3).trans rfl; have hcz21_4 : w20.cell? ⟨gb151, 4, none⟩ = some (.int .i64 0) := (blk_cell BK151.out 4).trans rfl; have hcz21_5 : w20.cell? ⟨gb151, 5, none⟩ = some (.int .i64 0) := (blk_cell BK151.out 5).trans rfl; have hcz21_6 : w20.cell? ⟨gb151, 6, none⟩ = some (.int .i64 0) := (blk_cell BK151.out 6).trans rfl; have hcz21_7 : w20.cell? ⟨gb151, 7, none⟩ = some (.slice none 0 0) := (blk_cell BK151.out 7).trans rfl; have hfz21_0 := blk_frozen BK151.out 0; have hfz21_1 := blk_frozen BK151.out 1; have hfz21_2 := blk_frozen BK151.out 2; have hfz21_3 := blk_frozen BK151.out 3; have hfz21_4 := blk_frozen BK151.out 4; have hfz21_5 := blk_frozen BK151.out 5; have hfz21_6 := blk_frozen BK151.out 6; have hfz21_7 := blk_frozen BK151.out 7; obtain ⟨Ao22, co22, eo22⟩ := Kd.R_slice HO146.out; subst eo22))
                        have n0_ : Aside0 (Kd.R k29 29 ((((((((w20.setCell ⟨gb151, 0, none⟩ (.int .i64 t137)).setCell ⟨gb151, 1, none⟩ (.int .i64 t138)).setCell ⟨gb151, 2, none⟩ (.int .i64 t139)).setCell ⟨gb151, 3, none⟩ (.int .i64 t140)).setCell ⟨gb151, 4, none⟩ (.int .i64 t141)).setCell ⟨gb151, 5, none⟩ (.int .i64 t142)).setCell ⟨gb151, 6, none⟩ (.int .i64 t143)).setCell ⟨gb151, 7, none⟩ (.slice Ao22 t144.length co22)) w.heap.size (fun k_ => some k_ ≠ (.slice Ao22 t144.length co22 : Value).ownBlock ∧ some k_ ≠ (v148 : Value).ownBlock ∧ k_ ≠ gb151) (.slice Ao18 x3_2.length co18) x3_2) := ⟨by (with_reducible repeat (first | apply Kd.R_alloc | apply Kd.R_drewN | apply Kd.R_drew)); exact Kd.R_mono (Kd.R_far (p := ⟨gb151, 7, none⟩) (Kd.R_far (p := ⟨gb151, 6, none⟩) (Kd.R_far (p := ⟨gb151, 5, none⟩) (Kd.R_far (p := ⟨gb151, 4, none⟩) (Kd.R_far (p := ⟨gb151, 3, none⟩) (Kd.R_far (p := ⟨gb151, 2, none⟩) (Kd.R_far (p := ⟨gb151, 1, none⟩) (Kd.R_far (p := ⟨gb151, 0, none⟩) (Kd.R_mono HO_3.out (fun k_ hk => (⟨hk, hk.2⟩ : _ ∧ k_ ≠ gb151))) (fun _ hk => hk.2) (.int .i64 t137)) (fun _ hk => hk.2) (.int .i64 t138)) (fun _ hk => hk.2) (.int .i64 t139)) (fun _ hk => hk.2) (.int .i64 t140)) (fun _ hk => hk.2) (.int .i64 t141)) (fun _ hk => hk.2) (.int .i64 t142)) (fun _ hk => hk.2) (.int .i64 t143)) (fun _ hk => hk.2) (.slice Ao22 t144.length co22)) (fun _ hk => ⟨hk.1.1.1.2, ⟨hk.1.1.2, hk.1.2⟩⟩)⟩
                        have n1_ : Aside0 (Kd.R Kd.string 9 ((((((((w20.setCell ⟨gb151, 0, none⟩ (.int .i64 t137)).setCell ⟨gb151, 1, none⟩ (.int .i64 t138)).setCell ⟨gb151, 2, none⟩ (.int .i64 t139)).setCell ⟨gb151, 3, none⟩ (.int .i64 t140)).setCell ⟨gb151, 4, none⟩ (.int .i64 t141)).setCell ⟨gb151, 5, none⟩ (.int .i64 t142)).setCell ⟨gb151, 6, none⟩ (.int .i64 t143)).setCell ⟨gb151, 7, none⟩ (.slice Ao22 t144.length co22)) w.heap.size (fun _ => True) (.slice Ao22 t144.length co22) t144) := ⟨by (with_reducible repeat (first | apply Kd.R_alloc | apply Kd.R_drewN | apply Kd.R_drew)); exact Kd.R_mono (Kd.R_far (p := ⟨gb151, 7, none⟩) (Kd.R_far (p := ⟨gb151, 6, none⟩) (Kd.R_far (p := ⟨gb151, 5, none⟩) (Kd.R_far (p := ⟨gb151, 4, none⟩) (Kd.R_far (p := ⟨gb151, 3, none⟩) (Kd.R_far (p := ⟨gb151, 2, none⟩) (Kd.R_far (p := ⟨gb151, 1, none⟩) (Kd.R_far (p := ⟨gb151, 0, none⟩) (Kd.R_types HO146.out BK151.out (by decide)) (fun _ hk => hk.2) (.int .i64 t137)) (fun _ hk => hk.2) (.int .i64 t138)) (fun _ hk => hk.2) (.int .i64 t139)) (fun _ hk => hk.2) (.int .i64 t140)) (fun _ hk => hk.2) (.int .i64 t141)) (fun _ hk => hk.2) (.int .i64 t142)) (fun _ hk => hk.2) (.int .i64 t143)) (fun _ hk => hk.2) (.slice Ao22 t144.length co22)) (fun _ hk => trivial)⟩
                        have n2_ : Aside0 (Kd.R k29 29 ((((((((w20.setCell ⟨gb151, 0, none⟩ (.int .i64 t137)).setCell ⟨gb151, 1, none⟩ (.int .i64 t138)).setCell ⟨gb151, 2, none⟩ (.int .i64 t139)).setCell ⟨gb151, 3, none⟩ (.int .i64 t140)).setCell ⟨gb151, 4, none⟩ (.int .i64 t141)).setCell ⟨gb151, 5, none⟩ (.int .i64 t142)).setCell ⟨gb151, 6, none⟩ (.int .i64 t143)).setCell ⟨gb151, 7, none⟩ (.slice Ao22 t144.length co22)) w.heap.size (fun k_ => some k_ ≠ (.slice Ao18 x3_2.length co18 : Value).ownBlock ∧ some k_ ≠ (.slice Ao22 t144.length co22 : Value).ownBlock ∧ k_ ≠ gb151) v148 t147) := ⟨by (with_reducible repeat (first | apply Kd.R_alloc | apply Kd.R_drewN | apply Kd.R_drew)); exact Kd.R_mono (Kd.R_far (p := ⟨gb151, 7, none⟩) (Kd.R_far (p := ⟨gb151, 6, none⟩) (Kd.R_far (p := ⟨gb151, 5, none⟩) (Kd.R_far (p := ⟨gb151, 4, none⟩) (Kd.R_far (p := ⟨gb151, 3, none⟩) (Kd.R_far (p := ⟨gb151, 2, none⟩) (Kd.R_far (p := ⟨gb151, 1, none⟩) (Kd.R_far (p := ⟨gb151, 0, none⟩) (Kd.R_mono HO149.out (fun k_ hk => (⟨hk, hk.2⟩ : _ ∧ k_ ≠ gb151))) (fun _ hk => hk.2) (.int .i64 t137)) (fun _ hk => hk.2) (.int .i64 t138)) (fun _ hk => hk.2) (.int .i64 t139)) (fun _ hk => hk.2) (.int .i64 t140)) (fun _ hk => hk.2) (.int .i64 t141)) (fun _ hk => hk.2) (.int .i64 t142)) (fun _ hk => hk.2) (.int .i64 t143)) (fun _ hk => hk.2) (.slice Ao22 t144.length co22)) (fun _ hk => ⟨hk.1.1.2, ⟨hk.1.1.1, hk.1.2⟩⟩)⟩
                        have n3_ : Aside0 (((((((((w20.setCell ⟨gb151, 0, none⟩ (.int .i64 t137)).setCell ⟨gb151, 1, none⟩ (.int .i64 t138)).setCell ⟨gb151, 2, none⟩ (.int .i64 t139)).setCell ⟨gb151, 3, none⟩ (.int .i64 t140)).setCell ⟨gb151, 4, none⟩ (.int .i64 t141)).setCell ⟨gb151, 5, none⟩ (.int .i64 t142)).setCell ⟨gb151, 6, none⟩ (.int .i64 t143)).setCell ⟨gb151, 7, none⟩ (.slice Ao22 t144.length co22)).heap[gb151]? = some (.cells #[.int .i64 t137, .int .i64 t138, .int .i64 t139, .int .i64 t140, .int .i64 t141, .int .i64 t142, .int .i64 t143, .slice Ao22 t144.length co22] 29 (0, 0))) := ⟨by (with_reducible repeat (first | refine blk_drewN ?_ _ | refine blk_drew ?_ | refine blk_alloc ?_ _)); refine blk_put (cs := #[.int .i64 t137, .int .i64 t138, .int .i64 t139, .int .i64 t140, .int .i64 t141, .int .i64 t142, .int .i64 t143, .slice none 0 0]) ?_ 7 _ rfl; (with_reducible repeat (first | refine blk_drewN ?_ _ | refine blk_drew ?_ | refine blk_alloc ?_ _)); refine blk_put (cs := #[.int .i64 t137, .int .i64 t138, .int .i64 t139, .int .i64 t140, .int .i64 t141, .int .i64 t142, .int .i64 0, .slice none 0 0]) ?_ 6 _ rfl; (with_reducible repeat (first | refine blk_drewN ?_ _ | refine blk_drew ?_ | refine blk_alloc ?_ _)); refine blk_put (cs := #[.int .i64 t137, .int .i64 t138, .int .i64 t139, .int .i64 t140, .int .i64 t141, .int .i64 0, .int .i64 0, .slice none 0 0]) ?_ 5 _ rfl; (with_reducible repeat (first | refine blk_drewN ?_ _ | refine blk_drew ?_ | refine blk_alloc ?_ _)); refine blk_put (cs := #[.int .i64 t137, .int .i64 t138, .int .i64 t139, .int .i64 t140, .int .i64 0, .int .i64 0, .int .i64 0, .slice none 0 0]) ?_ 4 _ rfl; (with_reducible repeat (first | refine blk_drewN ?_ _ | refine blk_drew ?_ | refine blk_alloc ?_ _)); refine blk_put (cs := #[.int .i64 t137, .int .i64 t138, .int .i64 t139, .int .i64 0, .int .i64 0, .int .i64 0, .int .i64 0, .slice none 0 0]) ?_ 3 _ rfl; (with_reducible repeat (first | refine blk_drewN ?_ _ | refine blk_drew ?_ | refine blk_alloc ?_ _)); refine blk_put (cs := #[.int .i64 t137, .int .i64 t138, .int .i64 0, .int .i64 0, .int .i64 0, .int .i64 0, .int .i64 0, .slice none 0 0]) ?_ 2 _ rfl; (with_reducible repeat (first | refine blk_drewN ?_ _ | refine blk_drew ?_ | refine blk_alloc ?_ _)); refine blk_put (cs := #[.int .i64 t137, .int .i64 0, .int .i64 0, .int .i64 0, .int .i64 0, .int .i64 0, .int .i64 0, .slice none 0 0]) ?_ 1 _ rfl; (with_reducible repeat (first | refine blk_drewN ?_ _ | refine blk_drew ?_ | refine blk_alloc ?_ _)); refine blk_put (cs := #[.int .i64 0, .int .i64 0, .int .i64 0, .int .i64 0, .int .i64 0, .int .i64 0, .int .i64 0, .slice none 0 0]) ?_ 0 _ rfl; (with_reducible repeat (first | refine blk_drewN ?_ _ | refine blk_drew ?_ | refine blk_alloc ?_ _)); exact BK151.out⟩
                        have n4_ : Aside0 (Below w.heap.size w ((((((((w20.setCell ⟨gb151, 0, none⟩ (.int .i64 t137)).setCell ⟨gb151, 1, none⟩ (.int .i64 t138)).setCell ⟨gb151, 2, none⟩ (.int .i64 t139)).setCell ⟨gb151, 3, none⟩ (.int .i64 t140)).setCell ⟨gb151, 4, none⟩ (.int .i64 t141)).setCell ⟨gb151, 5, none⟩ (.int .i64 t142)).setCell ⟨gb151, 6, none⟩ (.int .i64 t143)).setCell ⟨gb151, 7, none⟩ (.slice Ao22 t144.length co22))) := ⟨by repeat (first | (with_reducible first | exact HB.out | apply below_alloc | apply pw_below_drewN | apply below_drew1 | refine below_set ?_ GE151.out) | exact HB.out)⟩
                        (try clear HO_3)
                        (try clear HO146)
                        (try clear HO149)
                        (try clear BK151)
                        (try clear HB)
                        generalize ((((((((w20.setCell ⟨gb151, 0, none⟩ (.int .i64 t137)).setCell ⟨gb151, 1, none⟩ (.int .i64 t138)).setCell ⟨gb151, 2, none⟩ (.int .i64 t139)).setCell ⟨gb151, 3, none⟩ (.int .i64 t140)).setCell ⟨gb151, 4, none⟩ (.int .i64 t141)).setCell ⟨gb151, 5, none⟩ (.int .i64 t142)).setCell ⟨gb151, 6, none⟩ (.int .i64 t143)).setCell ⟨gb151, 7, none⟩ (.slice Ao22 t144.length co22)) = w23 at n0_ n1_ n2_ n3_ n4_ ⊢
                        have HO_3 := n0_
                        have HO146 := n1_
                        have HO149 := n2_
                        have BK151 := n3_
                        have HB := n4_
                        clear n0_ n1_ n2_ n3_ n4_
                        have n0_ := Aside0.mk (Kd.R_drew HO_3.out)
                        have n1_ := Aside0.mk (Kd.R_drew HO146.out)
                        have n2_ := Aside0.mk (Kd.R_drew HO149.out)
                        have n3_ := Aside0.mk (blk_drew BK151.out)
                        have n4_ := Aside0.mk (below_drew1 HB.out)
                        clear HO_3
                        clear HO146
                        clear HO149
                        clear BK151
                        clear HB
                        have HO_3 := n0_
                        have HO146 := n1_
                        have HO149 := n2_
                        have BK151 := n3_
                        have HB := n4_
                        clear n0_ n1_ n2_ n3_ n4_
                        have p152 : 0 ≤ (x5_2 : Int) := of_decide_eq_true (by first | (with_reducible assumption) | assumption)
                        have q152 : x5_2 < (l0.length : Int) := of_decide_eq_true (by first | (with_reducible assumption) | assumption)
                        obtain ⟨ad152, A152_7, c152_7, e152, hx152_0, hx152_1, hx152_2, hx152_3, hx152_4, hx152_5, hx152_6, hx152_7, hl152_7, hi152_7⟩ := at_T29 HR0.out x5_2 p152 q152
                        have hw152_7 := hx152_7
                        have hw152_6 := hx152_6
                        have hw152_5 := hx152_5
                        have hw152_4 := hx152_4
                        have hw152_3 := hx152_3
                        have hw152_2 := hx152_2
                        have hw152_1 := hx152_1
                        have hw152_0 := hx152_0
                        cases e152
                        replace hx152_0 := (HB.out.cell (World.block_lt_of_cell? w _ hx152_0)).trans hx152_0
                        replace hx152_1 := (HB.out.cell (World.block_lt_of_cell? w _ hx152_1)).trans hx152_1
                        replace hx152_2 := (HB.out.cell (World.block_lt_of_cell? w _ hx152_2)).trans hx152_2
                        replace hx152_3 := (HB.out.cell (World.block_lt_of_cell? w _ hx152_3)).trans hx152_3
                        replace hx152_4 := (HB.out.cell (World.block_lt_of_cell? w _ hx152_4)).trans hx152_4
                        replace hx152_5 := (HB.out.cell (World.block_lt_of_cell? w _ hx152_5)).trans hx152_5
                        replace hx152_6 := (HB.out.cell (World.block_lt_of_cell? w _ hx152_6)).trans hx152_6
                        replace hx152_7 := (HB.out.cell (World.block_lt_of_cell? w _ hx152_7)).trans hx152_7
                        have HR152_7 := Aside0.mk hi152_7
                        have HC152_7 := Aside0.mk hl152_7
                        clear hi152_7 hl152_7
                        replace p152 := eq_true p152
                        replace q152 := eq_true q152
                        refine start_ (n := 17) (S := fun w' => w'.cell? ⟨gb151, 0, none⟩ = some (.int .i64 t137) ∧ w'.cell? ⟨gb151, 1, none⟩ = some (.int .i64 t138) ∧ w'.cell? ⟨gb151, 2, none⟩ = some (.int .i64 t139) ∧ w'.cell? ⟨gb151, 3, none⟩ = some (.int .i64 t140) ∧ w'.cell? ⟨gb151, 4, none⟩ = some (.int .i64 t141) ∧ w'.cell? ⟨gb151, 5, none⟩ = some (.int .i64 t142) ∧ w'.cell? ⟨gb151, 6, none⟩ = some (.int .i64 t143) ∧ w'.cell? ⟨gb151, 7, none⟩ = some (.slice Ao22 t144.length co22) ∧ w'.cell? (ad152.add ((x5_2).toNat * 8)) = some (.int .i64 ((rd_T29 l0 x5_2).f0)) ∧ w'.cell? ⟨(ad152.add ((x5_2).toNat * 8)).block, (ad152.add ((x5_2).toNat * 8)).off + 1, none⟩ = some (.int .i64 ((rd_T29 l0 x5_2).f1)) ∧ w'.cell? ⟨(ad152.add ((x5_2).toNat * 8)).block, (ad152.add ((x5_2).toNat * 8)).off + 2, none⟩ = some (.int .i64 ((rd_T29 l0 x5_2).f2)) ∧ w'.cell? ⟨(ad152.add ((x5_2).toNat * 8)).block, (ad152.add ((x5_2).toNat * 8)).off + 3, none⟩ = some (.int .i64 ((rd_T29 l0 x5_2).f3)) ∧ w'.cell? ⟨(ad152.add ((x5_2).toNat * 8)).block, (ad152.add ((x5_2).toNat * 8)).off + 4, none⟩ = some (.int .i64 ((rd_T29 l0 x5_2).f4)) ∧ w'.cell? ⟨(ad152.add ((x5_2).toNat * 8)).block, (ad152.add ((x5_2).toNat * 8)).off + 5, none⟩ = some (.int .i64 ((rd_T29 l0 x5_2).f5)) ∧ w'.cell? ⟨(ad152.add ((x5_2).toNat * 8)).block, (ad152.add ((x5_2).toNat * 8)).off + 6, none⟩ = some (.int .i64 ((rd_T29 l0 x5_2).f6)) ∧ w'.cell? ⟨(ad152.add ((x5_2).toNat * 8)).block, (ad152.add ((x5_2).toNat * 8)).off + 7, none⟩ = some (.slice A152_7 ((rd_T29 l0 x5_2).f7).length c152_7)) (ds := []) #[false, false, false, false, false, false, false, false, false, false, false, false, false, false, false, false, false] (by kernel_rfl) rfl rfl ⟨(blk_cell BK151.out 0).trans rfl, (blk_cell BK151.out 1).trans rfl, (blk_cell BK151.out 2).trans rfl, (blk_cell BK151.out 3).trans rfl, (blk_cell BK151.out 4).trans rfl, (blk_cell BK151.out 5).trans rfl, (blk_cell BK151.out 6).trans rfl, (blk_cell BK151.out 7).trans rfl, ((HB.out.cell (World.block_lt_of_cell? w _ hw152_0)).trans hw152_0), ((HB.out.cell (World.block_lt_of_cell? w _ hw152_1)).trans hw152_1), ((HB.out.cell (World.block_lt_of_cell? w _ hw152_2)).trans hw152_2), ((HB.out.cell (World.block_lt_of_cell? w _ hw152_3)).trans hw152_3), ((HB.out.cell (World.block_lt_of_cell? w _ hw152_4)).trans hw152_4), ((HB.out.cell (World.block_lt_of_cell? w _ hw152_5)).trans hw152_5), ((HB.out.cell (World.block_lt_of_cell? w _ hw152_6)).trans hw152_6), ((HB.out.cell (World.block_lt_of_cell? w _ hw152_7)).trans hw152_7)⟩ (fun hHeld => ?_); refine with_tabW sextonlaw25_NetAll.tab8 sextonlaw25_NetAll.bits8 (fun HT_ HW_ => ?_)
                        generalize w23.drew = w24 at HO_3 HO146 HO149 BK151 HB HR152_7 hx152_0 hx152_1 hx152_2 hx152_3 hx152_4 hx152_5 hx152_6 hx152_7 hHeld ⊢
                        refine pure_ (i := 0) (N := some 38) (v := ?_) (a' := ?_) #[true, false, false, false, false, false, false, false, false, false, false, false, false, false, false, false, false] rfl rfl (any_of HT_.out (by kernel_rfl)) (fun _ _ _ h => h) (Or.inl ⟨by rfl, ?_⟩) ?_ ?_
                        rotate_left
                        · intro w'
                          go_simp
                          with_reducible rfl
                        rotate_left
                        · simp only [Act.put, List.setIfInBounds_toArray, List.set_cons_zero, List.set_cons_succ, i64_w, i32_w]
                          rfl
                        refine pure_ (i := 1) (N := some 39) (v := ?_) (a' := ?_) #[true, true, false, false, false, false, false, false, false, false, false, false, false, false, false, false, false] rfl rfl (any_of HT_.out (by kernel_rfl)) (fun _ _ _ h => h) (Or.inl ⟨by rfl, ?_⟩) ?_ ?_
                        rotate_left
                        · intro w'
                          go_simp
                          with_reducible rfl
                        rotate_left
                        · simp only [Act.put, List.setIfInBounds_toArray, List.set_cons_zero, List.set_cons_succ, i64_w, i32_w]
                          rfl
                        refine pure_ (i := 2) (N := some 40) (v := ?_) (a' := ?_) #[true, true, true, false, false, false, false, false, false, false, false, false, false, false, false, false, false] rfl rfl (any_of HT_.out (by kernel_rfl)) (fun _ _ _ h => h) (Or.inl ⟨by rfl, ?_⟩) ?_ ?_
                        rotate_left
                        · intro w'
                          go_simp
                          with_reducible rfl
                        rotate_left
                        · simp only [Act.put, List.setIfInBounds_toArray, List.set_cons_zero, List.set_cons_succ, i64_w, i32_w]
                          rfl
                        refine pure_ (i := 4) (N := some 42) (v := ?_) (a' := ?_) #[true, true, true, false, true, false, false, false, false, false, false, false, false, false, false, false, false] rfl rfl (any_of HT_.out (by kernel_rfl)) (fun _ _ _ h => h) (Or.inl ⟨by rfl, ?_⟩) ?_ ?_
                        rotate_left
                        · intro w'
                          go_simp
                          with_reducible rfl
                        rotate_left
                        · simp only [Act.put, List.setIfInBounds_toArray, List.set_cons_zero, List.set_cons_succ, i64_w, i32_w]
                          rfl
                        refine pure_ (i := 5) (N := some 43) (v := ?_) (a' := ?_) #[true, true, true, false, true, true, false, false, false, false, false, false, false, false, false, false, false] rfl rfl (any_of HT_.out (by kernel_rfl)) (fun _ _ _ h => h) (Or.inl ⟨by rfl, ?_⟩) ?_ ?_
                        rotate_left
                        · intro w'
                          go_simp
                          with_reducible rfl
                        rotate_left
                        · simp only [Act.put, List.setIfInBounds_toArray, List.set_cons_zero, List.set_cons_succ, i64_w, i32_w]
                          rfl
                        refine pure_ (i := 6) (N := some 44) (v := ?_) (a' := ?_) #[true, true, true, false, true, true, true, false, false, false, false, false, false, false, false, false, false] rfl rfl (any_of HT_.out (by kernel_rfl)) (fun _ _ _ h => h) (Or.inl ⟨by rfl, ?_⟩) ?_ ?_
                        rotate_left
                        · intro w'
                          go_simp
                          with_reducible rfl
                        rotate_left
                        · simp only [Act.put, List.setIfInBounds_toArray, List.set_cons_zero, List.set_cons_succ, i64_w, i32_w]
                          rfl
                        refine take_ (i := 3) (N := some 41) (v := ?_) (a' := ?_) #[true, true, true, true, true, true, true, false, false, false, false, false, false, false, false, false, false] rfl rfl (take_ofW HT_.out HW_.out (by kernel_rfl)) (fun _ _ _ h => h) (Or.inl ⟨by rfl, ?_⟩) hHeld ?_ ?_
                        rotate_left
                        · rintro w' ⟨s0, s1, s2, s3, s4, s5, s6, s7, s8, s9, s10, s11, s12, s13, s14, s15⟩
                          go_simp
                          with_reducible rfl
                        rotate_left
                        · simp only [Act.put, List.setIfInBounds_toArray, List.set_cons_zero, List.set_cons_succ, i64_w, i32_w]
                          rfl
                        refine take_ (i := 7) (N := some 45) (v := ?_) (a' := ?_) #[true, true, true, true, true, true, true, true, false, false, false, false, false, false, false, false, false] rfl rfl (take_ofW HT_.out HW_.out (by kernel_rfl)) (fun _ _ _ h => h) (Or.inl ⟨by rfl, ?_⟩) hHeld ?_ ?_
                        rotate_left
                        · rintro w' ⟨s0, s1, s2, s3, s4, s5, s6, s7, s8, s9, s10, s11, s12, s13, s14, s15⟩
                          go_simp
                          with_reducible rfl
                        rotate_left
                        · simp only [Act.put, List.setIfInBounds_toArray, List.set_cons_zero, List.set_cons_succ, i64_w, i32_w]
                          rfl
                        refine one_ (i := 8) (N := some 46) #[true, true, true, true, true, true, true, true, true, false, false, false, false, false, false, false, false] rfl rfl (one_of HT_.out (by kernel_rfl)) (by decide) (fun K hK => ?_)
                        refine goes_ Try.func26 (by kernel_rfl) rfl #[.agg #[.int .i64 t137, .int .i64 t138, .int .i64 t139, .int .i64 t140, .int .i64 t141, .int .i64 t142, .int .i64 t143, .slice Ao22 t144.length co22], .agg #[.int .i64 ((rd_T29 l0 x5_2).f0), .int .i64 ((rd_T29 l0 x5_2).f1), .int .i64 ((rd_T29 l0 x5_2).f2), .int .i64 ((rd_T29 l0 x5_2).f3), .int .i64 ((rd_T29 l0 x5_2).f4), .int .i64 ((rd_T29 l0 x5_2).f5), .int .i64 ((rd_T29 l0 x5_2).f6), .slice A152_7 ((rd_T29 l0 x5_2).f7).length c152_7]] (by rfl) rfl rfl (by (try simp only [List.map_toArray, List.map_cons, List.map_nil]); first | done | rfl | (simp only [List.length_drop, List.length_take]; rfl)) ?_
                        with_reducible refine (sextonref23_Same.calls k2 t137 t138 t139 t140 t141 t142 t143 _ _ t144 ((rd_T29 l0 x5_2).f0) ((rd_T29 l0 x5_2).f1) ((rd_T29 l0 x5_2).f2) ((rd_T29 l0 x5_2).f3) ((rd_T29 l0 x5_2).f4) ((rd_T29 l0 x5_2).f5) ((rd_T29 l0 x5_2).f6) _ _ ((rd_T29 l0 x5_2).f7) true _ ?side1 ?side2 ?side3 ?side4 A15.out).mono ?_
                        (case side1 => repeat (first | exact (Kd.R_reads' HO146.out).2.2 | (with_reducible refine Kd.C_alloc ?_ _) | (with_reducible refine Kd.C_drewN ?_ _) | (with_reducible refine Kd.C_drew ?_)))
                        (case side2 => exact (Kd.R_reads' HO146.out).2.1)
                        (case side3 => repeat (first | exact (Kd.C_below HR152_7.out HB.out) | (with_reducible refine Kd.C_alloc ?_ _) | (with_reducible refine Kd.C_drewN ?_ _) | (with_reducible refine Kd.C_drew ?_)))
                        (case side4 => exact HC152_7.out)
                        rintro e w25 ⟨rfl, hb⟩
                        refine ⟨_, rfl, ?_⟩
                        have n0_ := Aside0.mk (Kd.R_below (by (with_reducible repeat (first | apply Kd.R_alloc | apply Kd.R_drewN | apply Kd.R_drew)); exact HO_3.out) hb)
                        have n1_ := Aside0.mk (Kd.R_below (by (with_reducible repeat (first | apply Kd.R_alloc | apply Kd.R_drewN | apply Kd.R_drew)); exact HO146.out) hb)
                        have n2_ := Aside0.mk (Kd.R_below (by (with_reducible repeat (first | apply Kd.R_alloc | apply Kd.R_drewN | apply Kd.R_drew)); exact HO149.out) hb)
                        have n3_ := Aside0.mk (blk_below (g := gb151) (o := .cells #[.int .i64 t137, .int .i64 t138, .int .i64 t139, .int .i64 t140, .int .i64 t141, .int .i64 t142, .int .i64 t143, .slice Ao22 t144.length co22] 29 (0, 0)) (by (with_reducible repeat (first | refine blk_drewN ?_ _ | refine blk_drew ?_ | refine blk_alloc ?_ _)); exact BK151.out) hb)
                        have n4_ := Aside0.mk (below_step (by repeat (first | (with_reducible first | exact HB.out | apply below_alloc | apply pw_below_drewN | apply below_drew1 | refine below_set ?_ GE151.out) | exact HB.out)) hb)
                        clear HO_3
                        clear HO146
                        clear HO149
                        clear BK151
                        clear HB
                        have HO_3 := n0_
                        have HO146 := n1_
                        have HO149 := n2_
                        have BK151 := n3_
                        have HB := n4_
                        clear n0_ n1_ n2_ n3_ n4_
                        (try clear hb)
                        (try clear hb2)
                        (try clear hk)
                        (try clear hi)
                        obtain ⟨Ao26, co26, eo26⟩ := Kd.R_slice HO149.out
                        (first | subst eo26 | (injection eo26 with f1_ f2_ f3_; have f4_ := f1_.symm; have f5_ := f3_.symm; clear f1_ f2_ f3_; subst f4_; subst f5_))
                        refine hK.out _ _ ⟨(blk_cell BK151.out 0).trans rfl, (blk_cell BK151.out 1).trans rfl, (blk_cell BK151.out 2).trans rfl, (blk_cell BK151.out 3).trans rfl, (blk_cell BK151.out 4).trans rfl, (blk_cell BK151.out 5).trans rfl, (blk_cell BK151.out 6).trans rfl, (blk_cell BK151.out 7).trans rfl, ((HB.out.cell (World.block_lt_of_cell? w _ hw152_0)).trans hw152_0), ((HB.out.cell (World.block_lt_of_cell? w _ hw152_1)).trans hw152_1), ((HB.out.cell (World.block_lt_of_cell? w _ hw152_2)).trans hw152_2), ((HB.out.cell (World.block_lt_of_cell? w _ hw152_3)).trans hw152_3), ((HB.out.cell (World.block_lt_of_cell? w _ hw152_4)).trans hw152_4), ((HB.out.cell (World.block_lt_of_cell? w _ hw152_5)).trans hw152_5), ((HB.out.cell (World.block_lt_of_cell? w _ hw152_6)).trans hw152_6), ((HB.out.cell (World.block_lt_of_cell? w _ hw152_7)).trans hw152_7)⟩ (fun hHeld => ?_)
                        clear hK K
                        refine norm_ (a' := ?_) ?_ ?_
                        rotate_left
                        · show Act.put _ (some 46) _ = _
                          simp only [Act.put, List.setIfInBounds_toArray, List.set_cons_zero, List.set_cons_succ, i64_w, i32_w]
                          rfl
                        refine pure_ (i := 9) (N := some 47) (v := ?_) (a' := ?_) #[true, true, true, true, true, true, true, true, true, true, false, false, false, false, false, false, false] rfl rfl (any_of HT_.out (by kernel_rfl)) (fun _ _ _ h => h) (Or.inl ⟨by rfl, ?_⟩) ?_ ?_
                        rotate_left
                        · intro w'
                          go_simp
                          with_reducible rfl
                        rotate_left
                        · simp only [Act.put, List.setIfInBounds_toArray, List.set_cons_zero, List.set_cons_succ, i64_w, i32_w]
                          rfl
                        refine pure_ (i := 10) (N := some 48) (v := ?_) (a' := ?_) #[true, true, true, true, true, true, true, true, true, true, true, false, false, false, false, false, false] rfl rfl (any_of HT_.out (by kernel_rfl)) (fun _ _ _ h => h) (Or.inl ⟨by rfl, ?_⟩) ?_ ?_
                        rotate_left
                        · intro w'
                          go_simp
                          with_reducible rfl
                        rotate_left
                        · simp only [Act.put, List.setIfInBounds_toArray, List.set_cons_zero, List.set_cons_succ, i64_w, i32_w]
                          rfl
                        refine pure_ (i := 11) (N := some 49) (v := ?_) (a' := ?_) #[true, true, true, true, true, true, true, true, true, true, true, true, false, false, false, false, false] rfl rfl (any_of HT_.out (by kernel_rfl)) (fun _ _ _ h => h) (Or.inl ⟨by rfl, ?_⟩) ?_ ?_
                        rotate_left
                        · intro w'
                          go_simp
                          with_reducible rfl
                        rotate_left
                        · simp only [Act.put, List.setIfInBounds_toArray, List.set_cons_zero, List.set_cons_succ, i64_w, i32_w]
                          rfl
                        refine pure_ (i := 12) (N := some 50) (v := ?_) (a' := ?_) #[true, true, true, true, true, true, true, true, true, true, true, true, true, false, false, false, false] rfl rfl (any_of HT_.out (by kernel_rfl)) (fun _ _ _ h => h) (Or.inl ⟨by rfl, ?_⟩) ?_ ?_
                        rotate_left
                        · intro w'
                          go_simp
                          with_reducible rfl
                        rotate_left
                        · simp only [Act.put, List.setIfInBounds_toArray, List.set_cons_zero, List.set_cons_succ, i64_w, i32_w]
                          rfl
                        refine pure_ (i := 13) (N := some 51) (v := ?_) (a' := ?_) #[true, true, true, true, true, true, true, true, true, true, true, true, true, true, false, false, false] rfl rfl (any_of HT_.out (by kernel_rfl)) (fun _ _ _ h => h) (Or.inl ⟨by rfl, ?_⟩) ?_ ?_
                        rotate_left
                        · intro w'
                          go_simp
                          with_reducible rfl
                        rotate_left
                        · simp only [Act.put, List.setIfInBounds_toArray, List.set_cons_zero, List.set_cons_succ, i64_w, i32_w]
                          rfl
                        refine pure_ (i := 14) (N := some 52) (v := ?_) (a' := ?_) #[true, true, true, true, true, true, true, true, true, true, true, true, true, true, true, false, false] rfl rfl (any_of HT_.out (by kernel_rfl)) (fun _ _ _ h => h) (Or.inl ⟨by rfl, ?_⟩) ?_ ?_
                        rotate_left
                        · intro w'
                          go_simp
                          with_reducible rfl
                        rotate_left
                        · simp only [Act.put, List.setIfInBounds_toArray, List.set_cons_zero, List.set_cons_succ, i64_w, i32_w]
                          rfl
                        refine pure_ (i := 15) (N := some 53) (v := ?_) (a' := ?_) #[true, true, true, true, true, true, true, true, true, true, true, true, true, true, true, true, false] rfl rfl (any_of HT_.out (by kernel_rfl)) (fun _ _ _ h => h) (Or.inl ⟨by rfl, ?_⟩) ?_ ?_
                        rotate_left
                        · intro w'
                          go_simp
                          with_reducible rfl
                        rotate_left
                        · simp only [Act.put, List.setIfInBounds_toArray, List.set_cons_zero, List.set_cons_succ, i64_w, i32_w]
                          rfl
                        refine pure_ (i := 16) (N := some 54) (v := ?_) (a' := ?_) #[true, true, true, true, true, true, true, true, true, true, true, true, true, true, true, true, true] rfl rfl (any_of HT_.out (by kernel_rfl)) (fun _ _ _ h => h) (Or.inl ⟨by rfl, ?_⟩) ?_ ?_
                        rotate_left
                        · intro w'
                          go_simp
                          with_reducible rfl
                        rotate_left
                        · simp only [Act.put, List.setIfInBounds_toArray, List.set_cons_zero, List.set_cons_succ, i64_w, i32_w]
                          rfl
                        refine done_ (done_of HT_.out (by kernel_rfl)) ?_
                        try go_wp2
                        go_roundg k2
                        case measure => have := HJ1.out; have := HK2.out; omega
                        case rel => exact ⟨(t147), (wrap64 (x5_2 - 1)), (by first | rfl | (simp; done) | (simp [*]; done)), H', ⟨by have := HJ1.out; have := HK2.out; omega⟩, ⟨by (with_reducible repeat (first | apply Kd.R_alloc | apply Kd.R_drewN | apply Kd.R_drew)); exact Kd.R_mono HO149.out (fun _ hk => trivial)⟩, ⟨by repeat (first | (with_reducible first | exact HB.out | apply below_alloc | apply pw_below_drewN | apply below_drew1 | refine below_set ?_ GE151.out) | exact HB.out)⟩⟩
                      · rw [if_neg c17] at H
                        exact absurd (H.trans (congrArg some HRT.out)) (by decide)
                    · replace c16 := Bool.eq_false_iff.mpr c16
                      subst c16
                      have H1 : (some false) = some r := by rw [if_neg (show ¬ (false = true) by decide)] at H; exact H
                      exact absurd (H1.trans (congrArg some HRT.out)) (by decide)
                  · rw [if_neg c14] at H
                    exact absurd H (by simp)
                · rw [if_neg c13] at H
                  exact absurd H (by simp)
              · replace c12 := Bool.eq_false_iff.mpr c12
                subst c12
                have H1 : (some false) = some r := by rw [if_neg (show ¬ (false = true) by decide)] at H; exact H
                exact absurd (H1.trans (congrArg some HRT.out)) (by decide)
            · rw [if_neg c10] at H
              have c10b0 : decide (0 ≤ x5_2) = false := decide_eq_false c10
              clear c10
              replace H := Option.bind_eq_some_iff.mp H
              obtain ⟨⟨t121, t122, t123, t124, t125, t126, t127, t128, t131, t134⟩, A510, H⟩ := H
              replace H : ((sextonlaw25_carried.f).bind fun t136 => (if t136 = true then (if t118 = 0 then (some (!t134)) else (some false)) else (some false))) = some r := H
              have A51 := Aside0.mk A510
              clear A510
              replace H := Option.bind_eq_some_iff.mp H
              obtain ⟨t136, A520, H⟩ := H
              replace H : (if t136 = true then (if t118 = 0 then (some (!t134)) else (some false)) else (some false)) = some r := H
              have A52 := Aside0.mk A520
              clear A520
              by_cases c53 : t136 = true
              · subst c53
                have H1 : (if t118 = 0 then (some (!t134)) else (some false)) = some r := by rw [if_pos rfl] at H; exact H
                clear H
                have H := H1
                clear H1
                by_cases c54 : t118 = 0
                · rw [if_pos c54] at H
                  have c54b0 : (t118 == 0) = true := beq_iff_eq.mpr c54
                  have c54b1 : (t118 != 0) = false := bne_eq_false_iff_eq.mpr c54
                  clear c54
                  obtain rfl := Option.some.inj H
                  obtain ⟨Ao55, co55, eo55⟩ := Kd.R_slice HO_3.out
                  subst eo55
                  go_wp2_with (first | ((with_reducible refine gate_callee (f := 17) rfl ?_); refine goesL_ (some 58) rfl rfl Try.func17 (by kernel_rfl) rfl #[.slice Ao55 x3_2.length co55, .int .i64 0] rfl (by (try simp only [List.map_toArray, List.map_cons, List.map_nil]); first | done | rfl | (simp only [List.length_drop, List.length_take]; rfl)) ?_; (with_reducible refine (net_Take.calls _ _ x3_2 0 t121 t122 t123 t124 t125 t126 t127 t128 t131 t134 _ ?side1 ?side2 A51.out).mono ?_); (case side1 => repeat (first | exact (Kd.R_reads' HO_3.out).2.2 | (with_reducible refine Kd.C_alloc ?_ _) | (with_reducible refine Kd.C_drewN ?_ _) | (with_reducible refine Kd.C_drew ?_))); (case side2 => exact (Kd.R_reads' HO_3.out).2.1); rintro e w56 ⟨v129, v132, rfl, ho0, ho1, hb⟩; refine ⟨_, rfl, ?_⟩; have n0_ := Aside0.mk (Kd.R_mono (Kd.R_told (Kd.R_told (Kd.R_old (by (with_reducible repeat (first | apply Kd.R_alloc | apply Kd.R_drewN | apply Kd.R_drew)); exact HO_3.out) hb) (Kd.R_base ho0)) (Kd.R_base ho1)) (fun _ h_ => h_.1)); have n1_ := Aside0.mk (Kd.R_lower ho0 (below_size (by repeat (first | (with_reducible first | exact HB.out | apply below_alloc | apply pw_below_drewN | apply below_drew1) | exact HB.out)))); have n2_ := Aside0.mk (Kd.R_lower (Kd.R_new' ho1 (Kd.R_lt (by (with_reducible repeat (first | apply Kd.R_alloc | apply Kd.R_drewN | apply Kd.R_drew)); exact HO_3.out))) (below_size (by repeat (first | (with_reducible first | exact HB.out | apply below_alloc | apply pw_below_drewN | apply below_drew1) | exact HB.out)))); have n3_ := Aside0.mk (below_step (by repeat (first | (with_reducible first | exact HB.out | apply below_alloc | apply pw_below_drewN | apply below_drew1) | exact HB.out)) hb); clear HO_3; clear HB; have HO_3 := n0_; have HO130 := n1_; have HO133 := n2_; have HB := n3_; clear n0_ n1_ n2_ n3_; (try clear hb); (try clear hb2); (try clear hk); (try clear hi); (try clear ho0); (try clear ho1)) | ((with_reducible refine gate_dst (N := 9) rfl ?_); (try (refine gate_guard (by rfl) ?_; dsimp only)); refine box_event ?hg (N := 9) ?hd (cs := #[.int .i64 0, .int .i64 0, .int .i64 0, .int .i64 0, .int .i64 0, .int .i64 0, .int .i64 0, .slice none 0 0]) (t := 29) ?hr ?_; (case hd => rfl); (case hg => rfl); (case hr => first | (go_simp; done) | (go_simp; rfl)); intro gb135 hg w57 hbox hb; have n0_ := Aside0.mk (Kd.R_below (Kd.R_elderB (by (with_reducible repeat (first | apply Kd.R_alloc | apply Kd.R_drewN | apply Kd.R_drew)); exact HO_3.out) gb135 (Nat.le_of_eq hg.symm)) hb); have n1_ := Aside0.mk (Kd.R_below (by (with_reducible repeat (first | apply Kd.R_alloc | apply Kd.R_drewN | apply Kd.R_drew)); exact HO130.out) hb); have n2_ := Aside0.mk (Kd.R_below (Kd.R_elderB (by (with_reducible repeat (first | apply Kd.R_alloc | apply Kd.R_drewN | apply Kd.R_drew)); exact HO133.out) gb135 (Nat.le_of_eq hg.symm)) hb); have n3_ := Aside0.mk (below_step (by repeat (first | (with_reducible first | exact HB.out | apply below_alloc | apply pw_below_drewN | apply below_drew1) | exact HB.out)) hb); have n4_ := Aside0.mk (hbox); have n5_ := Aside0.mk ((by rw [hg]; exact (below_size (by repeat (first | (with_reducible first | exact HB.out | apply below_alloc | apply pw_below_drewN | apply below_drew1) | exact HB.out))) : w.heap.size ≤ gb135)); have n6_ := Aside0.mk ((by rw [hg]; exact (below_size (by repeat (first | (with_reducible first | exact HB.out | apply below_alloc | apply pw_below_drewN | apply below_drew1) | exact HB.out))) : w.heap.size ≤ gb135)); clear HO_3; clear HO130; clear HO133; clear HB; have HO_3 := n0_; have HO130 := n1_; have HO133 := n2_; have HB := n3_; have BK135 := n4_; have GW135 := n5_; have GE135 := n6_; clear n0_ n1_ n2_ n3_ n4_ n5_ n6_; clear hb hbox hg; have hcz58_0 : w57.cell? ⟨gb135, 0, none⟩ = some (.int .i64 0) := (blk_cell BK135.out 0).trans rfl; have hcz58_1 : w57.cell? ⟨gb135, 1, none⟩ = some (.int .i64 0) := (blk_cell BK135.out 1).trans rfl; have hcz58_2 : w57.cell? ⟨gb135, 2, none⟩ = some (.int .i64 0) := (blk_cell BK135.out 2).trans rfl; have hcz58_3 : w57.cell? ⟨gb135, 3, none⟩ = some (.int .i64 0) := (blk_cell BK135.out 3).trans rfl; have hcz58_4 : w57.cell? ⟨gb135, 4, none⟩ = some (.int .i64 0) := (blk_cell BK135.out 4).trans rfl; have hcz58_5 : w57.cell? ⟨gb135, 5, none⟩ = some (.int .i64 0) := (blk_cell BK135.out 5).trans rfl; have hcz58_6 : w57.cell? ⟨gb135, 6, none⟩ = some (.int .i64 0) := (blk_cell BK135.out 6).trans rfl; have hcz58_7 : w57.cell? ⟨gb135, 7, none⟩ = some (.slice none 0 0) := (blk_cell BK135.out 7).trans rfl; have hfz58_0 := blk_frozen BK135.out 0; have hfz58_1 := blk_frozen BK135.out 1; have hfz58_2 := blk_frozen BK135.out 2; have hfz58_3 := blk_frozen BK135.out 3; have hfz58_4 := blk_frozen BK135.out 4; have hfz58_5 := blk_frozen BK135.out 5; have hfz58_6 := blk_frozen BK135.out 6; have hfz58_7 := blk_frozen BK135.out 7; obtain ⟨Ao59, co59, eo59⟩ := Kd.R_slice HO130.out; subst eo59) | ((with_reducible refine gate_callee (f := 29) rfl ?_); refine goesL_ (some 62) rfl rfl Try.func29 (by kernel_rfl) rfl #[] rfl (by (try simp only [List.map_toArray, List.map_cons, List.map_nil]); first | done | rfl | (simp only [List.length_drop, List.length_take]; rfl)) ?_; (with_reducible refine (sextonlaw25_carried.calls  true _ A52.out).mono ?_); rintro e w60 ⟨rfl, hb⟩; refine ⟨_, rfl, ?_⟩; have n0_ := Aside0.mk (Kd.R_below (by (with_reducible repeat (first | apply Kd.R_alloc | apply Kd.R_drewN | apply Kd.R_drew)); exact (Kd.R_mono (Kd.R_far (p := ⟨gb135, 7, none⟩) (Kd.R_far (p := ⟨gb135, 6, none⟩) (Kd.R_far (p := ⟨gb135, 5, none⟩) (Kd.R_far (p := ⟨gb135, 4, none⟩) (Kd.R_far (p := ⟨gb135, 3, none⟩) (Kd.R_far (p := ⟨gb135, 2, none⟩) (Kd.R_far (p := ⟨gb135, 1, none⟩) (Kd.R_far (p := ⟨gb135, 0, none⟩) (Kd.R_mono HO_3.out (fun k_ hk => (⟨hk, hk.2⟩ : _ ∧ k_ ≠ gb135))) (fun _ hk => hk.2) (.int .i64 t121)) (fun _ hk => hk.2) (.int .i64 t122)) (fun _ hk => hk.2) (.int .i64 t123)) (fun _ hk => hk.2) (.int .i64 t124)) (fun _ hk => hk.2) (.int .i64 t125)) (fun _ hk => hk.2) (.int .i64 t126)) (fun _ hk => hk.2) (.int .i64 t127)) (fun _ hk => hk.2) (.slice Ao59 t128.length co59)) (fun _ h_ => h_.1))) hb); have n1_ := Aside0.mk (Kd.R_below (by (with_reducible repeat (first | apply Kd.R_alloc | apply Kd.R_drewN | apply Kd.R_drew)); exact (Kd.R_mono (Kd.R_far (p := ⟨gb135, 7, none⟩) (Kd.R_far (p := ⟨gb135, 6, none⟩) (Kd.R_far (p := ⟨gb135, 5, none⟩) (Kd.R_far (p := ⟨gb135, 4, none⟩) (Kd.R_far (p := ⟨gb135, 3, none⟩) (Kd.R_far (p := ⟨gb135, 2, none⟩) (Kd.R_far (p := ⟨gb135, 1, none⟩) (Kd.R_far (p := ⟨gb135, 0, none⟩) (Kd.R_types HO130.out BK135.out (by decide)) (fun _ hk => hk.2) (.int .i64 t121)) (fun _ hk => hk.2) (.int .i64 t122)) (fun _ hk => hk.2) (.int .i64 t123)) (fun _ hk => hk.2) (.int .i64 t124)) (fun _ hk => hk.2) (.int .i64 t125)) (fun _ hk => hk.2) (.int .i64 t126)) (fun _ hk => hk.2) (.int .i64 t127)) (fun _ hk => hk.2) (.slice Ao59 t128.length co59)) (fun _ h_ => h_.1))) hb); have n2_ := Aside0.mk (Kd.R_below (by (with_reducible repeat (first | apply Kd.R_alloc | apply Kd.R_drewN | apply Kd.R_drew)); exact (Kd.R_mono (Kd.R_far (p := ⟨gb135, 7, none⟩) (Kd.R_far (p := ⟨gb135, 6, none⟩) (Kd.R_far (p := ⟨gb135, 5, none⟩) (Kd.R_far (p := ⟨gb135, 4, none⟩) (Kd.R_far (p := ⟨gb135, 3, none⟩) (Kd.R_far (p := ⟨gb135, 2, none⟩) (Kd.R_far (p := ⟨gb135, 1, none⟩) (Kd.R_far (p := ⟨gb135, 0, none⟩) (Kd.R_mono HO133.out (fun k_ hk => (⟨hk, hk.2⟩ : _ ∧ k_ ≠ gb135))) (fun _ hk => hk.2) (.int .i64 t121)) (fun _ hk => hk.2) (.int .i64 t122)) (fun _ hk => hk.2) (.int .i64 t123)) (fun _ hk => hk.2) (.int .i64 t124)) (fun _ hk => hk.2) (.int .i64 t125)) (fun _ hk => hk.2) (.int .i64 t126)) (fun _ hk => hk.2) (.int .i64 t127)) (fun _ hk => hk.2) (.slice Ao59 t128.length co59)) (fun _ h_ => h_.1))) hb); have n3_ := Aside0.mk (blk_below (g := gb135) (o := .cells #[.int .i64 t121, .int .i64 t122, .int .i64 t123, .int .i64 t124, .int .i64 t125, .int .i64 t126, .int .i64 t127, .slice Ao59 t128.length co59] 29 (0, 0)) (by (with_reducible repeat (first | refine blk_drewN ?_ _ | refine blk_drew ?_ | refine blk_alloc ?_ _)); refine blk_put (cs := #[.int .i64 t121, .int .i64 t122, .int .i64 t123, .int .i64 t124, .int .i64 t125, .int .i64 t126, .int .i64 t127, .slice none 0 0]) ?_ 7 _ rfl; (with_reducible repeat (first | refine blk_drewN ?_ _ | refine blk_drew ?_ | refine blk_alloc ?_ _)); refine blk_put (cs := #[.int .i64 t121, .int .i64 t122, .int .i64 t123, .int .i64 t124, .int .i64 t125, .int .i64 t126, .int .i64 0, .slice none 0 0]) ?_ 6 _ rfl; (with_reducible repeat (first | refine blk_drewN ?_ _ | refine blk_drew ?_ | refine blk_alloc ?_ _)); refine blk_put (cs := #[.int .i64 t121, .int .i64 t122, .int .i64 t123, .int .i64 t124, .int .i64 t125, .int .i64 0, .int .i64 0, .slice none 0 0]) ?_ 5 _ rfl; (with_reducible repeat (first | refine blk_drewN ?_ _ | refine blk_drew ?_ | refine blk_alloc ?_ _)); refine blk_put (cs := #[.int .i64 t121, .int .i64 t122, .int .i64 t123, .int .i64 t124, .int .i64 0, .int .i64 0, .int .i64 0, .slice none 0 0]) ?_ 4 _ rfl; (with_reducible repeat (first | refine blk_drewN ?_ _ | refine blk_drew ?_ | refine blk_alloc ?_ _)); refine blk_put (cs := #[.int .i64 t121, .int .i64 t122, .int .i64 t123, .int .i64 0, .int .i64 0, .int .i64 0, .int .i64 0, .slice none 0 0]) ?_ 3 _ rfl; (with_reducible repeat (first | refine blk_drewN ?_ _ | refine blk_drew ?_ | refine blk_alloc ?_ _)); refine blk_put (cs := #[.int .i64 t121, .int .i64 t122, .int .i64 0, .int .i64 0, .int .i64 0, .int .i64 0, .int .i64 0, .slice none 0 0]) ?_ 2 _ rfl; (with_reducible repeat (first | refine blk_drewN ?_ _ | refine blk_drew ?_ | refine blk_alloc ?_ _)); refine blk_put (cs := #[.int .i64 t121, .int .i64 0, .int .i64 0, .int .i64 0, .int .i64 0, .int .i64 0, .int .i64 0, .slice none 0 0]) ?_ 1 _ rfl; (with_reducible repeat (first | refine blk_drewN ?_ _ | refine blk_drew ?_ | refine blk_alloc ?_ _)); refine blk_put (cs := #[.int .i64 0, .int .i64 0, .int .i64 0, .int .i64 0, .int .i64 0, .int .i64 0, .int .i64 0, .slice none 0 0]) ?_ 0 _ rfl; (with_reducible repeat (first | refine blk_drewN ?_ _ | refine blk_drew ?_ | refine blk_alloc ?_ _)); exact BK135.out) hb); have n4_ := Aside0.mk (below_step (by repeat (first | (with_reducible first | exact HB.out | apply below_alloc | apply pw_below_drewN | apply below_drew1 | refine below_set ?_ GE135.out) | exact HB.out)) hb); clear HO_3; clear HO130; clear HO133; clear BK135; clear HB; have HO_3 := n0_; have HO130 := n1_; have HO133 := n2_; have BK135 := n3_; have HB := n4_; clear n0_ n1_ n2_ n3_ n4_; (try clear hb); (try clear hb2); (try clear hk); (try clear hi)))
                  go_ret
                  exact ⟨by first | rfl | (simp [errW_none, errW_some] <;> rfl) | (simp [*, errW_none, errW_some] <;> rfl), by repeat (first | (with_reducible first | exact HB.out | apply below_alloc | apply pw_below_drewN | apply below_drew1 | refine below_set ?_ GE135.out) | exact HB.out)⟩
                · rw [if_neg c54] at H
                  exact absurd (H.trans (congrArg some HRT.out)) (by decide)
              · replace c53 := Bool.eq_false_iff.mpr c53
                subst c53
                have H1 : (some false) = some r := by rw [if_neg (show ¬ (false = true) by decide)] at H; exact H
                exact absurd (H1.trans (congrArg some HRT.out)) (by decide)

end Go.Proofs.Ytfejidinfcmfjaa.P
/-
  The plain statement of NetAll: what is put is taken, each message once.
-/
namespace Go.Proofs.Ytfejidinfcmfjaa.Pure
open Go.RowKit Go.Proofs Go.Proofs.CodecPlain Go.Proofs.YtfejidinfcmfjaaW.PrintWords Go.Proofs.YtfejidinfcmfjaaW.PrintLast Go.Proofs.Ytfejidinfcmfjaa.P

theorem all_end (l : List S29) : Ev (fun k => sextonlaw25_NetAll.l0 k l [] 0 (-1)) true := by
  refine Ev.step (f := fun _ => some true) (fun k => ?_) (Ev.now _)
  simp only [sextonlaw25_NetAll.l0, sextonlaw25_carried.f]
  rw [if_neg (by omega), take_nil, Option.bind_some, Option.bind_some, if_pos rfl, if_pos trivial]
  rfl
theorem all_step (l : List S29) (hl : l.length ≤ 260) (hx : ∀ x ∈ l, x.f7.length ≤ 80) (i : Nat) (hi : i < l.length) (h : Ev (fun k => sextonlaw25_NetAll.l0 k l (l.take i) 0 ((i : Int) - 1)) true) : Ev (fun k => sextonlaw25_NetAll.l0 k l (l.take (i + 1)) 0 (i : Int)) true := by
  have ht : net_Take.f (l.take (i + 1)) (i : Int) = _ := take_at (x := l[i]) (by rw [List.getElem?_take, if_pos (by omega), List.getElem?_eq_getElem hi]) (by rw [List.length_take]; omega) (fun y hy => Nat.le_trans (hx y (List.mem_of_mem_take hy)) (by omega))
  have he : (l.take (i + 1)).eraseIdx i = l.take i := by
    rw [List.take_succ_eq_append_getElem hi, List.eraseIdx_append_of_length_le (by rw [List.length_take]; omega), List.length_take, show i - min i l.length = 0 by omega]
    simp
  rw [he] at ht
  have hlen : (l.take i).length = i := by rw [List.length_take]; omega
  refine Ev.step (f := fun k => (sextonref23_Same.f k l[i].f0 l[i].f1 l[i].f2 l[i].f3 l[i].f4 l[i].f5 l[i].f6 l[i].f7 l[i].f0 l[i].f1 l[i].f2 l[i].f3 l[i].f4 l[i].f5 l[i].f6 l[i].f7).bind fun t => if t = true then sextonlaw25_NetAll.l0 k l (l.take i) 0 ((i : Int) - 1) else some false) (fun k => ?_) ?_
  · simp only [sextonlaw25_NetAll.l0]
    rw [if_pos (by omega), ht, Option.bind_some, if_pos rfl, if_pos (by omega), if_pos (by omega), rd_msg l i hi]
    show (sextonref23_Same.f k l[i].f0 l[i].f1 l[i].f2 l[i].f3 l[i].f4 l[i].f5 l[i].f6 l[i].f7 l[i].f0 l[i].f1 l[i].f2 l[i].f3 l[i].f4 l[i].f5 l[i].f6 l[i].f7).bind (fun t => if t = true then (if ((l.take i).length : Int) = (i : Int) then sextonlaw25_NetAll.l0 k l (l.take i) 0 (wrap64 ((i : Int) - 1)) else some false) else some false) = _
    rw [hlen, if_pos (show (i : Int) = (i : Int) from rfl), wrap_id (by omega) (by omega)]
  · refine Ev.bind (same_yes l[i] (Nat.le_trans (hx _ (List.getElem_mem hi)) (by omega))) ?_
    exact Ev.congr (fun k => by rw [if_pos rfl]) h
theorem all_l0 (l : List S29) (hl : l.length ≤ 260) (hx : ∀ x ∈ l, x.f7.length ≤ 80) : ∀ i : Nat, i ≤ l.length → Ev (fun k => sextonlaw25_NetAll.l0 k l (l.take i) 0 ((i : Int) - 1)) true := by
  intro i
  induction i with
  | zero =>
    intro _
    exact all_end l
  | succ i ih =>
    intro hi
    have := all_step l hl hx i (by omega) (ih (by omega))
    rwa [show (((i + 1 : Nat) : Int) - 1) = (i : Int) by omega]
theorem NetAll (l0 : (List S29)) {ok0 : Prop} (h0 : ok0) :
    ∃ k, sextonlaw25_NetAll.f k l0 = some true := by
  obtain ⟨b, hb, hs⟩ := big25 l0
  have yes : Ev (fun k => sextonlaw25_NetAll.j0 k l0 true) true := Ev.step (f := fun _ => some true) (fun k => by simp only [sextonlaw25_NetAll.j0]; rw [if_pos trivial]) (Ev.now _)
  have key : Ev (fun k => sextonlaw25_NetAll.f k l0) true := by
    refine Ev.bind hb ?_
    cases b
    rotate_left
    · exact Ev.congr (fun k => by rw [if_pos rfl]) yes
    obtain ⟨hl, hx⟩ := hs rfl
    by_cases h150 : 150 < l0.length
    · exact Ev.congr (fun k => by rw [if_neg (by decide), decide_eq_true (by omega)]) yes
    refine Ev.congr (f := fun k => sextonlaw25_NetAll.j0 k l0 false) (fun k => by rw [if_neg (by decide), decide_eq_false (by omega)]) ?_
    have hm : manyM 0 l0.length = l0.length := by show min l0.length (200 - 0) = l0.length; omega
    have hp : net_Put.f [] l0 = some (l0, 0) := by
      unfold net_Put.f
      rw [if_pos ⟨by simp, by omega, (fun x h => by cases h), fun x h => Nat.le_trans (hx x h) (by omega)⟩]
      rw [show ([] : List S29).length = 0 from rfl, hm, List.take_length, Nat.sub_self]
      rfl
    have hall := all_l0 l0 hl hx l0.length (Nat.le_refl _)
    rw [List.take_length] at hall
    refine Ev.step (f := fun k => sextonlaw25_NetAll.l0 k l0 l0 0 ((l0.length : Int) - 1)) (fun k => ?_) hall
    simp only [sextonlaw25_NetAll.j0]
    rw [if_neg (by decide), hp, Option.bind_some, wrap_id (by omega) (by omega)]
  obtain ⟨K, e⟩ := key
  exact ⟨K, e K (Nat.le_refl _)⟩
end Go.Proofs.Ytfejidinfcmfjaa.Pure
