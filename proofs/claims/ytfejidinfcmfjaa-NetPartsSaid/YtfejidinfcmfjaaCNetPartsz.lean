/-
  The walk and the plain statement of NetParts, joined.
-/
import Derived.Test.YtfejidinfcmfjaaPx0
import Derived.Test.YtfejidinfcmfjaaCn5da
import Derived.Test.YtfejidinfcmfjaaCn5db
import Derived.Test.YtfejidinfcmfjaaCn5dd
import Derived.Test.YtfejidinfcmfjaaCn5de
set_option linter.unusedVariables false
set_option linter.unusedSimpArgs false
/-
  The walk of NetParts, by the print; the ways that would answer false are closed.
-/
namespace Go.Proofs.Ytfejidinfcmfjaa.P
open Go.RowKit Go.Proofs.YtfejidinfcmfjaaW.PrintWords Go.Proofs.YtfejidinfcmfjaaW.PrintLast Go.Proofs.YtfejidinfcmfjaaW.PrintMore
attribute [local go_sem] max2_int min2_int max_two min_two max_three min_three max_four min_four   -- for this text's walks alone
set_option linter.unusedVariables false
set_option linter.unusedSimpArgs false

/-! ### sextonlaw25_NetParts: function 7 -/
mutual
def sextonlaw25_NetParts.j0 : Nat → List (S29) → List (S29) → Int → Int → Int → Bool → Option (Bool)
  | 0, _, _, _, _, _, _ => none
  | k + 1, x0, x1, x2, x3, x4, x42 => if x42 = true then (some true) else ((net_Put.f x0 x1).bind fun bt224 => ((net_Cut.f x0 x2 x3).bind fun t228 => ((net_Cut.f x1 x2 x3).bind fun t231 => ((net_Put.f t228 t231).bind fun bt234 => ((net_Split.f x0 x4).bind fun t238 => ((net_Split.f x1 x4).bind fun t241 => ((net_Split.f bt224.1 x4).bind fun t244 => (sextonlaw25_NetParts.l0 k x2 x3 x4 bt224.1 bt224.2 bt234.1 t238 t241 t244 0))))))))
def sextonlaw25_NetParts.l0 : Nat → Int → Int → Int → List (S29) → Int → List (S29) → List (List (S29)) → List (List (S29)) → List (List (S29)) → Int → Option (Bool)
  | 0, _, _, _, _, _, _, _, _, _, _ => none
  | k + 1, x2, x3, x4, x11, x12, x13, x15, x16, x17, x18 => if x18 < x4 then (if x18 ≥ (x15.length : Int) then (sextonlaw25_NetParts.j2 k x2 x3 x4 x11 x12 x13 x15 x16 x17 x18 true) else (if x18 ≥ (x16.length : Int) then (sextonlaw25_NetParts.j2 k x2 x3 x4 x11 x12 x13 x15 x16 x17 x18 true) else (sextonlaw25_NetParts.j2 k x2 x3 x4 x11 x12 x13 x15 x16 x17 x18 (decide (x18 ≥ (x17.length : Int)))))) else ((sextonlaw25_carried.f).bind fun t247 => (if t247 = true then (if x12 = 0 then ((net_Cut.f x11 x2 x3).bind fun t248 => ((sextonref23_SameRow.f k t248 x13).bind fun t251 => (some t251))) else (some false)) else (some false)))
def sextonlaw25_NetParts.j2 : Nat → Int → Int → Int → List (S29) → Int → List (S29) → List (List (S29)) → List (List (S29)) → List (List (S29)) → Int → Bool → Option (Bool)
  | 0, _, _, _, _, _, _, _, _, _, _, _ => none
  | k + 1, x2, x3, x4, x11, x12, x13, x15, x16, x17, x18, x90 => if x90 = true then (some false) else (if 0 ≤ x18 then (if x18 < (x15.length : Int) then (if x18 < (x16.length : Int) then ((net_Put.f (rd_L4 x15 x18) (rd_L4 x16 x18)).bind fun bt254 => (if x18 < (x17.length : Int) then ((sextonref23_SameRow.f k bt254.1 (rd_L4 x17 x18)).bind fun t259 => (if t259 = true then (sextonlaw25_NetParts.l0 k x2 x3 x4 x11 x12 x13 x15 x16 x17 (wrap64 (x18 + 1))) else (some false))) else (none))) else (none)) else (none)) else (none))
end
def sextonlaw25_NetParts.f (k : Nat) (l0 : List (S29)) (l1 : List (S29)) (a2 : Int) (a3 : Int) (a4 : Int) : Option (Bool) := (sextonref25_Big.f k l0).bind fun t222 => (if t222 = true then (sextonlaw25_NetParts.j0 k l0 l1 a2 a3 a4 true) else ((sextonref25_Big.f k l1).bind fun t223 => (if t223 = true then (sextonlaw25_NetParts.j0 k l0 l1 a2 a3 a4 true) else (if (wrap64 ((l0.length : Int) + (l1.length : Int))) > 200 then (sextonlaw25_NetParts.j0 k l0 l1 a2 a3 a4 true) else (if a4 < 1 then (sextonlaw25_NetParts.j0 k l0 l1 a2 a3 a4 true) else (sextonlaw25_NetParts.j0 k l0 l1 a2 a3 a4 (decide (a4 > 7))))))))
def sextonlaw25_NetParts.T13 : Bool × List (List Nat × List Nat) := (true, [([], []), ([], []), ([0, 1], [0, 1]), ([2], [2]), ([], []), ([], []), ([4, 5], [4, 5]), ([6], [6]), ([3, 7], [3, 7]), ([8], [8]), ([9], [9]), ([9], [9]), ([10, 8, 0, 1, 2, 3, 4, 5, 6, 7, 8, 9, 10], [10]), ([11, 12, 0, 1, 2, 3, 4, 5, 6, 7, 8, 9, 10, 11, 12], [11])])
def sextonlaw25_NetParts.B13 : List Nat := [0, 0, 3, 7, 0, 0, 48, 112, 255, 511, 1023, 1023, 2047, 8191]
theorem sextonlaw25_NetParts.tab13 : rtab .any (opsOf Try.f7 13) = sextonlaw25_NetParts.T13 := by kernel_rfl
theorem sextonlaw25_NetParts.bits13 : waitsOk sextonlaw25_NetParts.T13.2 sextonlaw25_NetParts.B13 = true := by kernel_rfl
set_option maxHeartbeats 8000000 in
set_option maxRecDepth 100000 in
theorem sextonlaw25_NetParts.calls (k : Nat) (A0 : Option Addr) (c0 : Nat) (l0 : List (S29)) (A1 : Option Addr) (c1 : Nat) (l1 : List (S29)) (a2 : Int) (a3 : Int) (a4 : Int) (r : Bool) (hrt : r = true := by rfl) (w : World) (hr0 : Kd.C k29 w A0 l0.length l0) (hc0 : l0.length ≤ c0) (hr1 : Kd.C k29 w A1 l1.length l1) (hc1 : l1.length ≤ c1) (h : sextonlaw25_NetParts.f k l0 l1 a2 a3 a4 = some r) :
    Calls Try.prog 7 #[.slice A0 l0.length c0, .slice A1 l1.length c1, .int .i64 a2, .int .i64 a3, .int .i64 a4] w fun e w' => e = .returned (.bool r) ∧ Below w.heap.size w w' := by
  have HRT := Aside0.mk hrt
  have HR0 := Aside0.mk hr0
  have HC0 := Aside0.mk hc0
  clear hr0 hc0
  have HR1 := Aside0.mk hr1
  have HC1 := Aside0.mk hc1
  clear hr1 hc1
  have HB := Aside0.mk (Below.refl w.heap.size w)
  have H : ((sextonref25_Big.f k l0).bind fun t222 => (if t222 = true then (sextonlaw25_NetParts.j0 k l0 l1 a2 a3 a4 true) else ((sextonref25_Big.f k l1).bind fun t223 => (if t223 = true then (sextonlaw25_NetParts.j0 k l0 l1 a2 a3 a4 true) else (if (wrap64 ((l0.length : Int) + (l1.length : Int))) > 200 then (sextonlaw25_NetParts.j0 k l0 l1 a2 a3 a4 true) else (if a4 < 1 then (sextonlaw25_NetParts.j0 k l0 l1 a2 a3 a4 true) else (sextonlaw25_NetParts.j0 k l0 l1 a2 a3 a4 (decide (a4 > 7))))))))) = some r := h
  clear h
  have HC6 := Aside0.mk H
  clear H
  go_enter Try.func7, Try.ntmps7
  go_upto_region 1 with (fail)
  go_cut [42] (fun v42 wc => ∃ (kq : Nat) (x42_5 : Bool), v42 = .bool x42_5 ∧ Aside0 (sextonlaw25_NetParts.j0 kq l0 l1 a2 a3 a4 x42_5 = some r) ∧ Aside0 (kq ≤ k) ∧ Aside0 (Below w.heap.size w wc))
  case first =>
    have H := HC6.out
    clear HC6
    replace H := Option.bind_eq_some_iff.mp H
    obtain ⟨t222, A70, H⟩ := H
    replace H : (if t222 = true then (sextonlaw25_NetParts.j0 k l0 l1 a2 a3 a4 true) else ((sextonref25_Big.f k l1).bind fun t223 => (if t223 = true then (sextonlaw25_NetParts.j0 k l0 l1 a2 a3 a4 true) else (if (wrap64 ((l0.length : Int) + (l1.length : Int))) > 200 then (sextonlaw25_NetParts.j0 k l0 l1 a2 a3 a4 true) else (if a4 < 1 then (sextonlaw25_NetParts.j0 k l0 l1 a2 a3 a4 true) else (sextonlaw25_NetParts.j0 k l0 l1 a2 a3 a4 (decide (a4 > 7)))))))) = some r := H
    have A7 := Aside0.mk A70
    clear A70
    by_cases c8 : t222 = true
    · subst c8
      have H1 : (sextonlaw25_NetParts.j0 k l0 l1 a2 a3 a4 true) = some r := by rw [if_pos rfl] at H; exact H
      clear H
      have H := H1
      clear H1
      have H' := Aside0.mk H
      clear H
      go_wp2_with (first | ((with_reducible refine gate_callee (f := 13) rfl ?_); refine goesL_ (some 22) rfl rfl Try.func13 (by kernel_rfl) rfl #[.slice A0 l0.length c0] rfl (by (try simp only [List.map_toArray, List.map_cons, List.map_nil]); first | done | rfl | (simp only [List.length_drop, List.length_take]; rfl)) ?_; (with_reducible refine (sextonref25_Big.calls k _ _ l0 true _ ?side1 ?side2 A7.out).mono ?_); (case side1 => repeat (first | exact (Kd.C_below HR0.out HB.out) | (with_reducible refine Kd.C_alloc ?_ _) | (with_reducible refine Kd.C_drewN ?_ _) | (with_reducible refine Kd.C_drew ?_))); (case side2 => exact HC0.out); rintro e w9 ⟨rfl, hb⟩; refine ⟨_, rfl, ?_⟩; have n0_ := Aside0.mk (below_step (by repeat (first | (with_reducible first | exact HB.out | apply below_alloc | apply pw_below_drewN | apply below_drew1) | exact HB.out)) hb); clear HB; have HB := n0_; clear n0_; (try clear hb); (try clear hb2); (try clear hk); (try clear hi)))
      go_meet
      case rel => exact ⟨_, (true), (by first | rfl | (simp; done) | (simp [*]; done)), H', ⟨by first | omega | exact Nat.le_refl _⟩, ⟨by repeat (first | (with_reducible first | exact HB.out | apply below_alloc | apply pw_below_drewN | apply below_drew1) | exact HB.out)⟩⟩
    · replace c8 := Bool.eq_false_iff.mpr c8
      subst c8
      have H1 : ((sextonref25_Big.f k l1).bind fun t223 => (if t223 = true then (sextonlaw25_NetParts.j0 k l0 l1 a2 a3 a4 true) else (if (wrap64 ((l0.length : Int) + (l1.length : Int))) > 200 then (sextonlaw25_NetParts.j0 k l0 l1 a2 a3 a4 true) else (if a4 < 1 then (sextonlaw25_NetParts.j0 k l0 l1 a2 a3 a4 true) else (sextonlaw25_NetParts.j0 k l0 l1 a2 a3 a4 (decide (a4 > 7))))))) = some r := by rw [if_neg (show ¬ (false = true) by decide)] at H; exact H
      clear H
      have H := H1
      clear H1
      replace H := Option.bind_eq_some_iff.mp H
      obtain ⟨t223, A100, H⟩ := H
      replace H : (if t223 = true then (sextonlaw25_NetParts.j0 k l0 l1 a2 a3 a4 true) else (if (wrap64 ((l0.length : Int) + (l1.length : Int))) > 200 then (sextonlaw25_NetParts.j0 k l0 l1 a2 a3 a4 true) else (if a4 < 1 then (sextonlaw25_NetParts.j0 k l0 l1 a2 a3 a4 true) else (sextonlaw25_NetParts.j0 k l0 l1 a2 a3 a4 (decide (a4 > 7)))))) = some r := H
      have A10 := Aside0.mk A100
      clear A100
      by_cases c11 : t223 = true
      · subst c11
        have H1 : (sextonlaw25_NetParts.j0 k l0 l1 a2 a3 a4 true) = some r := by rw [if_pos rfl] at H; exact H
        clear H
        have H := H1
        clear H1
        have H' := Aside0.mk H
        clear H
        go_wp2_with (first | ((with_reducible refine gate_callee (f := 13) rfl ?_); refine goesL_ (some 22) rfl rfl Try.func13 (by kernel_rfl) rfl #[.slice A0 l0.length c0] rfl (by (try simp only [List.map_toArray, List.map_cons, List.map_nil]); first | done | rfl | (simp only [List.length_drop, List.length_take]; rfl)) ?_; (with_reducible refine (sextonref25_Big.calls k _ _ l0 false _ ?side1 ?side2 A7.out).mono ?_); (case side1 => repeat (first | exact (Kd.C_below HR0.out HB.out) | (with_reducible refine Kd.C_alloc ?_ _) | (with_reducible refine Kd.C_drewN ?_ _) | (with_reducible refine Kd.C_drew ?_))); (case side2 => exact HC0.out); rintro e w12 ⟨rfl, hb⟩; refine ⟨_, rfl, ?_⟩; have n0_ := Aside0.mk (below_step (by repeat (first | (with_reducible first | exact HB.out | apply below_alloc | apply pw_below_drewN | apply below_drew1) | exact HB.out)) hb); clear HB; have HB := n0_; clear n0_; (try clear hb); (try clear hb2); (try clear hk); (try clear hi)) | (go_at_call 13; (with_reducible refine (sextonref25_Big.calls k _ _ l1 true _ ?side1 ?side2 A10.out).mono ?_); (case side1 => repeat (first | exact (Kd.C_below HR1.out HB.out) | (with_reducible refine Kd.C_alloc ?_ _) | (with_reducible refine Kd.C_drewN ?_ _) | (with_reducible refine Kd.C_drew ?_))); (case side2 => exact HC1.out); rintro e w13 ⟨rfl, hb⟩; have n0_ := Aside0.mk (below_step (by repeat (first | (with_reducible first | exact HB.out | apply below_alloc | apply pw_below_drewN | apply below_drew1) | exact HB.out)) hb); clear HB; have HB := n0_; clear n0_; (try clear hb); (try clear hb2); (try clear hk); (try clear hi)))
        go_meet
        case rel => exact ⟨_, (true), (by first | rfl | (simp; done) | (simp [*]; done)), H', ⟨by first | omega | exact Nat.le_refl _⟩, ⟨by repeat (first | (with_reducible first | exact HB.out | apply below_alloc | apply pw_below_drewN | apply below_drew1) | exact HB.out)⟩⟩
      · replace c11 := Bool.eq_false_iff.mpr c11
        subst c11
        have H1 : (if (wrap64 ((l0.length : Int) + (l1.length : Int))) > 200 then (sextonlaw25_NetParts.j0 k l0 l1 a2 a3 a4 true) else (if a4 < 1 then (sextonlaw25_NetParts.j0 k l0 l1 a2 a3 a4 true) else (sextonlaw25_NetParts.j0 k l0 l1 a2 a3 a4 (decide (a4 > 7))))) = some r := by rw [if_neg (show ¬ (false = true) by decide)] at H; exact H
        clear H
        have H := H1
        clear H1
        by_cases c14 : (wrap64 ((l0.length : Int) + (l1.length : Int))) > 200
        · rw [if_pos c14] at H
          have c14b0 : decide (200 < (wrap64 ((l0.length : Int) + (l1.length : Int)))) = true := decide_eq_true c14
          clear c14
          (first | rw [c14b0] | (simp only [i64_w, i32_w]; rw [c14b0]) | skip)
          have H' := Aside0.mk H
          clear H
          go_wp2_with (first | ((with_reducible refine gate_callee (f := 13) rfl ?_); refine goesL_ (some 22) rfl rfl Try.func13 (by kernel_rfl) rfl #[.slice A0 l0.length c0] rfl (by (try simp only [List.map_toArray, List.map_cons, List.map_nil]); first | done | rfl | (simp only [List.length_drop, List.length_take]; rfl)) ?_; (with_reducible refine (sextonref25_Big.calls k _ _ l0 false _ ?side1 ?side2 A7.out).mono ?_); (case side1 => repeat (first | exact (Kd.C_below HR0.out HB.out) | (with_reducible refine Kd.C_alloc ?_ _) | (with_reducible refine Kd.C_drewN ?_ _) | (with_reducible refine Kd.C_drew ?_))); (case side2 => exact HC0.out); rintro e w15 ⟨rfl, hb⟩; refine ⟨_, rfl, ?_⟩; have n0_ := Aside0.mk (below_step (by repeat (first | (with_reducible first | exact HB.out | apply below_alloc | apply pw_below_drewN | apply below_drew1) | exact HB.out)) hb); clear HB; have HB := n0_; clear n0_; (try clear hb); (try clear hb2); (try clear hk); (try clear hi)) | (go_at_call 13; (with_reducible refine (sextonref25_Big.calls k _ _ l1 false _ ?side1 ?side2 A10.out).mono ?_); (case side1 => repeat (first | exact (Kd.C_below HR1.out HB.out) | (with_reducible refine Kd.C_alloc ?_ _) | (with_reducible refine Kd.C_drewN ?_ _) | (with_reducible refine Kd.C_drew ?_))); (case side2 => exact HC1.out); rintro e w16 ⟨rfl, hb⟩; have n0_ := Aside0.mk (below_step (by repeat (first | (with_reducible first | exact HB.out | apply below_alloc | apply pw_below_drewN | apply below_drew1) | exact HB.out)) hb); clear HB; have HB := n0_; clear n0_; (try clear hb); (try clear hb2); (try clear hk); (try clear hi)))
          go_meet
          case rel => exact ⟨_, (true), (by first | rfl | (simp; done) | (simp [*]; done)), H', ⟨by first | omega | exact Nat.le_refl _⟩, ⟨by repeat (first | (with_reducible first | exact HB.out | apply below_alloc | apply pw_below_drewN | apply below_drew1) | exact HB.out)⟩⟩
        · rw [if_neg c14] at H
          have c14b0 : decide (200 < (wrap64 ((l0.length : Int) + (l1.length : Int)))) = false := decide_eq_false c14
          clear c14
          (first | rw [c14b0] | (simp only [i64_w, i32_w]; rw [c14b0]) | skip)
          by_cases c17 : a4 < 1
          · rw [if_pos c17] at H
            have c17b0 : decide (a4 < 1) = true := decide_eq_true c17
            clear c17
            have H' := Aside0.mk H
            clear H
            go_wp2_with (first | ((with_reducible refine gate_callee (f := 13) rfl ?_); refine goesL_ (some 22) rfl rfl Try.func13 (by kernel_rfl) rfl #[.slice A0 l0.length c0] rfl (by (try simp only [List.map_toArray, List.map_cons, List.map_nil]); first | done | rfl | (simp only [List.length_drop, List.length_take]; rfl)) ?_; (with_reducible refine (sextonref25_Big.calls k _ _ l0 false _ ?side1 ?side2 A7.out).mono ?_); (case side1 => repeat (first | exact (Kd.C_below HR0.out HB.out) | (with_reducible refine Kd.C_alloc ?_ _) | (with_reducible refine Kd.C_drewN ?_ _) | (with_reducible refine Kd.C_drew ?_))); (case side2 => exact HC0.out); rintro e w18 ⟨rfl, hb⟩; refine ⟨_, rfl, ?_⟩; have n0_ := Aside0.mk (below_step (by repeat (first | (with_reducible first | exact HB.out | apply below_alloc | apply pw_below_drewN | apply below_drew1) | exact HB.out)) hb); clear HB; have HB := n0_; clear n0_; (try clear hb); (try clear hb2); (try clear hk); (try clear hi)) | (go_at_call 13; (with_reducible refine (sextonref25_Big.calls k _ _ l1 false _ ?side1 ?side2 A10.out).mono ?_); (case side1 => repeat (first | exact (Kd.C_below HR1.out HB.out) | (with_reducible refine Kd.C_alloc ?_ _) | (with_reducible refine Kd.C_drewN ?_ _) | (with_reducible refine Kd.C_drew ?_))); (case side2 => exact HC1.out); rintro e w19 ⟨rfl, hb⟩; have n0_ := Aside0.mk (below_step (by repeat (first | (with_reducible first | exact HB.out | apply below_alloc | apply pw_below_drewN | apply below_drew1) | exact HB.out)) hb); clear HB; have HB := n0_; clear n0_; (try clear hb); (try clear hb2); (try clear hk); (try clear hi)))
            go_meet
            case rel => exact ⟨_, (true), (by first | rfl | (simp; done) | (simp [*]; done)), H', ⟨by first | omega | exact Nat.le_refl _⟩, ⟨by repeat (first | (with_reducible first | exact HB.out | apply below_alloc | apply pw_below_drewN | apply below_drew1) | exact HB.out)⟩⟩
          · rw [if_neg c17] at H
            have c17b0 : decide (a4 < 1) = false := decide_eq_false c17
            clear c17
            have H' := Aside0.mk H
            clear H
            go_wp2_with (first | ((with_reducible refine gate_callee (f := 13) rfl ?_); refine goesL_ (some 22) rfl rfl Try.func13 (by kernel_rfl) rfl #[.slice A0 l0.length c0] rfl (by (try simp only [List.map_toArray, List.map_cons, List.map_nil]); first | done | rfl | (simp only [List.length_drop, List.length_take]; rfl)) ?_; (with_reducible refine (sextonref25_Big.calls k _ _ l0 false _ ?side1 ?side2 A7.out).mono ?_); (case side1 => repeat (first | exact (Kd.C_below HR0.out HB.out) | (with_reducible refine Kd.C_alloc ?_ _) | (with_reducible refine Kd.C_drewN ?_ _) | (with_reducible refine Kd.C_drew ?_))); (case side2 => exact HC0.out); rintro e w20 ⟨rfl, hb⟩; refine ⟨_, rfl, ?_⟩; have n0_ := Aside0.mk (below_step (by repeat (first | (with_reducible first | exact HB.out | apply below_alloc | apply pw_below_drewN | apply below_drew1) | exact HB.out)) hb); clear HB; have HB := n0_; clear n0_; (try clear hb); (try clear hb2); (try clear hk); (try clear hi)) | (go_at_call 13; (with_reducible refine (sextonref25_Big.calls k _ _ l1 false _ ?side1 ?side2 A10.out).mono ?_); (case side1 => repeat (first | exact (Kd.C_below HR1.out HB.out) | (with_reducible refine Kd.C_alloc ?_ _) | (with_reducible refine Kd.C_drewN ?_ _) | (with_reducible refine Kd.C_drew ?_))); (case side2 => exact HC1.out); rintro e w21 ⟨rfl, hb⟩; have n0_ := Aside0.mk (below_step (by repeat (first | (with_reducible first | exact HB.out | apply below_alloc | apply pw_below_drewN | apply below_drew1) | exact HB.out)) hb); clear HB; have HB := n0_; clear n0_; (try clear hb); (try clear hb2); (try clear hk); (try clear hi)))
            go_meet
            case rel => exact ⟨_, (decide (a4 > 7)), (by first | rfl | (simp; done) | (simp [*]; done)), H', ⟨by first | omega | exact Nat.le_refl _⟩, ⟨by repeat (first | (with_reducible first | exact HB.out | apply below_alloc | apply pw_below_drewN | apply below_drew1) | exact HB.out)⟩⟩
  case rest =>
    clear HC6
    try clear c1
    try clear p2
    try clear p6
    try clear c7
    try clear c8
    try clear c11
    try clear c13
    try clear c14
    try clear c14b0
    try clear c17
    try clear c17b0
    obtain ⟨kq, x42_5, rfl, HA, HJ5, HB⟩ := hcut
    cases kq with
    | zero => exact absurd HA.out (by simp [sextonlaw25_NetParts.j0])
    | succ kj5 =>
      have H := HA.out
      clear HA
      simp only [sextonlaw25_NetParts.j0] at H
      by_cases c22 : x42_5 = true
      · subst c22
        have H1 : (some true) = some r := by rw [if_pos rfl] at H; exact H
        clear H
        have H := H1
        clear H1
        obtain rfl := Option.some.inj H
        go_wp2
        go_ret
        exact ⟨by first | rfl | (simp [errW_none, errW_some] <;> rfl) | (simp [*, errW_none, errW_some] <;> rfl), by repeat (first | (with_reducible first | exact HB.out | apply below_alloc | apply pw_below_drewN | apply below_drew1) | exact HB.out)⟩
      · replace c22 := Bool.eq_false_iff.mpr c22
        subst c22
        have H1 : ((net_Put.f l0 l1).bind fun bt224 => ((net_Cut.f l0 a2 a3).bind fun t228 => ((net_Cut.f l1 a2 a3).bind fun t231 => ((net_Put.f t228 t231).bind fun bt234 => ((net_Split.f l0 a4).bind fun t238 => ((net_Split.f l1 a4).bind fun t241 => ((net_Split.f bt224.1 a4).bind fun t244 => (sextonlaw25_NetParts.l0 kj5 a2 a3 a4 bt224.1 bt224.2 bt234.1 t238 t241 t244 0)))))))) = some r := by rw [if_neg (show ¬ (false = true) by decide)] at H; exact H
        clear H
        have H := H1
        clear H1
        replace H := Option.bind_eq_some_iff.mp H
        obtain ⟨⟨t224, t225⟩, A230, H⟩ := H
        replace H : ((net_Cut.f l0 a2 a3).bind fun t228 => ((net_Cut.f l1 a2 a3).bind fun t231 => ((net_Put.f t228 t231).bind fun bt234 => ((net_Split.f l0 a4).bind fun t238 => ((net_Split.f l1 a4).bind fun t241 => ((net_Split.f t224 a4).bind fun t244 => (sextonlaw25_NetParts.l0 kj5 a2 a3 a4 t224 t225 bt234.1 t238 t241 t244 0))))))) = some r := H
        have A23 := Aside0.mk A230
        clear A230
        replace H := Option.bind_eq_some_iff.mp H
        obtain ⟨t228, A240, H⟩ := H
        replace H : ((net_Cut.f l1 a2 a3).bind fun t231 => ((net_Put.f t228 t231).bind fun bt234 => ((net_Split.f l0 a4).bind fun t238 => ((net_Split.f l1 a4).bind fun t241 => ((net_Split.f t224 a4).bind fun t244 => (sextonlaw25_NetParts.l0 kj5 a2 a3 a4 t224 t225 bt234.1 t238 t241 t244 0)))))) = some r := H
        have A24 := Aside0.mk A240
        clear A240
        replace H := Option.bind_eq_some_iff.mp H
        obtain ⟨t231, A250, H⟩ := H
        replace H : ((net_Put.f t228 t231).bind fun bt234 => ((net_Split.f l0 a4).bind fun t238 => ((net_Split.f l1 a4).bind fun t241 => ((net_Split.f t224 a4).bind fun t244 => (sextonlaw25_NetParts.l0 kj5 a2 a3 a4 t224 t225 bt234.1 t238 t241 t244 0))))) = some r := H
        have A25 := Aside0.mk A250
        clear A250
        replace H := Option.bind_eq_some_iff.mp H
        obtain ⟨⟨t234, t235⟩, A260, H⟩ := H
        replace H : ((net_Split.f l0 a4).bind fun t238 => ((net_Split.f l1 a4).bind fun t241 => ((net_Split.f t224 a4).bind fun t244 => (sextonlaw25_NetParts.l0 kj5 a2 a3 a4 t224 t225 t234 t238 t241 t244 0)))) = some r := H
        have A26 := Aside0.mk A260
        clear A260
        replace H := Option.bind_eq_some_iff.mp H
        obtain ⟨t238, A270, H⟩ := H
        replace H : ((net_Split.f l1 a4).bind fun t241 => ((net_Split.f t224 a4).bind fun t244 => (sextonlaw25_NetParts.l0 kj5 a2 a3 a4 t224 t225 t234 t238 t241 t244 0))) = some r := H
        have A27 := Aside0.mk A270
        clear A270
        replace H := Option.bind_eq_some_iff.mp H
        obtain ⟨t241, A280, H⟩ := H
        replace H : ((net_Split.f t224 a4).bind fun t244 => (sextonlaw25_NetParts.l0 kj5 a2 a3 a4 t224 t225 t234 t238 t241 t244 0)) = some r := H
        have A28 := Aside0.mk A280
        clear A280
        replace H := Option.bind_eq_some_iff.mp H
        obtain ⟨t244, A290, H⟩ := H
        replace H : (sextonlaw25_NetParts.l0 kj5 a2 a3 a4 t224 t225 t234 t238 t241 t244 0) = some r := H
        have A29 := Aside0.mk A290
        clear A290
        have H' := Aside0.mk H
        clear H
        go_wp2_with (first | ((with_reducible refine gate_callee (f := 15) rfl ?_); refine goesL_ (some 46) rfl rfl Try.func15 (by kernel_rfl) rfl #[.slice A0 l0.length c0, .slice A1 l1.length c1] rfl (by (try simp only [List.map_toArray, List.map_cons, List.map_nil]); first | done | rfl | (simp only [List.length_drop, List.length_take]; rfl)) ?_; (with_reducible refine (net_Put.calls _ _ l0 _ _ l1 t224 t225 _ ?side1 ?side2 ?side3 ?side4 A23.out).mono ?_); (case side1 => repeat (first | exact (Kd.C_below HR0.out HB.out) | (with_reducible refine Kd.C_alloc ?_ _) | (with_reducible refine Kd.C_drewN ?_ _) | (with_reducible refine Kd.C_drew ?_))); (case side2 => exact HC0.out); (case side3 => repeat (first | exact (Kd.C_below HR1.out HB.out) | (with_reducible refine Kd.C_alloc ?_ _) | (with_reducible refine Kd.C_drewN ?_ _) | (with_reducible refine Kd.C_drew ?_))); (case side4 => exact HC1.out); rintro e w30 ⟨v226, rfl, ho0, hb⟩; refine ⟨_, rfl, ?_⟩; have n0_ := Aside0.mk (Kd.R_lower ho0 (below_size (by repeat (first | (with_reducible first | exact HB.out | apply below_alloc | apply pw_below_drewN | apply below_drew1) | exact HB.out)))); have n1_ := Aside0.mk (below_step (by repeat (first | (with_reducible first | exact HB.out | apply below_alloc | apply pw_below_drewN | apply below_drew1) | exact HB.out)) hb); clear HB; have HO227 := n0_; have HB := n1_; clear n0_ n1_; (try clear hb); (try clear hb2); (try clear hk); (try clear hi); (try clear ho0)) | ((with_reducible refine gate_callee (f := 23) rfl ?_); refine goesL_ (some 53) rfl rfl Try.func23 (by kernel_rfl) rfl #[.slice A0 l0.length c0, .int .i64 a2, .int .i64 a3] rfl (by (try simp only [List.map_toArray, List.map_cons, List.map_nil]); first | done | rfl | (simp only [List.length_drop, List.length_take]; rfl)) ?_; (with_reducible refine (net_Cut.calls _ _ l0 a2 a3 t228 _ ?side1 ?side2 A24.out).mono ?_); (case side1 => repeat (first | exact (Kd.C_below HR0.out HB.out) | (with_reducible refine Kd.C_alloc ?_ _) | (with_reducible refine Kd.C_drewN ?_ _) | (with_reducible refine Kd.C_drew ?_))); (case side2 => exact HC0.out); rintro e w31 ⟨v229, rfl, ho0, hb⟩; refine ⟨_, rfl, ?_⟩; have n0_ := Aside0.mk (Kd.R_elder' (by (with_reducible repeat (first | apply Kd.R_alloc | apply Kd.R_drewN | apply Kd.R_drew)); exact HO227.out) (Kd.R_base ho0) hb); have n1_ := Aside0.mk (Kd.R_lower (Kd.R_new' ho0 (Kd.R_lt (by (with_reducible repeat (first | apply Kd.R_alloc | apply Kd.R_drewN | apply Kd.R_drew)); exact HO227.out))) (below_size (by repeat (first | (with_reducible first | exact HB.out | apply below_alloc | apply pw_below_drewN | apply below_drew1) | exact HB.out)))); have n2_ := Aside0.mk (below_step (by repeat (first | (with_reducible first | exact HB.out | apply below_alloc | apply pw_below_drewN | apply below_drew1) | exact HB.out)) hb); clear HO227; clear HB; have HO227 := n0_; have HO230 := n1_; have HB := n2_; clear n0_ n1_ n2_; (try clear hb); (try clear hb2); (try clear hk); (try clear hi); (try clear ho0)) | ((with_reducible refine gate_callee (f := 23) rfl ?_); refine goesL_ (some 57) rfl rfl Try.func23 (by kernel_rfl) rfl #[.slice A1 l1.length c1, .int .i64 a2, .int .i64 a3] rfl (by (try simp only [List.map_toArray, List.map_cons, List.map_nil]); first | done | rfl | (simp only [List.length_drop, List.length_take]; rfl)) ?_; (with_reducible refine (net_Cut.calls _ _ l1 a2 a3 t231 _ ?side1 ?side2 A25.out).mono ?_); (case side1 => repeat (first | exact (Kd.C_below HR1.out HB.out) | (with_reducible refine Kd.C_alloc ?_ _) | (with_reducible refine Kd.C_drewN ?_ _) | (with_reducible refine Kd.C_drew ?_))); (case side2 => exact HC1.out); rintro e w32 ⟨v232, rfl, ho0, hb⟩; refine ⟨_, rfl, ?_⟩; have n0_ := Aside0.mk (Kd.R_elder' (by (with_reducible repeat (first | apply Kd.R_alloc | apply Kd.R_drewN | apply Kd.R_drew)); exact HO227.out) (Kd.R_base ho0) hb); have n1_ := Aside0.mk (Kd.R_elder' (by (with_reducible repeat (first | apply Kd.R_alloc | apply Kd.R_drewN | apply Kd.R_drew)); exact HO230.out) (Kd.R_base ho0) hb); have n2_ := Aside0.mk (Kd.R_lower (Kd.R_new' (Kd.R_new' ho0 (Kd.R_lt (by (with_reducible repeat (first | apply Kd.R_alloc | apply Kd.R_drewN | apply Kd.R_drew)); exact HO227.out))) (Kd.R_lt (by (with_reducible repeat (first | apply Kd.R_alloc | apply Kd.R_drewN | apply Kd.R_drew)); exact HO230.out))) (below_size (by repeat (first | (with_reducible first | exact HB.out | apply below_alloc | apply pw_below_drewN | apply below_drew1) | exact HB.out)))); have n3_ := Aside0.mk (below_step (by repeat (first | (with_reducible first | exact HB.out | apply below_alloc | apply pw_below_drewN | apply below_drew1) | exact HB.out)) hb); clear HO227; clear HO230; clear HB; have HO227 := n0_; have HO230 := n1_; have HO233 := n2_; have HB := n3_; clear n0_ n1_ n2_ n3_; (try clear hb); (try clear hb2); (try clear hk); (try clear hi); (try clear ho0); obtain ⟨Ao33, co33, eo33⟩ := Kd.R_slice HO230.out; subst eo33; obtain ⟨Ao34, co34, eo34⟩ := Kd.R_slice HO233.out; subst eo34) | ((with_reducible refine gate_callee (f := 15) rfl ?_); refine goesL_ (some 58) rfl rfl Try.func15 (by kernel_rfl) rfl #[.slice Ao33 t228.length co33, .slice Ao34 t231.length co34] rfl (by (try simp only [List.map_toArray, List.map_cons, List.map_nil]); first | done | rfl | (simp only [List.length_drop, List.length_take]; rfl)) ?_; (with_reducible refine (net_Put.calls _ _ t228 _ _ t231 t234 t235 _ ?side1 ?side2 ?side3 ?side4 A26.out).mono ?_); (case side1 => repeat (first | exact (Kd.R_reads' HO230.out).2.2 | (with_reducible refine Kd.C_alloc ?_ _) | (with_reducible refine Kd.C_drewN ?_ _) | (with_reducible refine Kd.C_drew ?_))); (case side2 => exact (Kd.R_reads' HO230.out).2.1); (case side3 => repeat (first | exact (Kd.R_reads' HO233.out).2.2 | (with_reducible refine Kd.C_alloc ?_ _) | (with_reducible refine Kd.C_drewN ?_ _) | (with_reducible refine Kd.C_drew ?_))); (case side4 => exact (Kd.R_reads' HO233.out).2.1); rintro e w35 ⟨v236, rfl, ho0, hb⟩; refine ⟨_, rfl, ?_⟩; have n0_ := Aside0.mk (Kd.R_elder' (by (with_reducible repeat (first | apply Kd.R_alloc | apply Kd.R_drewN | apply Kd.R_drew)); exact HO227.out) (Kd.R_base ho0) hb); have n1_ := Aside0.mk (Kd.R_elder' (by (with_reducible repeat (first | apply Kd.R_alloc | apply Kd.R_drewN | apply Kd.R_drew)); exact HO230.out) (Kd.R_base ho0) hb); have n2_ := Aside0.mk (Kd.R_elder' (by (with_reducible repeat (first | apply Kd.R_alloc | apply Kd.R_drewN | apply Kd.R_drew)); exact HO233.out) (Kd.R_base ho0) hb); have n3_ := Aside0.mk (Kd.R_lower (Kd.R_new' (Kd.R_new' (Kd.R_new' ho0 (Kd.R_lt (by (with_reducible repeat (first | apply Kd.R_alloc | apply Kd.R_drewN | apply Kd.R_drew)); exact HO227.out))) (Kd.R_lt (by (with_reducible repeat (first | apply Kd.R_alloc | apply Kd.R_drewN | apply Kd.R_drew)); exact HO230.out))) (Kd.R_lt (by (with_reducible repeat (first | apply Kd.R_alloc | apply Kd.R_drewN | apply Kd.R_drew)); exact HO233.out))) (below_size (by repeat (first | (with_reducible first | exact HB.out | apply below_alloc | apply pw_below_drewN | apply below_drew1) | exact HB.out)))); have n4_ := Aside0.mk (below_step (by repeat (first | (with_reducible first | exact HB.out | apply below_alloc | apply pw_below_drewN | apply below_drew1) | exact HB.out)) hb); clear HO227; clear HO230; clear HO233; clear HB; have HO227 := n0_; have HO230 := n1_; have HO233 := n2_; have HO237 := n3_; have HB := n4_; clear n0_ n1_ n2_ n3_ n4_; (try clear hb); (try clear hb2); (try clear hk); (try clear hi); (try clear ho0)) | ((with_reducible refine gate_callee (f := 21) rfl ?_); refine goesL_ (some 63) rfl rfl Try.func21 (by kernel_rfl) rfl #[.slice A0 l0.length c0, .int .i64 a4] rfl (by (try simp only [List.map_toArray, List.map_cons, List.map_nil]); first | done | rfl | (simp only [List.length_drop, List.length_take]; rfl)) ?_; (with_reducible refine (net_Split.calls _ _ l0 a4 t238 _ ?side1 ?side2 A27.out).mono ?_); (case side1 => repeat (first | exact (Kd.C_below HR0.out HB.out) | (with_reducible refine Kd.C_alloc ?_ _) | (with_reducible refine Kd.C_drewN ?_ _) | (with_reducible refine Kd.C_drew ?_))); (case side2 => exact HC0.out); rintro e w36 ⟨v239, rfl, ho0, hb⟩; refine ⟨_, rfl, ?_⟩; have n0_ := Aside0.mk (Kd.R_below (by (with_reducible repeat (first | apply Kd.R_alloc | apply Kd.R_drewN | apply Kd.R_drew)); exact HO227.out) hb); have n1_ := Aside0.mk (Kd.R_below (by (with_reducible repeat (first | apply Kd.R_alloc | apply Kd.R_drewN | apply Kd.R_drew)); exact HO230.out) hb); have n2_ := Aside0.mk (Kd.R_below (by (with_reducible repeat (first | apply Kd.R_alloc | apply Kd.R_drewN | apply Kd.R_drew)); exact HO233.out) hb); have n3_ := Aside0.mk (Kd.R_below (by (with_reducible repeat (first | apply Kd.R_alloc | apply Kd.R_drewN | apply Kd.R_drew)); exact HO237.out) hb); have n4_ := Aside0.mk (Kd.R_lower (Kd.R_new' (Kd.R_new' (Kd.R_new' (Kd.R_new' ho0 (Kd.R_lt (by (with_reducible repeat (first | apply Kd.R_alloc | apply Kd.R_drewN | apply Kd.R_drew)); exact HO227.out))) (Kd.R_lt (by (with_reducible repeat (first | apply Kd.R_alloc | apply Kd.R_drewN | apply Kd.R_drew)); exact HO230.out))) (Kd.R_lt (by (with_reducible repeat (first | apply Kd.R_alloc | apply Kd.R_drewN | apply Kd.R_drew)); exact HO233.out))) (Kd.R_lt (by (with_reducible repeat (first | apply Kd.R_alloc | apply Kd.R_drewN | apply Kd.R_drew)); exact HO237.out))) (below_size (by repeat (first | (with_reducible first | exact HB.out | apply below_alloc | apply pw_below_drewN | apply below_drew1) | exact HB.out)))); have n5_ := Aside0.mk (below_step (by repeat (first | (with_reducible first | exact HB.out | apply below_alloc | apply pw_below_drewN | apply below_drew1) | exact HB.out)) hb); clear HO227; clear HO230; clear HO233; clear HO237; clear HB; have HO227 := n0_; have HO230 := n1_; have HO233 := n2_; have HO237 := n3_; have HO240 := n4_; have HB := n5_; clear n0_ n1_ n2_ n3_ n4_ n5_; (try clear hb); (try clear hb2); (try clear hk); (try clear hi); (try clear ho0)) | ((with_reducible refine gate_callee (f := 21) rfl ?_); refine goesL_ (some 66) rfl rfl Try.func21 (by kernel_rfl) rfl #[.slice A1 l1.length c1, .int .i64 a4] rfl (by (try simp only [List.map_toArray, List.map_cons, List.map_nil]); first | done | rfl | (simp only [List.length_drop, List.length_take]; rfl)) ?_; (with_reducible refine (net_Split.calls _ _ l1 a4 t241 _ ?side1 ?side2 A28.out).mono ?_); (case side1 => repeat (first | exact (Kd.C_below HR1.out HB.out) | (with_reducible refine Kd.C_alloc ?_ _) | (with_reducible refine Kd.C_drewN ?_ _) | (with_reducible refine Kd.C_drew ?_))); (case side2 => exact HC1.out); rintro e w37 ⟨v242, rfl, ho0, hb⟩; refine ⟨_, rfl, ?_⟩; have n0_ := Aside0.mk (Kd.R_below (by (with_reducible repeat (first | apply Kd.R_alloc | apply Kd.R_drewN | apply Kd.R_drew)); exact HO227.out) hb); have n1_ := Aside0.mk (Kd.R_below (by (with_reducible repeat (first | apply Kd.R_alloc | apply Kd.R_drewN | apply Kd.R_drew)); exact HO230.out) hb); have n2_ := Aside0.mk (Kd.R_below (by (with_reducible repeat (first | apply Kd.R_alloc | apply Kd.R_drewN | apply Kd.R_drew)); exact HO233.out) hb); have n3_ := Aside0.mk (Kd.R_below (by (with_reducible repeat (first | apply Kd.R_alloc | apply Kd.R_drewN | apply Kd.R_drew)); exact HO237.out) hb); have n4_ := Aside0.mk (Kd.R_elder' (by (with_reducible repeat (first | apply Kd.R_alloc | apply Kd.R_drewN | apply Kd.R_drew)); exact HO240.out) (Kd.R_base ho0) hb); have n5_ := Aside0.mk (Kd.R_lower (Kd.R_new' (Kd.R_new' (Kd.R_new' (Kd.R_new' (Kd.R_new' ho0 (Kd.R_lt (by (with_reducible repeat (first | apply Kd.R_alloc | apply Kd.R_drewN | apply Kd.R_drew)); exact HO227.out))) (Kd.R_lt (by (with_reducible repeat (first | apply Kd.R_alloc | apply Kd.R_drewN | apply Kd.R_drew)); exact HO230.out))) (Kd.R_lt (by (with_reducible repeat (first | apply Kd.R_alloc | apply Kd.R_drewN | apply Kd.R_drew)); exact HO233.out))) (Kd.R_lt (by (with_reducible repeat (first | apply Kd.R_alloc | apply Kd.R_drewN | apply Kd.R_drew)); exact HO237.out))) (Kd.R_lt (by (with_reducible repeat (first | apply Kd.R_alloc | apply Kd.R_drewN | apply Kd.R_drew)); exact HO240.out))) (below_size (by repeat (first | (with_reducible first | exact HB.out | apply below_alloc | apply pw_below_drewN | apply below_drew1) | exact HB.out)))); have n6_ := Aside0.mk (below_step (by repeat (first | (with_reducible first | exact HB.out | apply below_alloc | apply pw_below_drewN | apply below_drew1) | exact HB.out)) hb); clear HO227; clear HO230; clear HO233; clear HO237; clear HO240; clear HB; have HO227 := n0_; have HO230 := n1_; have HO233 := n2_; have HO237 := n3_; have HO240 := n4_; have HO243 := n5_; have HB := n6_; clear n0_ n1_ n2_ n3_ n4_ n5_ n6_; (try clear hb); (try clear hb2); (try clear hk); (try clear hi); (try clear ho0); obtain ⟨Ao38, co38, eo38⟩ := Kd.R_slice HO227.out; subst eo38) | ((with_reducible refine gate_callee (f := 21) rfl ?_); refine goesL_ (some 69) rfl rfl Try.func21 (by kernel_rfl) rfl #[.slice Ao38 t224.length co38, .int .i64 a4] rfl (by (try simp only [List.map_toArray, List.map_cons, List.map_nil]); first | done | rfl | (simp only [List.length_drop, List.length_take]; rfl)) ?_; (with_reducible refine (net_Split.calls _ _ t224 a4 t244 _ ?side1 ?side2 A29.out).mono ?_); (case side1 => repeat (first | exact (Kd.R_reads' HO227.out).2.2 | (with_reducible refine Kd.C_alloc ?_ _) | (with_reducible refine Kd.C_drewN ?_ _) | (with_reducible refine Kd.C_drew ?_))); (case side2 => exact (Kd.R_reads' HO227.out).2.1); rintro e w39 ⟨v245, rfl, ho0, hb⟩; refine ⟨_, rfl, ?_⟩; have n0_ := Aside0.mk (Kd.R_below (by (with_reducible repeat (first | apply Kd.R_alloc | apply Kd.R_drewN | apply Kd.R_drew)); exact HO227.out) hb); have n1_ := Aside0.mk (Kd.R_below (by (with_reducible repeat (first | apply Kd.R_alloc | apply Kd.R_drewN | apply Kd.R_drew)); exact HO230.out) hb); have n2_ := Aside0.mk (Kd.R_below (by (with_reducible repeat (first | apply Kd.R_alloc | apply Kd.R_drewN | apply Kd.R_drew)); exact HO233.out) hb); have n3_ := Aside0.mk (Kd.R_below (by (with_reducible repeat (first | apply Kd.R_alloc | apply Kd.R_drewN | apply Kd.R_drew)); exact HO237.out) hb); have n4_ := Aside0.mk (Kd.R_elder' (by (with_reducible repeat (first | apply Kd.R_alloc | apply Kd.R_drewN | apply Kd.R_drew)); exact HO240.out) (Kd.R_base ho0) hb); have n5_ := Aside0.mk (Kd.R_elder' (by (with_reducible repeat (first | apply Kd.R_alloc | apply Kd.R_drewN | apply Kd.R_drew)); exact HO243.out) (Kd.R_base ho0) hb); have n6_ := Aside0.mk (Kd.R_lower (Kd.R_new' (Kd.R_new' (Kd.R_new' (Kd.R_new' (Kd.R_new' (Kd.R_new' ho0 (Kd.R_lt (by (with_reducible repeat (first | apply Kd.R_alloc | apply Kd.R_drewN | apply Kd.R_drew)); exact HO227.out))) (Kd.R_lt (by (with_reducible repeat (first | apply Kd.R_alloc | apply Kd.R_drewN | apply Kd.R_drew)); exact HO230.out))) (Kd.R_lt (by (with_reducible repeat (first | apply Kd.R_alloc | apply Kd.R_drewN | apply Kd.R_drew)); exact HO233.out))) (Kd.R_lt (by (with_reducible repeat (first | apply Kd.R_alloc | apply Kd.R_drewN | apply Kd.R_drew)); exact HO237.out))) (Kd.R_lt (by (with_reducible repeat (first | apply Kd.R_alloc | apply Kd.R_drewN | apply Kd.R_drew)); exact HO240.out))) (Kd.R_lt (by (with_reducible repeat (first | apply Kd.R_alloc | apply Kd.R_drewN | apply Kd.R_drew)); exact HO243.out))) (below_size (by repeat (first | (with_reducible first | exact HB.out | apply below_alloc | apply pw_below_drewN | apply below_drew1) | exact HB.out)))); have n7_ := Aside0.mk (below_step (by repeat (first | (with_reducible first | exact HB.out | apply below_alloc | apply pw_below_drewN | apply below_drew1) | exact HB.out)) hb); clear HO227; clear HO230; clear HO233; clear HO237; clear HO240; clear HO243; clear HB; have HO227 := n0_; have HO230 := n1_; have HO233 := n2_; have HO237 := n3_; have HO240 := n4_; have HO243 := n5_; have HO246 := n6_; have HB := n7_; clear n0_ n1_ n2_ n3_ n4_ n5_ n6_ n7_; (try clear hb); (try clear hb2); (try clear hk); (try clear hi); (try clear ho0)))
        go_loopg [18] kj5 (fun kq v18 w' => ∃ (x18_2 : Int), v18 = .int .i64 x18_2 ∧ Aside0 (sextonlaw25_NetParts.l0 kq a2 a3 a4 t224 t225 t234 t238 t241 t244 x18_2 = some r) ∧ Aside0 (kq ≤ kj5) ∧ Aside0 (Kd.R k29 29 w' w.heap.size (fun k_ => some k_ ≠ (v236 : Value).ownBlock) (.slice Ao38 t224.length co38) t224) ∧ Aside0 (Kd.R k29 29 w' w.heap.size (fun k_ => some k_ ≠ ((.slice Ao38 t224.length co38) : Value).ownBlock) v236 t234) ∧ Aside0 (Kd.R (Kd.slice 29 k29) 22 w' w.heap.size (fun k_ => some k_ ≠ ((.slice Ao38 t224.length co38) : Value).ownBlock ∧ some k_ ≠ (v236 : Value).ownBlock ∧ some k_ ≠ (v242 : Value).ownBlock ∧ some k_ ≠ (v245 : Value).ownBlock) v239 t238) ∧ Aside0 (Kd.R (Kd.slice 29 k29) 22 w' w.heap.size (fun k_ => some k_ ≠ ((.slice Ao38 t224.length co38) : Value).ownBlock ∧ some k_ ≠ (v236 : Value).ownBlock ∧ some k_ ≠ (v239 : Value).ownBlock ∧ some k_ ≠ (v245 : Value).ownBlock) v242 t241) ∧ Aside0 (Kd.R (Kd.slice 29 k29) 22 w' w.heap.size (fun k_ => some k_ ≠ ((.slice Ao38 t224.length co38) : Value).ownBlock ∧ some k_ ≠ (v236 : Value).ownBlock ∧ some k_ ≠ (v239 : Value).ownBlock ∧ some k_ ≠ (v242 : Value).ownBlock) v245 t244) ∧ Aside0 (Below w.heap.size w w'))
        case atStart => exact ⟨(0), (by first | rfl | (simp; done) | (simp [*]; done)), H', ⟨Nat.le_refl _⟩, ⟨by (with_reducible repeat (first | apply Kd.R_alloc | apply Kd.R_drewN | apply Kd.R_drew)); exact Kd.R_mono HO227.out (fun _ hk => hk.2)⟩, ⟨by (with_reducible repeat (first | apply Kd.R_alloc | apply Kd.R_drewN | apply Kd.R_drew)); exact Kd.R_mono HO237.out (fun _ hk => hk.1.1.2)⟩, ⟨by (with_reducible repeat (first | apply Kd.R_alloc | apply Kd.R_drewN | apply Kd.R_drew)); exact Kd.R_mono HO240.out (fun _ hk => ⟨hk.1.1.1.1.1.2, ⟨hk.1.1.2, ⟨hk.1.2, hk.2⟩⟩⟩)⟩, ⟨by (with_reducible repeat (first | apply Kd.R_alloc | apply Kd.R_drewN | apply Kd.R_drew)); exact Kd.R_mono HO243.out (fun _ hk => ⟨hk.1.1.1.1.1.2, ⟨hk.1.1.2, ⟨hk.1.2, hk.2⟩⟩⟩)⟩, ⟨by (with_reducible repeat (first | apply Kd.R_alloc | apply Kd.R_drewN | apply Kd.R_drew)); exact Kd.R_mono HO246.out (fun _ hk => ⟨hk.1.1.1.1.1.2, ⟨hk.1.1.2, ⟨hk.1.2, hk.2⟩⟩⟩)⟩, ⟨by repeat (first | (with_reducible first | exact HB.out | apply below_alloc | apply pw_below_drewN | apply below_drew1) | exact HB.out)⟩⟩
        case round =>
          clear H'
          try clear c1
          try clear c2
          try clear p2
          try clear p6
          try clear c7
          try clear c8
          try clear c11
          try clear c13
          try clear c14
          try clear c14b0
          try clear c15
          try clear c17
          try clear c17b0
          try clear c21
          try clear c22
          try clear c23
          try clear p2
          try clear p6
          obtain ⟨x18_2, rfl, HA, HK2, HO_11, HO_13, HO_15, HO_16, HO_17, HB⟩ := hrel
          cases gk with
          | zero => exact absurd HA.out (by simp [sextonlaw25_NetParts.l0])
          | succ k2 =>
            have H := HA.out
            clear HA
            simp only [sextonlaw25_NetParts.l0] at H
            by_cases c40 : x18_2 < a4
            · rw [if_pos c40] at H
              have c40b0 : decide (x18_2 < a4) = true := decide_eq_true c40
              clear c40
              have HC41 := Aside0.mk H
              clear H
              go_upto_region 11 with (fail)
              go_cut [90] (fun v90 wc => ∃ (kq : Nat) (x90_40 : Bool), v90 = .bool x90_40 ∧ Aside0 (sextonlaw25_NetParts.j2 kq a2 a3 a4 t224 t225 t234 t238 t241 t244 x18_2 x90_40 = some r) ∧ Aside0 (kq ≤ k2) ∧ Aside0 (Kd.R k29 29 wc w.heap.size (fun k_ => some k_ ≠ (v236 : Value).ownBlock) (.slice Ao38 t224.length co38) t224) ∧ Aside0 (Kd.R k29 29 wc w.heap.size (fun k_ => some k_ ≠ ((.slice Ao38 t224.length co38) : Value).ownBlock) v236 t234) ∧ Aside0 (Kd.R (Kd.slice 29 k29) 22 wc w.heap.size (fun k_ => some k_ ≠ ((.slice Ao38 t224.length co38) : Value).ownBlock ∧ some k_ ≠ (v236 : Value).ownBlock ∧ some k_ ≠ (v242 : Value).ownBlock ∧ some k_ ≠ (v245 : Value).ownBlock) v239 t238) ∧ Aside0 (Kd.R (Kd.slice 29 k29) 22 wc w.heap.size (fun k_ => some k_ ≠ ((.slice Ao38 t224.length co38) : Value).ownBlock ∧ some k_ ≠ (v236 : Value).ownBlock ∧ some k_ ≠ (v239 : Value).ownBlock ∧ some k_ ≠ (v245 : Value).ownBlock) v242 t241) ∧ Aside0 (Kd.R (Kd.slice 29 k29) 22 wc w.heap.size (fun k_ => some k_ ≠ ((.slice Ao38 t224.length co38) : Value).ownBlock ∧ some k_ ≠ (v236 : Value).ownBlock ∧ some k_ ≠ (v239 : Value).ownBlock ∧ some k_ ≠ (v242 : Value).ownBlock) v245 t244) ∧ Aside0 (Below w.heap.size w wc))
              case first =>
                have H := HC41.out
                clear HC41
                by_cases c42 : x18_2 ≥ (t238.length : Int)
                · rw [if_pos c42] at H
                  have c42b0 : decide ((t238.length : Int) ≤ x18_2) = true := decide_eq_true c42
                  clear c42
                  (first | rw [c42b0] | (simp only [i64_w, i32_w]; rw [c42b0]) | skip)
                  have H' := Aside0.mk H
                  clear H
                  obtain ⟨Ao43, co43, eo43⟩ := Kd.R_slice HO_15.out
                  subst eo43
                  go_wp2
                  go_meet
                  case rel => exact ⟨_, (true), (by first | rfl | (simp; done) | (simp [*]; done)), H', ⟨by have := HJ5.out; have := HK2.out; first | omega | exact Nat.le_refl _⟩, ⟨by (with_reducible repeat (first | apply Kd.R_alloc | apply Kd.R_drewN | apply Kd.R_drew)); exact HO_11.out⟩, ⟨by (with_reducible repeat (first | apply Kd.R_alloc | apply Kd.R_drewN | apply Kd.R_drew)); exact HO_13.out⟩, ⟨by (with_reducible repeat (first | apply Kd.R_alloc | apply Kd.R_drewN | apply Kd.R_drew)); exact HO_15.out⟩, ⟨by (with_reducible repeat (first | apply Kd.R_alloc | apply Kd.R_drewN | apply Kd.R_drew)); exact HO_16.out⟩, ⟨by (with_reducible repeat (first | apply Kd.R_alloc | apply Kd.R_drewN | apply Kd.R_drew)); exact HO_17.out⟩, ⟨by repeat (first | (with_reducible first | exact HB.out | apply below_alloc | apply pw_below_drewN | apply below_drew1) | exact HB.out)⟩⟩
                · rw [if_neg c42] at H
                  have c42b0 : decide ((t238.length : Int) ≤ x18_2) = false := decide_eq_false c42
                  clear c42
                  (first | rw [c42b0] | (simp only [i64_w, i32_w]; rw [c42b0]) | skip)
                  by_cases c44 : x18_2 ≥ (t241.length : Int)
                  · rw [if_pos c44] at H
                    have c44b0 : decide ((t241.length : Int) ≤ x18_2) = true := decide_eq_true c44
                    clear c44
                    have H' := Aside0.mk H
                    clear H
                    obtain ⟨Ao45, co45, eo45⟩ := Kd.R_slice HO_15.out
                    subst eo45
                    obtain ⟨Ao46, co46, eo46⟩ := Kd.R_slice HO_16.out
                    subst eo46
                    go_wp2
                    go_meet
                    case rel => exact ⟨_, (true), (by first | rfl | (simp; done) | (simp [*]; done)), H', ⟨by have := HJ5.out; have := HK2.out; first | omega | exact Nat.le_refl _⟩, ⟨by (with_reducible repeat (first | apply Kd.R_alloc | apply Kd.R_drewN | apply Kd.R_drew)); exact HO_11.out⟩, ⟨by (with_reducible repeat (first | apply Kd.R_alloc | apply Kd.R_drewN | apply Kd.R_drew)); exact HO_13.out⟩, ⟨by (with_reducible repeat (first | apply Kd.R_alloc | apply Kd.R_drewN | apply Kd.R_drew)); exact HO_15.out⟩, ⟨by (with_reducible repeat (first | apply Kd.R_alloc | apply Kd.R_drewN | apply Kd.R_drew)); exact HO_16.out⟩, ⟨by (with_reducible repeat (first | apply Kd.R_alloc | apply Kd.R_drewN | apply Kd.R_drew)); exact HO_17.out⟩, ⟨by repeat (first | (with_reducible first | exact HB.out | apply below_alloc | apply pw_below_drewN | apply below_drew1) | exact HB.out)⟩⟩
                  · rw [if_neg c44] at H
                    have c44b0 : decide ((t241.length : Int) ≤ x18_2) = false := decide_eq_false c44
                    clear c44
                    have H' := Aside0.mk H
                    clear H
                    obtain ⟨Ao47, co47, eo47⟩ := Kd.R_slice HO_15.out
                    subst eo47
                    obtain ⟨Ao48, co48, eo48⟩ := Kd.R_slice HO_16.out
                    subst eo48
                    obtain ⟨Ao49, co49, eo49⟩ := Kd.R_slice HO_17.out
                    subst eo49
                    go_wp2
                    go_meet
                    case rel => exact ⟨_, (decide (x18_2 ≥ (t244.length : Int))), (by first | rfl | (simp; done) | (simp [*]; done)), H', ⟨by have := HJ5.out; have := HK2.out; first | omega | exact Nat.le_refl _⟩, ⟨by (with_reducible repeat (first | apply Kd.R_alloc | apply Kd.R_drewN | apply Kd.R_drew)); exact HO_11.out⟩, ⟨by (with_reducible repeat (first | apply Kd.R_alloc | apply Kd.R_drewN | apply Kd.R_drew)); exact HO_13.out⟩, ⟨by (with_reducible repeat (first | apply Kd.R_alloc | apply Kd.R_drewN | apply Kd.R_drew)); exact HO_15.out⟩, ⟨by (with_reducible repeat (first | apply Kd.R_alloc | apply Kd.R_drewN | apply Kd.R_drew)); exact HO_16.out⟩, ⟨by (with_reducible repeat (first | apply Kd.R_alloc | apply Kd.R_drewN | apply Kd.R_drew)); exact HO_17.out⟩, ⟨by repeat (first | (with_reducible first | exact HB.out | apply below_alloc | apply pw_below_drewN | apply below_drew1) | exact HB.out)⟩⟩
              case rest =>
                clear HC41
                try clear c1
                try clear c2
                try clear p2
                try clear c4
                try clear p6
                try clear c7
                try clear c8
                try clear c11
                try clear c13
                try clear c14
                try clear c14b0
                try clear c15
                try clear c17
                try clear c17b0
                try clear c21
                try clear c22
                try clear c23
                try clear c40
                try clear c40b0
                try clear c42
                try clear c42b0
                try clear c44
                try clear c44b0
                try clear p2
                try clear p6
                obtain ⟨kq, x90_40, rfl, HA, HJ40, HO_11, HO_13, HO_15, HO_16, HO_17, HB⟩ := hcut
                cases kq with
                | zero => exact absurd HA.out (by simp [sextonlaw25_NetParts.j2])
                | succ kj40 =>
                  have H := HA.out
                  clear HA
                  simp only [sextonlaw25_NetParts.j2] at H
                  by_cases c50 : x90_40 = true
                  · subst c50
                    have H1 : (some false) = some r := by rw [if_pos rfl] at H; exact H
                    exact absurd (H1.trans (congrArg some HRT.out)) (by decide)
                  · replace c50 := Bool.eq_false_iff.mpr c50
                    subst c50
                    have H1 : (if 0 ≤ x18_2 then (if x18_2 < (t238.length : Int) then (if x18_2 < (t241.length : Int) then ((net_Put.f (rd_L4 t238 x18_2) (rd_L4 t241 x18_2)).bind fun bt254 => (if x18_2 < (t244.length : Int) then ((sextonref23_SameRow.f kj40 bt254.1 (rd_L4 t244 x18_2)).bind fun t259 => (if t259 = true then (sextonlaw25_NetParts.l0 kj40 a2 a3 a4 t224 t225 t234 t238 t241 t244 (wrap64 (x18_2 + 1))) else (some false))) else (none))) else (none)) else (none)) else (none)) = some r := by rw [if_neg (show ¬ (false = true) by decide)] at H; exact H
                    clear H
                    have H := H1
                    clear H1
                    by_cases c51 : 0 ≤ x18_2
                    · rw [if_pos c51] at H
                      have c51b0 : decide (0 ≤ x18_2) = true := decide_eq_true c51
                      clear c51
                      by_cases c52 : x18_2 < (t238.length : Int)
                      · rw [if_pos c52] at H
                        have c52b0 : decide (x18_2 < (t238.length : Int)) = true := decide_eq_true c52
                        clear c52
                        by_cases c53 : x18_2 < (t241.length : Int)
                        · rw [if_pos c53] at H
                          have c53b0 : decide (x18_2 < (t241.length : Int)) = true := decide_eq_true c53
                          clear c53
                          replace H := Option.bind_eq_some_iff.mp H
                          obtain ⟨⟨t254, t255⟩, A540, H⟩ := H
                          replace H : (if x18_2 < (t244.length : Int) then ((sextonref23_SameRow.f kj40 t254 (rd_L4 t244 x18_2)).bind fun t259 => (if t259 = true then (sextonlaw25_NetParts.l0 kj40 a2 a3 a4 t224 t225 t234 t238 t241 t244 (wrap64 (x18_2 + 1))) else (some false))) else (none)) = some r := H
                          have A54 := Aside0.mk A540
                          clear A540
                          by_cases c55 : x18_2 < (t244.length : Int)
                          · rw [if_pos c55] at H
                            have c55b0 : decide (x18_2 < (t244.length : Int)) = true := decide_eq_true c55
                            clear c55
                            replace H := Option.bind_eq_some_iff.mp H
                            obtain ⟨t259, A560, H⟩ := H
                            replace H : (if t259 = true then (sextonlaw25_NetParts.l0 kj40 a2 a3 a4 t224 t225 t234 t238 t241 t244 (wrap64 (x18_2 + 1))) else (some false)) = some r := H
                            have A56 := Aside0.mk A560
                            clear A560
                            by_cases c57 : t259 = true
                            · subst c57
                              have H1 : (sextonlaw25_NetParts.l0 kj40 a2 a3 a4 t224 t225 t234 t238 t241 t244 (wrap64 (x18_2 + 1))) = some r := by rw [if_pos rfl] at H; exact H
                              clear H
                              have H := H1
                              clear H1
                              have H' := Aside0.mk H
                              clear H
                              try go_wp2
                              have n0_ := Aside0.mk (Kd.R_drew HO_11.out)
                              have n1_ := Aside0.mk (Kd.R_drew HO_13.out)
                              have n2_ := Aside0.mk (Kd.R_drew HO_15.out)
                              have n3_ := Aside0.mk (Kd.R_drew HO_16.out)
                              have n4_ := Aside0.mk (Kd.R_drew HO_17.out)
                              have n5_ := Aside0.mk (below_drew1 HB.out)
                              clear HO_11
                              clear HO_13
                              clear HO_15
                              clear HO_16
                              clear HO_17
                              clear HB
                              have HO_11 := n0_
                              have HO_13 := n1_
                              have HO_15 := n2_
                              have HO_16 := n3_
                              have HO_17 := n4_
                              have HB := n5_
                              clear n0_ n1_ n2_ n3_ n4_ n5_
                              obtain ⟨Ao59, co59, eo59⟩ := Kd.R_slice HO_15.out
                              (first | subst eo59 | (injection eo59 with f1_ f2_ f3_; have f4_ := f1_.symm; have f5_ := f3_.symm; clear f1_ f2_ f3_; subst f4_; subst f5_))
                              have p252 : 0 ≤ (x18_2 : Int) := of_decide_eq_true (by first | (with_reducible assumption) | assumption)
                              have q252 : x18_2 < (t238.length : Int) := of_decide_eq_true (by first | (with_reducible assumption) | assumption)
                              obtain ⟨ad252, A252_0, c252_0, e252, hx252_0, hl252_0, hi252_0⟩ := at_L4 (Kd.R_reads' HO_15.out).2.2 x18_2 p252 q252
                              cases e252
                              obtain ⟨ce252, hce252, hMe252, hcc252⟩ := Kd.R_get HO_15.out [] x18_2 p252 (by first | exact q252 | exact of_decide_eq_true (by first | (with_reducible assumption) | assumption) | (have e_ := (Kd.R_reads' HO_15.out).1; omega))
                              obtain ⟨ve252_0, rfl, ge252_0⟩ := hMe252
                              have hv252_0 := hcc252 0 _ rfl
                              rw [Nat.add_zero, show ((Kd.slice 29 k29)).sz = 1 from rfl, Nat.mul_one] at hv252_0
                              replace hv252_0 := Option.some.inj (hv252_0.symm.trans hx252_0)
                              rw [hv252_0] at ge252_0
                              have HL252_0 := Aside0.mk (show Kd.R k29 29 _ _ _ _ (rd_L4 t238 x18_2) from ge252_0)
                              clear hv252_0 ge252_0
                              clear hcc252 hce252
                              have HR252_0 := Aside0.mk hi252_0
                              have HC252_0 := Aside0.mk hl252_0
                              clear hi252_0 hl252_0
                              replace p252 := eq_true p252
                              replace q252 := eq_true q252
                              obtain ⟨Ao60, co60, eo60⟩ := Kd.R_slice HO_16.out
                              (first | subst eo60 | (injection eo60 with f1_ f2_ f3_; have f4_ := f1_.symm; have f5_ := f3_.symm; clear f1_ f2_ f3_; subst f4_; subst f5_))
                              have p253 : 0 ≤ (x18_2 : Int) := of_decide_eq_true (by first | (with_reducible assumption) | assumption)
                              have q253 : x18_2 < (t241.length : Int) := of_decide_eq_true (by first | (with_reducible assumption) | assumption)
                              obtain ⟨ad253, A253_0, c253_0, e253, hx253_0, hl253_0, hi253_0⟩ := at_L4 (Kd.R_reads' HO_16.out).2.2 x18_2 p253 q253
                              cases e253
                              obtain ⟨ce253, hce253, hMe253, hcc253⟩ := Kd.R_get HO_16.out [] x18_2 p253 (by first | exact q253 | exact of_decide_eq_true (by first | (with_reducible assumption) | assumption) | (have e_ := (Kd.R_reads' HO_16.out).1; omega))
                              obtain ⟨ve253_0, rfl, ge253_0⟩ := hMe253
                              have hv253_0 := hcc253 0 _ rfl
                              rw [Nat.add_zero, show ((Kd.slice 29 k29)).sz = 1 from rfl, Nat.mul_one] at hv253_0
                              replace hv253_0 := Option.some.inj (hv253_0.symm.trans hx253_0)
                              rw [hv253_0] at ge253_0
                              have HL253_0 := Aside0.mk (show Kd.R k29 29 _ _ _ _ (rd_L4 t241 x18_2) from ge253_0)
                              clear hv253_0 ge253_0
                              clear hcc253 hce253
                              have HR253_0 := Aside0.mk hi253_0
                              have HC253_0 := Aside0.mk hl253_0
                              clear hi253_0 hl253_0
                              replace p253 := eq_true p253
                              replace q253 := eq_true q253
                              refine start_ (n := 14) (S := fun w' => w'.cell? (ad252.add (x18_2).toNat) = some (.slice A252_0 (rd_L4 t238 x18_2).length c252_0) ∧ w'.cell? (ad253.add (x18_2).toNat) = some (.slice A253_0 (rd_L4 t241 x18_2).length c253_0)) (ds := []) #[false, false, false, false, false, false, false, false, false, false, false, false, false, false] (by kernel_rfl) rfl rfl ⟨hx252_0, hx253_0⟩ (fun hHeld => ?_); refine with_tabW sextonlaw25_NetParts.tab13 sextonlaw25_NetParts.bits13 (fun HT_ HW_ => ?_)
                              generalize wc.drew = w58 at HO_11 HO_13 HO_15 HO_16 HO_17 HB HL252_0 HL253_0 HR252_0 HR253_0 hx252_0 hx253_0 hHeld ⊢
                              refine pure_ (i := 0) (N := some 92) (v := ?_) (a' := ?_) #[true, false, false, false, false, false, false, false, false, false, false, false, false, false] rfl rfl (any_of HT_.out (by kernel_rfl)) (fun _ _ _ h => h) (Or.inl ⟨by rfl, ?_⟩) ?_ ?_
                              rotate_left
                              · intro w'
                                go_simp
                                with_reducible rfl
                              rotate_left
                              · simp only [Act.put, List.setIfInBounds_toArray, List.set_cons_zero, List.set_cons_succ, i64_w, i32_w]
                                rfl
                              refine pure_ (i := 1) (N := some 93) (v := ?_) (a' := ?_) #[true, true, false, false, false, false, false, false, false, false, false, false, false, false] rfl rfl (any_of HT_.out (by kernel_rfl)) (fun _ _ _ h => h) (Or.inl ⟨by rfl, ?_⟩) ?_ ?_
                              rotate_left
                              · intro w'
                                go_simp
                                with_reducible rfl
                              rotate_left
                              · simp only [Act.put, List.setIfInBounds_toArray, List.set_cons_zero, List.set_cons_succ, i64_w, i32_w]
                                rfl
                              refine pure_ (i := 2) (N := some 94) (v := ?_) (a' := ?_) #[true, true, true, false, false, false, false, false, false, false, false, false, false, false] rfl rfl (any_of HT_.out (by kernel_rfl)) (fun _ _ _ h => h) (Or.inl ⟨by rfl, ?_⟩) ?_ ?_
                              rotate_left
                              · intro w'
                                go_simp
                                with_reducible rfl
                              rotate_left
                              · simp only [Act.put, List.setIfInBounds_toArray, List.set_cons_zero, List.set_cons_succ, i64_w, i32_w]
                                rfl
                              refine pure_ (i := 4) (N := some 96) (v := ?_) (a' := ?_) #[true, true, true, false, true, false, false, false, false, false, false, false, false, false] rfl rfl (any_of HT_.out (by kernel_rfl)) (fun _ _ _ h => h) (Or.inl ⟨by rfl, ?_⟩) ?_ ?_
                              rotate_left
                              · intro w'
                                go_simp
                                with_reducible rfl
                              rotate_left
                              · simp only [Act.put, List.setIfInBounds_toArray, List.set_cons_zero, List.set_cons_succ, i64_w, i32_w]
                                rfl
                              refine pure_ (i := 5) (N := some 97) (v := ?_) (a' := ?_) #[true, true, true, false, true, true, false, false, false, false, false, false, false, false] rfl rfl (any_of HT_.out (by kernel_rfl)) (fun _ _ _ h => h) (Or.inl ⟨by rfl, ?_⟩) ?_ ?_
                              rotate_left
                              · intro w'
                                go_simp
                                with_reducible rfl
                              rotate_left
                              · simp only [Act.put, List.setIfInBounds_toArray, List.set_cons_zero, List.set_cons_succ, i64_w, i32_w]
                                rfl
                              refine pure_ (i := 6) (N := some 98) (v := ?_) (a' := ?_) #[true, true, true, false, true, true, true, false, false, false, false, false, false, false] rfl rfl (any_of HT_.out (by kernel_rfl)) (fun _ _ _ h => h) (Or.inl ⟨by rfl, ?_⟩) ?_ ?_
                              rotate_left
                              · intro w'
                                go_simp
                                with_reducible rfl
                              rotate_left
                              · simp only [Act.put, List.setIfInBounds_toArray, List.set_cons_zero, List.set_cons_succ, i64_w, i32_w]
                                rfl
                              refine take_ (i := 3) (N := some 95) (v := ?_) (a' := ?_) #[true, true, true, true, true, true, true, false, false, false, false, false, false, false] rfl rfl (take_ofW HT_.out HW_.out (by kernel_rfl)) (fun _ _ _ h => h) (Or.inl ⟨by rfl, ?_⟩) hHeld ?_ ?_
                              rotate_left
                              · rintro w' ⟨s0, s1⟩
                                go_simp
                                with_reducible rfl
                              rotate_left
                              · simp only [Act.put, List.setIfInBounds_toArray, List.set_cons_zero, List.set_cons_succ, i64_w, i32_w]
                                rfl
                              refine take_ (i := 7) (N := some 99) (v := ?_) (a' := ?_) #[true, true, true, true, true, true, true, true, false, false, false, false, false, false] rfl rfl (take_ofW HT_.out HW_.out (by kernel_rfl)) (fun _ _ _ h => h) (Or.inl ⟨by rfl, ?_⟩) hHeld ?_ ?_
                              rotate_left
                              · rintro w' ⟨s0, s1⟩
                                go_simp
                                with_reducible rfl
                              rotate_left
                              · simp only [Act.put, List.setIfInBounds_toArray, List.set_cons_zero, List.set_cons_succ, i64_w, i32_w]
                                rfl
                              refine one_ (i := 8) (N := some 100) #[true, true, true, true, true, true, true, true, true, false, false, false, false, false] rfl rfl (one_of HT_.out (by kernel_rfl)) (by decide) (fun K hK => ?_)
                              refine goes_ Try.func15 (by kernel_rfl) rfl #[.slice A252_0 (rd_L4 t238 x18_2).length c252_0, .slice A253_0 (rd_L4 t241 x18_2).length c253_0] (by rfl) rfl rfl (by (try simp only [List.map_toArray, List.map_cons, List.map_nil]); first | done | rfl | (simp only [List.length_drop, List.length_take]; rfl)) ?_
                              with_reducible refine (net_Put.calls _ _ (rd_L4 t238 x18_2) _ _ (rd_L4 t241 x18_2) t254 t255 _ ?side1 ?side2 ?side3 ?side4 A54.out).mono ?_
                              (case side1 => repeat (first | exact (by repeat (first | (with_reducible exact HR252_0.out) | (with_reducible refine Kd.C_alloc ?_ _) | (with_reducible refine Kd.C_drewN ?_ _) | (with_reducible refine Kd.C_drew ?_) | exact HR252_0.out)) | (with_reducible refine Kd.C_alloc ?_ _) | (with_reducible refine Kd.C_drewN ?_ _) | (with_reducible refine Kd.C_drew ?_)))
                              (case side2 => exact HC252_0.out)
                              (case side3 => repeat (first | exact (by repeat (first | (with_reducible exact HR253_0.out) | (with_reducible refine Kd.C_alloc ?_ _) | (with_reducible refine Kd.C_drewN ?_ _) | (with_reducible refine Kd.C_drew ?_) | exact HR253_0.out)) | (with_reducible refine Kd.C_alloc ?_ _) | (with_reducible refine Kd.C_drewN ?_ _) | (with_reducible refine Kd.C_drew ?_)))
                              (case side4 => exact HC253_0.out)
                              rintro e w61 ⟨v256, rfl, ho0, hb⟩
                              have HS0_ := (hb.cell (World.block_lt_of_cell? _ _ (hHeld.1))).trans (hHeld.1)
                              have HS1_ := (hb.cell (World.block_lt_of_cell? _ _ (hHeld.2))).trans (hHeld.2)
                              refine ⟨_, rfl, ?_⟩
                              have n0_ := Aside0.mk (Kd.R_elder' (by (with_reducible repeat (first | apply Kd.R_alloc | apply Kd.R_drewN | apply Kd.R_drew)); exact HO_11.out) (Kd.R_base ho0) hb)
                              have n1_ := Aside0.mk (Kd.R_elder' (by (with_reducible repeat (first | apply Kd.R_alloc | apply Kd.R_drewN | apply Kd.R_drew)); exact HO_13.out) (Kd.R_base ho0) hb)
                              have n2_ := Aside0.mk (Kd.R_elder' (by (with_reducible repeat (first | apply Kd.R_alloc | apply Kd.R_drewN | apply Kd.R_drew)); exact HO_15.out) (Kd.R_base ho0) hb)
                              have n3_ := Aside0.mk (Kd.R_elder' (by (with_reducible repeat (first | apply Kd.R_alloc | apply Kd.R_drewN | apply Kd.R_drew)); exact HO_16.out) (Kd.R_base ho0) hb)
                              have n4_ := Aside0.mk (Kd.R_elder' (by (with_reducible repeat (first | apply Kd.R_alloc | apply Kd.R_drewN | apply Kd.R_drew)); exact HO_17.out) (Kd.R_base ho0) hb)
                              have n5_ := Aside0.mk (Kd.R_elder' (by (with_reducible repeat (first | apply Kd.R_alloc | apply Kd.R_drewN | apply Kd.R_drew)); exact HL252_0.out) (Kd.R_base ho0) hb)
                              have n6_ := Aside0.mk (Kd.R_elder' (by (with_reducible repeat (first | apply Kd.R_alloc | apply Kd.R_drewN | apply Kd.R_drew)); exact HL253_0.out) (Kd.R_base ho0) hb)
                              have n7_ := Aside0.mk (Kd.R_lower (Kd.R_new' (Kd.R_new' (Kd.R_new' (Kd.R_new' ho0 (Kd.R_lt (by (with_reducible repeat (first | apply Kd.R_alloc | apply Kd.R_drewN | apply Kd.R_drew)); exact HO_11.out))) (Kd.R_lt (by (with_reducible repeat (first | apply Kd.R_alloc | apply Kd.R_drewN | apply Kd.R_drew)); exact HO_13.out))) (Kd.R_lt (by (with_reducible repeat (first | apply Kd.R_alloc | apply Kd.R_drewN | apply Kd.R_drew)); exact HL252_0.out))) (Kd.R_lt (by (with_reducible repeat (first | apply Kd.R_alloc | apply Kd.R_drewN | apply Kd.R_drew)); exact HL253_0.out))) (below_size (by repeat (first | (with_reducible first | exact HB.out | apply below_alloc | apply pw_below_drewN | apply below_drew1) | exact HB.out))))
                              have n8_ := Aside0.mk (Kd.C_below (by repeat (first | (with_reducible exact HR252_0.out) | (with_reducible refine Kd.C_alloc ?_ _) | (with_reducible refine Kd.C_drewN ?_ _) | (with_reducible refine Kd.C_drew ?_) | exact HR252_0.out)) hb)
                              have n9_ := Aside0.mk (Kd.C_below (by repeat (first | (with_reducible exact HR253_0.out) | (with_reducible refine Kd.C_alloc ?_ _) | (with_reducible refine Kd.C_drewN ?_ _) | (with_reducible refine Kd.C_drew ?_) | exact HR253_0.out)) hb)
                              have n10_ := Aside0.mk (below_step (by repeat (first | (with_reducible first | exact HB.out | apply below_alloc | apply pw_below_drewN | apply below_drew1) | exact HB.out)) hb)
                              clear HO_11
                              clear HO_13
                              clear HO_15
                              clear HO_16
                              clear HO_17
                              clear HL252_0
                              clear HL253_0
                              clear HR252_0
                              clear HR253_0
                              clear HB
                              have HO_11 := n0_
                              have HO_13 := n1_
                              have HO_15 := n2_
                              have HO_16 := n3_
                              have HO_17 := n4_
                              have HL252_0 := n5_
                              have HL253_0 := n6_
                              have HO257 := n7_
                              have HR252_0 := n8_
                              have HR253_0 := n9_
                              have HB := n10_
                              clear n0_ n1_ n2_ n3_ n4_ n5_ n6_ n7_ n8_ n9_ n10_
                              (try clear hb)
                              (try clear hb2)
                              (try clear hk)
                              (try clear hi)
                              (try clear ho0)
                              refine hK.out _ _ ⟨HS0_, HS1_⟩ (fun hHeld => ?_)
                              clear hK K
                              refine norm_ (a' := ?_) ?_ ?_
                              rotate_left
                              · show Act.put _ (some 100) _ = _
                                simp only [Act.put, List.setIfInBounds_toArray, List.set_cons_zero, List.set_cons_succ, i64_w, i32_w]
                                rfl
                              refine pure_ (i := 9) (N := some 91) (v := ?_) (a' := ?_) #[true, true, true, true, true, true, true, true, true, true, false, false, false, false] rfl rfl (any_of HT_.out (by kernel_rfl)) (fun _ _ _ h => h) (Or.inl ⟨by rfl, ?_⟩) ?_ ?_
                              rotate_left
                              · intro w'
                                go_simp
                                with_reducible rfl
                              rotate_left
                              · simp only [Act.put, List.setIfInBounds_toArray, List.set_cons_zero, List.set_cons_succ, i64_w, i32_w]
                                rfl
                              refine pure_ (i := 10) (N := some 101) (v := ?_) (a' := ?_) #[true, true, true, true, true, true, true, true, true, true, true, false, false, false] rfl rfl (any_of HT_.out (by kernel_rfl)) (fun _ _ _ h => h) (Or.inl ⟨by rfl, ?_⟩) ?_ ?_
                              rotate_left
                              · intro w'
                                go_simp
                                with_reducible rfl
                              rotate_left
                              · simp only [Act.put, List.setIfInBounds_toArray, List.set_cons_zero, List.set_cons_succ, i64_w, i32_w]
                                rfl
                              refine pure_ (i := 11) (N := some 102) (v := ?_) (a' := ?_) #[true, true, true, true, true, true, true, true, true, true, true, true, false, false] rfl rfl (any_of HT_.out (by kernel_rfl)) (fun _ _ _ h => h) (Or.inl ⟨by rfl, ?_⟩) ?_ ?_
                              rotate_left
                              · intro w'
                                go_simp
                                with_reducible rfl
                              rotate_left
                              · simp only [Act.put, List.setIfInBounds_toArray, List.set_cons_zero, List.set_cons_succ, i64_w, i32_w]
                                rfl
                              refine pure_ (i := 12) (N := some 19) (v := ?_) (a' := ?_) #[true, true, true, true, true, true, true, true, true, true, true, true, true, false] rfl rfl (any_of HT_.out (by kernel_rfl)) (fun _ _ _ h => h) (Or.inl ⟨by rfl, ?_⟩) ?_ ?_
                              rotate_left
                              · intro w'
                                go_simp
                                with_reducible rfl
                              rotate_left
                              · simp only [Act.put, List.setIfInBounds_toArray, List.set_cons_zero, List.set_cons_succ, i64_w, i32_w]
                                rfl
                              refine pure_ (i := 13) (N := some 20) (v := ?_) (a' := ?_) #[true, true, true, true, true, true, true, true, true, true, true, true, true, true] rfl rfl (any_of HT_.out (by kernel_rfl)) (fun _ _ _ h => h) (Or.inl ⟨by rfl, ?_⟩) ?_ ?_
                              rotate_left
                              · intro w'
                                go_simp
                                with_reducible rfl
                              rotate_left
                              · simp only [Act.put, List.setIfInBounds_toArray, List.set_cons_zero, List.set_cons_succ, i64_w, i32_w]
                                rfl
                              refine done_ (done_of HT_.out (by kernel_rfl)) ?_
                              obtain ⟨Ao62, co62, eo62⟩ := Kd.R_slice HO_17.out
                              subst eo62
                              have p258 : 0 ≤ (x18_2 : Int) := of_decide_eq_true (by first | (with_reducible assumption) | assumption)
                              have q258 : x18_2 < (t244.length : Int) := of_decide_eq_true (by first | (with_reducible assumption) | assumption)
                              obtain ⟨ad258, A258_0, c258_0, e258, hx258_0, hl258_0, hi258_0⟩ := at_L4 (Kd.R_reads' HO_17.out).2.2 x18_2 p258 q258
                              cases e258
                              obtain ⟨ce258, hce258, hMe258, hcc258⟩ := Kd.R_get HO_17.out [] x18_2 p258 (by first | exact q258 | exact of_decide_eq_true (by first | (with_reducible assumption) | assumption) | (have e_ := (Kd.R_reads' HO_17.out).1; omega))
                              obtain ⟨ve258_0, rfl, ge258_0⟩ := hMe258
                              have hv258_0 := hcc258 0 _ rfl
                              rw [Nat.add_zero, show ((Kd.slice 29 k29)).sz = 1 from rfl, Nat.mul_one] at hv258_0
                              replace hv258_0 := Option.some.inj (hv258_0.symm.trans hx258_0)
                              rw [hv258_0] at ge258_0
                              have HL258_0 := Aside0.mk (show Kd.R k29 29 _ _ _ _ (rd_L4 t244 x18_2) from ge258_0)
                              clear hv258_0 ge258_0
                              clear hcc258 hce258
                              have HR258_0 := Aside0.mk hi258_0
                              have HC258_0 := Aside0.mk hl258_0
                              clear hi258_0 hl258_0
                              replace p258 := eq_true p258
                              replace q258 := eq_true q258
                              obtain ⟨Ao63, co63, eo63⟩ := Kd.R_slice HO257.out
                              subst eo63
                              try go_wp2_with (first | ((with_reducible refine gate_callee (f := 25) rfl ?_); refine goesL_ (some 108) rfl rfl Try.func25 (by kernel_rfl) rfl #[.slice Ao63 t254.length co63, .slice A258_0 (rd_L4 t244 x18_2).length c258_0] rfl (by (try simp only [List.map_toArray, List.map_cons, List.map_nil]); first | done | rfl | (simp only [List.length_drop, List.length_take]; rfl)) ?_; (with_reducible refine (sextonref23_SameRow.calls kj40 _ _ t254 _ _ (rd_L4 t244 x18_2) true _ ?side1 ?side2 ?side3 ?side4 A56.out).mono ?_); (case side1 => repeat (first | exact (Kd.R_reads' HO257.out).2.2 | (with_reducible refine Kd.C_alloc ?_ _) | (with_reducible refine Kd.C_drewN ?_ _) | (with_reducible refine Kd.C_drew ?_))); (case side2 => exact (Kd.R_reads' HO257.out).2.1); (case side3 => repeat (first | exact (by repeat (first | (with_reducible exact HR258_0.out) | (with_reducible refine Kd.C_alloc ?_ _) | (with_reducible refine Kd.C_drewN ?_ _) | (with_reducible refine Kd.C_drew ?_) | exact HR258_0.out)) | (with_reducible refine Kd.C_alloc ?_ _) | (with_reducible refine Kd.C_drewN ?_ _) | (with_reducible refine Kd.C_drew ?_))); (case side4 => exact HC258_0.out); rintro e w64 ⟨rfl, hb⟩; refine ⟨_, rfl, ?_⟩; have n0_ := Aside0.mk (Kd.R_below (by (with_reducible repeat (first | apply Kd.R_alloc | apply Kd.R_drewN | apply Kd.R_drew)); exact HO_11.out) hb); have n1_ := Aside0.mk (Kd.R_below (by (with_reducible repeat (first | apply Kd.R_alloc | apply Kd.R_drewN | apply Kd.R_drew)); exact HO_13.out) hb); have n2_ := Aside0.mk (Kd.R_below (by (with_reducible repeat (first | apply Kd.R_alloc | apply Kd.R_drewN | apply Kd.R_drew)); exact HO_15.out) hb); have n3_ := Aside0.mk (Kd.R_below (by (with_reducible repeat (first | apply Kd.R_alloc | apply Kd.R_drewN | apply Kd.R_drew)); exact HO_16.out) hb); have n4_ := Aside0.mk (Kd.R_below (by (with_reducible repeat (first | apply Kd.R_alloc | apply Kd.R_drewN | apply Kd.R_drew)); exact HO_17.out) hb); have n5_ := Aside0.mk (Kd.R_below (by (with_reducible repeat (first | apply Kd.R_alloc | apply Kd.R_drewN | apply Kd.R_drew)); exact HL252_0.out) hb); have n6_ := Aside0.mk (Kd.R_below (by (with_reducible repeat (first | apply Kd.R_alloc | apply Kd.R_drewN | apply Kd.R_drew)); exact HL253_0.out) hb); have n7_ := Aside0.mk (Kd.R_below (by (with_reducible repeat (first | apply Kd.R_alloc | apply Kd.R_drewN | apply Kd.R_drew)); exact HO257.out) hb); have n8_ := Aside0.mk (Kd.R_below (by (with_reducible repeat (first | apply Kd.R_alloc | apply Kd.R_drewN | apply Kd.R_drew)); exact HL258_0.out) hb); have n9_ := Aside0.mk (Kd.C_below (by repeat (first | (with_reducible exact HR252_0.out) | (with_reducible refine Kd.C_alloc ?_ _) | (with_reducible refine Kd.C_drewN ?_ _) | (with_reducible refine Kd.C_drew ?_) | exact HR252_0.out)) hb); have n10_ := Aside0.mk (Kd.C_below (by repeat (first | (with_reducible exact HR253_0.out) | (with_reducible refine Kd.C_alloc ?_ _) | (with_reducible refine Kd.C_drewN ?_ _) | (with_reducible refine Kd.C_drew ?_) | exact HR253_0.out)) hb); have n11_ := Aside0.mk (Kd.C_below (by repeat (first | (with_reducible exact HR258_0.out) | (with_reducible refine Kd.C_alloc ?_ _) | (with_reducible refine Kd.C_drewN ?_ _) | (with_reducible refine Kd.C_drew ?_) | exact HR258_0.out)) hb); have n12_ := Aside0.mk (below_step (by repeat (first | (with_reducible first | exact HB.out | apply below_alloc | apply pw_below_drewN | apply below_drew1) | exact HB.out)) hb); clear HO_11; clear HO_13; clear HO_15; clear HO_16; clear HO_17; clear HL252_0; clear HL253_0; clear HO257; clear HL258_0; clear HR252_0; clear HR253_0; clear HR258_0; clear HB; have HO_11 := n0_; have HO_13 := n1_; have HO_15 := n2_; have HO_16 := n3_; have HO_17 := n4_; have HL252_0 := n5_; have HL253_0 := n6_; have HO257 := n7_; have HL258_0 := n8_; have HR252_0 := n9_; have HR253_0 := n10_; have HR258_0 := n11_; have HB := n12_; clear n0_ n1_ n2_ n3_ n4_ n5_ n6_ n7_ n8_ n9_ n10_ n11_ n12_; (try clear hb); (try clear hb2); (try clear hk); (try clear hi)))
                              go_roundg kj40
                              case measure => have := HJ5.out; have := HK2.out; have := HJ40.out; omega
                              case rel => exact ⟨(wrap64 (x18_2 + 1)), (by first | rfl | (simp; done) | (simp [*]; done)), H', ⟨by have := HJ5.out; have := HK2.out; have := HJ40.out; omega⟩, ⟨by (with_reducible repeat (first | apply Kd.R_alloc | apply Kd.R_drewN | apply Kd.R_drew)); exact Kd.R_mono HO_11.out (fun _ hk => hk.1)⟩, ⟨by (with_reducible repeat (first | apply Kd.R_alloc | apply Kd.R_drewN | apply Kd.R_drew)); exact Kd.R_mono HO_13.out (fun _ hk => hk.1)⟩, ⟨by (with_reducible repeat (first | apply Kd.R_alloc | apply Kd.R_drewN | apply Kd.R_drew)); exact Kd.R_mono HO_15.out (fun _ hk => ⟨hk.1.1, ⟨hk.1.2.1, ⟨hk.1.2.2.1, hk.1.2.2.2⟩⟩⟩)⟩, ⟨by (with_reducible repeat (first | apply Kd.R_alloc | apply Kd.R_drewN | apply Kd.R_drew)); exact Kd.R_mono HO_16.out (fun _ hk => ⟨hk.1.1, ⟨hk.1.2.1, ⟨hk.1.2.2.1, hk.1.2.2.2⟩⟩⟩)⟩, ⟨by (with_reducible repeat (first | apply Kd.R_alloc | apply Kd.R_drewN | apply Kd.R_drew)); exact Kd.R_mono HO_17.out (fun _ hk => ⟨hk.1.1, ⟨hk.1.2.1, ⟨hk.1.2.2.1, hk.1.2.2.2⟩⟩⟩)⟩, ⟨by repeat (first | (with_reducible first | exact HB.out | apply below_alloc | apply pw_below_drewN | apply below_drew1) | exact HB.out)⟩⟩
                            · replace c57 := Bool.eq_false_iff.mpr c57
                              subst c57
                              have H1 : (some false) = some r := by rw [if_neg (show ¬ (false = true) by decide)] at H; exact H
                              exact absurd (H1.trans (congrArg some HRT.out)) (by decide)
                          · rw [if_neg c55] at H
                            exact absurd H (by simp)
                        · rw [if_neg c53] at H
                          exact absurd H (by simp)
                      · rw [if_neg c52] at H
                        exact absurd H (by simp)
                    · rw [if_neg c51] at H
                      exact absurd H (by simp)
            · rw [if_neg c40] at H
              have c40b0 : decide (x18_2 < a4) = false := decide_eq_false c40
              clear c40
              replace H := Option.bind_eq_some_iff.mp H
              obtain ⟨t247, A720, H⟩ := H
              replace H : (if t247 = true then (if t225 = 0 then ((net_Cut.f t224 a2 a3).bind fun t248 => ((sextonref23_SameRow.f k2 t248 t234).bind fun t251 => (some t251))) else (some false)) else (some false)) = some r := H
              have A72 := Aside0.mk A720
              clear A720
              by_cases c73 : t247 = true
              · subst c73
                have H1 : (if t225 = 0 then ((net_Cut.f t224 a2 a3).bind fun t248 => ((sextonref23_SameRow.f k2 t248 t234).bind fun t251 => (some t251))) else (some false)) = some r := by rw [if_pos rfl] at H; exact H
                clear H
                have H := H1
                clear H1
                by_cases c74 : t225 = 0
                · rw [if_pos c74] at H
                  have c74b0 : (t225 == 0) = true := beq_iff_eq.mpr c74
                  have c74b1 : (t225 != 0) = false := bne_eq_false_iff_eq.mpr c74
                  clear c74
                  replace H := Option.bind_eq_some_iff.mp H
                  obtain ⟨t248, A750, H⟩ := H
                  replace H : ((sextonref23_SameRow.f k2 t248 t234).bind fun t251 => (some t251)) = some r := H
                  have A75 := Aside0.mk A750
                  clear A750
                  replace H := Option.bind_eq_some_iff.mp H
                  obtain ⟨t251, A760, H⟩ := H
                  replace H : (some t251) = some r := H
                  have A76 := Aside0.mk A760
                  clear A760
                  obtain rfl := Option.some.inj H
                  go_wp2_with (first | ((with_reducible refine gate_callee (f := 29) rfl ?_); refine goesL_ (some 110) rfl rfl Try.func29 (by kernel_rfl) rfl #[] rfl (by (try simp only [List.map_toArray, List.map_cons, List.map_nil]); first | done | rfl | (simp only [List.length_drop, List.length_take]; rfl)) ?_; (with_reducible refine (sextonlaw25_carried.calls  true _ A72.out).mono ?_); rintro e w77 ⟨rfl, hb⟩; refine ⟨_, rfl, ?_⟩; have n0_ := Aside0.mk (Kd.R_below (by (with_reducible repeat (first | apply Kd.R_alloc | apply Kd.R_drewN | apply Kd.R_drew)); exact HO_11.out) hb); have n1_ := Aside0.mk (Kd.R_below (by (with_reducible repeat (first | apply Kd.R_alloc | apply Kd.R_drewN | apply Kd.R_drew)); exact HO_13.out) hb); have n2_ := Aside0.mk (Kd.R_below (by (with_reducible repeat (first | apply Kd.R_alloc | apply Kd.R_drewN | apply Kd.R_drew)); exact HO_15.out) hb); have n3_ := Aside0.mk (Kd.R_below (by (with_reducible repeat (first | apply Kd.R_alloc | apply Kd.R_drewN | apply Kd.R_drew)); exact HO_16.out) hb); have n4_ := Aside0.mk (Kd.R_below (by (with_reducible repeat (first | apply Kd.R_alloc | apply Kd.R_drewN | apply Kd.R_drew)); exact HO_17.out) hb); have n5_ := Aside0.mk (below_step (by repeat (first | (with_reducible first | exact HB.out | apply below_alloc | apply pw_below_drewN | apply below_drew1) | exact HB.out)) hb); clear HO_11; clear HO_13; clear HO_15; clear HO_16; clear HO_17; clear HB; have HO_11 := n0_; have HO_13 := n1_; have HO_15 := n2_; have HO_16 := n3_; have HO_17 := n4_; have HB := n5_; clear n0_ n1_ n2_ n3_ n4_ n5_; (try clear hb); (try clear hb2); (try clear hk); (try clear hi)) | (go_at_call 23; (with_reducible refine (net_Cut.calls _ _ t224 a2 a3 t248 _ ?side1 ?side2 A75.out).mono ?_); (case side1 => repeat (first | exact (Kd.R_reads' HO_11.out).2.2 | (with_reducible refine Kd.C_alloc ?_ _) | (with_reducible refine Kd.C_drewN ?_ _) | (with_reducible refine Kd.C_drew ?_))); (case side2 => exact (Kd.R_reads' HO_11.out).2.1); rintro e w78 ⟨v249, rfl, ho0, hb⟩; have n0_ := Aside0.mk (Kd.R_elder' (by (with_reducible repeat (first | apply Kd.R_alloc | apply Kd.R_drewN | apply Kd.R_drew)); exact HO_11.out) (Kd.R_base ho0) hb); have n1_ := Aside0.mk (Kd.R_elder' (by (with_reducible repeat (first | apply Kd.R_alloc | apply Kd.R_drewN | apply Kd.R_drew)); exact HO_13.out) (Kd.R_base ho0) hb); have n2_ := Aside0.mk (Kd.R_elder' (by (with_reducible repeat (first | apply Kd.R_alloc | apply Kd.R_drewN | apply Kd.R_drew)); exact HO_15.out) (Kd.R_base ho0) hb); have n3_ := Aside0.mk (Kd.R_elder' (by (with_reducible repeat (first | apply Kd.R_alloc | apply Kd.R_drewN | apply Kd.R_drew)); exact HO_16.out) (Kd.R_base ho0) hb); have n4_ := Aside0.mk (Kd.R_elder' (by (with_reducible repeat (first | apply Kd.R_alloc | apply Kd.R_drewN | apply Kd.R_drew)); exact HO_17.out) (Kd.R_base ho0) hb); have n5_ := Aside0.mk (Kd.R_lower (Kd.R_new' (Kd.R_new' ho0 (Kd.R_lt (by (with_reducible repeat (first | apply Kd.R_alloc | apply Kd.R_drewN | apply Kd.R_drew)); exact HO_11.out))) (Kd.R_lt (by (with_reducible repeat (first | apply Kd.R_alloc | apply Kd.R_drewN | apply Kd.R_drew)); exact HO_13.out))) (below_size (by repeat (first | (with_reducible first | exact HB.out | apply below_alloc | apply pw_below_drewN | apply below_drew1) | exact HB.out)))); have n6_ := Aside0.mk (below_step (by repeat (first | (with_reducible first | exact HB.out | apply below_alloc | apply pw_below_drewN | apply below_drew1) | exact HB.out)) hb); clear HO_11; clear HO_13; clear HO_15; clear HO_16; clear HO_17; clear HB; have HO_11 := n0_; have HO_13 := n1_; have HO_15 := n2_; have HO_16 := n3_; have HO_17 := n4_; have HO250 := n5_; have HB := n6_; clear n0_ n1_ n2_ n3_ n4_ n5_ n6_; (try clear hb); (try clear hb2); (try clear hk); (try clear hi); (try clear ho0); obtain ⟨Ao79, co79, eo79⟩ := Kd.R_slice HO250.out; subst eo79; obtain ⟨Ao80, co80, eo80⟩ := Kd.R_slice HO_13.out; subst eo80) | (go_at_call 25; (with_reducible refine (sextonref23_SameRow.calls k2 _ _ t248 _ _ t234 t251 _ ?side1 ?side2 ?side3 ?side4 A76.out).mono ?_); (case side1 => repeat (first | exact (Kd.R_reads' HO250.out).2.2 | (with_reducible refine Kd.C_alloc ?_ _) | (with_reducible refine Kd.C_drewN ?_ _) | (with_reducible refine Kd.C_drew ?_))); (case side2 => exact (Kd.R_reads' HO250.out).2.1); (case side3 => repeat (first | exact (Kd.R_reads' HO_13.out).2.2 | (with_reducible refine Kd.C_alloc ?_ _) | (with_reducible refine Kd.C_drewN ?_ _) | (with_reducible refine Kd.C_drew ?_))); (case side4 => exact (Kd.R_reads' HO_13.out).2.1); rintro e w81 ⟨rfl, hb⟩; have n0_ := Aside0.mk (Kd.R_below (by (with_reducible repeat (first | apply Kd.R_alloc | apply Kd.R_drewN | apply Kd.R_drew)); exact HO_11.out) hb); have n1_ := Aside0.mk (Kd.R_below (by (with_reducible repeat (first | apply Kd.R_alloc | apply Kd.R_drewN | apply Kd.R_drew)); exact HO_13.out) hb); have n2_ := Aside0.mk (Kd.R_below (by (with_reducible repeat (first | apply Kd.R_alloc | apply Kd.R_drewN | apply Kd.R_drew)); exact HO_15.out) hb); have n3_ := Aside0.mk (Kd.R_below (by (with_reducible repeat (first | apply Kd.R_alloc | apply Kd.R_drewN | apply Kd.R_drew)); exact HO_16.out) hb); have n4_ := Aside0.mk (Kd.R_below (by (with_reducible repeat (first | apply Kd.R_alloc | apply Kd.R_drewN | apply Kd.R_drew)); exact HO_17.out) hb); have n5_ := Aside0.mk (Kd.R_below (by (with_reducible repeat (first | apply Kd.R_alloc | apply Kd.R_drewN | apply Kd.R_drew)); exact HO250.out) hb); have n6_ := Aside0.mk (below_step (by repeat (first | (with_reducible first | exact HB.out | apply below_alloc | apply pw_below_drewN | apply below_drew1) | exact HB.out)) hb); clear HO_11; clear HO_13; clear HO_15; clear HO_16; clear HO_17; clear HO250; clear HB; have HO_11 := n0_; have HO_13 := n1_; have HO_15 := n2_; have HO_16 := n3_; have HO_17 := n4_; have HO250 := n5_; have HB := n6_; clear n0_ n1_ n2_ n3_ n4_ n5_ n6_; (try clear hb); (try clear hb2); (try clear hk); (try clear hi)))
                  go_ret
                  exact ⟨by first | rfl | (simp [errW_none, errW_some] <;> rfl) | (simp [*, errW_none, errW_some] <;> rfl), by repeat (first | (with_reducible first | exact HB.out | apply below_alloc | apply pw_below_drewN | apply below_drew1) | exact HB.out)⟩
                · rw [if_neg c74] at H
                  exact absurd (H.trans (congrArg some HRT.out)) (by decide)
              · replace c73 := Bool.eq_false_iff.mpr c73
                subst c73
                have H1 : (some false) = some r := by rw [if_neg (show ¬ (false = true) by decide)] at H; exact H
                exact absurd (H1.trans (congrArg some HRT.out)) (by decide)

end Go.Proofs.Ytfejidinfcmfjaa.P
/-
  The plain statement of NetParts: what is cut of two rows, one behind the other, is what is cut of each; so it is with what is split.
-/
namespace Go.Proofs.Ytfejidinfcmfjaa.Pure
open Go.RowKit Go.Proofs Go.Proofs.CodecPlain Go.Proofs.YtfejidinfcmfjaaW.PrintWords Go.Proofs.YtfejidinfcmfjaaW.PrintLast Go.Proofs.Ytfejidinfcmfjaa.P

theorem put_small (a b : List S29) (h : a.length + b.length ≤ 200) (ha : ∀ x ∈ a, x.f7.length ≤ 80) (hb : ∀ x ∈ b, x.f7.length ≤ 80) : net_Put.f a b = some (a ++ b, 0) := by
  have hm : manyM a.length b.length = b.length := by show min b.length (200 - a.length) = b.length; omega
  unfold net_Put.f
  rw [if_pos ⟨by omega, by omega, fun x h => Nat.le_trans (ha x h) (by omega), fun x h => Nat.le_trans (hb x h) (by omega)⟩, hm, List.take_length, Nat.sub_self]
  rfl
theorem cut_f (a : List S29) (h : a.length ≤ 1000) (ha : ∀ x ∈ a, x.f7.length ≤ 80) (p q : Int) : net_Cut.f a p q = some (a.filter (fun x => !cutP p q x)) := by
  unfold net_Cut.f
  rw [if_pos ⟨by omega, fun x h => Nat.le_trans (ha x h) (by omega)⟩]
/-- What goes to node i. -/
def toM (a : List S29) (i : Nat) : List S29 := a.filter (fun x => x.f2 == (i : Int))
theorem split_f (a : List S29) (h : a.length ≤ 1000) (ha : ∀ x ∈ a, x.f7.length ≤ 80) (n : Nat) (h1 : 1 ≤ n) (h7 : n ≤ 7) : net_Split.f a (n : Int) = some ((List.range n).map (toM a)) := by
  unfold net_Split.f splitM
  rw [if_pos ⟨by omega, fun x h => Nat.le_trans (ha x h) (by omega)⟩, if_neg (by omega), Int.toNat_natCast]
  rfl
theorem rd_to (a : List S29) (n i : Nat) (h : i < n) : rd_L4 ((List.range n).map (toM a)) (i : Int) = toM a i := by
  simp [rd_L4, List.getD_eq_getElem?_getD, h]
theorem sub_small {a : List S29} (p : S29 → Bool) (ha : ∀ x ∈ a, x.f7.length ≤ 80) : ∀ x ∈ a.filter p, x.f7.length ≤ 80 := fun x hx => ha x (List.mem_filter.1 hx).1
theorem row80 (l : List S29) (hl : l.length ≤ 1000) (hx : ∀ x ∈ l, x.f7.length ≤ 80) : Ev (fun r => sextonref23_SameRow.f r l l) true := row_yes l (by omega) (fun x h => Nat.le_trans (hx x h) (by omega))

theorem parts_l0 (a b : List S29) (hab : a.length + b.length ≤ 200) (ha : ∀ x ∈ a, x.f7.length ≤ 80) (hb : ∀ x ∈ b, x.f7.length ≤ 80) (p q : Int) (n : Nat) (h7 : n ≤ 7) (d : Nat) : ∀ i : Nat, i + d = n →
    Ev (fun k => sextonlaw25_NetParts.l0 k p q (n : Int) (a ++ b) 0 ((a.filter (fun x => !cutP p q x)) ++ (b.filter (fun x => !cutP p q x))) ((List.range n).map (toM a)) ((List.range n).map (toM b)) ((List.range n).map (toM (a ++ b))) (i : Int)) true := by
  have hx : ∀ x ∈ a ++ b, x.f7.length ≤ 80 := fun x h => (List.mem_append.1 h).elim (ha x) (hb x)
  have hl : (a ++ b).length ≤ 200 := by rw [List.length_append]; exact hab
  have lenm : ∀ c : List S29, ((List.range n).map (toM c)).length = n := fun c => by simp
  have lenf : ∀ (c : List S29) (r : S29 → Bool), (c.filter r).length ≤ c.length := fun c r => List.length_filter_le _ _
  induction d with
  | zero =>
    intro i hi
    refine Ev.step (f := fun k => (sextonref23_SameRow.f k ((a ++ b).filter (fun x => !cutP p q x)) ((a ++ b).filter (fun x => !cutP p q x))).bind fun t => some t) (fun k => ?_) ?_
    · simp only [sextonlaw25_NetParts.l0, sextonlaw25_carried.f]
      rw [if_neg (by omega), Option.bind_some, if_pos rfl, if_pos trivial, cut_f _ (by omega) hx, Option.bind_some, List.filter_append]
    · exact Ev.bind (row80 _ (Nat.le_trans (lenf _ _) (by omega)) (sub_small _ hx)) (Ev.now _)
  | succ d ih =>
    intro i hi
    have hlt : i < n := by omega
    have hput : net_Put.f (toM a i) (toM b i) = some (toM (a ++ b) i, 0) := by
      unfold toM
      rw [put_small _ _ (by have := lenf a (fun x => x.f2 == (i : Int)); have := lenf b (fun x => x.f2 == (i : Int)); omega) (sub_small _ ha) (sub_small _ hb), List.filter_append]
    refine Ev.step (f := fun k => sextonlaw25_NetParts.j2 k p q (n : Int) (a ++ b) 0 ((a.filter (fun x => !cutP p q x)) ++ (b.filter (fun x => !cutP p q x))) ((List.range n).map (toM a)) ((List.range n).map (toM b)) ((List.range n).map (toM (a ++ b))) (i : Int) false) (fun k => ?_) ?_
    · simp only [sextonlaw25_NetParts.l0]
      rw [if_pos (by omega), if_neg (by rw [lenm]; omega), if_neg (by rw [lenm]; omega), decide_eq_false (by rw [lenm]; omega)]
    · refine Ev.step (f := fun k => (sextonref23_SameRow.f k (toM (a ++ b) i) (toM (a ++ b) i)).bind fun t => if t = true then sextonlaw25_NetParts.l0 k p q (n : Int) (a ++ b) 0 ((a.filter (fun x => !cutP p q x)) ++ (b.filter (fun x => !cutP p q x))) ((List.range n).map (toM a)) ((List.range n).map (toM b)) ((List.range n).map (toM (a ++ b))) ((i + 1 : Nat) : Int) else some false) (fun k => ?_) ?_
      · simp only [sextonlaw25_NetParts.j2]
        rw [if_neg (by decide), if_pos (by omega), if_pos (by rw [lenm]; omega), if_pos (by rw [lenm]; omega), rd_to a n i hlt, rd_to b n i hlt, rd_to (a ++ b) n i hlt, hput, Option.bind_some, if_pos (by rw [lenm]; omega), wrap_id (by omega) (by omega)]
        rfl
      · refine Ev.bind (row80 _ (Nat.le_trans (lenf _ _) (by omega)) (sub_small _ hx)) ?_
        exact Ev.congr (fun k => by rw [if_pos rfl]) (ih (i + 1) (by omega))
theorem NetParts (l0 : (List S29)) (l1 : (List S29)) (a2 : Int) (a3 : Int) (a4 : Int) {ok0 : Prop} (h0 : ok0) {ok1 : Prop} (h1 : ok1) {ok2 : Prop} (h2 : ok2) {ok3 : Prop} (h3 : ok3) {ok4 : Prop} (h4 : ok4) :
    ∃ k, sextonlaw25_NetParts.f k l0 l1 a2 a3 a4 = some true := by
  obtain ⟨b, hb, hs⟩ := big25 l0
  obtain ⟨c, hc, ht⟩ := big25 l1
  have yes : Ev (fun k => sextonlaw25_NetParts.j0 k l0 l1 a2 a3 a4 true) true := Ev.step (f := fun _ => some true) (fun k => by simp only [sextonlaw25_NetParts.j0]; rw [if_pos trivial]) (Ev.now _)
  have key : Ev (fun k => sextonlaw25_NetParts.f k l0 l1 a2 a3 a4) true := by
    refine Ev.bind hb ?_
    cases b
    rotate_left
    · exact Ev.congr (fun k => by rw [if_pos rfl]) yes
    refine Ev.congr (f := fun k => (sextonref25_Big.f k l1).bind fun t223 => (if t223 = true then (sextonlaw25_NetParts.j0 k l0 l1 a2 a3 a4 true) else (if (wrap64 ((l0.length : Int) + (l1.length : Int))) > 200 then (sextonlaw25_NetParts.j0 k l0 l1 a2 a3 a4 true) else (if a4 < 1 then (sextonlaw25_NetParts.j0 k l0 l1 a2 a3 a4 true) else (sextonlaw25_NetParts.j0 k l0 l1 a2 a3 a4 (decide (a4 > 7))))))) (fun k => by rw [if_neg (by decide)]) ?_
    refine Ev.bind hc ?_
    cases c
    rotate_left
    · exact Ev.congr (fun k => by rw [if_pos rfl]) yes
    obtain ⟨hl, hx⟩ := hs rfl
    obtain ⟨hm, hy⟩ := ht rfl
    have hw : wrap64 ((l0.length : Int) + (l1.length : Int)) = (l0.length : Int) + (l1.length : Int) := wrap_id (by omega) (by omega)
    by_cases g1 : (l0.length : Int) + (l1.length : Int) > 200
    · exact Ev.congr (fun k => by rw [if_neg (by decide), hw, if_pos g1]) yes
    by_cases g2 : a4 < 1
    · exact Ev.congr (fun k => by rw [if_neg (by decide), hw, if_neg g1, if_pos g2]) yes
    by_cases g3 : a4 > 7
    · exact Ev.congr (fun k => by rw [if_neg (by decide), hw, if_neg g1, if_neg g2, decide_eq_true g3]) yes
    refine Ev.congr (f := fun k => sextonlaw25_NetParts.j0 k l0 l1 a2 a3 a4 false) (fun k => by rw [if_neg (by decide), hw, if_neg g1, if_neg g2, decide_eq_false g3]) ?_
    obtain ⟨n, rfl⟩ : ∃ n : Nat, a4 = (n : Int) := ⟨a4.toNat, by omega⟩
    have hxy : ∀ x ∈ l0 ++ l1, x.f7.length ≤ 80 := fun x h => (List.mem_append.1 h).elim (hx x) (hy x)
    have lenf : ∀ (c : List S29) (r : S29 → Bool), (c.filter r).length ≤ c.length := fun c r => List.length_filter_le _ _
    refine Ev.step (f := fun k => sextonlaw25_NetParts.l0 k a2 a3 (n : Int) (l0 ++ l1) 0 ((l0.filter (fun x => !cutP a2 a3 x)) ++ (l1.filter (fun x => !cutP a2 a3 x))) ((List.range n).map (toM l0)) ((List.range n).map (toM l1)) ((List.range n).map (toM (l0 ++ l1))) ((0 : Nat) : Int)) (fun k => ?_) (parts_l0 l0 l1 (by omega) hx hy a2 a3 n (by omega) n 0 (by omega))
    simp only [sextonlaw25_NetParts.j0]
    rw [if_neg (by decide), put_small l0 l1 (by omega) hx hy, Option.bind_some, cut_f l0 (by omega) hx, Option.bind_some, cut_f l1 (by omega) hy, Option.bind_some, put_small _ _ (by have := lenf l0 (fun x => !cutP a2 a3 x); have := lenf l1 (fun x => !cutP a2 a3 x); omega) (sub_small _ hx) (sub_small _ hy), Option.bind_some, split_f l0 (by omega) hx n (by omega) (by omega), Option.bind_some, split_f l1 (by omega) hy n (by omega) (by omega), Option.bind_some, split_f (l0 ++ l1) (by rw [List.length_append]; omega) hxy n (by omega) (by omega), Option.bind_some]
    rfl
  obtain ⟨K, e⟩ := key
  exact ⟨K, e K (Nat.le_refl _)⟩
end Go.Proofs.Ytfejidinfcmfjaa.Pure
