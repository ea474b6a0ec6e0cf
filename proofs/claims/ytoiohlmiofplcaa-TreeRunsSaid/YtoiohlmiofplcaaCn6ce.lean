/-
  Texts that the claims of this chapter share, joined.
-/
import Derived.Test.YtoiohlmiofplcaaPx0
import Derived.Test.YtoiohlmiofplcaaCn6cd
set_option linter.unusedVariables false
set_option linter.unusedSimpArgs false
-- Written by a program of this session (xprint.py) over the kit's print.py.
namespace Go.Proofs.Ytoiohlmiofplcaa.P
open Go.RowKit Go.Proofs.YtoiohlmiofplcaaW.PrintWords Go.Proofs.YtoiohlmiofplcaaW.PrintLast Go.Proofs.YtoiohlmiofplcaaW.PrintMore
attribute [local go_sem] max2_int min2_int max_two min_two max_three min_three max_four min_four   -- for this text's walks alone
set_option linter.unusedVariables false
set_option linter.unusedSimpArgs false

/-! ### sextonref10_Big: function 30 -/
mutual
def sextonref10_Big.l0 : Nat → List (S51) → Int → Option (Bool)
  | 0, _, _ => none
  | k + 1, x0, x3 => if x3 < (x0.length : Int) then (sextonref10_Big.j1 k x0 x3 (decide ((x0.length : Int) ≤ 100))) else (sextonref10_Big.j1 k x0 x3 false)
def sextonref10_Big.j1 : Nat → List (S51) → Int → Bool → Option (Bool)
  | 0, _, _, _ => none
  | k + 1, x0, x3, x12 => if x12 = true then (if 0 ≤ x3 then (if x3 < (x0.length : Int) then (if (((rd_T51 x0 x3).f1.f0.f0).size : Int) > 200 then (some true) else (if (((rd_T51 x0 x3).f1.f1).size : Int) > 300 then (some true) else (sextonref10_Big.l0 k x0 (wrap64 (x3 + 1))))) else (none)) else (none)) else (some (decide ((x0.length : Int) > 100)))
end
def sextonref10_Big.f (k : Nat) (l0 : List (S51)) : Option (Bool) := sextonref10_Big.l0 k l0 0
set_option maxHeartbeats 8000000 in
set_option maxRecDepth 100000 in
theorem sextonref10_Big.calls (k : Nat) (A0 : Option Addr) (c0 : Nat) (l0 : List (S51)) (r : Bool) (w : World) (hr0 : Kd.C k51 w A0 l0.length l0) (hc0 : l0.length ≤ c0) (h : sextonref10_Big.f k l0 = some r) :
    Calls Try.prog 30 #[.slice A0 l0.length c0] w fun e w' => e = .returned (.bool r) ∧ Drawn0 w w' := by
  have HR0 := Aside0.mk hr0
  have HC0 := Aside0.mk hc0
  clear hr0 hc0
  have H : (sextonref10_Big.l0 k l0 0) = some r := h
  clear h
  have H' := Aside0.mk H
  clear H
  go_enter Try.func30, Try.ntmps30
  go_wp2
  go_loopg [3] k (fun kq v3 w' => ∃ (x3_1 : Int), v3 = .int .i64 x3_1 ∧ Aside0 (sextonref10_Big.l0 kq l0 x3_1 = some r) ∧ Aside0 (kq ≤ k) ∧ Drawn0 w w')
  case atStart => exact ⟨(0), (by first | rfl | (simp; done) | (simp [*]; done)), H', ⟨Nat.le_refl _⟩, by repeat (first | exact Drawn0.refl _ | apply Drawn0.step)⟩
  case round =>
    clear H'
    obtain ⟨x3_1, rfl, HA, HK1, ⟨m1, rfl⟩⟩ := hrel
    cases gk with
    | zero => exact absurd HA.out (by simp [sextonref10_Big.l0])
    | succ k1 =>
      have H := HA.out
      clear HA
      simp only [sextonref10_Big.l0] at H
      have HC2 := Aside0.mk H
      clear H
      go_upto_region 2 with (fail)
      go_cut [12] (fun v12 wc => ∃ (kq : Nat) (x12_1 : Bool), v12 = .bool x12_1 ∧ Aside0 (sextonref10_Big.j1 kq l0 x3_1 x12_1 = some r) ∧ Aside0 (kq ≤ k1) ∧ Drawn0 w wc)
      case first =>
        have H := HC2.out
        clear HC2
        by_cases c3 : x3_1 < (l0.length : Int)
        · rw [if_pos c3] at H
          have c3b0 : decide (x3_1 < (l0.length : Int)) = true := decide_eq_true c3
          clear c3
          (first | rw [c3b0] | (simp only [i64_w, i32_w]; rw [c3b0]) | skip)
          have H' := Aside0.mk H
          clear H
          go_wp2
          go_meet
          case rel => exact ⟨_, (decide ((l0.length : Int) ≤ 100)), (by first | rfl | (simp; done) | (simp [*]; done)), H', ⟨by have := HK1.out; first | omega | exact Nat.le_refl _⟩, by repeat (first | exact Drawn0.refl _ | apply Drawn0.step)⟩
        · rw [if_neg c3] at H
          have c3b0 : decide (x3_1 < (l0.length : Int)) = false := decide_eq_false c3
          clear c3
          (first | rw [c3b0] | (simp only [i64_w, i32_w]; rw [c3b0]) | skip)
          have H' := Aside0.mk H
          clear H
          go_wp2
          go_meet
          case rel => exact ⟨_, (false), (by first | rfl | (simp; done) | (simp [*]; done)), H', ⟨by have := HK1.out; first | omega | exact Nat.le_refl _⟩, by repeat (first | exact Drawn0.refl _ | apply Drawn0.step)⟩
      case rest =>
        clear HC2
        try clear p2
        try clear c3
        try clear c3b0
        obtain ⟨kq, x12_1, rfl, HA, HJ1, ⟨mc1, rfl⟩⟩ := hcut
        cases kq with
        | zero => exact absurd HA.out (by simp [sextonref10_Big.j1])
        | succ kj1 =>
          have H := HA.out
          clear HA
          simp only [sextonref10_Big.j1] at H
          by_cases c4 : x12_1 = true
          · subst c4
            have H1 : (if 0 ≤ x3_1 then (if x3_1 < (l0.length : Int) then (if (((rd_T51 l0 x3_1).f1.f0.f0).size : Int) > 200 then (some true) else (if (((rd_T51 l0 x3_1).f1.f1).size : Int) > 300 then (some true) else (sextonref10_Big.l0 kj1 l0 (wrap64 (x3_1 + 1))))) else (none)) else (none)) = some r := by rw [if_pos rfl] at H; exact H
            clear H
            have H := H1
            clear H1
            by_cases c5 : 0 ≤ x3_1
            · rw [if_pos c5] at H
              have c5b0 : decide (0 ≤ x3_1) = true := decide_eq_true c5
              clear c5
              by_cases c6 : x3_1 < (l0.length : Int)
              · rw [if_pos c6] at H
                have c6b0 : decide (x3_1 < (l0.length : Int)) = true := decide_eq_true c6
                clear c6
                by_cases c7 : (((rd_T51 l0 x3_1).f1.f0.f0).size : Int) > 200
                · rw [if_pos c7] at H
                  have c7b0 : decide (200 < (((rd_T51 l0 x3_1).f1.f0.f0).size : Int)) = true := decide_eq_true c7
                  have c7b1 : decide (200 < ((rd_T51 l0 x3_1).f1.f0.f0).size) = true := decide_eq_true (by omega)
                  clear c7
                  obtain rfl := Option.some.inj H
                  have p479 : 0 ≤ (x3_1 : Int) := of_decide_eq_true (by first | (with_reducible assumption) | assumption)
                  have q479 : x3_1 < (l0.length : Int) := of_decide_eq_true (by first | (with_reducible assumption) | assumption)
                  obtain ⟨ad479, e479, hx479_0, hx479_1, hx479_2, hx479_3⟩ := at_T51 HR0.out x3_1 p479 q479
                  cases e479
                  replace p479 := eq_true p479
                  replace q479 := eq_true q479
                  go_wp2
                  go_ret
                  exact ⟨by first | rfl | (simp; done) | (simp [*]; done), by repeat (first | exact Drawn0.refl _ | apply Drawn0.step)⟩
                · rw [if_neg c7] at H
                  have c7b0 : decide (200 < (((rd_T51 l0 x3_1).f1.f0.f0).size : Int)) = false := decide_eq_false c7
                  have c7b1 : decide (200 < ((rd_T51 l0 x3_1).f1.f0.f0).size) = false := decide_eq_false (by omega)
                  clear c7
                  by_cases c8 : (((rd_T51 l0 x3_1).f1.f1).size : Int) > 300
                  · rw [if_pos c8] at H
                    have c8b0 : decide (300 < (((rd_T51 l0 x3_1).f1.f1).size : Int)) = true := decide_eq_true c8
                    have c8b1 : decide (300 < ((rd_T51 l0 x3_1).f1.f1).size) = true := decide_eq_true (by omega)
                    clear c8
                    obtain rfl := Option.some.inj H
                    have p479 : 0 ≤ (x3_1 : Int) := of_decide_eq_true (by first | (with_reducible assumption) | assumption)
                    have q479 : x3_1 < (l0.length : Int) := of_decide_eq_true (by first | (with_reducible assumption) | assumption)
                    obtain ⟨ad479, e479, hx479_0, hx479_1, hx479_2, hx479_3⟩ := at_T51 HR0.out x3_1 p479 q479
                    cases e479
                    replace p479 := eq_true p479
                    replace q479 := eq_true q479
                    have p480 : 0 ≤ (x3_1 : Int) := of_decide_eq_true (by first | (with_reducible assumption) | assumption)
                    have q480 : x3_1 < (l0.length : Int) := of_decide_eq_true (by first | (with_reducible assumption) | assumption)
                    obtain ⟨ad480, e480, hx480_0, hx480_1, hx480_2, hx480_3⟩ := at_T51 HR0.out x3_1 p480 q480
                    obtain rfl : ad479 = ad480 := (by injection e480)
                    replace p480 := eq_true p480
                    replace q480 := eq_true q480
                    go_wp2
                    go_ret
                    exact ⟨by first | rfl | (simp; done) | (simp [*]; done), by repeat (first | exact Drawn0.refl _ | apply Drawn0.step)⟩
                  · rw [if_neg c8] at H
                    have c8b0 : decide (300 < (((rd_T51 l0 x3_1).f1.f1).size : Int)) = false := decide_eq_false c8
                    have c8b1 : decide (300 < ((rd_T51 l0 x3_1).f1.f1).size) = false := decide_eq_false (by omega)
                    clear c8
                    have H' := Aside0.mk H
                    clear H
                    have p479 : 0 ≤ (x3_1 : Int) := of_decide_eq_true (by first | (with_reducible assumption) | assumption)
                    have q479 : x3_1 < (l0.length : Int) := of_decide_eq_true (by first | (with_reducible assumption) | assumption)
                    obtain ⟨ad479, e479, hx479_0, hx479_1, hx479_2, hx479_3⟩ := at_T51 HR0.out x3_1 p479 q479
                    cases e479
                    replace p479 := eq_true p479
                    replace q479 := eq_true q479
                    have p480 : 0 ≤ (x3_1 : Int) := of_decide_eq_true (by first | (with_reducible assumption) | assumption)
                    have q480 : x3_1 < (l0.length : Int) := of_decide_eq_true (by first | (with_reducible assumption) | assumption)
                    obtain ⟨ad480, e480, hx480_0, hx480_1, hx480_2, hx480_3⟩ := at_T51 HR0.out x3_1 p480 q480
                    obtain rfl : ad479 = ad480 := (by injection e480)
                    replace p480 := eq_true p480
                    replace q480 := eq_true q480
                    go_wp2
                    go_roundg kj1
                    case measure => have := HK1.out; have := HJ1.out; omega
                    case rel => exact ⟨(wrap64 (x3_1 + 1)), (by first | rfl | (simp; done) | (simp [*]; done)), H', ⟨by have := HK1.out; have := HJ1.out; omega⟩, by repeat (first | exact Drawn0.refl _ | apply Drawn0.step)⟩
              · rw [if_neg c6] at H
                exact absurd H (by simp)
            · rw [if_neg c5] at H
              exact absurd H (by simp)
          · replace c4 := Bool.eq_false_iff.mpr c4
            subst c4
            have H1 : (some (decide ((l0.length : Int) > 100))) = some r := by rw [if_neg (show ¬ (false = true) by decide)] at H; exact H
            clear H
            have H := H1
            clear H1
            obtain rfl := Option.some.inj H
            go_wp2
            go_ret
            exact ⟨by first | rfl | (simp; done) | (simp [*]; done), by repeat (first | exact Drawn0.refl _ | apply Drawn0.step)⟩

end Go.Proofs.Ytoiohlmiofplcaa.P
/-
  TreeFrom (chapter 10) answers true, walked by hand.
-/
namespace Go.Proofs.Ytoiohlmiofplcaa.P
open Go.RowKit Go.Shelf Go.Proofs.YtoiohlmiofplcaaW.PrintWords Go.Proofs.YtoiohlmiofplcaaW.PrintLast Go.Proofs.YtoiohlmiofplcaaW.PrintMore Go.Proofs.Plain

theorem big10_from (l : List S51) (h100 : l.length ≤ 100) : ∀ i : Nat, i ≤ l.length → ∃ r, ∀ k, 2 * (l.length - i) + 2 < k → sextonref10_Big.l0 k l (i : Int) = some r := by
  intro i
  induction hd : l.length - i generalizing i with
  | zero =>
    intro hi
    refine ⟨decide ((l.length : Int) > 100), fun k hk => ?_⟩
    obtain ⟨k, rfl⟩ : ∃ m, k = m + 2 := ⟨k - 2, by omega⟩
    simp only [sextonref10_Big.l0]
    rw [if_neg (by omega)]
    simp only [sextonref10_Big.j1]
    rw [if_neg (by decide)]
  | succ d ih =>
    intro hi
    obtain ⟨r, hr⟩ := ih (i + 1) (by omega) (by omega)
    have step : ∀ k, 2 * (d + 1) + 2 < k → sextonref10_Big.l0 k l (i : Int) = if ((rd_T51 l (i : Int)).f1.f0.f0.size : Int) > 200 then some true else if ((rd_T51 l (i : Int)).f1.f1.size : Int) > 300 then some true else some r := by
      intro k hk
      obtain ⟨k, rfl⟩ : ∃ m, k = m + 2 := ⟨k - 2, by omega⟩
      simp only [sextonref10_Big.l0]
      rw [if_pos (by omega), decide_eq_true (by omega)]
      simp only [sextonref10_Big.j1]
      rw [if_pos trivial, if_pos (by omega), if_pos (by omega), show wrap64 ((i : Int) + 1) = ((i + 1 : Nat) : Int) by unfold wrap64; omega, hr k (by omega)]
    by_cases h1 : ((rd_T51 l (i : Int)).f1.f0.f0.size : Int) > 200
    · exact ⟨true, fun k hk => by rw [step k hk, if_pos h1]⟩
    · by_cases h2 : ((rd_T51 l (i : Int)).f1.f1.size : Int) > 300
      · exact ⟨true, fun k hk => by rw [step k hk, if_neg h1, if_pos h2]⟩
      · exact ⟨r, fun k hk => by rw [step k hk, if_neg h1, if_neg h2]⟩
theorem big10_f (l : List S51) : ∃ r, (∀ k, 300 < k → sextonref10_Big.f k l = some r) ∧ (r = false → l.length ≤ 100) := by
  unfold sextonref10_Big.f
  by_cases h : l.length ≤ 100
  · obtain ⟨r, hr⟩ := big10_from l h 0 (by omega)
    exact ⟨r, fun k hk => hr k (by omega), fun _ => h⟩
  · refine ⟨true, fun k hk => ?_, fun h => by cases h⟩
    obtain ⟨k, rfl⟩ : ∃ m, k = m + 2 := ⟨k - 2, by omega⟩
    simp only [sextonref10_Big.l0]
    rw [if_pos (by omega), decide_eq_false (by omega)]
    simp only [sextonref10_Big.j1]
    rw [if_neg (by decide), decide_eq_true (by omega)]
theorem big10_calls (rb : Bool) (l : List S51) (hb : ∀ k, 300 < k → sextonref10_Big.f k l = some rb) (W : World) (A : Option Addr) (c : Nat) (hr : Kd.C k51 W A l.length l) (hc : l.length ≤ c) : Calls Try.prog 30 #[.slice A l.length c] W fun e w' => e = .returned (.bool rb) ∧ Below W.heap.size W w' := by
  refine (sextonref10_Big.calls 301 A c l rb W hr hc (hb 301 (by omega))).mono ?_
  rintro e w' ⟨rfl, nd, rfl⟩
  exact ⟨rfl, pw_below_drewN (Below.refl _ _) nd⟩
/-- Pairs behind the steps. -/
def doAll (s : List S51) : List S26 := s.foldl (fun l o => doL l o.f0 o.f1) []
theorem doAll_snoc (s : List S51) (o : S51) : doAll (s ++ [o]) = doL (doAll s) o.f0 o.f1 := by simp [doAll]
theorem doAll_take (s : List S51) (i : Nat) (hi : i < s.length) : doAll (s.take (i + 1)) = doL (doAll (s.take i)) s[i].f0 s[i].f1 := by
  rw [List.take_succ_eq_append_getElem hi, doAll_snoc]
theorem doL_ris {l : List S26} (k : Int) (p : S26) (hr : ND.Ris l) (hl : l.length ≤ 1000) : ND.Ris (doL l k p) ∧ (doL l k p).length ≤ l.length + 1 := by
  unfold doL
  split
  · exact ⟨putL_ris hr (by omega), ND.putL_len l p (by omega)⟩
  · split
    · refine ⟨dropL_ris hr (by omega), ?_⟩
      obtain ⟨b, _, _, h1, h2, _⟩ := drop_facts l p.f0 hr (by omega)
      cases b with
      | true => have := h1 rfl; omega
      | false => have := h2 rfl; omega
    · exact ⟨hr, by omega⟩
theorem doAll_ris : ∀ (s : List S51), s.length ≤ 500 → ND.Ris (doAll s) ∧ (doAll s).length ≤ s.length := by
  intro l
  induction h : l.length generalizing l with
  | zero => intro _; rw [List.eq_nil_of_length_eq_zero h]; exact ⟨List.Pairwise.nil, Nat.le_refl _⟩
  | succ n ih =>
    intro hn
    obtain ⟨m, x, rfl⟩ : ∃ m x, l = m ++ [x] := ⟨l.dropLast, l.getLast (by intro e; rw [e] at h; simp at h), (List.dropLast_concat_getLast _).symm⟩
    have hm : m.length = n := by simpa using h
    obtain ⟨h1, h2⟩ := ih m hm (by omega)
    rw [doAll_snoc]
    obtain ⟨h3, h4⟩ := doL_ris x.f0 x.f1 h1 (by omega)
    exact ⟨h3, by omega⟩
theorem from_laws (l : List S26) (k : S24) (n m : Int) (hr : ND.Ris l) (hn : 1 ≤ n) (hm : 1 ≤ m) :
    ((fromV l k n).length : Int) ≤ n ∧ (fromV l k n).length ≤ (fromV l k (n + m)).length ∧ (fromV l k (n + m)).take (fromV l k n).length = fromV l k n ∧
    (((fromV l k n).length : Int) < n → (fromV l k (n + m)).length = (fromV l k n).length) ∧
    (∀ (q : Nat) (hq : q < (fromV l k n).length), (q : Int) = n - 1 → fromV l (fromV l k n)[q].f0 (m + 1) = (fromV l k (n + m)).drop q) := by
  unfold fromV
  obtain ⟨N, hN⟩ : ∃ N : Nat, n = N := ⟨n.toNat, by omega⟩
  obtain ⟨M, hM⟩ : ∃ M : Nat, m = M := ⟨m.toNat, by omega⟩
  subst hN hM
  rw [show ((N : Int) + (M : Int)).toNat = N + M by omega, show ((M : Int) + 1).toNat = M + 1 by omega, Int.toNat_natCast]
  have hF : ∃ P, l = P ++ ND.fromL l k := by
    obtain ⟨A, Mm, C, h⟩ := ND.dec_exists l k
    exact ⟨A, by rw [fromL_dec h]; exact h.eq⟩
  obtain ⟨P, hP⟩ := hF
  generalize ND.fromL l k = F at *
  have e1 : (F.take N).length = min N F.length := List.length_take
  have e2 : (F.take (N + M)).length = min (N + M) F.length := List.length_take
  refine ⟨by omega, by omega, ?_, fun h => by omega, fun q hq hq1 => ?_⟩
  · rw [e1, List.take_take]
    by_cases h : N ≤ F.length
    · rw [show min (min N F.length) (N + M) = N by omega]
    · rw [List.take_of_length_le (by omega), List.take_of_length_le (by omega)]
  · have hqF : q < F.length := by omega
    rw [List.getElem_take]
    have hsp : F = F.take q ++ F[q] :: F.drop (q + 1) := by rw [List.getElem_cons_drop, List.take_append_drop]
    have hl2 : l = (P ++ F.take q) ++ F[q] :: F.drop (q + 1) := by rw [List.append_assoc, ← hsp]; exact hP
    have hfl : ND.fromL l F[q].f0 = F[q] :: F.drop (q + 1) := by
      have hr2 := hr
      rw [hl2] at hr2
      have hlt := (ND.ris_app hr2).2.2
      conv => lhs; rw [hl2]
      rw [ND.fromL_app (fun x hx => hlt x hx _ List.mem_cons_self)]
      unfold ND.fromL
      rw [List.dropWhile_cons, if_neg (by rw [ND.lt_irrefl]; decide)]
    rw [hfl, List.getElem_cons_drop, List.drop_take]
    congr 1
    omega
theorem step_at {w W : World} {A : Option Addr} {l : List S51} (hr : Kd.C k51 w A l.length l) (hW : Below w.heap.size w W) (i : Nat) (hi : i < l.length) : ∃ ad, A = some ad ∧ W.cell? (ad.add (i * 4)) = some (.int .i64 l[i].f0) ∧ W.cell? ⟨(ad.add (i * 4)).block, (ad.add (i * 4)).off + 1, none⟩ = some (.string l[i].f1.f0.f0) ∧ W.cell? ⟨(ad.add (i * 4)).block, (ad.add (i * 4)).off + 2, none⟩ = some (.int .i64 l[i].f1.f0.f1) ∧ W.cell? ⟨(ad.add (i * 4)).block, (ad.add (i * 4)).off + 3, none⟩ = some (.string l[i].f1.f1) := by
  obtain ⟨ad, e, h0, h1, h2, h3⟩ := at_T51 (Kd.C_below hr hW) (i : Int) (by omega) (by omega)
  have hrd : rd_T51 l (i : Int) = l[i] := by simp [rd_T51, List.getD_eq_getElem?_getD, hi]
  rw [hrd, Int.toNat_natCast] at h0 h1 h2 h3
  exact ⟨ad, e, h0, h1, h2, h3⟩
/-! walk -/
/-- Rows that are read, by their lengths. -/
theorem same_len (l : List S26) (n : Nat) (hn : l.length = n) (hl : n ≤ 100000) (W : World) (A0 : Option Addr) (c0 : Nat) (A1 : Option Addr) (c1 : Nat) (h0 : Kd.C k26 W A0 n l) (hc0 : n ≤ c0) (h1 : Kd.C k26 W A1 n l) (hc1 : n ≤ c1) :
    Calls Try.prog 25 #[.slice A0 n c0, .slice A1 n c1] W fun e w' => e = .returned (.bool true) ∧ Below W.heap.size W w' := by
  subst hn
  exact same_yes_calls l hl W A0 c0 A1 c1 h0 hc0 h1 hc1
theorem from_len_calls (l : List S26) (v : Value) (k : S24) (n : Int) (q : Nat) (w : World) (hr : TreeOf w l v) (hl : l.length ≤ 10000) (hq : (fromV l k n).length = q) :
    Calls Try.prog 39 #[v, .agg #[.string k.f0, .int .i64 k.f1], .int .i64 n] w fun e w' => ∃ A c, e = .returned (.slice A q c) ∧ q ≤ c ∧ Kd.C k26 w' A q (fromV l k n) ∧ Below w.heap.size w w' := by
  refine (tree_from_calls l v k n w hr hl).mono ?_
  rintro e w' ⟨v', rfl, ho, hb⟩
  obtain ⟨A, c, rfl, h, hC⟩ := Kd.R_reads ho
  rw [hq] at h hC ⊢
  exact ⟨A, c, rfl, h, hC, hb⟩
theorem pair_at2 {w W : World} {A : Option Addr} {n : Nat} {l : List S26} (hr : Kd.C k26 w A n l) (hn : l.length = n) (hW : Below w.heap.size w W) (i : Nat) (hi : i < l.length) : ∃ ad, A = some ad ∧ W.cell? (ad.add (i * 3)) = some (.string l[i].f0.f0) ∧ W.cell? ⟨(ad.add (i * 3)).block, (ad.add (i * 3)).off + 1, none⟩ = some (.int .i64 l[i].f0.f1) := by
  subst hn
  obtain ⟨ad, e, h0, h1, _⟩ := pair_at hr hW i hi
  exact ⟨ad, e, h0, h1⟩
theorem fromV_len (l : List S26) (k : S24) (n : Int) : (fromV l k n).length ≤ l.length := by
  unfold fromV
  rw [List.length_take]
  have : (ND.fromL l k).length ≤ l.length := (List.dropWhile_sublist _).length_le
  omega
theorem take_C {w : World} {A : Option Addr} {lb la : Nat} {xb xa : List S26} (h : Kd.C k26 w A lb xb) (hlb : lb = xb.length) (hla : la ≤ lb) (e : xb.take la = xa) (hxa : la = xa.length) : Kd.C k26 w A la xa := by
  subst hlb
  have := Kd.C_take (k := k26) (m := la) h hla
  rw [e, ← hxa] at this
  exact this
theorem drop_C {w : World} {A A3 : Option Addr} {lb q c : Nat} {xb : List S26} (h : Kd.C k26 w A lb xb) (hlb : lb = xb.length) (hq : q ≤ lb) (hc : lb ≤ c) (hA : A3 = (if c = q then A else A.map (·.add (q * 3)))) : Kd.C k26 w A3 (lb - q) (xb.drop q) := by
  subst hlb
  have := Kd.C_drop (k := k26) (m := q) h hq hc
  rw [show k26.sz = 3 from rfl, ← hA, List.length_drop] at this
  exact this
def sextonlaw10_TreeFrom.f (_ : List S51) (_ : ByteArray) (_ : Int) (_ : Int) (_ : Int) : Option Bool := some true
set_option maxHeartbeats 16000000 in
set_option maxRecDepth 100000 in
theorem sextonlaw10_TreeFrom.calls (A0 : Option Addr) (c0 : Nat) (l0 : List (S51)) (a1_0 : ByteArray) (a1_1 : Int) (a2 : Int) (a3 : Int) (r : Bool) (w : World) (hr0 : Kd.C k51 w A0 l0.length l0) (hc0 : l0.length ≤ c0) (h : sextonlaw10_TreeFrom.f l0 a1_0 a1_1 a2 a3 = some r) :
    Calls Try.prog 12 #[.slice A0 l0.length c0, .agg #[.string a1_0, .int .i64 a1_1], .int .i64 a2, .int .i64 a3] w fun e w' => e = .returned (.bool r) ∧ Below w.heap.size w w' := by
  obtain rfl : true = r := Option.some.inj h
  clear h
  have hb1 := (Below.refl w.heap.size w).alloc (Nat.le_refl _) (.cells #[.string a1_0, .int .i64 a1_1] 24)
  obtain ⟨w1, hw1⟩ : ∃ w1, w1 = w.alloc (.cells #[.string a1_0, .int .i64 a1_1] 24) := ⟨_, rfl⟩
  have hg1 := blk_new w (.cells #[.string a1_0, .int .i64 a1_1] 24)
  rw [← hw1] at hb1 hg1
  have HB1 := Aside0.mk hb1
  have HG1 := Aside0.mk hg1
  have HR := Aside0.mk (Kd.C_below hr0 hb1)
  obtain ⟨rb, hb, hle⟩ := big10_f l0
  have HBig := Aside0.mk (big10_calls rb l0 hb w1 A0 c0 HR.out hc0)
  have hmx := hr0.2.1
  clear hb hr0 hc0 hb1 hg1
  obtain ⟨n, hn⟩ : ∃ n, n = l0.length := ⟨_, rfl⟩
  have HN := Aside0.mk hn
  rw [← hn] at HBig hmx ⊢
  have hle2 : rb = false → n ≤ 100 := fun h => by rw [hn]; exact hle h
  clear hn hle
  have z := blk2 HG1.out
  cases rb with
  | true =>
    clear hle2
    go_enter Try.func12, Try.ntmps12
    go_wp2_with (first | (go_at_call 30; rw [← hw1]; (with_reducible refine HBig.out.mono ?_); rintro e w3 ⟨rfl, hb⟩; have HB3 := Aside0.mk (HB1.out.trans (hb.mono HB1.out.size)); obtain ⟨y0, y1⟩ := blk2 (blk_below HG1.out hb); clear hb) | fail)
    go_ret
    exact ⟨rfl, HB3.out⟩
  | false =>
    have hl100 := hle2 rfl
    clear hle2
    by_cases c1 : (300 : Int) < (a1_0.size : Int)
    · go_enter Try.func12, Try.ntmps12
      go_wp2_with (first | (go_at_call 30; rw [← hw1]; (with_reducible refine HBig.out.mono ?_); rintro e w3 ⟨rfl, hb⟩; have HB3 := Aside0.mk (HB1.out.trans (hb.mono HB1.out.size)); obtain ⟨y0, y1⟩ := blk2 (blk_below HG1.out hb); clear hb) | fail)
      go_ret
      exact ⟨rfl, HB3.out⟩
    · by_cases c2 : a2 < 1
      · go_enter Try.func12, Try.ntmps12
        go_wp2_with (first | (go_at_call 30; rw [← hw1]; (with_reducible refine HBig.out.mono ?_); rintro e w3 ⟨rfl, hb⟩; have HB3 := Aside0.mk (HB1.out.trans (hb.mono HB1.out.size)); obtain ⟨y0, y1⟩ := blk2 (blk_below HG1.out hb); clear hb) | fail)
        go_ret
        exact ⟨rfl, HB3.out⟩
      · by_cases c3 : a3 < 1
        · go_enter Try.func12, Try.ntmps12
          go_wp2_with (first | (go_at_call 30; rw [← hw1]; (with_reducible refine HBig.out.mono ?_); rintro e w3 ⟨rfl, hb⟩; have HB3 := Aside0.mk (HB1.out.trans (hb.mono HB1.out.size)); obtain ⟨y0, y1⟩ := blk2 (blk_below HG1.out hb); clear hb) | fail)
          go_ret
          exact ⟨rfl, HB3.out⟩
        · by_cases c4 : (200 : Int) < a2
          · go_enter Try.func12, Try.ntmps12
            go_wp2_with (first | (go_at_call 30; rw [← hw1]; (with_reducible refine HBig.out.mono ?_); rintro e w3 ⟨rfl, hb⟩; have HB3 := Aside0.mk (HB1.out.trans (hb.mono HB1.out.size)); obtain ⟨y0, y1⟩ := blk2 (blk_below HG1.out hb); clear hb) | fail)
            go_ret
            exact ⟨rfl, HB3.out⟩
          · by_cases c5 : (200 : Int) < a3
            · go_enter Try.func12, Try.ntmps12
              go_wp2_with (first | (go_at_call 30; rw [← hw1]; (with_reducible refine HBig.out.mono ?_); rintro e w3 ⟨rfl, hb⟩; have HB3 := Aside0.mk (HB1.out.trans (hb.mono HB1.out.size)); obtain ⟨y0, y1⟩ := blk2 (blk_below HG1.out hb); clear hb) | fail)
              go_ret
              exact ⟨rfl, HB3.out⟩
            · go_enter Try.func12, Try.ntmps12
              go_wp2_with (first | (go_at_call 30; rw [← hw1]; (with_reducible refine HBig.out.mono ?_); rintro e w3 ⟨rfl, hb⟩; have HB3 := Aside0.mk hb; obtain ⟨y0, y1⟩ := blk2 (blk_below HG1.out hb); clear hb) | (go_at_call 31; (with_reducible refine (new_calls _).mono ?_); rintro e w5 ⟨v5, rfl, ht, hb⟩; have HT5 := Aside0.mk ht; have HB5 := Aside0.mk (HB3.out.trans (hb.mono HB3.out.size)); clear ht hb) | fail)
              clear HB3 y0 y1 HBig hw1 z
              go_loopw [9, 10] (fun s i wr => ∃ j : Nat, j ≤ n ∧ i = .int .i64 j ∧ Aside0 (TreeOf wr (doAll (l0.take j)) s) ∧ Aside0 (Below w1.heap.size w1 wr))
                (fun _ i _ => n - (intOf i).toNat)
              case atStart => exact ⟨0, Nat.zero_le _, rfl, HT5, HB5⟩
              case round =>
                clear HT5 HB5
                obtain ⟨j, hj, rfl, HT, HB⟩ := hrel
                by_cases hlt : j < n
                · have hltl : j < l0.length := by rw [← HN.out]; exact hlt
                  obtain ⟨ad, hA, x0, x1, x2, x3⟩ := step_at HR.out HB.out j hltl
                  subst hA
                  have hpl := (doAll_ris (l0.take j) (by rw [List.length_take]; omega)).2
                  rw [List.length_take] at hpl
                  have HDo := Aside0.mk (do_calls (doAll (l0.take j)) u9 l0[j].f0 l0[j].f1 wr HT.out (by omega))
                  rw [← doAll_take l0 j hltl] at HDo
                  have hji : (j : Int) < (n : Int) := by omega
                  clear hpl HT
                  generalize l0[j] = p at *
                  go_wp2_with (first | (go_at_call 32; (with_reducible refine HDo.out.mono ?_); rintro e w6 ⟨v6, rfl, ht, hb⟩; have HT6 := Aside0.mk ht; have HB6 := Aside0.mk (HB.out.trans (hb.mono HB.out.size)); clear ht hb) | fail)
                  go_roundw
                  case rel => exact ⟨j + 1, hlt, by go_num, HT6, HB6⟩
                  case measure => simp [intOf]; omega
                · obtain rfl : j = n := by omega
                  have hT := HT.out
                  rw [HN.out, List.take_length] at hT
                  obtain ⟨hri, hpl⟩ := doAll_ris l0 (by have := HN.out; omega)
                  have HTa := Aside0.mk hT
                  have hl := HN.out
                  obtain ⟨f1, f2, f3, f4, f5⟩ := from_laws (doAll l0) ⟨a1_0, a1_1⟩ a2 a3 hri (by omega) (by omega)
                  have hL : (doAll l0).length ≤ 10000 := by omega
                  clear hT hri hpl HT hl
                  generalize doAll l0 = L at *
                  obtain ⟨la, hla⟩ : ∃ la, la = (fromV L ⟨a1_0, a1_1⟩ a2).length := ⟨_, rfl⟩
                  obtain ⟨lb, hlb⟩ : ∃ lb, lb = (fromV L ⟨a1_0, a1_1⟩ (a2 + a3)).length := ⟨_, rfl⟩
                  have HFa := Aside0.mk (fun v W (hT : TreeOf W L v) => from_len_calls L v ⟨a1_0, a1_1⟩ a2 la W hT hL hla.symm)
                  have HFb := Aside0.mk (fun v W (hT : TreeOf W L v) => from_len_calls L v ⟨a1_0, a1_1⟩ (a2 + a3) lb W hT hL hlb.symm)
                  have HFc := Aside0.mk (fun v W (hT : TreeOf W L v) k => tree_from_calls L v k (a3 + 1) W hT hL)
                  have hfb := fromV_len L ⟨a1_0, a1_1⟩ (a2 + a3)
                  rw [← hlb] at hfb
                  generalize hxa : fromV L ⟨a1_0, a1_1⟩ a2 = xa at *
                  generalize hxb : fromV L ⟨a1_0, a1_1⟩ (a2 + a3) = xb at *
                  clear hxa hxb
                  rw [← hla] at f1 f2 f3 f4
                  rw [← hlb] at f2 f4
                  have HLa := Aside0.mk hla
                  have HLb := Aside0.mk hlb
                  have F5 := Aside0.mk f5
                  have F3 := Aside0.mk f3
                  clear f5 f3
                  have hf2 : (la : Int) ≤ (lb : Int) := by omega
                  have hf3 : la ≤ lb := by omega
                  have hla200 : la ≤ 200 := by omega
                  have hlb400 : lb ≤ 10000 := by omega
                  obtain ⟨y0, y1⟩ := blk2 (blk_below HG1.out HB.out)
                  have hn1 : (la : Int) ≤ a2 := f1
                  have HSa := Aside0.mk (fun W A0 c0 A1 c1 h0 hc0 h1 hc1 => same_len xa la hla.symm (by omega) W A0 c0 A1 c1 h0 hc0 h1 hc1)
                  clear hla hlb hlt hj f1
                  by_cases hc : (la : Int) < a2
                  · have HLL := Aside0.mk (f4 hc)
                    clear f4
                    go_wp2_with (first | (go_at_call 39; (with_reducible refine (HFa.out _ _ HTa.out).mono ?_); rintro e w6 ⟨A6, c6, rfl, h6, hC6, hb⟩; have HC6 := Aside0.mk hC6; have HT6 := Aside0.mk (HTa.out.below hb); have HB6 := Aside0.mk (HB.out.trans (hb.mono HB.out.size)); have z0 := pw_cell_below hb y0; have z1 := pw_cell_below hb y1; clear hb hC6; go_wp2_with (first | (go_at_call 39; (with_reducible refine (HFb.out _ _ HT6.out).mono ?_); rintro e w7 ⟨A7, c7, rfl, h7, hC7, hb⟩; have HC7 := Aside0.mk hC7; have HT7 := Aside0.mk (HT6.out.below hb); have HC67 := Aside0.mk (Kd.C_below HC6.out hb); have HB7 := Aside0.mk (HB6.out.trans (hb.mono HB6.out.size)); clear hb hC7; have hac : la ≤ c7 := Nat.le_trans hf3 h7; go_wp2_with (first | (go_at_call 25; (with_reducible refine (HSa.out _ A6 c6 A7 c7 HC67.out h6 (take_C HC7.out HLb.out hf3 F3.out HLa.out) hac).mono ?_); rintro e w8 ⟨rfl, hb⟩; have HB8 := Aside0.mk (HB7.out.trans (hb.mono HB7.out.size)); have HT8 := Aside0.mk (HT7.out.below hb); have HC68 := Aside0.mk (Kd.C_below HC67.out hb); have HC78 := Aside0.mk (Kd.C_below HC7.out hb); clear hb; have hllI : (lb : Int) = (la : Int) := (by have := HLL.out; omega); go_wp2_with (first | (go_at_call 37; (with_reducible refine (grown_calls _).mono ?_); rintro e w9 ⟨rfl, hb⟩; have HB9 := Aside0.mk (HB8.out.trans (hb.mono HB8.out.size)); clear hb) | fail)) | fail)) | fail)) | fail)
                    go_ret
                    exact ⟨rfl, HB1.out.trans (HB9.out.mono HB1.out.size)⟩
                  · obtain ⟨q, hq⟩ : ∃ q : Nat, la = q + 1 := ⟨la - 1, by omega⟩
                    have hq1 : a2 - 1 = (q : Int) := by omega
                    have hq0 : (0 : Int) ≤ (q : Int) := by omega
                    have hq2 : (q : Int) < (la : Int) := by omega
                    have hqx : q < xa.length := by have := HLa.out; omega
                    have hqb : q ≤ lb := by omega
                    have hqbI : (q : Int) ≤ (lb : Int) := by omega
                    obtain ⟨nd, hnd⟩ : ∃ nd, nd = lb - q := ⟨_, rfl⟩
                    obtain ⟨xd0, hxd⟩ : ∃ xd0, xd0 = xb.drop q := ⟨_, rfl⟩
                    have hf5 := F5.out q hqx hq1.symm
                    rw [← hxd] at hf5
                    have hxl : xd0.length = nd := by rw [hxd, List.length_drop, hnd, ← HLb.out]
                    have HFc := Aside0.mk (fun v W (hT : TreeOf W L v) => from_len_calls L v xa[q].f0 (a3 + 1) nd W hT hL (by rw [hf5]; exact hxl))
                    rw [hf5] at HFc
                    have HSd := Aside0.mk (fun W A0 c0 A1 c1 h0 hc0 h1 hc1 => same_len xd0 nd hxl (by omega) W A0 c0 A1 c1 h0 hc0 h1 hc1)
                    have hc2' : ¬ (la : Int) < a2 := hc
                    have HND := Aside0.mk hnd
                    clear f4 hf5 hxl F5 hq hnd
                    go_wp2_with (first | (go_at_call 39; (with_reducible refine (HFa.out _ _ HTa.out).mono ?_); rintro e w6 ⟨A6, c6, rfl, h6, hC6, hb⟩; have HC6 := Aside0.mk hC6; have HT6 := Aside0.mk (HTa.out.below hb); have HB6 := Aside0.mk (HB.out.trans (hb.mono HB.out.size)); have z0 := pw_cell_below hb y0; have z1 := pw_cell_below hb y1; clear hb hC6; go_wp2_with (first | (go_at_call 39; (with_reducible refine (HFb.out _ _ HT6.out).mono ?_); rintro e w7 ⟨A7, c7, rfl, h7, hC7, hb⟩; have HC7 := Aside0.mk hC7; have HT7 := Aside0.mk (HT6.out.below hb); have HC67 := Aside0.mk (Kd.C_below HC6.out hb); have HB7 := Aside0.mk (HB6.out.trans (hb.mono HB6.out.size)); clear hb hC7; have hac : la ≤ c7 := Nat.le_trans hf3 h7; go_wp2_with (first | (go_at_call 25; (with_reducible refine (HSa.out _ A6 c6 A7 c7 HC67.out h6 (take_C HC7.out HLb.out hf3 F3.out HLa.out) hac).mono ?_); rintro e w8 ⟨rfl, hb⟩; have HB8 := Aside0.mk (HB7.out.trans (hb.mono HB7.out.size)); have HT8 := Aside0.mk (HT7.out.below hb); have HC68 := Aside0.mk (Kd.C_below HC67.out hb); have HC78 := Aside0.mk (Kd.C_below HC7.out hb); clear hb; obtain ⟨ad8, hA8, k0, k1⟩ := pair_at2 HC68.out HLa.out.symm (Below.refl _ _) q hqx; subst hA8; have hbc : lb ≤ c7 := h7; obtain ⟨i0, hi0, _, hsz, _⟩ := info_parts info26; have hcut := cut_from (P := Try.prog) 22 26 .i64 Try.underlying22 hi0 3 hsz A7 lb c7 (q : Int) (by omega) (by omega); rw [Int.toNat_natCast] at hcut; obtain ⟨A3, hA3⟩ : ∃ A3, A3 = (if c7 = q then A7 else A7.map (·.add (q * 3))) := ⟨_, rfl⟩; obtain ⟨c3, hc3⟩ : ∃ c3, c3 = c7 - q := ⟨_, rfl⟩; rw [← hA3, ← hc3, ← HND.out] at hcut; have HD8 := Aside0.mk (show Kd.C k26 w8 A3 nd xd0 by rw [hxd, HND.out]; exact drop_C HC78.out HLb.out hqb hbc hA3); have hc3d : nd ≤ c3 := (by have := HND.out; omega); clear hi0 hsz hA3 hc3; go_wp2_with (first | (go_at_call 39; (with_reducible refine (HFc.out _ _ HT8.out).mono ?_); rintro e w9 ⟨A9, c9, rfl, h9, hC9, hb⟩; have HC9 := Aside0.mk hC9; have HD9 := Aside0.mk (Kd.C_below HD8.out hb); have HB9 := Aside0.mk (HB8.out.trans (hb.mono HB8.out.size)); clear hb hC9 k0 k1; go_wp2_with (first | (go_at_call 37; (with_reducible refine (grown_calls _).mono ?_); rintro e w10 ⟨rfl, hb⟩; have HB10 := Aside0.mk (HB9.out.trans (hb.mono HB9.out.size)); have HC10 := Aside0.mk (Kd.C_below HC9.out hb); have HD10 := Aside0.mk (Kd.C_below HD9.out hb); clear hb; go_wp2_with (first | ((with_reducible refine gate_dst (N := 109) rfl ?_); refine Kd.event_run (v := .slice A3 nd c3) (w1 := w10) rfl ?hx ?_; (case hx => (unfold execOp; simp only [Act.eval, Sem.run_bind, Sem.run_pure, Result.andThen_ok]; show ((Sem.run Try.prog (Instr.slice 22 (.slice A7 lb c7) (some (.int .i64 (q : Int))) none none) w10).andThen _) = _; rw [hcut]; rfl))) | (go_at_call 25; (with_reducible refine (HSd.out _ A9 c9 A3 c3 HC10.out h9 HD10.out hc3d).mono ?_); rintro e w11 ⟨rfl, hb⟩; have HB11 := Aside0.mk (HB10.out.trans (hb.mono HB10.out.size)); clear hb) | fail)) | fail)) | fail)) | fail)) | fail)) | fail)
                    go_ret
                    exact ⟨rfl, HB1.out.trans (HB11.out.mono HB1.out.size)⟩
end Go.Proofs.Ytoiohlmiofplcaa.P
