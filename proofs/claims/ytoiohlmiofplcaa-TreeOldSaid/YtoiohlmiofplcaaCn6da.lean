/-
  Texts that the claims of this chapter share, joined.
-/
import Derived.Test.YtoiohlmiofplcaaWWords
import Derived.OwnWalk
import Derived.LoopTactic
import Derived.Shelf.RegionOpen
import Derived.Test.YtoiohlmiofplcaaWMore
import Derived.Test.YtoiohlmiofplcaaProg
import Derived.Test.YtoiohlmiofplcaaPx0
import Derived.Laws.Cover1
import Derived.RangeFuncBox
import Derived.RangeFuncNested
import Derived.Deep.QuietTactic
import Derived.BigQuiet
import Derived.Handy
import Derived.Lib.AppendZeros
import Derived.Deep.RegionHeld3
import Derived.Deep.RegionWith
set_option linter.unusedVariables false
set_option linter.unusedSimpArgs false
/-
  Small plain words: the first place where a predicate holds; a list's element.
-/
namespace Go.Proofs.Plain
open Go.Proofs.YtoiohlmiofplcaaW.PrintWords

/-- The first place at which p holds, or -1. -/
def idx {α : Type} (p : α → Bool) (l : List α) : Int := if l.any p = true then ((l.takeWhile fun x => !p x).length : Int) else -1
theorem idx_none {α : Type} {p : α → Bool} {l : List α} (h : ∀ x ∈ l, p x = false) : idx p l = -1 := by
  unfold idx
  rw [if_neg]
  intro h1
  obtain ⟨x, hx, hp⟩ := List.any_eq_true.1 h1
  rw [h x hx] at hp; cases hp
theorem idx_at {α : Type} {p : α → Bool} {l : List α} {k : Nat} (hk : k < l.length) (h : ∀ x ∈ l.take k, p x = false) (hp : p l[k] = true) : idx p l = (k : Int) := by
  unfold idx
  rw [if_pos (List.any_eq_true.2 ⟨l[k], List.getElem_mem hk, hp⟩)]
  have hl : l = l.take k ++ l[k] :: l.drop (k + 1) := by
    rw [List.getElem_cons_drop, List.take_append_drop]
  have key : ∀ (a : List α) (x : α) (b : List α), (∀ y ∈ a, p y = false) → p x = true → ((a ++ x :: b).takeWhile fun x => !p x).length = a.length := by
    intro a
    induction a with
    | nil => intro x b _ hx; simp [List.takeWhile, hx]
    | cons y a ih =>
      intro x b ha hx
      have h1 := ha y List.mem_cons_self
      simp only [List.cons_append, List.takeWhile, h1, Bool.not_false, List.length_cons]
      rw [ih x b (fun z hz => ha z (List.mem_cons_of_mem _ hz)) hx]
  have := key (l.take k) l[k] (l.drop (k + 1)) h hp
  rw [← hl, List.length_take] at this
  rw [this]
  omega
end Go.Proofs.Plain
/-
  slices.IndexFunc over pairs, at whatever function value that answers a plain predicate, by hand.
-/
namespace Go.Proofs.Ytoiohlmiofplcaa.P
open Go.RowKit Go.Shelf Go.Proofs.YtoiohlmiofplcaaW.PrintWords Go.Proofs.YtoiohlmiofplcaaW.PrintLast Go.Proofs.Plain

/-- The function value (g, with lb captured) answers p at each of l's elements, and turns nothing that lies, from w on. -/
def PredAt {α : Type} (g : Nat) (lb : Array Value) (enc : α → Value) (p : α → Bool) (l : List α) (w : World) : Prop :=
  (∀ args w, (callFunc g args).run Try.prog w = .ok (.enter g args) w) ∧
  ∀ x ∈ l, ∀ w1, Below w.heap.size w w1 → Calls Try.prog g (#[enc x] ++ lb) w1 fun e w2 => e = .returned (.bool (p x)) ∧ Below w1.heap.size w1 w2
/-- A pair as a value. -/
def encPair (x : S26) : Value := .agg #[.string x.f0.f0, .int .i64 x.f0.f1, .string x.f1]
theorem rdPair (l : List S26) (k : Nat) (h : k < l.length) : rd_T26 l (k : Int) = l[k] := by
  simp [rd_T26, List.getD_eq_getElem?_getD, h]

set_option maxHeartbeats 2000000 in
theorem IndexFuncPair (g : Nat) (lb : Array Value) (p : S26 → Bool) (A : Option Addr) (c : Nat) (l : List S26) (w : World) (hr : Kd.C k26 w A l.length l) (hp : PredAt g lb encPair p l w) :
    Calls Try.prog 46 #[.slice A l.length c, .func (.func g) #[] lb] w fun e w' => e = .returned (.int .i64 (idx p l)) ∧ Below w.heap.size w w' := by
  have HR := Aside0.mk hr
  have hm := hr.2.1
  obtain ⟨eg, hpr⟩ := hp
  have HP := Aside0.mk hpr
  clear hr hpr
  go_enter Try.func46, Try.ntmps46
  go_wp2
  go_loopw [4, 5, 8] (fun _ _ i wr => ∃ k : Nat, k ≤ l.length ∧ i = .int .i64 k ∧ Aside0 (∀ x ∈ l.take k, p x = false) ∧ Aside0 (Below w.heap.size w wr)) (fun _ _ i _ => l.length - (intOf i).toNat)
  case atStart => exact ⟨0, Nat.zero_le _, rfl, ⟨by simp⟩, ⟨Below.refl _ _⟩⟩
  case round =>
    obtain ⟨k, hk, rfl, hall, HB⟩ := hrel
    by_cases hlt : k < l.length
    · obtain ⟨ad, rfl, hx0, hx1, hx2⟩ := at_T26 (Kd.C_below HR.out HB.out) (k : Int) (by omega) (by omega)
      rw [rdPair l k hlt, Int.toNat_natCast] at hx0 hx1 hx2
      have hcall := HP.out l[k] (List.getElem_mem hlt) wr HB.out
      unfold encPair at hcall
      cases hpk : p l[k]
      · have hal2 : Aside0 (∀ x ∈ l.take (k + 1), p x = false) := ⟨by
          rw [List.take_succ_eq_append_getElem hlt]; intro s hs
          rcases List.mem_append.1 hs with h | h
          · exact hall.out s h
          · rw [List.mem_singleton.1 h]; exact hpk⟩
        have HC := Aside0.mk hcall
        have HK := Aside0.mk hpk
        clear hcall hpk
        go_wp2_with (go_at_fn g; refine HC.out.mono ?_; rintro e w3 ⟨rfl, hb3⟩; have HB3 := Aside0.mk (HB.out.trans (hb3.mono HB.out.size)); clear hb3; rw [HK.out])
        go_roundw
        case rel => exact ⟨k + 1, by omega, by go_num, hal2, HB3⟩
        case measure => simp [intOf]; omega
      · have HC := Aside0.mk hcall
        have HK := Aside0.mk hpk
        have hres := Aside0.mk (idx_at hlt hall.out hpk)
        clear hcall hpk
        go_wp2_with (go_at_fn g; refine HC.out.mono ?_; rintro e w3 ⟨rfl, hb3⟩; have HB3 := Aside0.mk (HB.out.trans (hb3.mono HB.out.size)); clear hb3; rw [HK.out])
        go_ret
        exact ⟨by rw [hres.out]; rfl, HB3.out⟩
    · obtain rfl : k = l.length := by omega
      have hres := Aside0.mk (idx_none (p := p) (l := l) (fun x hx => hall.out x (by rw [List.take_length]; exact hx)))
      go_wp2
      go_ret
      exact ⟨by rw [hres.out]; rfl, HB.out⟩

end Go.Proofs.Ytoiohlmiofplcaa.P
/-
  cmp.Compare of two texts, by hand.
-/
namespace Go.Proofs.Ytoiohlmiofplcaa.P
open Go.RowKit Go.Proofs.YtoiohlmiofplcaaW.PrintWords Go.Proofs.YtoiohlmiofplcaaW.PrintLast

/-- How a text stands to another one. -/
def cmpS (a b : ByteArray) : Int := if Op.bytesLess a.toList b.toList = true then -1 else if a.toList = b.toList then 0 else 1
def cmp_Compare_string.f (a0 a1 : ByteArray) : Option Int := some (cmpS a0 a1)
theorem isNaN_str (s : ByteArray) (w : World) : Calls Try.prog 58 #[.string s] w fun e w' => e = .returned (.bool false) ∧ w' = w := by
  go_enter Try.func58, Try.ntmps58
  go_wp2
  go_ret
  exact ⟨by simp, rfl⟩
set_option maxHeartbeats 1000000 in
theorem cmpS_calls (a b : ByteArray) (w : World) : Calls Try.prog 56 #[.string a, .string b] w fun e w' => e = .returned (.int .i64 (cmpS a b)) ∧ w' = w := by
  have hc := Aside0.mk (show cmpS a b = if Op.bytesLess a.toList b.toList = true then -1 else if a.toList = b.toList then 0 else 1 from rfl)
  by_cases h1 : Op.bytesLess a.toList b.toList = true
  · rw [if_pos h1] at hc
    go_enter Try.func56, Try.ntmps56
    go_wp2_with (first | (go_at_call 58; (with_reducible refine (isNaN_str _ _).mono ?_); rintro e w' ⟨rfl, rfl⟩))
    go_ret
    exact ⟨by rw [hc.out]; rfl, rfl⟩
  · rw [if_neg h1] at hc
    have h1f : Op.bytesLess a.toList b.toList = false := by simpa using h1
    clear h1
    by_cases h2 : a.toList = b.toList
    · rw [if_pos h2] at hc
      have h3 : (a.toList == b.toList) = true := by simpa using h2
      clear h2
      go_enter Try.func56, Try.ntmps56
      go_wp2_with (first | (go_at_call 58; (with_reducible refine (isNaN_str _ _).mono ?_); rintro e w' ⟨rfl, rfl⟩))
      go_ret
      exact ⟨by rw [hc.out]; rfl, rfl⟩
    · rw [if_neg h2] at hc
      have h3 : (a.toList == b.toList) = false := by simpa using h2
      clear h2
      go_enter Try.func56, Try.ntmps56
      go_wp2_with (first | (go_at_call 58; (with_reducible refine (isNaN_str _ _).mono ?_); rintro e w' ⟨rfl, rfl⟩))
      go_ret
      exact ⟨by rw [hc.out]; rfl, rfl⟩
theorem cmp_Compare_string.calls (a0 a1 : ByteArray) (r : Int) (w : World) (h : cmp_Compare_string.f a0 a1 = some r) :
    Calls Try.prog 56 #[.string a0, .string a1] w fun e w' => e = .returned (.int .i64 r) ∧ Drawn0 w w' := by
  obtain rfl := Option.some.inj h
  exact (cmpS_calls a0 a1 w).mono fun e w' ⟨he, hw⟩ => ⟨he, by rw [hw]; exact Drawn0.refl _⟩
end Go.Proofs.Ytoiohlmiofplcaa.P
-- Written by a program of this session (xprint.py) over the kit's print.py.
namespace Go.Proofs.Ytoiohlmiofplcaa.P
open Go.RowKit Go.Proofs.YtoiohlmiofplcaaW.PrintWords Go.Proofs.YtoiohlmiofplcaaW.PrintLast Go.Proofs.YtoiohlmiofplcaaW.PrintMore
attribute [local go_sem] max2_int min2_int max_two min_two max_three min_three max_four min_four   -- for this text's walks alone
set_option linter.unusedVariables false
set_option linter.unusedSimpArgs false

/-! ### key_first: function 55 -/
def key_first.l0 : Nat → List Int → Int → Int → Option (Int)
  | 0, _, _, _ => none
  | k + 1, x5, x6, x7 => if x7 < x6 then (if 0 ≤ x7 then (if x7 < (x5.length : Int) then (if (rd x5 x7) = 0 then (key_first.l0 k x5 x6 (wrap64 (x7 + 1))) else (some (rd x5 x7))) else (none)) else (none)) else (some 0)
def key_first.f (k : Nat) (l0 : List Int) : Option (Int) := key_first.l0 k l0 (l0.length : Int) 0
set_option maxHeartbeats 8000000 in
set_option maxRecDepth 100000 in
theorem key_first.calls (k : Nat) (A0 : Option Addr) (c0 : Nat) (l0 : List Int) (r : Int) (w : World) (hr0 : Kd.C (Kd.int .i64) w A0 l0.length l0) (hc0 : l0.length ≤ c0) (h : key_first.f k l0 = some r) :
    Calls Try.prog 55 #[.slice A0 l0.length c0] w fun e w' => e = .returned (.int .i64 r) ∧ Drawn0 w w' := by
  have HR0 := Aside0.mk hr0
  have HC0 := Aside0.mk hc0
  clear hr0 hc0
  have H : (key_first.l0 k l0 (l0.length : Int) 0) = some r := h
  clear h
  have H' := Aside0.mk H
  clear H
  go_enter Try.func55, Try.ntmps55
  go_wp2
  go_loopg [7] k (fun kq v7 w' => ∃ (x7_1 : Int), v7 = .int .i64 x7_1 ∧ Aside0 (key_first.l0 kq l0 (l0.length : Int) x7_1 = some r) ∧ Aside0 (kq ≤ k) ∧ Drawn0 w w')
  case atStart => exact ⟨(0), (by first | rfl | (simp; done) | (simp [*]; done)), H', ⟨Nat.le_refl _⟩, by repeat (first | exact Drawn0.refl _ | apply Drawn0.step)⟩
  case round =>
    clear H'
    obtain ⟨x7_1, rfl, HA, HK1, ⟨m1, rfl⟩⟩ := hrel
    cases gk with
    | zero => exact absurd HA.out (by simp [key_first.l0])
    | succ k1 =>
      have H := HA.out
      clear HA
      simp only [key_first.l0] at H
      by_cases c2 : x7_1 < (l0.length : Int)
      · rw [if_pos c2] at H
        have c2b0 : decide (x7_1 < (l0.length : Int)) = true := decide_eq_true c2
        clear c2
        by_cases c3 : 0 ≤ x7_1
        · rw [if_pos c3] at H
          have c3b0 : decide (0 ≤ x7_1) = true := decide_eq_true c3
          clear c3
          by_cases c4 : x7_1 < (l0.length : Int)
          · rw [if_pos c4] at H
            have c4b0 : decide (x7_1 < (l0.length : Int)) = true := decide_eq_true c4
            clear c4
            by_cases c5 : (rd l0 x7_1) = 0
            · rw [if_pos c5] at H
              have c5b0 : ((rd l0 x7_1) == 0) = true := beq_iff_eq.mpr c5
              have c5b1 : ((rd l0 x7_1) != 0) = false := bne_eq_false_iff_eq.mpr c5
              clear c5
              have H' := Aside0.mk H
              clear H
              have p106 : 0 ≤ (x7_1 : Int) := of_decide_eq_true (by first | (with_reducible assumption) | assumption)
              have q106 : x7_1 < (l0.length : Int) := of_decide_eq_true (by first | (with_reducible assumption) | assumption)
              obtain ⟨ad106, e106, hx106_0⟩ := Kd.at_int HR0.out x7_1 p106 q106
              cases e106
              replace p106 := eq_true p106
              replace q106 := eq_true q106
              go_wp2
              go_roundg k1
              case measure => have := HK1.out; omega
              case rel => exact ⟨(wrap64 (x7_1 + 1)), (by first | rfl | (simp; done) | (simp [*]; done)), H', ⟨by have := HK1.out; omega⟩, by repeat (first | exact Drawn0.refl _ | apply Drawn0.step)⟩
            · rw [if_neg c5] at H
              have c5b0 : ((rd l0 x7_1) == 0) = false := beq_eq_false_iff_ne.mpr c5
              have c5b1 : ((rd l0 x7_1) != 0) = true := bne_iff_ne.mpr c5
              obtain rfl := Option.some.inj H
              have p106 : 0 ≤ (x7_1 : Int) := of_decide_eq_true (by first | (with_reducible assumption) | assumption)
              have q106 : x7_1 < (l0.length : Int) := of_decide_eq_true (by first | (with_reducible assumption) | assumption)
              obtain ⟨ad106, e106, hx106_0⟩ := Kd.at_int HR0.out x7_1 p106 q106
              cases e106
              replace p106 := eq_true p106
              replace q106 := eq_true q106
              go_wp2
              go_ret
              exact ⟨by first | rfl | (simp; done) | (simp [*]; done), by repeat (first | exact Drawn0.refl _ | apply Drawn0.step)⟩
          · rw [if_neg c4] at H
            exact absurd H (by simp)
        · rw [if_neg c3] at H
          exact absurd H (by simp)
      · rw [if_neg c2] at H
        have c2b0 : decide (x7_1 < (l0.length : Int)) = false := decide_eq_false c2
        clear c2
        obtain rfl := Option.some.inj H
        go_wp2
        go_ret
        exact ⟨by first | rfl | (simp; done) | (simp [*]; done), by repeat (first | exact Drawn0.refl _ | apply Drawn0.step)⟩

end Go.Proofs.Ytoiohlmiofplcaa.P
-- Written by a program of this session (xprint.py) over the kit's print.py.
namespace Go.Proofs.Ytoiohlmiofplcaa.P
open Go.RowKit Go.Proofs.YtoiohlmiofplcaaW.PrintWords Go.Proofs.YtoiohlmiofplcaaW.PrintLast Go.Proofs.YtoiohlmiofplcaaW.PrintMore
attribute [local go_sem] max2_int min2_int max_two min_two max_three min_three max_four min_four   -- for this text's walks alone
set_option linter.unusedVariables false
set_option linter.unusedSimpArgs false

/-! ### cmp_isNaN_int: function 59 -/
def cmp_isNaN_int.f (a0 : Int) : Option (Bool) := some (a0 != a0)
set_option maxHeartbeats 8000000 in
set_option maxRecDepth 100000 in
theorem cmp_isNaN_int.calls (a0 : Int) (r : Bool) (w : World) (h : cmp_isNaN_int.f a0 = some r) :
    Calls Try.prog 59 #[.int .i64 a0] w fun e w' => e = .returned (.bool r) ∧ Drawn0 w w' := by
  have H : (some (a0 != a0)) = some r := h
  clear h
  obtain rfl := Option.some.inj H
  go_enter Try.func59, Try.ntmps59
  go_wp2
  go_ret
  exact ⟨by first | rfl | (simp; done) | (simp [*]; done), by repeat (first | exact Drawn0.refl _ | apply Drawn0.step)⟩

end Go.Proofs.Ytoiohlmiofplcaa.P
-- Written by a program of this session (xprint.py) over the kit's print.py.
namespace Go.Proofs.Ytoiohlmiofplcaa.P
open Go.RowKit Go.Proofs.YtoiohlmiofplcaaW.PrintWords Go.Proofs.YtoiohlmiofplcaaW.PrintLast Go.Proofs.YtoiohlmiofplcaaW.PrintMore
attribute [local go_sem] max2_int min2_int max_two min_two max_three min_three max_four min_four   -- for this text's walks alone
set_option linter.unusedVariables false
set_option linter.unusedSimpArgs false

/-! ### cmp_Compare_int: function 57 -/
def cmp_Compare_int.f (a0 : Int) (a1 : Int) : Option (Int) := (cmp_isNaN_int.f a0).bind fun t107 => ((cmp_isNaN_int.f a1).bind fun t108 => (if t107 = true then (if t108 = true then (some 0) else (some (-1))) else (if t108 = true then (some 1) else (if a0 < a1 then (some (-1)) else (if a0 > a1 then (some 1) else (some 0))))))
set_option maxHeartbeats 8000000 in
set_option maxRecDepth 100000 in
theorem cmp_Compare_int.calls (a0 : Int) (a1 : Int) (r : Int) (w : World) (h : cmp_Compare_int.f a0 a1 = some r) :
    Calls Try.prog 57 #[.int .i64 a0, .int .i64 a1] w fun e w' => e = .returned (.int .i64 r) ∧ Drawn0 w w' := by
  have H : ((cmp_isNaN_int.f a0).bind fun t107 => ((cmp_isNaN_int.f a1).bind fun t108 => (if t107 = true then (if t108 = true then (some 0) else (some (-1))) else (if t108 = true then (some 1) else (if a0 < a1 then (some (-1)) else (if a0 > a1 then (some 1) else (some 0))))))) = some r := h
  clear h
  replace H := Option.bind_eq_some_iff.mp H
  obtain ⟨t107, A30, H⟩ := H
  replace H : ((cmp_isNaN_int.f a1).bind fun t108 => (if t107 = true then (if t108 = true then (some 0) else (some (-1))) else (if t108 = true then (some 1) else (if a0 < a1 then (some (-1)) else (if a0 > a1 then (some 1) else (some 0)))))) = some r := H
  have A3 := Aside0.mk A30
  clear A30
  replace H := Option.bind_eq_some_iff.mp H
  obtain ⟨t108, A40, H⟩ := H
  replace H : (if t107 = true then (if t108 = true then (some 0) else (some (-1))) else (if t108 = true then (some 1) else (if a0 < a1 then (some (-1)) else (if a0 > a1 then (some 1) else (some 0))))) = some r := H
  have A4 := Aside0.mk A40
  clear A40
  by_cases c5 : t107 = true
  · subst c5
    have H1 : (if t108 = true then (some 0) else (some (-1))) = some r := by rw [if_pos rfl] at H; exact H
    clear H
    have H := H1
    clear H1
    by_cases c6 : t108 = true
    · subst c6
      have H1 : (some 0) = some r := by rw [if_pos rfl] at H; exact H
      clear H
      have H := H1
      clear H1
      obtain rfl := Option.some.inj H
      go_enter Try.func57, Try.ntmps57
      go_wp2_with (first | ((with_reducible refine gate_callee (f := 59) rfl ?_); refine goesL_ (some 8) rfl rfl Try.func59 (by kernel_rfl) rfl #[.int .i64 a0] rfl (by (try simp only [List.map_toArray, List.map_cons, List.map_nil]); first | done | rfl | (simp only [List.length_drop, List.length_take]; rfl)) ?_; (with_reducible refine (cmp_isNaN_int.calls a0 true _ A3.out).mono ?_); rintro e w' ⟨rfl, ⟨nd, rfl⟩⟩; refine ⟨_, rfl, ?_⟩) | ((with_reducible refine gate_callee (f := 59) rfl ?_); refine goesL_ (some 10) rfl rfl Try.func59 (by kernel_rfl) rfl #[.int .i64 a1] rfl (by (try simp only [List.map_toArray, List.map_cons, List.map_nil]); first | done | rfl | (simp only [List.length_drop, List.length_take]; rfl)) ?_; (with_reducible refine (cmp_isNaN_int.calls a1 true _ A4.out).mono ?_); rintro e w' ⟨rfl, ⟨nd, rfl⟩⟩; refine ⟨_, rfl, ?_⟩))
      go_ret
      exact ⟨by first | rfl | (simp; done) | (simp [*]; done), by repeat (first | exact Drawn0.refl _ | apply Drawn0.step)⟩
    · replace c6 := Bool.eq_false_iff.mpr c6
      subst c6
      have H1 : (some (-1)) = some r := by rw [if_neg (show ¬ (false = true) by decide)] at H; exact H
      clear H
      have H := H1
      clear H1
      obtain rfl := Option.some.inj H
      go_enter Try.func57, Try.ntmps57
      go_wp2_with (first | ((with_reducible refine gate_callee (f := 59) rfl ?_); refine goesL_ (some 8) rfl rfl Try.func59 (by kernel_rfl) rfl #[.int .i64 a0] rfl (by (try simp only [List.map_toArray, List.map_cons, List.map_nil]); first | done | rfl | (simp only [List.length_drop, List.length_take]; rfl)) ?_; (with_reducible refine (cmp_isNaN_int.calls a0 true _ A3.out).mono ?_); rintro e w' ⟨rfl, ⟨nd, rfl⟩⟩; refine ⟨_, rfl, ?_⟩) | ((with_reducible refine gate_callee (f := 59) rfl ?_); refine goesL_ (some 10) rfl rfl Try.func59 (by kernel_rfl) rfl #[.int .i64 a1] rfl (by (try simp only [List.map_toArray, List.map_cons, List.map_nil]); first | done | rfl | (simp only [List.length_drop, List.length_take]; rfl)) ?_; (with_reducible refine (cmp_isNaN_int.calls a1 false _ A4.out).mono ?_); rintro e w' ⟨rfl, ⟨nd, rfl⟩⟩; refine ⟨_, rfl, ?_⟩))
      go_ret
      exact ⟨by first | rfl | (simp; done) | (simp [*]; done), by repeat (first | exact Drawn0.refl _ | apply Drawn0.step)⟩
  · replace c5 := Bool.eq_false_iff.mpr c5
    subst c5
    have H1 : (if t108 = true then (some 1) else (if a0 < a1 then (some (-1)) else (if a0 > a1 then (some 1) else (some 0)))) = some r := by rw [if_neg (show ¬ (false = true) by decide)] at H; exact H
    clear H
    have H := H1
    clear H1
    by_cases c7 : t108 = true
    · subst c7
      have H1 : (some 1) = some r := by rw [if_pos rfl] at H; exact H
      clear H
      have H := H1
      clear H1
      obtain rfl := Option.some.inj H
      go_enter Try.func57, Try.ntmps57
      go_wp2_with (first | ((with_reducible refine gate_callee (f := 59) rfl ?_); refine goesL_ (some 8) rfl rfl Try.func59 (by kernel_rfl) rfl #[.int .i64 a0] rfl (by (try simp only [List.map_toArray, List.map_cons, List.map_nil]); first | done | rfl | (simp only [List.length_drop, List.length_take]; rfl)) ?_; (with_reducible refine (cmp_isNaN_int.calls a0 false _ A3.out).mono ?_); rintro e w' ⟨rfl, ⟨nd, rfl⟩⟩; refine ⟨_, rfl, ?_⟩) | ((with_reducible refine gate_callee (f := 59) rfl ?_); refine goesL_ (some 10) rfl rfl Try.func59 (by kernel_rfl) rfl #[.int .i64 a1] rfl (by (try simp only [List.map_toArray, List.map_cons, List.map_nil]); first | done | rfl | (simp only [List.length_drop, List.length_take]; rfl)) ?_; (with_reducible refine (cmp_isNaN_int.calls a1 true _ A4.out).mono ?_); rintro e w' ⟨rfl, ⟨nd, rfl⟩⟩; refine ⟨_, rfl, ?_⟩))
      go_ret
      exact ⟨by first | rfl | (simp; done) | (simp [*]; done), by repeat (first | exact Drawn0.refl _ | apply Drawn0.step)⟩
    · replace c7 := Bool.eq_false_iff.mpr c7
      subst c7
      have H1 : (if a0 < a1 then (some (-1)) else (if a0 > a1 then (some 1) else (some 0))) = some r := by rw [if_neg (show ¬ (false = true) by decide)] at H; exact H
      clear H
      have H := H1
      clear H1
      by_cases c8 : a0 < a1
      · rw [if_pos c8] at H
        have c8b0 : decide (a0 < a1) = true := decide_eq_true c8
        clear c8
        obtain rfl := Option.some.inj H
        go_enter Try.func57, Try.ntmps57
        go_wp2_with (first | ((with_reducible refine gate_callee (f := 59) rfl ?_); refine goesL_ (some 8) rfl rfl Try.func59 (by kernel_rfl) rfl #[.int .i64 a0] rfl (by (try simp only [List.map_toArray, List.map_cons, List.map_nil]); first | done | rfl | (simp only [List.length_drop, List.length_take]; rfl)) ?_; (with_reducible refine (cmp_isNaN_int.calls a0 false _ A3.out).mono ?_); rintro e w' ⟨rfl, ⟨nd, rfl⟩⟩; refine ⟨_, rfl, ?_⟩) | ((with_reducible refine gate_callee (f := 59) rfl ?_); refine goesL_ (some 10) rfl rfl Try.func59 (by kernel_rfl) rfl #[.int .i64 a1] rfl (by (try simp only [List.map_toArray, List.map_cons, List.map_nil]); first | done | rfl | (simp only [List.length_drop, List.length_take]; rfl)) ?_; (with_reducible refine (cmp_isNaN_int.calls a1 false _ A4.out).mono ?_); rintro e w' ⟨rfl, ⟨nd, rfl⟩⟩; refine ⟨_, rfl, ?_⟩))
        go_ret
        exact ⟨by first | rfl | (simp; done) | (simp [*]; done), by repeat (first | exact Drawn0.refl _ | apply Drawn0.step)⟩
      · rw [if_neg c8] at H
        have c8b0 : decide (a0 < a1) = false := decide_eq_false c8
        clear c8
        by_cases c9 : a0 > a1
        · rw [if_pos c9] at H
          have c9b0 : decide (a1 < a0) = true := decide_eq_true c9
          clear c9
          obtain rfl := Option.some.inj H
          go_enter Try.func57, Try.ntmps57
          go_wp2_with (first | ((with_reducible refine gate_callee (f := 59) rfl ?_); refine goesL_ (some 8) rfl rfl Try.func59 (by kernel_rfl) rfl #[.int .i64 a0] rfl (by (try simp only [List.map_toArray, List.map_cons, List.map_nil]); first | done | rfl | (simp only [List.length_drop, List.length_take]; rfl)) ?_; (with_reducible refine (cmp_isNaN_int.calls a0 false _ A3.out).mono ?_); rintro e w' ⟨rfl, ⟨nd, rfl⟩⟩; refine ⟨_, rfl, ?_⟩) | ((with_reducible refine gate_callee (f := 59) rfl ?_); refine goesL_ (some 10) rfl rfl Try.func59 (by kernel_rfl) rfl #[.int .i64 a1] rfl (by (try simp only [List.map_toArray, List.map_cons, List.map_nil]); first | done | rfl | (simp only [List.length_drop, List.length_take]; rfl)) ?_; (with_reducible refine (cmp_isNaN_int.calls a1 false _ A4.out).mono ?_); rintro e w' ⟨rfl, ⟨nd, rfl⟩⟩; refine ⟨_, rfl, ?_⟩))
          go_ret
          exact ⟨by first | rfl | (simp; done) | (simp [*]; done), by repeat (first | exact Drawn0.refl _ | apply Drawn0.step)⟩
        · rw [if_neg c9] at H
          have c9b0 : decide (a1 < a0) = false := decide_eq_false c9
          clear c9
          obtain rfl := Option.some.inj H
          go_enter Try.func57, Try.ntmps57
          go_wp2_with (first | ((with_reducible refine gate_callee (f := 59) rfl ?_); refine goesL_ (some 8) rfl rfl Try.func59 (by kernel_rfl) rfl #[.int .i64 a0] rfl (by (try simp only [List.map_toArray, List.map_cons, List.map_nil]); first | done | rfl | (simp only [List.length_drop, List.length_take]; rfl)) ?_; (with_reducible refine (cmp_isNaN_int.calls a0 false _ A3.out).mono ?_); rintro e w' ⟨rfl, ⟨nd, rfl⟩⟩; refine ⟨_, rfl, ?_⟩) | ((with_reducible refine gate_callee (f := 59) rfl ?_); refine goesL_ (some 10) rfl rfl Try.func59 (by kernel_rfl) rfl #[.int .i64 a1] rfl (by (try simp only [List.map_toArray, List.map_cons, List.map_nil]); first | done | rfl | (simp only [List.length_drop, List.length_take]; rfl)) ?_; (with_reducible refine (cmp_isNaN_int.calls a1 false _ A4.out).mono ?_); rintro e w' ⟨rfl, ⟨nd, rfl⟩⟩; refine ⟨_, rfl, ?_⟩))
          go_ret
          exact ⟨by first | rfl | (simp; done) | (simp [*]; done), by repeat (first | exact Drawn0.refl _ | apply Drawn0.step)⟩

end Go.Proofs.Ytoiohlmiofplcaa.P
-- Written by a program of this session (xprint.py) over the kit's print.py.
namespace Go.Proofs.Ytoiohlmiofplcaa.P
open Go.RowKit Go.Proofs.YtoiohlmiofplcaaW.PrintWords Go.Proofs.YtoiohlmiofplcaaW.PrintLast Go.Proofs.YtoiohlmiofplcaaW.PrintMore
attribute [local go_sem] max2_int min2_int max_two min_two max_three min_three max_four min_four   -- for this text's walks alone
set_option linter.unusedVariables false
set_option linter.unusedSimpArgs false

/-! ### key_version_to: function 54 -/
def key_version_to.f (k : Nat) (a0_0 : ByteArray) (a0_1 : Int) (a1_0 : ByteArray) (a1_1 : Int) : Option (Int) := (cmp_Compare_string.f a0_0 a1_0).bind fun t111 => ((cmp_Compare_int.f a1_1 a0_1).bind fun t112 => ((key_first.f k (([t111, t112] : List Int))).bind fun t116 => (some t116)))
def key_version_to.T1 : Bool × List (List Nat × List Nat) := (true, [([], []), ([0], [0]), ([], []), ([2], [2]), ([1, 3], [1, 3]), ([], []), ([5], [5]), ([], []), ([7], [7]), ([6, 8, 4], [6, 8]), ([4, 9], [4, 9]), ([10, 9], [10]), ([11, 11, 0, 1, 2, 3, 4, 5, 6, 7, 8, 9, 10, 11], [11])])
def key_version_to.B1 : List Nat := [0, 1, 0, 4, 15, 0, 32, 0, 128, 511, 1023, 2047, 4095]
theorem key_version_to.tab1 : rtab .any (opsOf Try.f54 1) = key_version_to.T1 := by kernel_rfl
theorem key_version_to.bits1 : waitsOk key_version_to.T1.2 key_version_to.B1 = true := by kernel_rfl
set_option maxHeartbeats 8000000 in
set_option maxRecDepth 100000 in
theorem key_version_to.calls (k : Nat) (a0_0 : ByteArray) (a0_1 : Int) (a1_0 : ByteArray) (a1_1 : Int) (r : Int) (w : World) (h : key_version_to.f k a0_0 a0_1 a1_0 a1_1 = some r) :
    Calls Try.prog 54 #[.agg #[.string a0_0, .int .i64 a0_1], .agg #[.string a1_0, .int .i64 a1_1]] w fun e w' => e = .returned (.int .i64 r) ∧ Below w.heap.size w w' := by
  have hu91 := Try.underlying91
  have HB := Aside0.mk (Below.refl w.heap.size w)
  have H : ((cmp_Compare_string.f a0_0 a1_0).bind fun t111 => ((cmp_Compare_int.f a1_1 a0_1).bind fun t112 => ((key_first.f k (([t111, t112] : List Int))).bind fun t116 => (some t116)))) = some r := h
  clear h
  replace H := Option.bind_eq_some_iff.mp H
  obtain ⟨t111, A30, H⟩ := H
  replace H : ((cmp_Compare_int.f a1_1 a0_1).bind fun t112 => ((key_first.f k (([t111, t112] : List Int))).bind fun t116 => (some t116))) = some r := H
  have A3 := Aside0.mk A30
  clear A30
  replace H := Option.bind_eq_some_iff.mp H
  obtain ⟨t112, A40, H⟩ := H
  replace H : ((key_first.f k (([t111, t112] : List Int))).bind fun t116 => (some t116)) = some r := H
  have A4 := Aside0.mk A40
  clear A40
  obtain ⟨y113, hy113⟩ : ∃ y_ : List Int, y_ = (([t111, t112] : List Int)) := ⟨_, rfl⟩
  replace H : ((key_first.f k y113).bind fun t116 => (some t116)) = some r := by first | (rw [hy113]; with_reducible exact H) | (have H2_ := (Option.bind_some _ _).symm.trans H; rw [hy113]; with_reducible exact H2_) | (have H2_ := (Option.bind_some _ _).symm.trans H; with_reducible exact H2_) | with_reducible exact H | (rw [hy113]; exact H) | exact H
  have Ny113 := Aside0.mk hy113
  clear hy113
  replace H := Option.bind_eq_some_iff.mp H
  obtain ⟨t116, A50, H⟩ := H
  replace H : (some t116) = some r := H
  have A5 := Aside0.mk A50
  clear A50
  obtain rfl := Option.some.inj H
  go_enter Try.func54, Try.ntmps54
  try go_wp2_with (first | ((with_reducible refine gate_dst (N := 2) rfl ?_); refine box_event ?hg (N := 2) ?hd (cs := #[.string a0_0, .int .i64 a0_1]) (t := 91) ?hr ?_; (case hd => rfl); (case hg => rfl); (case hr => first | (go_simp; done) | (go_simp; rfl)); intro gb109 hg w6 hbox hb; have n0_ := Aside0.mk (below_step (by repeat (first | (with_reducible first | exact HB.out | apply below_alloc | apply pw_below_drewN | apply below_drew1) | exact HB.out)) hb); have n1_ := Aside0.mk (hbox); have n2_ := Aside0.mk ((by rw [hg]; exact (below_size (by repeat (first | (with_reducible first | exact HB.out | apply below_alloc | apply pw_below_drewN | apply below_drew1) | exact HB.out))) : w.heap.size ≤ gb109)); have n3_ := Aside0.mk ((by rw [hg]; exact (below_size (by repeat (first | (with_reducible first | exact HB.out | apply below_alloc | apply pw_below_drewN | apply below_drew1) | exact HB.out))) : w.heap.size ≤ gb109)); clear HB; have HB := n0_; have BK109 := n1_; have GW109 := n2_; have GE109 := n3_; clear n0_ n1_ n2_ n3_; clear hb hbox hg) | ((with_reducible refine gate_dst (N := 3) rfl ?_); refine box_event ?hg (N := 3) ?hd (cs := #[.string a1_0, .int .i64 a1_1]) (t := 91) ?hr ?_; (case hd => rfl); (case hg => rfl); (case hr => first | (go_simp; done) | (go_simp; rfl)); intro gb110 hg w7 hbox hb; have n0_ := Aside0.mk (blk_below (g := gb109) (o := .cells #[.string a0_0, .int .i64 a0_1] 91 (0, 0)) (by (with_reducible repeat (first | refine blk_drewN ?_ _ | refine blk_drew ?_ | refine blk_alloc ?_ _)); exact BK109.out) hb); have n1_ := Aside0.mk (below_step (by repeat (first | (with_reducible first | exact HB.out | apply below_alloc | apply pw_below_drewN | apply below_drew1 | refine below_set ?_ GE109.out) | exact HB.out)) hb); have n2_ := Aside0.mk (hbox); have n3_ := Aside0.mk ((by rw [hg]; exact (below_size (by repeat (first | (with_reducible first | exact HB.out | apply below_alloc | apply pw_below_drewN | apply below_drew1 | refine below_set ?_ GE109.out) | exact HB.out))) : w.heap.size ≤ gb110)); have n4_ := Aside0.mk ((by rw [hg]; exact (below_size (by repeat (first | (with_reducible first | exact HB.out | apply below_alloc | apply pw_below_drewN | apply below_drew1 | refine below_set ?_ GE109.out) | exact HB.out))) : w.heap.size ≤ gb110)); have n5_ := Aside0.mk ((by rw [hg]; exact Nat.ne_of_lt (blk_lt (g := gb109) (o := .cells #[.string a0_0, .int .i64 a0_1] 91 (0, 0)) (by (with_reducible repeat (first | refine blk_drewN ?_ _ | refine blk_drew ?_ | refine blk_alloc ?_ _)); exact BK109.out)) : gb109 ≠ gb110)); have n6_ := Aside0.mk ((by rw [hg]; exact Nat.ne_of_gt (blk_lt (g := gb109) (o := .cells #[.string a0_0, .int .i64 a0_1] 91 (0, 0)) (by (with_reducible repeat (first | refine blk_drewN ?_ _ | refine blk_drew ?_ | refine blk_alloc ?_ _)); exact BK109.out)) : gb110 ≠ gb109)); clear BK109; clear HB; have BK109 := n0_; have HB := n1_; have BK110 := n2_; have GW110 := n3_; have GE110 := n4_; have NB109_110 := n5_; have NB110_109 := n6_; clear n0_ n1_ n2_ n3_ n4_ n5_ n6_; clear hb hbox hg))
  have n0_ := Aside0.mk (blk_drew BK109.out)
  have n1_ := Aside0.mk (blk_drew BK110.out)
  have n2_ := Aside0.mk (below_drew1 HB.out)
  clear BK109
  clear BK110
  clear HB
  have BK109 := n0_
  have BK110 := n1_
  have HB := n2_
  clear n0_ n1_ n2_
  refine start_ (n := 13) (S := fun w' => w'.cell? ⟨gb109, 0, none⟩ = some (.string a0_0) ∧ w'.cell? ⟨gb109, 1, none⟩ = some (.int .i64 a0_1) ∧ w'.cell? ⟨gb110, 0, none⟩ = some (.string a1_0) ∧ w'.cell? ⟨gb110, 1, none⟩ = some (.int .i64 a1_1)) (ds := []) #[false, false, false, false, false, false, false, false, false, false, false, false, false] (by kernel_rfl) rfl rfl ⟨(blk_cell BK109.out 0).trans rfl, (blk_cell BK109.out 1).trans rfl, (blk_cell BK110.out 0).trans rfl, (blk_cell BK110.out 1).trans rfl⟩ (fun hHeld => ?_); refine with_tabW key_version_to.tab1 key_version_to.bits1 (fun HT_ HW_ => ?_)
  generalize w7.drew = w8 at BK109 BK110 HB hHeld ⊢
  refine pure_ (i := 0) (N := some 5) (v := ?_) (a' := ?_) #[true, false, false, false, false, false, false, false, false, false, false, false, false] rfl rfl (any_of HT_.out (by kernel_rfl)) (fun _ _ _ h => h) (Or.inl ⟨by rfl, ?_⟩) ?_ ?_
  rotate_left
  · intro w'
    go_simp
    with_reducible rfl
  rotate_left
  · simp only [Act.put, List.setIfInBounds_toArray, List.set_cons_zero, List.set_cons_succ, i64_w, i32_w]
    rfl
  refine pure_ (i := 2) (N := some 7) (v := ?_) (a' := ?_) #[true, false, true, false, false, false, false, false, false, false, false, false, false] rfl rfl (any_of HT_.out (by kernel_rfl)) (fun _ _ _ h => h) (Or.inl ⟨by rfl, ?_⟩) ?_ ?_
  rotate_left
  · intro w'
    go_simp
    with_reducible rfl
  rotate_left
  · simp only [Act.put, List.setIfInBounds_toArray, List.set_cons_zero, List.set_cons_succ, i64_w, i32_w]
    rfl
  refine pure_ (i := 5) (N := some 10) (v := ?_) (a' := ?_) #[true, false, true, false, false, true, false, false, false, false, false, false, false] rfl rfl (any_of HT_.out (by kernel_rfl)) (fun _ _ _ h => h) (Or.inl ⟨by rfl, ?_⟩) ?_ ?_
  rotate_left
  · intro w'
    go_simp
    with_reducible rfl
  rotate_left
  · simp only [Act.put, List.setIfInBounds_toArray, List.set_cons_zero, List.set_cons_succ, i64_w, i32_w]
    rfl
  refine pure_ (i := 7) (N := some 12) (v := ?_) (a' := ?_) #[true, false, true, false, false, true, false, true, false, false, false, false, false] rfl rfl (any_of HT_.out (by kernel_rfl)) (fun _ _ _ h => h) (Or.inl ⟨by rfl, ?_⟩) ?_ ?_
  rotate_left
  · intro w'
    go_simp
    with_reducible rfl
  rotate_left
  · simp only [Act.put, List.setIfInBounds_toArray, List.set_cons_zero, List.set_cons_succ, i64_w, i32_w]
    rfl
  refine take_ (i := 1) (N := some 6) (v := ?_) (a' := ?_) #[true, true, true, false, false, true, false, true, false, false, false, false, false] rfl rfl (take_ofW HT_.out HW_.out (by kernel_rfl)) (fun _ _ _ h => h) (Or.inl ⟨by rfl, ?_⟩) hHeld ?_ ?_
  rotate_left
  · rintro w' ⟨s0, s1, s2, s3⟩
    go_simp
    with_reducible rfl
  rotate_left
  · simp only [Act.put, List.setIfInBounds_toArray, List.set_cons_zero, List.set_cons_succ, i64_w, i32_w]
    rfl
  refine take_ (i := 3) (N := some 8) (v := ?_) (a' := ?_) #[true, true, true, true, false, true, false, true, false, false, false, false, false] rfl rfl (take_ofW HT_.out HW_.out (by kernel_rfl)) (fun _ _ _ h => h) (Or.inl ⟨by rfl, ?_⟩) hHeld ?_ ?_
  rotate_left
  · rintro w' ⟨s0, s1, s2, s3⟩
    go_simp
    with_reducible rfl
  rotate_left
  · simp only [Act.put, List.setIfInBounds_toArray, List.set_cons_zero, List.set_cons_succ, i64_w, i32_w]
    rfl
  refine take_ (i := 6) (N := some 11) (v := ?_) (a' := ?_) #[true, true, true, true, false, true, true, true, false, false, false, false, false] rfl rfl (take_ofW HT_.out HW_.out (by kernel_rfl)) (fun _ _ _ h => h) (Or.inl ⟨by rfl, ?_⟩) hHeld ?_ ?_
  rotate_left
  · rintro w' ⟨s0, s1, s2, s3⟩
    go_simp
    with_reducible rfl
  rotate_left
  · simp only [Act.put, List.setIfInBounds_toArray, List.set_cons_zero, List.set_cons_succ, i64_w, i32_w]
    rfl
  refine take_ (i := 8) (N := some 13) (v := ?_) (a' := ?_) #[true, true, true, true, false, true, true, true, true, false, false, false, false] rfl rfl (take_ofW HT_.out HW_.out (by kernel_rfl)) (fun _ _ _ h => h) (Or.inl ⟨by rfl, ?_⟩) hHeld ?_ ?_
  rotate_left
  · rintro w' ⟨s0, s1, s2, s3⟩
    go_simp
    with_reducible rfl
  rotate_left
  · simp only [Act.put, List.setIfInBounds_toArray, List.set_cons_zero, List.set_cons_succ, i64_w, i32_w]
    rfl
  refine one_ (i := 4) (N := some 9) #[true, true, true, true, true, true, true, true, true, false, false, false, false] rfl rfl (one_of HT_.out (by kernel_rfl)) (by decide) (fun K hK => ?_)
  refine goes_ Try.func56 (by kernel_rfl) rfl #[.string a0_0, .string a1_0] (by rfl) rfl rfl (by (try simp only [List.map_toArray, List.map_cons, List.map_nil]); first | done | rfl | (simp only [List.length_drop, List.length_take]; rfl)) ?_
  with_reducible refine (cmp_Compare_string.calls a0_0 a1_0 t111 _ A3.out).mono ?_
  rintro e w' ⟨rfl, ⟨nd, rfl⟩⟩
  refine ⟨_, rfl, ?_⟩
  refine hK.out _ _ ⟨(blk_cell BK109.out 0).trans rfl, (blk_cell BK109.out 1).trans rfl, (blk_cell BK110.out 0).trans rfl, (blk_cell BK110.out 1).trans rfl⟩ (fun hHeld => ?_)
  clear hK K
  refine norm_ (a' := ?_) ?_ ?_
  rotate_left
  · show Act.put _ (some 9) _ = _
    simp only [Act.put, List.setIfInBounds_toArray, List.set_cons_zero, List.set_cons_succ, i64_w, i32_w]
    rfl
  refine one_ (i := 9) (N := some 14) #[true, true, true, true, true, true, true, true, true, true, false, false, false] rfl rfl (one_of HT_.out (by kernel_rfl)) (by decide) (fun K hK => ?_)
  refine goes_ Try.func57 (by kernel_rfl) rfl #[.int .i64 a1_1, .int .i64 a0_1] (by rfl) rfl rfl (by (try simp only [List.map_toArray, List.map_cons, List.map_nil]); first | done | rfl | (simp only [List.length_drop, List.length_take]; rfl)) ?_
  with_reducible refine (cmp_Compare_int.calls a1_1 a0_1 t112 _ A4.out).mono ?_
  rintro e w' ⟨rfl, ⟨nd, rfl⟩⟩
  refine ⟨_, rfl, ?_⟩
  refine hK.out _ _ ⟨(blk_cell BK109.out 0).trans rfl, (blk_cell BK109.out 1).trans rfl, (blk_cell BK110.out 0).trans rfl, (blk_cell BK110.out 1).trans rfl⟩ (fun hHeld => ?_)
  clear hK K
  refine norm_ (a' := ?_) ?_ ?_
  rotate_left
  · show Act.put _ (some 14) _ = _
    simp only [Act.put, List.setIfInBounds_toArray, List.set_cons_zero, List.set_cons_succ, i64_w, i32_w]
    rfl
  refine one_ (i := 10) (N := some 15) #[true, true, true, true, true, true, true, true, true, true, true, false, false] rfl rfl (one_of HT_.out (by kernel_rfl)) (by decide) (fun K hK => ?_)
  refine Kd.R_lit_step (Kd.int .i64) _ 3 ?hg (N := 15) ?hd (xs := ([t111, t112] : List Int)) (inner := [.int .i64 t111, .int .i64 t112]) (ok := fun _ => True) (okp := fun _ => True) ?hr ?hp (fun _ hk => hk) trivial (Below.refl _ _) (Nat.le_refl _) (by simp) ?_; (case hd => rfl); (case hg => rfl); (case hr => first | (go_simp; done) | (go_simp; rfl)); (case hp => exact (Reps.one (show Kd.M (Kd.int .i64) _ _ _ t111 [.int .i64 t111] from rfl) (Reps.one (show Kd.M (Kd.int .i64) _ _ _ t112 [.int .i64 t112] from rfl) (Reps.none _ _))))
  intro v114 w9 ho10 hb hg_ hnew_
  clear hg_ hnew_
  (first | rw [← Ny113.out] at ho10 | (simp only [Int.reduceToNat] at ho10; rw [← Ny113.out] at ho10))
  have n0_ := Aside0.mk (Kd.R_lower ho10 (below_size (by repeat (first | (with_reducible first | exact HB.out | apply below_alloc | apply pw_below_drewN | apply below_drew1 | refine below_set ?_ GE109.out | refine below_set ?_ GE110.out) | exact HB.out))))
  have n1_ := Aside0.mk (blk_below (g := gb109) (o := .cells #[.string a0_0, .int .i64 a0_1] 91 (0, 0)) (by (with_reducible repeat (first | refine blk_drewN ?_ _ | refine blk_drew ?_ | refine blk_alloc ?_ _)); exact BK109.out) hb)
  have n2_ := Aside0.mk (blk_below (g := gb110) (o := .cells #[.string a1_0, .int .i64 a1_1] 91 (0, 0)) (by (with_reducible repeat (first | refine blk_drewN ?_ _ | refine blk_drew ?_ | refine blk_alloc ?_ _)); exact BK110.out) hb)
  have n3_ := Aside0.mk (below_step (by repeat (first | (with_reducible first | exact HB.out | apply below_alloc | apply pw_below_drewN | apply below_drew1 | refine below_set ?_ GE109.out | refine below_set ?_ GE110.out) | exact HB.out)) hb)
  clear BK109
  clear BK110
  clear HB
  have HO115 := n0_
  have BK109 := n1_
  have BK110 := n2_
  have HB := n3_
  clear n0_ n1_ n2_ n3_
  clear hb ho10
  obtain ⟨Ao11, co11, eo11⟩ := Kd.R_slice HO115.out
  (first | subst eo11 | (injection eo11 with f1_ f2_ f3_; have f4_ := f1_.symm; have f5_ := f3_.symm; clear f1_ f2_ f3_; subst f4_; subst f5_))
  refine hK.out _ _ ⟨(blk_cell BK109.out 0).trans rfl, (blk_cell BK109.out 1).trans rfl, (blk_cell BK110.out 0).trans rfl, (blk_cell BK110.out 1).trans rfl⟩ (fun hHeld => ?_)
  clear hK K
  refine norm_ (a' := ?_) ?_ ?_
  rotate_left
  · show Act.put _ (some 15) _ = _
    simp only [Act.put, List.setIfInBounds_toArray, List.set_cons_zero, List.set_cons_succ, i64_w, i32_w]
    rfl
  refine one_ (i := 11) (N := some 16) #[true, true, true, true, true, true, true, true, true, true, true, true, false] rfl rfl (one_of HT_.out (by kernel_rfl)) (by decide) (fun K hK => ?_)
  refine goes_ Try.func55 (by kernel_rfl) rfl #[.slice Ao11 y113.length co11] (by rfl) rfl rfl (by (try simp only [List.map_toArray, List.map_cons, List.map_nil]); first | done | rfl | (simp only [List.length_drop, List.length_take]; rfl)) ?_
  with_reducible refine (key_first.calls k _ _ y113 t116 _ ?side1 ?side2 A5.out).mono ?_
  (case side1 => repeat (first | exact (Kd.R_reads' HO115.out).2.2 | (with_reducible refine Kd.C_alloc ?_ _) | (with_reducible refine Kd.C_drewN ?_ _) | (with_reducible refine Kd.C_drew ?_)))
  (case side2 => exact (Kd.R_reads' HO115.out).2.1)
  rintro e w' ⟨rfl, ⟨nd, rfl⟩⟩
  refine ⟨_, rfl, ?_⟩
  refine hK.out _ _ ⟨(blk_cell BK109.out 0).trans rfl, (blk_cell BK109.out 1).trans rfl, (blk_cell BK110.out 0).trans rfl, (blk_cell BK110.out 1).trans rfl⟩ (fun hHeld => ?_)
  clear hK K
  refine norm_ (a' := ?_) ?_ ?_
  rotate_left
  · show Act.put _ (some 16) _ = _
    simp only [Act.put, List.setIfInBounds_toArray, List.set_cons_zero, List.set_cons_succ, i64_w, i32_w]
    rfl
  refine pure_ (i := 12) (N := some 4) (v := ?_) (a' := ?_) #[true, true, true, true, true, true, true, true, true, true, true, true, true] rfl rfl (any_of HT_.out (by kernel_rfl)) (fun _ _ _ h => h) (Or.inl ⟨by rfl, ?_⟩) ?_ ?_
  rotate_left
  · intro w'
    go_simp
    with_reducible rfl
  rotate_left
  · simp only [Act.put, List.setIfInBounds_toArray, List.set_cons_zero, List.set_cons_succ, i64_w, i32_w]
    rfl
  refine done_ (done_of HT_.out (by kernel_rfl)) ?_
  try go_wp2
  go_ret
  exact ⟨by first | rfl | (simp [errW_none, errW_some] <;> rfl) | (simp [*, errW_none, errW_some] <;> rfl), by repeat (first | (with_reducible first | exact HB.out | apply below_alloc | apply pw_below_drewN | apply below_drew1 | refine below_set ?_ GE109.out | refine below_set ?_ GE110.out) | exact HB.out)⟩

end Go.Proofs.Ytoiohlmiofplcaa.P
/-
  key.Compare and key.Less, by hand.
-/
namespace Go.Proofs.Ytoiohlmiofplcaa.P
open Go.RowKit Go.Shelf Go.Proofs.YtoiohlmiofplcaaW.PrintWords Go.Proofs.YtoiohlmiofplcaaW.PrintLast

/-- Whether a key is ahead of another one. -/
def lessK (p : ByteArray) (a : Int) (q : ByteArray) (b : Int) : Bool := if Op.bytesLess p.toList q.toList = true then true else if p.toList = q.toList then decide (a > b) else false
def cmpI (a b : Int) : Int := if a < b then -1 else if a > b then 1 else 0
def cmpK (p : ByteArray) (a : Int) (q : ByteArray) (b : Int) : Int := if cmpS p q ≠ 0 then cmpS p q else cmpI b a
theorem cmpI_f (a b : Int) : cmp_Compare_int.f a b = some (cmpI a b) := by
  unfold cmp_Compare_int.f cmp_isNaN_int.f cmpI
  simp
  split
  · rfl
  · split <;> rfl
theorem first_two (x y : Int) : key_first.f 4 [x, y] = some (if x ≠ 0 then x else y) := by
  unfold key_first.f
  by_cases h : x = 0
  · subst h
    by_cases h2 : y = 0
    · subst h2; simp [key_first.l0, wrap64, rd]
    · simp [key_first.l0, wrap64, rd, h2]
  · simp [key_first.l0, rd, h]
theorem to_f (p : ByteArray) (a : Int) (q : ByteArray) (b : Int) : key_version_to.f 4 p a q b = some (cmpK p a q b) := by
  unfold key_version_to.f cmp_Compare_string.f cmpK
  rw [cmpI_f]
  simp only [Option.bind_some]
  rw [first_two]
  rfl
theorem cmpK_less (p : ByteArray) (a : Int) (q : ByteArray) (b : Int) : decide (cmpK p a q b < 0) = lessK p a q b := by
  unfold cmpK lessK cmpS cmpI
  by_cases h1 : Op.bytesLess p.toList q.toList = true
  · simp [h1]
  · rw [if_neg h1, if_neg h1]
    by_cases h2 : p.toList = q.toList
    · rw [if_pos h2, if_pos h2]
      simp only [ne_eq, not_true_eq_false, if_false]
      by_cases h3 : b < a
      · rw [if_pos h3]; simp [h3]
      · rw [if_neg h3]
        by_cases h4 : b > a
        · rw [if_pos h4]; simp; omega
        · rw [if_neg h4]; simp; omega
    · simp [h2]
theorem key_Compare_calls (p : ByteArray) (a : Int) (q : ByteArray) (b : Int) (w : World) : Calls Try.prog 52 #[.agg #[.string p, .int .i64 a], .agg #[.string q, .int .i64 b]] w fun e w' => e = .returned (.int .i64 (cmpK p a q b)) ∧ Below w.heap.size w w' := by
  have HC := Aside0.mk (fun W => key_version_to.calls 4 p a q b _ W (to_f p a q b))
  have eg : ∀ args w, (callFunc 54 args).run Try.prog w = .ok (.enter 54 args) w := enters_of Try.func54 (by kernel_rfl) rfl
  obtain ⟨n, hn⟩ : ∃ n, n = cmpK p a q b := ⟨_, rfl⟩
  rw [← hn] at HC ⊢
  clear hn
  have HB := Aside0.mk (((Below.refl w.heap.size w).alloc (Nat.le_refl _) (.cells #[.string p, .int .i64 a] 24)).alloc (by simp) (.cells #[.string q, .int .i64 b] 24))
  go_enter Try.func52, Try.ntmps52
  go_wp2_with (first | (go_at_fn 54; (with_reducible refine (HC.out _).mono ?_); rintro e w3 ⟨rfl, hb3⟩; have HB3 := Aside0.mk (HB.out.trans (hb3.mono HB.out.size)); clear hb3))
  go_ret
  exact ⟨rfl, HB3.out⟩
/-- What key.Less answers. -/
def key_Less.f (a0_0 : ByteArray) (a0_1 : Int) (a1_0 : ByteArray) (a1_1 : Int) : Option Bool := some (lessK a0_0 a0_1 a1_0 a1_1)
theorem key_Less.calls (a0_0 : ByteArray) (a0_1 : Int) (a1_0 : ByteArray) (a1_1 : Int) (r : Bool) (w : World) (h : key_Less.f a0_0 a0_1 a1_0 a1_1 = some r) :
    Calls Try.prog 45 #[.agg #[.string a0_0, .int .i64 a0_1], .agg #[.string a1_0, .int .i64 a1_1]] w fun e w' => e = .returned (.bool r) ∧ Below w.heap.size w w' := by
  obtain rfl := Option.some.inj h
  clear h
  have HC := Aside0.mk (fun W => key_Compare_calls a0_0 a0_1 a1_0 a1_1 W)
  have hk := Aside0.mk (cmpK_less a0_0 a0_1 a1_0 a1_1)
  rw [← hk.out]
  obtain ⟨n, hn⟩ : ∃ n, n = cmpK a0_0 a0_1 a1_0 a1_1 := ⟨_, rfl⟩
  rw [← hn] at HC ⊢
  clear hn hk
  have HB := Aside0.mk (((Below.refl w.heap.size w).alloc (Nat.le_refl _) (.cells #[.string a0_0, .int .i64 a0_1] 24)).alloc (by simp) (.cells #[.string a1_0, .int .i64 a1_1] 24))
  go_enter Try.func45, Try.ntmps45
  go_wp2_with (first | (go_at_call 52; (with_reducible refine (HC.out _).mono ?_); rintro e w3 ⟨rfl, hb3⟩; have HB3 := Aside0.mk (HB.out.trans (hb3.mono HB.out.size)); clear hb3))
  go_ret
  exact ⟨rfl, HB3.out⟩
end Go.Proofs.Ytoiohlmiofplcaa.P
/-
  node.Find, by hand.
-/
namespace Go.Proofs.Ytoiohlmiofplcaa.P
open Go.RowKit Go.Shelf Go.Proofs.YtoiohlmiofplcaaW.PrintWords Go.Proofs.YtoiohlmiofplcaaW.PrintLast Go.Proofs.Plain

def behindP (p : ByteArray) (a : Int) (x : S26) : Bool := !(lessK x.f0.f0 x.f0.f1 p a)
def eqK (x : S26) (p : ByteArray) (a : Int) : Bool := x.f0.f0.toList == p.toList && (x.f0.f1 == a)
/-- Where a key stands, or would; and whether it does. -/
def findV (l : List S26) (p : ByteArray) (a : Int) : Int × Bool := if idx (behindP p a) l < 0 then ((l.length : Int), false) else (idx (behindP p a) l, eqK (rd_T26 l (idx (behindP p a) l)) p a)
def node_Find.f (l0 : List S26) (a1_0 : ByteArray) (a1_1 : Int) : Option (Int × Bool) := some (findV l0 a1_0 a1_1)

theorem idx_rng {α : Type} (p : α → Bool) (l : List α) : -1 ≤ idx p l ∧ (0 ≤ idx p l → idx p l < l.length) := by
  unfold idx
  by_cases h : l.any p = true
  · rw [if_pos h]
    refine ⟨by omega, fun _ => ?_⟩
    obtain ⟨x, hx, hp⟩ := List.any_eq_true.1 h
    have : ∀ l : List α, x ∈ l → (l.takeWhile fun x => !p x).length < l.length := by
      intro l
      induction l with
      | nil => intro h; cases h
      | cons y l ih =>
        intro h
        rcases List.mem_cons.1 h with h | h
        · subst h; simp [List.takeWhile, hp]
        · have := ih h
          simp only [List.takeWhile]
          cases hy : p y <;> simp <;> omega
    have := this l hx
    omega
  · rw [if_neg h]; exact ⟨by omega, by omega⟩

set_option maxHeartbeats 2000000 in
theorem node_Find1_calls (p : ByteArray) (a : Int) (B : Nat) (x : S26) (w : World) (hb : w.heap[B]? = some (.cells #[.string p, .int .i64 a] 24 (0, 0))) :
    Calls Try.prog 44 #[encPair x, .pointer (some ⟨B, 0, none⟩)] w fun e w' => e = .returned (.bool (behindP p a x)) ∧ Below w.heap.size w w' := by
  obtain ⟨⟨q, b⟩, s⟩ := x
  have hB := blk_lt hb
  have c0 := blk_cell hb 0
  have c1 := blk_cell hb 1
  have HC := Aside0.mk (fun W => key_Less.calls q b p a _ W rfl)
  have hq := Aside0.mk (show behindP p a ⟨⟨q, b⟩, s⟩ = !(lessK q b p a) from rfl)
  have HB := Aside0.mk ((Below.refl w.heap.size w).alloc (Nat.le_refl _) (.cells #[.string q, .int .i64 b, .string s] 26))
  obtain ⟨n, hn⟩ : ∃ n, n = lessK q b p a := ⟨_, rfl⟩
  rw [← hn] at HC hq
  clear hn hb
  unfold encPair
  go_enter Try.func44, Try.ntmps44
  go_wp2_with (first | (go_at_call 45; (with_reducible refine (HC.out _).mono ?_); rintro e w3 ⟨rfl, hb3⟩; have HB3 := Aside0.mk (HB.out.trans (hb3.mono HB.out.size)); clear hb3))
  go_ret
  exact ⟨by rw [hq.out]; rfl, HB3.out⟩

theorem find1_pred (p : ByteArray) (a : Int) (B : Nat) (l : List S26) (w : World) (hb : w.heap[B]? = some (.cells #[.string p, .int .i64 a] 24 (0, 0))) :
    PredAt 44 #[.pointer (some ⟨B, 0, none⟩)] encPair (behindP p a) l w :=
  ⟨enters_of Try.func44 (by kernel_rfl) rfl, fun x _ w1 h1 => node_Find1_calls p a B x w1 (blk_below hb h1)⟩

set_option maxHeartbeats 4000000 in
set_option maxRecDepth 100000 in
theorem node_Find.calls (A0 : Option Addr) (c0 : Nat) (l0 : List (S26)) (a1_0 : ByteArray) (a1_1 : Int) (r1 : Int) (r2 : Bool) (w : World) (hr0 : Kd.C k26 w A0 l0.length l0) (hc0 : l0.length ≤ c0) (h : node_Find.f l0 a1_0 a1_1 = some (r1, r2)) :
    Calls Try.prog 15 #[.slice A0 l0.length c0, .agg #[.string a1_0, .int .i64 a1_1]] w fun e w' => e = .returned (.tuple #[.int .i64 r1, .bool r2]) ∧ Below w.heap.size w w' := by
  have hu24 := Try.underlying24
  have hm := hr0.2.1
  have hv := Aside0.mk (Option.some.inj h)
  clear h
  have hblk := blk_new w (.cells #[.string a1_0, .int .i64 a1_1] 24)
  have HB := Aside0.mk ((Below.refl w.heap.size w).alloc (Nat.le_refl _) (.cells #[.string a1_0, .int .i64 a1_1] 24))
  have HI := Aside0.mk (IndexFuncPair 44 #[.pointer (some ⟨w.heap.size, 0, none⟩)] (behindP a1_0 a1_1) A0 c0 l0 _ (Kd.C_below hr0 HB.out) (find1_pred a1_0 a1_1 w.heap.size l0 _ hblk))
  have HK := Aside0.mk hblk
  have HR := Aside0.mk hr0
  obtain ⟨hi0, hi1⟩ := idx_rng (behindP a1_0 a1_1) l0
  have hvv := Aside0.mk (show findV l0 a1_0 a1_1 = if idx (behindP a1_0 a1_1) l0 < 0 then ((l0.length : Int), false) else (idx (behindP a1_0 a1_1) l0, eqK (rd_T26 l0 (idx (behindP a1_0 a1_1) l0)) a1_0 a1_1) from rfl)
  rw [hv.out] at hvv
  generalize idx (behindP a1_0 a1_1) l0 = i at *
  clear hv hblk hr0
  by_cases hlt : i < 0
  · have hv := hvv.out
    rw [if_pos hlt] at hv
    obtain ⟨rfl, rfl⟩ := Prod.mk.inj hv
    clear hvv hi1 hv
    go_enter Try.func15, Try.ntmps15
    go_wp2_with (first | (go_at_call 46; (with_reducible refine HI.out.mono ?_); rintro e w3 ⟨rfl, hb3⟩; have HB3 := Aside0.mk (HB.out.trans (hb3.mono HB.out.size)); clear hb3))
    go_ret2
    exact ⟨rfl, HB3.out⟩
  · have hv := hvv.out
    rw [if_neg hlt] at hv
    obtain ⟨hr1, hr2⟩ := Prod.mk.inj hv
    subst hr1
    have hlt2 : r1 < (l0.length : Int) := hi1 (by omega)
    obtain ⟨N, rfl⟩ : ∃ N : Nat, r1 = N := ⟨r1.toNat, by omega⟩
    clear hvv hi1 hv hlt hi0
    obtain ⟨ad, rfl, hx0, hx1, hx2⟩ := at_T26 HR.out (N : Int) (by omega) (by omega)
    have HX0 := Aside0.mk hx0
    have HX1 := Aside0.mk hx1
    have hq := Aside0.mk hr2
    clear hx0 hx1 hx2 hr2
    unfold eqK at hq
    generalize rd_T26 l0 (N : Int) = x at *
    obtain ⟨⟨q, b⟩, s⟩ := x
    simp only at HX0 HX1 hq
    rw [Int.toNat_natCast] at HX0 HX1
    have heq : ∀ W, Sem.run Try.prog (binOp .eql 24 (.agg #[.string q, .int .i64 b]) (.agg #[.string a1_0, .int .i64 a1_1])) W = .ok (.bool (q.toList == a1_0.toList && (b == a1_1))) W := fun W => by
      go_simp
      by_cases e1 : q.toList = a1_0.toList <;> by_cases e2 : b = a1_1 <;> simp [e1, e2]
    go_enter Try.func15, Try.ntmps15
    go_wp2_with (first | (go_at_call 46; (with_reducible refine HI.out.mono ?_); rintro e w3 ⟨rfl, hb3⟩; have HB3 := Aside0.mk (HB.out.trans (hb3.mono HB.out.size)); have hk3 := blk_below HK.out hb3; have k0 := blk_cell hk3 0; have k1 := blk_cell hk3 1; have hx0 := (HB3.out.cell (World.block_lt_of_cell? w _ HX0.out)).trans HX0.out; have hx1 := (HB3.out.cell (World.block_lt_of_cell? w _ HX1.out)).trans HX1.out; clear hb3 hk3))
    go_quiet (fail)
    go_wp2
    go_ret2
    exact ⟨by rw [hq.out]; rfl, pw_below_drewN HB3.out _⟩
end Go.Proofs.Ytoiohlmiofplcaa.P
/-
  Trees (chapter 10): a vertex of height h is a row of pairs (h = 0), or of vertices of the height below; how a value tells one; and what size, all and first answer.
-/
namespace Go.Proofs.Ytoiohlmiofplcaa.P
open Go.RowKit Go.Shelf Go.Proofs.YtoiohlmiofplcaaW.PrintWords Go.Proofs.YtoiohlmiofplcaaW.PrintLast Go.Proofs.YtoiohlmiofplcaaW.PrintMore Go.Proofs.Plain

/-- Vertices of height h. -/
@[reducible] def T : Nat → Type
  | 0 => List S26
  | h + 1 => List (T h)
/-- How many pairs are below. -/
def allT : (h : Nat) → T h → Nat
  | 0, l => List.length (α := S26) l
  | h + 1, ks => (List.map (α := T h) (allT h) ks).sum
/-- How many parts it has. -/
def sizeT : (h : Nat) → T h → Nat
  | 0, l => List.length (α := S26) l
  | h + 1, ks => List.length (α := T h) ks
def ty : Nat → Nat
  | 0 => 71
  | _ + 1 => 84
/-- The value u tells the vertex. -/
def RepU (w : World) : (h : Nat) → T h → Value → Prop
  | 0, l, u => ∃ A c, u = .slice A (List.length (α := S26) l) c ∧ List.length (α := S26) l ≤ c ∧ Kd.C k26 w A (List.length (α := S26) l) l
  | h + 1, ks, u => ∃ A c, u = .agg #[.slice A (List.length (α := T h) ks) c, .int .i64 (allT (h + 1) ks : Nat)] ∧ List.length (α := T h) ks ≤ c ∧ ReadsRow (fun (x : T h) cs => ∃ u', cs = [.iface (ty h) u'] ∧ RepU w h x u') 1 w A (List.length (α := T h) ks) ks
theorem RepU.below {w w1 : World} (hb : Below w.heap.size w w1) : ∀ (h : Nat) (t : T h) (u : Value), RepU w h t u → RepU w1 h t u
  | 0, _, _, ⟨A, c, e, hc, hr⟩ => ⟨A, c, e, hc, Kd.C_below hr hb⟩
  | h + 1, _, _, ⟨A, c, e, hc, hr⟩ => ⟨A, c, e, hc, ReadsRow.imp_ hr hb (fun _ _ ⟨u', e', hu⟩ => ⟨u', e', RepU.below hb h _ _ hu⟩)⟩
/-- Vertices as elements of a row; each is read in w0. -/
def kV (w0 : World) (h : Nat) : Kd (T h) where
  sz := 1
  E := []
  K := fun _ x cs => ∃ u, cs = [.iface (ty h) u] ∧ RepU w0 h x u
  M := fun _ _ _ x cs => ∃ u, cs = [.iface (ty h) u] ∧ RepU w0 h x u
  K_len := fun ⟨_, e, _⟩ => by rw [e]; rfl
  K_one := fun ⟨_, e, _⟩ u hu => by rw [e] at hu; rw [List.mem_singleton.1 hu]; rfl
  K_below := fun _ h => h
  K_of_M := fun h => h
  M_mono := fun _ h => h
  M_bound := fun h => h
  M_move := fun _ h => h
  M_lower := fun _ h => h
/-- A row of vertices. -/
def VRow (w : World) (h : Nat) (A : Option Addr) (ks : List (T h)) : Prop := Kd.C (kV w h) w A ks.length ks
theorem VRow.below {w w1 : World} {h : Nat} {A : Option Addr} {ks : List (T h)} (hr : VRow w h A ks) (hb : Below w.heap.size w w1) : VRow w1 h A ks :=
  ReadsRow.imp_ hr hb (fun _ _ ⟨u', e', hu⟩ => ⟨u', e', RepU.below hb h _ _ hu⟩)
theorem VRow.of {w0 w : World} {h : Nat} {A : Option Addr} {ks : List (T h)} (hr : Kd.C (kV w0 h) w A ks.length ks) (hb : Below w0.heap.size w0 w) : VRow w h A ks :=
  ReadsRow.imp_ hr (Below.refl _ _) (fun _ _ ⟨u', e', hu⟩ => ⟨u', e', RepU.below hb h _ _ hu⟩)
theorem VRow.max {w : World} {h : Nat} {A : Option Addr} {ks : List (T h)} (hr : VRow w h A ks) : ks.length ≤ 9223372036854775807 := hr.2.1
theorem VRow.at_ {w : World} {h : Nat} {A : Option Addr} {ks : List (T h)} (hr : VRow w h A ks) {k : Nat} (hk : k < ks.length) : ∃ ad u, A = some ad ∧ w.cell? (ad.add k) = some (.iface (ty h) u) ∧ RepU w h ks[k] u := by
  obtain ⟨ad, e, hc⟩ := hr.2.2 (by omega)
  obtain ⟨c, hl, ⟨u, hu, hR⟩, hcell⟩ := hc k _ (List.getElem?_eq_getElem hk)
  subst hu
  refine ⟨ad, u, e, ?_, hR⟩
  have := hcell 0 _ rfl
  rw [show k * (kV w h).sz + 0 = k from by show k * 1 + 0 = k; omega] at this
  exact this
theorem RepU.leaf {w : World} {l : List S26} {u : Value} (h : RepU w 0 l u) : ∃ A c, u = .slice A l.length c ∧ l.length ≤ c ∧ Kd.C k26 w A l.length l := h
theorem RepU.fork {w : World} {h : Nat} {ks : List (T h)} {u : Value} (hr : RepU w (h + 1) ks u) : ∃ A c, u = .agg #[.slice A ks.length c, .int .i64 (allT (h + 1) ks : Nat)] ∧ ks.length ≤ c ∧ VRow w h A ks := hr
theorem RepU.mk {w : World} {h : Nat} {ks : List (T h)} {A : Option Addr} {c : Nat} (hc : ks.length ≤ c) (hr : VRow w h A ks) : RepU w (h + 1) ks (.agg #[.slice A ks.length c, .int .i64 (allT (h + 1) ks : Nat)]) := ⟨A, c, rfl, hc, hr⟩

def fnAll : Nat → Nat
  | 0 => 75
  | _ + 1 => 82
def fnSize : Nat → Nat
  | 0 => 98
  | _ + 1 => 87
def fnFirst : Nat → Nat
  | 0 => 77
  | _ + 1 => 84
theorem all_calls (h : Nat) (t : T h) (u : Value) (w : World) (hr : RepU w h t u) : Calls Try.prog (fnAll h) #[u] w fun e w' => e = .returned (.int .i64 (allT h t : Nat)) ∧ Below w.heap.size w w' := by
  cases h with
  | zero =>
    obtain ⟨A, c, rfl, hc, hC⟩ := RepU.leaf hr
    show Calls Try.prog 75 _ w _
    have hn : allT 0 t = List.length (α := S26) t := rfl
    rw [hn]
    clear hn hC hr
    generalize List.length (α := S26) t = n at *
    go_enter Try.func75, Try.ntmps75
    go_wp2
    go_ret
    exact ⟨rfl, Below.refl _ _⟩
  | succ h =>
    obtain ⟨A, c, rfl, hc, hC⟩ := RepU.fork hr
    show Calls Try.prog 82 _ w _
    generalize allT (h + 1) t = m at *
    have hb := (Below.refl w.heap.size w).alloc (Nat.le_refl _) (.cells #[.slice A (List.length (α := T h) t) c, .int .i64 m] 84)
    clear hC hr hc
    generalize List.length (α := T h) t = n at *
    have HB := Aside0.mk hb
    clear hb
    go_enter Try.func82, Try.ntmps82
    go_wp2
    go_ret
    exact ⟨rfl, HB.out⟩
theorem size_calls (h : Nat) (t : T h) (u : Value) (w : World) (hr : RepU w h t u) : Calls Try.prog (fnSize h) #[u] w fun e w' => e = .returned (.int .i64 (sizeT h t : Nat)) ∧ Below w.heap.size w w' := by
  cases h with
  | zero =>
    obtain ⟨A, c, rfl, hc, hC⟩ := RepU.leaf hr
    show Calls Try.prog 98 _ w _
    have hn : sizeT 0 t = List.length (α := S26) t := rfl
    rw [hn]
    clear hn hC hr
    generalize List.length (α := S26) t = n at *
    go_enter Try.func98, Try.ntmps98
    go_wp2
    go_ret
    exact ⟨rfl, Below.refl _ _⟩
  | succ h =>
    obtain ⟨A, c, rfl, hc, hC⟩ := RepU.fork hr
    show Calls Try.prog 87 _ w _
    generalize allT (h + 1) t = m at *
    have hn : sizeT (h + 1) t = List.length (α := T h) t := rfl
    rw [hn]
    have hb := (Below.refl w.heap.size w).alloc (Nat.le_refl _) (.cells #[.slice A (List.length (α := T h) t) c, .int .i64 m] 84)
    clear hC hr hc hn
    generalize List.length (α := T h) t = n at *
    have HB := Aside0.mk hb
    clear hb
    go_enter Try.func87, Try.ntmps87
    go_wp2
    go_ret
    exact ⟨rfl, HB.out⟩
end Go.Proofs.Ytoiohlmiofplcaa.P
/-
  slices.Grow of none, slices.Concat of rows: of vertices, and of pairs.
-/
namespace Go.Proofs.Ytoiohlmiofplcaa.P
open Go.RowKit Go.Proofs.YtoiohlmiofplcaaW.PrintWords Go.Proofs.YtoiohlmiofplcaaW.PrintLast Go.Proofs.YtoiohlmiofplcaaW.PrintMore Go.Proofs.Plain

theorem flat_take {α : Type} (ls : List (List α)) (j : Nat) (h : j < ls.length) : (ls.take (j + 1)).flatten = (ls.take j).flatten ++ ls[j] := by
  rw [List.take_succ_eq_append_getElem h, List.flatten_append, List.flatten_singleton]
theorem flat_le {α : Type} (ls : List (List α)) (j : Nat) : (ls.take j).flatten.length ≤ ls.flatten.length := by
  have : ls.flatten = (ls.take j).flatten ++ (ls.drop j).flatten := by rw [← List.flatten_append, List.take_append_drop]
  rw [this, List.length_append]
  omega
/-- A row of rows, at a place. -/
theorem at_rows {α : Type} {e : Nat} {d : Kd α} {w : World} {A : Option Addr} {n : Nat} {xs : List (List α)} (h : Kd.C (Kd.slice e d) w A n xs) (k : Nat) (hk : k < xs.length) : ∃ ad A0 c0, A = some ad ∧ w.cell? (ad.add k) = some (.slice A0 xs[k].length c0) ∧ xs[k].length ≤ c0 ∧ d.C w A0 xs[k].length xs[k] := by
  obtain ⟨ad, c, he, _, hK, hc0⟩ := Kd.C_get h ([] : List α) (k : Int) (by omega) (by have := h.1; omega)
  have hg : xs.getD (k : Int).toNat [] = xs[k] := by rw [Int.toNat_natCast]; simp [List.getD_eq_getElem?_getD, hk]
  rw [hg] at hK
  obtain ⟨A0, c0, rfl, l0, g0⟩ := hK
  have := hc0 0 _ rfl
  rw [Int.toNat_natCast, show k * (Kd.slice e d).sz + 0 = k from by show k * 1 + 0 = k; omega] at this
  exact ⟨ad, A0, c0, he, this, l0, g0⟩
theorem vtx_info : (Try.prog.info? 73).map (fun i => (i.zero, i.size, i.bytes)) = some (some .nilIface, 1, 16) := by kernel_rfl

theorem info2_vtx : ∃ i, Try.prog.info? 73 = some i ∧ i.zero = some (.nilIface) ∧ i.size = 1 ∧ i.bytes = 16 := by
  obtain ⟨i, hi, hz⟩ := Option.map_eq_some_iff.1 vtx_info
  simp only [Prod.mk.injEq] at hz
  exact ⟨i, hi, hz⟩
set_option maxHeartbeats 2000000 in
/-- slices.Grow of nil: a row of none, with room. -/
theorem grow_vtx (n : Nat) (w : World) (hn : n ≤ 2000000000) :
    Calls Try.prog 95 #[.slice none 0 0, .int .i64 n] w fun e w' => ∃ v0_ : Value, e = .returned (v0_) ∧ (∀ (wv : World) (hv : Nat), Kd.R (kV wv hv) 73 w' w.heap.size (fun _ => True) v0_ []) ∧ Below w.heap.size w w' := by
  have hn0 : ¬ ((n : Int) < 0) := by omega
  have hn1 : (n : Int) ≤ 2000000000 := by omega
  by_cases h0 : n = 0
  · subst h0
    go_enter Try.func95, Try.ntmps95
    go_wp2
    go_ret
    exact ⟨_, rfl, fun _ _ => Kd.R_nil _ _ _ _ _, Below.refl _ _⟩
  · obtain ⟨i, hi, hz, hs, hb⟩ := info2_vtx
    have hpos : (0 : Int) < (n : Int) := by omega
    have hrun := fun (W : World) => Lib.run_append_nil_zeros (P := Try.prog) W 79 3 79 73 i _ .i64 .i64 Try.underlying79 Try.underlying3 hi hz n (by omega) (by omega) (by omega) (by rw [hb]; omega)
    obtain ⟨cap, hcap⟩ : ∃ cap, cap = grownCap w n 0 73 := ⟨_, rfl⟩
    have h1 : n ≤ cap := by rw [hcap]; exact grownCap_ge _ _ _ _
    have h2 : cap ≤ maxLen := by rw [hcap]; exact grownCap_le_maxLen _ _ _ _ (by simp [maxLen]; omega)
    obtain ⟨cur, hcur⟩ : ∃ cur, cur = Builtin.zeroCells (Value.cells (.nilIface)) n ++ Builtin.zeroCells (Value.cells (.nilIface)) (cap - n) := ⟨_, rfl⟩
    have h3 : cur.size = cap * 1 := by
      rw [hcur, Array.size_append, size_zeroCells, size_zeroCells]
      show n * 1 + (cap - n) * 1 = cap * 1
      omega
    have hrow := hrun w
    rw [← hcap, ← hcur] at hrow
    have HR := Aside0.mk hrow
    have HB := Aside0.mk (show Below w.heap.size w (w.drew.alloc (.cells cur 73)) from (below_drew (Below.refl _ _)).alloc (Nat.le_refl _) _)
    have HO := Aside0.mk (show ∀ (wv : World) (hv : Nat), Kd.R (kV wv hv) 73 (w.drew.alloc (.cells cur 73)) w.heap.size (fun _ => True) (.slice (some ⟨w.heap.size, 0, none⟩) 0 cap) [] from fun wv hv => ⟨fun _ _ => trivial, [], ⟨rfl, .inr ⟨w.heap.size, cap, cur, rfl, Nat.le_refl _, blk_new w.drew (.cells cur 73), Nat.zero_le _, h2, h3, by simp⟩⟩, Reps.none _ _⟩)
    have hcut : (0 : Int) ≤ (cap : Int) := by omega
    clear hrun hrow hcur hcap h1 h2 h3 hi hz hs hb
    go_enter Try.func95, Try.ntmps95
    go_wp2_with (at_builtin; refine Lib.wpList_append_run _ rfl (.tmp 20) (.tmp 21) 79 3 rfl _ _ rfl rfl _ _ HR.out ?_)
    go_ret
    exact ⟨_, rfl, HO.out, HB.out⟩

set_option maxHeartbeats 4000000 in
theorem concat_vtx (wv : World) (hv : Nat) (A : Option Addr) (c : Nat) (ls : List (List (T hv))) (w : World) (hr : Kd.C (Kd.slice 73 (kV wv hv)) w A ls.length ls) (hc : ls.length ≤ c) (hl : ls.length ≤ 1000000000) (hf : ls.flatten.length ≤ 1000000000) :
    Calls Try.prog 93 #[.slice A ls.length c] w fun e w' => ∃ v0_ : Value, e = .returned (v0_) ∧ Kd.R (kV wv hv) 73 w' w.heap.size (fun _ => True) v0_ ls.flatten ∧ Below w.heap.size w w' := by
  have HR := Aside0.mk hr
  have HF := Aside0.mk hf
  clear hr hf
  go_enter Try.func93, Try.ntmps93
  go_wp2
  go_loopw [3, 11] (fun s i wr => ∃ j : Nat, j ≤ ls.length ∧ i = .int .i64 j ∧ s = .int .i64 ((ls.take j).flatten.length : Nat) ∧ wr = w)
    (fun _ i _ => ls.length - (intOf i).toNat)
  case atStart => exact ⟨0, Nat.zero_le _, rfl, rfl, rfl⟩
  case round =>
    obtain ⟨j, hj, rfl, rfl, rfl⟩ := hrel
    by_cases hlt : j < ls.length
    · obtain ⟨ad, A0, c0, hA, hcell, hlc, hC⟩ := at_rows HR.out j hlt
      have hA2 := Aside0.mk hA
      obtain ⟨n1, hn1⟩ : ∃ n1, n1 = (ls.take j).flatten.length := ⟨_, rfl⟩
      obtain ⟨n2, hn2⟩ : ∃ n2, n2 = ls[j].length := ⟨_, rfl⟩
      have hsum : (ls.take (j + 1)).flatten.length = n1 + n2 := by rw [flat_take ls j hlt, List.length_append, hn1, hn2]
      have hle := flat_le ls (j + 1)
      have hfl := HF.out
      rw [← hn2] at hcell
      rw [← hn1]
      have HS := Aside0.mk hsum
      have hb : n1 + n2 ≤ 1000000000 := by omega
      have hneg : ¬ ((n1 : Int) + (n2 : Int) < 0) := by omega
      subst hA
      clear hlc hC hn1 hn2 hsum hle hfl
      go_wp2
      go_roundw
      case rel => exact ⟨j + 1, hlt, by go_num, by rw [HS.out]; go_num, by first | trivial | rfl⟩
      case measure => simp [intOf]; omega
    · obtain rfl : j = ls.length := by omega
      rw [List.take_length]
      obtain ⟨w0, hw0⟩ : ∃ w0, w0 = wr := ⟨_, rfl⟩
      subst hw0
      have hfl := HF.out
      obtain ⟨n, hn⟩ : ∃ n, n = ls.flatten.length := ⟨_, rfl⟩
      rw [← hn] at hfl ⊢
      clear hlt hj hn
      go_wp2_with (go_at_call 95; (with_reducible refine (grow_vtx n w0 (by omega)).mono ?_); rintro e w1 ⟨v, rfl, h1, hb⟩; have HB1 := Aside0.mk hb; have HO1 := Aside0.mk h1; clear hb h1)
      go_loopw [6, 27] (fun s i w2 => ∃ j : Nat, j ≤ ls.length ∧ i = .int .i64 j ∧ Aside0 (Kd.R (kV wv hv) 73 w2 w0.heap.size (fun _ => True) s (ls.take j).flatten) ∧ Aside0 (Below w0.heap.size w0 w2))
        (fun _ i _ => ls.length - (intOf i).toNat)
      case atStart => exact ⟨0, Nat.zero_le _, rfl, ⟨HO1.out wv hv⟩, HB1⟩
      case round =>
        clear HO1 HB1
        obtain ⟨j, hj, rfl, HO, HB⟩ := hrel
        by_cases hlt : j < ls.length
        · obtain ⟨ad, A0, c0, hA, hcell, hlc, hC⟩ := at_rows HR.out j hlt
          obtain ⟨x, hx⟩ : ∃ x, x = ls[j] := ⟨_, rfl⟩
          obtain ⟨y, hy⟩ : ∃ y, y = (ls.take j).flatten := ⟨_, rfl⟩
          have hsum : (ls.take (j + 1)).flatten = y ++ x := by rw [flat_take ls j hlt, hx, hy]
          have hle := flat_le ls (j + 1)
          rw [hsum, List.length_append] at hle
          rw [← hx] at hcell hlc hC
          rw [← hy] at HO
          have HS := Aside0.mk hsum
          have HLE := Aside0.mk (show y.length + x.length ≤ 1000000000 from Nat.le_trans hle HF.out)
          have HCx := Aside0.mk (show Kd.C (kV wv hv) _ A0 x.length x from Kd.C_below hC HB.out)
          have hcell2 := pw_cell_below HB.out hcell
          subst hA
          clear hlc hC hx hy hsum hle hcell
          go_wp2_with (at_builtin; refine Kd.R_append_rows (kV wv hv) (w0 := w0) w0.heap.size rfl (.tmp 31) (.tmp 32) 79 73 (.nilIface) 16 rfl Try.underlying79 vtx_info rfl (show (0 : Nat) < 1 by decide) (by omega) _ y x _ _ _ (fun _ => True) (fun _ => False) rfl rfl HO.out HCx.out (fun _ _ h => h) (fun _ h => h.elim) (fun _ _ => trivial) HB.out HB.out.size (by have := HLE.out; omega) ?_; intro v1 w1 ho hb _ _; have HO2 := Aside0.mk ho; have HB2 := Aside0.mk hb; clear ho hb)
          go_roundw
          case rel => exact ⟨j + 1, hlt, by go_num, by rw [HS.out]; exact HO2, HB2⟩
          case measure => simp [intOf]; omega
        · obtain rfl : j = ls.length := by omega
          rw [List.take_length] at HO
          clear hlt hj
          go_wp2
          go_ret
          exact ⟨_, rfl, HO.out, HB.out⟩

theorem info2_prs : ∃ i, Try.prog.info? 26 = some i ∧ i.zero = some (.agg #[(.string ⟨#[]⟩), (.int .i64 0), (.string ⟨#[]⟩)]) ∧ i.size = 3 ∧ i.bytes = 40 := by
  obtain ⟨i, hi, hz⟩ := Option.map_eq_some_iff.1 info26
  simp only [Prod.mk.injEq] at hz
  exact ⟨i, hi, hz⟩
set_option maxHeartbeats 2000000 in
/-- slices.Grow of nil: a row of none, with room. -/
theorem grow_prs (n : Nat) (w : World) (hn : n ≤ 2000000000) :
    Calls Try.prog 96 #[.slice none 0 0, .int .i64 n] w fun e w' => ∃ v0_ : Value, e = .returned (v0_) ∧ (Kd.R k26 26 w' w.heap.size (fun _ => True) v0_ []) ∧ Below w.heap.size w w' := by
  have hn0 : ¬ ((n : Int) < 0) := by omega
  have hn1 : (n : Int) ≤ 2000000000 := by omega
  by_cases h0 : n = 0
  · subst h0
    go_enter Try.func96, Try.ntmps96
    go_wp2
    go_ret
    exact ⟨_, rfl, Kd.R_nil _ _ _ _ _, Below.refl _ _⟩
  · obtain ⟨i, hi, hz, hs, hb⟩ := info2_prs
    have hpos : (0 : Int) < (n : Int) := by omega
    have hrun := fun (W : World) => Lib.run_append_nil_zeros (P := Try.prog) W 71 3 71 26 i _ .i64 .i64 Try.underlying71 Try.underlying3 hi hz n (by omega) (by omega) (by omega) (by rw [hb]; omega)
    obtain ⟨cap, hcap⟩ : ∃ cap, cap = grownCap w n 0 26 := ⟨_, rfl⟩
    have h1 : n ≤ cap := by rw [hcap]; exact grownCap_ge _ _ _ _
    have h2 : cap ≤ maxLen := by rw [hcap]; exact grownCap_le_maxLen _ _ _ _ (by simp [maxLen]; omega)
    obtain ⟨cur, hcur⟩ : ∃ cur, cur = Builtin.zeroCells (Value.cells (.agg #[(.string ⟨#[]⟩), (.int .i64 0), (.string ⟨#[]⟩)])) n ++ Builtin.zeroCells (Value.cells (.agg #[(.string ⟨#[]⟩), (.int .i64 0), (.string ⟨#[]⟩)])) (cap - n) := ⟨_, rfl⟩
    have h3 : cur.size = cap * 3 := by
      rw [hcur, Array.size_append, size_zeroCells, size_zeroCells]
      show n * 3 + (cap - n) * 3 = cap * 3
      omega
    have hrow := hrun w
    rw [← hcap, ← hcur] at hrow
    have HR := Aside0.mk hrow
    have HB := Aside0.mk (show Below w.heap.size w (w.drew.alloc (.cells cur 26)) from (below_drew (Below.refl _ _)).alloc (Nat.le_refl _) _)
    have HO := Aside0.mk (show Kd.R k26 26 (w.drew.alloc (.cells cur 26)) w.heap.size (fun _ => True) (.slice (some ⟨w.heap.size, 0, none⟩) 0 cap) [] from ⟨fun _ _ => trivial, [], ⟨rfl, .inr ⟨w.heap.size, cap, cur, rfl, Nat.le_refl _, blk_new w.drew (.cells cur 26), Nat.zero_le _, h2, h3, by simp⟩⟩, Reps.none _ _⟩)
    have hcut : (0 : Int) ≤ (cap : Int) := by omega
    clear hrun hrow hcur hcap h1 h2 h3 hi hz hs hb
    go_enter Try.func96, Try.ntmps96
    go_wp2_with (at_builtin; refine Lib.wpList_append_run _ rfl (.tmp 20) (.tmp 21) 71 3 rfl _ _ rfl rfl _ _ HR.out ?_)
    go_ret
    exact ⟨_, rfl, HO.out, HB.out⟩

set_option maxHeartbeats 4000000 in
theorem concat_prs (A : Option Addr) (c : Nat) (ls : List (List S26)) (w : World) (hr : Kd.C (Kd.slice 26 k26) w A ls.length ls) (hc : ls.length ≤ c) (hl : ls.length ≤ 1000000000) (hf : ls.flatten.length ≤ 1000000000) :
    Calls Try.prog 94 #[.slice A ls.length c] w fun e w' => ∃ v0_ : Value, e = .returned (v0_) ∧ Kd.R k26 26 w' w.heap.size (fun _ => True) v0_ ls.flatten ∧ Below w.heap.size w w' := by
  have HR := Aside0.mk hr
  have HF := Aside0.mk hf
  clear hr hf
  go_enter Try.func94, Try.ntmps94
  go_wp2
  go_loopw [3, 11] (fun s i wr => ∃ j : Nat, j ≤ ls.length ∧ i = .int .i64 j ∧ s = .int .i64 ((ls.take j).flatten.length : Nat) ∧ wr = w)
    (fun _ i _ => ls.length - (intOf i).toNat)
  case atStart => exact ⟨0, Nat.zero_le _, rfl, rfl, rfl⟩
  case round =>
    obtain ⟨j, hj, rfl, rfl, rfl⟩ := hrel
    by_cases hlt : j < ls.length
    · obtain ⟨ad, A0, c0, hA, hcell, hlc, hC⟩ := at_rows HR.out j hlt
      have hA2 := Aside0.mk hA
      obtain ⟨n1, hn1⟩ : ∃ n1, n1 = (ls.take j).flatten.length := ⟨_, rfl⟩
      obtain ⟨n2, hn2⟩ : ∃ n2, n2 = ls[j].length := ⟨_, rfl⟩
      have hsum : (ls.take (j + 1)).flatten.length = n1 + n2 := by rw [flat_take ls j hlt, List.length_append, hn1, hn2]
      have hle := flat_le ls (j + 1)
      have hfl := HF.out
      rw [← hn2] at hcell
      rw [← hn1]
      have HS := Aside0.mk hsum
      have hb : n1 + n2 ≤ 1000000000 := by omega
      have hneg : ¬ ((n1 : Int) + (n2 : Int) < 0) := by omega
      subst hA
      clear hlc hC hn1 hn2 hsum hle hfl
      go_wp2
      go_roundw
      case rel => exact ⟨j + 1, hlt, by go_num, by rw [HS.out]; go_num, by first | trivial | rfl⟩
      case measure => simp [intOf]; omega
    · obtain rfl : j = ls.length := by omega
      rw [List.take_length]
      obtain ⟨w0, hw0⟩ : ∃ w0, w0 = wr := ⟨_, rfl⟩
      subst hw0
      have hfl := HF.out
      obtain ⟨n, hn⟩ : ∃ n, n = ls.flatten.length := ⟨_, rfl⟩
      rw [← hn] at hfl ⊢
      clear hlt hj hn
      go_wp2_with (go_at_call 96; (with_reducible refine (grow_prs n w0 (by omega)).mono ?_); rintro e w1 ⟨v, rfl, h1, hb⟩; have HB1 := Aside0.mk hb; have HO1 := Aside0.mk h1; clear hb h1)
      go_loopw [6, 27] (fun s i w2 => ∃ j : Nat, j ≤ ls.length ∧ i = .int .i64 j ∧ Aside0 (Kd.R k26 26 w2 w0.heap.size (fun _ => True) s (ls.take j).flatten) ∧ Aside0 (Below w0.heap.size w0 w2))
        (fun _ i _ => ls.length - (intOf i).toNat)
      case atStart => exact ⟨0, Nat.zero_le _, rfl, HO1, HB1⟩
      case round =>
        clear HO1 HB1
        obtain ⟨j, hj, rfl, HO, HB⟩ := hrel
        by_cases hlt : j < ls.length
        · obtain ⟨ad, A0, c0, hA, hcell, hlc, hC⟩ := at_rows HR.out j hlt
          obtain ⟨x, hx⟩ : ∃ x, x = ls[j] := ⟨_, rfl⟩
          obtain ⟨y, hy⟩ : ∃ y, y = (ls.take j).flatten := ⟨_, rfl⟩
          have hsum : (ls.take (j + 1)).flatten = y ++ x := by rw [flat_take ls j hlt, hx, hy]
          have hle := flat_le ls (j + 1)
          rw [hsum, List.length_append] at hle
          rw [← hx] at hcell hlc hC
          rw [← hy] at HO
          have HS := Aside0.mk hsum
          have HLE := Aside0.mk (show y.length + x.length ≤ 1000000000 from Nat.le_trans hle HF.out)
          have HCx := Aside0.mk (show Kd.C k26 _ A0 x.length x from Kd.C_below hC HB.out)
          have hcell2 := pw_cell_below HB.out hcell
          subst hA
          clear hlc hC hx hy hsum hle hcell
          go_wp2_with (at_builtin; refine Kd.R_append_rows k26 (w0 := w0) w0.heap.size rfl (.tmp 31) (.tmp 32) 71 26 (.agg #[(.string ⟨#[]⟩), (.int .i64 0), (.string ⟨#[]⟩)]) 40 rfl Try.underlying71 info26 rfl (show (0 : Nat) < 3 by decide) (by omega) _ y x _ _ _ (fun _ => True) (fun _ => False) rfl rfl HO.out HCx.out (fun _ _ h => h) (fun _ h => h.elim) (fun _ _ => trivial) HB.out HB.out.size (by have := HLE.out; omega) ?_; intro v1 w1 ho hb _ _; have HO2 := Aside0.mk ho; have HB2 := Aside0.mk hb; clear ho hb)
          go_roundw
          case rel => exact ⟨j + 1, hlt, by go_num, by rw [HS.out]; exact HO2, HB2⟩
          case measure => simp [intOf]; omega
        · obtain rfl : j = ls.length := by omega
          rw [List.take_length] at HO
          clear hlt hj
          go_wp2
          go_ret
          exact ⟨_, rfl, HO.out, HB.out⟩

end Go.Proofs.Ytoiohlmiofplcaa.P
/-
  first (chapter 10): the key of the first pair.
-/
namespace Go.Proofs.Ytoiohlmiofplcaa.P
open Go.RowKit Go.Shelf Go.Proofs.YtoiohlmiofplcaaW.PrintWords Go.Proofs.YtoiohlmiofplcaaW.PrintLast Go.Proofs.YtoiohlmiofplcaaW.PrintMore Go.Proofs.Plain

/-- The first pair's key. -/
def firstT : (h : Nat) → T h → S24
  | 0, l => (List.headD (α := S26) l z26).f0
  | h + 1, ks => match (ks : List (T h)) with
    | [] => z24
    | k :: _ => firstT h k
/-- No part is empty. -/
def NE : (h : Nat) → T h → Prop
  | 0, l => 0 < List.length (α := S26) l
  | h + 1, ks => 0 < List.length (α := T h) ks ∧ ∀ k : T h, k ∈ (ks : List (T h)) → NE h k
def blkK (a : ByteArray) (b : Int) : Array Value := #[.string a, .int .i64 b]
theorem store_key {W : World} {g : Nat} {cur : Array Value} (hh : W.heap[g]? = some (.cells cur 24 (0, 0))) (hs : cur.size = 2) (a : ByteArray) (b : Int) :
    (Instr.storeAt 24 (.pointer (some ⟨g, 0, none⟩)) (.agg (blkK a b))).run Try.prog W = .ok () (W.setCells g 0 (blkK a b).toList) ∧
    (W.setCells g 0 (blkK a b).toList).heap[g]? = some (.cells (blkK a b) 24 (0, 0)) := by
  have hl : (blkK a b).toList.length = 2 := rfl
  refine ⟨run_store_run (P := Try.prog) (o := 0) 24 _ _ hh rfl (by rw [hl]; kernel_rfl) (by omega) (fun q hq => ?_), ?_⟩
  · simp only [blkK, List.mem_cons, List.not_mem_nil, or_false] at hq
    rcases hq with rfl | rfl <;> rfl
  obtain ⟨cur', h1, h2, h3⟩ := setCells_row (blkK a b).toList 0 W cur hh (by omega)
  rw [h1]
  have : cur' = blkK a b := by
    apply Array.toList_inj.1
    rw [h3, List.take_zero, List.nil_append, hl, List.drop_of_length_le (by rw [Array.length_toList]; omega), List.append_nil]
  rw [this]
theorem below_cellsK {B g : Nat} {w W : World} (h : Below B w W) (hg : B ≤ g) (vs : List Value) : Below B w (W.setCells g 0 vs) := by
  have hs := setCells_same g vs 0 W
  exact h.trans ⟨hs.1, hs.2.1, hs.2.2.1, Nat.le_of_eq hs.2.2.2.symm, fun k hk => setCells_far _ _ k (by omega)⟩

set_option maxHeartbeats 4000000 in
theorem first_calls : ∀ (h : Nat) (t : T h) (u : Value) (w : World), NE h t → RepU w h t u →
    Calls Try.prog (fnFirst h) #[u] w fun e w' => e = .returned (.agg #[.string (firstT h t).f0, .int .i64 (firstT h t).f1]) ∧ Below w.heap.size w w'
  | 0, l, u, w, hne, hr => by
    obtain ⟨A, c, rfl, hc, hC⟩ := RepU.leaf hr
    show Calls Try.prog 77 _ w _
    have hl : 0 < List.length (α := S26) l := hne
    obtain ⟨ad, rfl, hx0, hx1, hx2⟩ := at_T26 hC 0 (by omega) (by omega)
    have hf : firstT 0 l = (rd_T26 l 0).f0 := by
      cases l with
      | nil => cases hl
      | cons x r => rfl
    rw [hf]
    have hlt : (0 : Int) < ((List.length (α := S26) l : Nat) : Int) := by omega
    rw [show ((0 : Int)).toNat * 3 = 0 from rfl, Addr.add_zero'] at hx0 hx1 hx2
    clear hC hr hne hf
    generalize rd_T26 l 0 = x at *
    generalize List.length (α := S26) l = n at *
    have HB := Aside0.mk ((Below.refl w.heap.size w).alloc (Nat.le_refl _) (.cells #[.string ⟨#[]⟩, .int .i64 0] 24))
    have x0 := pw_cell_below HB.out hx0
    have x1 := pw_cell_below HB.out hx1
    clear hx0 hx1 hx2
    go_enter Try.func77, Try.ntmps77
    go_wp2_with (first | ((with_reducible refine gate_store (t := 24) (p := 2) rfl ?_); refine store_event (t := 24) (p := 2) (w1 := (w.alloc (.cells #[.string ⟨#[]⟩, .int .i64 0] 24)).setCells w.heap.size 0 (blkK x.f0.f0 x.f0.f1).toList) rfl rfl rfl ?hr ?_; (case hr => (unfold execOp; simp only [Act.eval, Sem.run_bind, Sem.run_pure, Result.andThen_ok]; show ((Sem.run Try.prog (Instr.storeAt 24 (.pointer (some ⟨w.heap.size, 0, none⟩)) (.agg (blkK x.f0.f0 x.f0.f1))) (w.alloc (.cells #[.string ⟨#[]⟩, .int .i64 0] 24))).andThen _) = _; rw [(store_key (blk_new w (.cells #[.string ⟨#[]⟩, .int .i64 0] 24)) rfl x.f0.f0 x.f0.f1).1]; try rfl)); intro w1 hw_; have HB1 := Aside0.mk (show Below w.heap.size w w1 by rw [hw_]; exact below_cellsK HB.out (Nat.le_refl _) _); have hB1 := (hw_ ▸ (store_key (blk_new w (.cells #[.string ⟨#[]⟩, .int .i64 0] 24)) rfl x.f0.f0 x.f0.f1).2 : w1.heap[w.heap.size]? = some (.cells (blkK x.f0.f0 x.f0.f1) 24 (0, 0))); have z0 := blk_cell hB1 0; have z1 := blk_cell hB1 1; simp only [blkK, List.getElem?_toArray, List.getElem?_cons_zero, List.getElem?_cons_succ] at z0 z1; clear hw_ hB1))
    refine bodyPost_ret (v := .agg #[.string x.f0.f0, .int .i64 x.f0.f1]) ?_ rfl ⟨rfl, HB1.out⟩
    simp [results, Try.results77, go_sem, z0, z1]
  | h + 1, ks, u, w, hne, hr => by
    obtain ⟨A, c, rfl, hc, hC⟩ := RepU.fork hr
    show Calls Try.prog 84 _ w _
    have hl : 0 < List.length (α := T h) ks := hne.1
    obtain ⟨ad, v, rfl, hx, hU⟩ := hC.at_ hl
    rw [Addr.add_zero'] at hx
    have hf : firstT (h + 1) ks = firstT h (ks : List (T h))[0] := by
      cases ks with
      | nil => cases hl
      | cons x r => rfl
    rw [hf]
    have hk : NE h (ks : List (T h))[0] := hne.2 _ (List.getElem_mem hl)
    have hlt : (0 : Int) < ((List.length (α := T h) ks : Nat) : Int) := by omega
    generalize allT (h + 1) ks = m at *
    have hb0 := (Below.refl w.heap.size w).alloc (Nat.le_refl _) (.cells #[.slice (some ad) (List.length (α := T h) ks) c, .int .i64 m] 84)
    have HB := Aside0.mk (hb0.alloc hb0.size (.cells #[.string ⟨#[]⟩, .int .i64 0] 24))
    have HK := Aside0.mk (show ((w.alloc (.cells #[.slice (some ad) (List.length (α := T h) ks) c, .int .i64 m] 84)).alloc (.cells #[.string ⟨#[]⟩, .int .i64 0] 24)).heap[w.heap.size + 1]? = some (.cells #[.string ⟨#[]⟩, .int .i64 0] 24 (0, 0)) from by have := blk_new (w.alloc (.cells #[.slice (some ad) (List.length (α := T h) ks) c, .int .i64 m] 84)) (.cells #[.string ⟨#[]⟩, .int .i64 0] 24); rwa [World.size_alloc] at this)
    have HC := Aside0.mk (first_calls h (ks : List (T h))[0] v _ hk (RepU.below HB.out h _ _ hU))
    have x0 := pw_cell_below HB.out hx
    generalize firstT h (ks : List (T h))[0] = k at *
    clear hC hr hne hf hk hU hx hb0
    generalize List.length (α := T h) ks = n at *
    cases h with
    | zero =>
      replace HC : Aside0 (Calls Try.prog 77 #[v] _ _) := HC
      go_enter Try.func84, Try.ntmps84
      go_wp2_with (first | (go_at_call 77; (with_reducible refine HC.out.mono ?_); rintro e w2 ⟨rfl, hb⟩; have HB2 := Aside0.mk (HB.out.trans (hb.mono HB.out.size)); have hB2 := blk_below HK.out hb; have hK2 := Aside0.mk hB2; clear hb hB2) | ((with_reducible refine gate_store (t := 24) (p := 2) rfl ?_); refine store_event (t := 24) (p := 2) (w1 := w2.setCells (w.heap.size + 1) 0 (blkK k.f0 k.f1).toList) rfl rfl rfl ?hr ?_; (case hr => (unfold execOp; simp only [Act.eval, Sem.run_bind, Sem.run_pure, Result.andThen_ok]; show ((Sem.run Try.prog (Instr.storeAt 24 (.pointer (some ⟨w.heap.size + 1, 0, none⟩)) (.agg (blkK k.f0 k.f1))) w2).andThen _) = _; rw [(store_key hK2.out rfl k.f0 k.f1).1]; try rfl)); intro w3 hw_; have HB3 := Aside0.mk (show Below w.heap.size w w3 by rw [hw_]; exact below_cellsK HB2.out (by omega) _); have hB3 := (hw_ ▸ (store_key hK2.out rfl k.f0 k.f1).2 : w3.heap[w.heap.size + 1]? = some (.cells (blkK k.f0 k.f1) 24 (0, 0))); have z0 := blk_cell hB3 0; have z1 := blk_cell hB3 1; simp only [blkK, List.getElem?_toArray, List.getElem?_cons_zero, List.getElem?_cons_succ] at z0 z1; clear hw_ hB3))
      refine bodyPost_ret (v := .agg #[.string k.f0, .int .i64 k.f1]) ?_ rfl ⟨rfl, HB3.out⟩
      simp [results, Try.results84, go_sem, z0, z1]
    | succ h =>
      replace HC : Aside0 (Calls Try.prog 84 #[v] _ _) := HC
      go_enter Try.func84, Try.ntmps84
      go_wp2_with (first | (go_at_call 84; (with_reducible refine HC.out.mono ?_); rintro e w2 ⟨rfl, hb⟩; have HB2 := Aside0.mk (HB.out.trans (hb.mono HB.out.size)); have hB2 := blk_below HK.out hb; have hK2 := Aside0.mk hB2; clear hb hB2) | ((with_reducible refine gate_store (t := 24) (p := 2) rfl ?_); refine store_event (t := 24) (p := 2) (w1 := w2.setCells (w.heap.size + 1) 0 (blkK k.f0 k.f1).toList) rfl rfl rfl ?hr ?_; (case hr => (unfold execOp; simp only [Act.eval, Sem.run_bind, Sem.run_pure, Result.andThen_ok]; show ((Sem.run Try.prog (Instr.storeAt 24 (.pointer (some ⟨w.heap.size + 1, 0, none⟩)) (.agg (blkK k.f0 k.f1))) w2).andThen _) = _; rw [(store_key hK2.out rfl k.f0 k.f1).1]; try rfl)); intro w3 hw_; have HB3 := Aside0.mk (show Below w.heap.size w w3 by rw [hw_]; exact below_cellsK HB2.out (by omega) _); have hB3 := (hw_ ▸ (store_key hK2.out rfl k.f0 k.f1).2 : w3.heap[w.heap.size + 1]? = some (.cells (blkK k.f0 k.f1) 24 (0, 0))); have z0 := blk_cell hB3 0; have z1 := blk_cell hB3 1; simp only [blkK, List.getElem?_toArray, List.getElem?_cons_zero, List.getElem?_cons_succ] at z0 z1; clear hw_ hB3))
      refine bodyPost_ret (v := .agg #[.string k.f0, .int .i64 k.f1]) ?_ rfl ⟨rfl, HB3.out⟩
      simp [results, Try.results84, go_sem, z0, z1]
end Go.Proofs.Ytoiohlmiofplcaa.P
/-
  halves, leaves, forks (chapter 10).
-/
namespace Go.Proofs.Ytoiohlmiofplcaa.P
open Go.RowKit Go.Shelf Go.Proofs.YtoiohlmiofplcaaW.PrintWords Go.Proofs.YtoiohlmiofplcaaW.PrintLast Go.Proofs.YtoiohlmiofplcaaW.PrintMore Go.Proofs.Plain

/-- A row, or both halves of it, if it is too long. -/
def halvesT {α : Type} (l : List α) : List (List α) := if l.length ≤ 4 then [l] else [l.take (l.length / 2), l.drop (l.length / 2)]
theorem halves_lit {α : Type} {d : Kd α} {e : Nat} {w W : World} {l : List α} {A A2 : Option Addr} {c n2 c2 m : Nat} (hs : d.C w A l.length l) (hc : l.length ≤ c) (hm : m = l.length / 2) (h4 : ¬ l.length ≤ 4)
    (hA2 : A2 = (if c = m then A else A.map (·.add (m * d.sz)))) (hn2 : n2 = l.length - m) (hc2 : c2 = c - m) {g : Nat} (hb : Below w.heap.size w W) (hg : W.heap[g]? = some (.cells #[.slice A m c, .slice A2 n2 c2] e (0, 0))) {ez : Nat} :
    Kd.C (Kd.slice ez d) W (some ⟨g, 0, none⟩) (halvesT l).length (halvesT l) := by
  unfold halvesT
  rw [if_neg h4]
  have h1 := Kd.C_take (k := d) (m := m) hs (by omega)
  have h2 := Kd.C_drop (k := d) (m := m) hs (by omega) hc
  rw [← hA2] at h2
  have l1 : (l.take m).length = m := by rw [List.length_take]; omega
  have l2 : (l.drop m).length = n2 := by rw [List.length_drop]; omega
  rw [l1] at h1
  rw [l2] at h2
  rw [← hm]
  refine ⟨rfl, by simp, fun _ => ⟨_, rfl, fun j p hj => ?_⟩⟩
  have k0 := blk_cell hg 0
  have k1 := blk_cell hg 1
  have hj2 : j < 2 := (List.getElem?_eq_some_iff.1 hj).1
  have hj3 : j = 0 ∨ j = 1 := by omega
  rcases hj3 with rfl | rfl
  · cases hj
    refine ⟨_, rfl, ⟨A, c, rfl, by omega, Kd.C_below (by rw [l1]; exact h1) hb⟩, fun i u hu => ?_⟩
    cases i with
    | zero => cases hu; rw [l1]; exact k0
    | succ i => cases hu
  · cases hj
    refine ⟨_, rfl, ⟨A2, c2, rfl, by omega, Kd.C_below (by rw [l2]; exact h2) hb⟩, fun i u hu => ?_⟩
    cases i with
    | zero => cases hu; rw [l2]; exact k1
    | succ i => cases hu
theorem halves_one {α : Type} {d : Kd α} {w W : World} {l : List α} {A : Option Addr} {c e : Nat} (hs : d.C w A l.length l) (hc : l.length ≤ c) (h4 : l.length ≤ 4) {g : Nat} (hb : Below w.heap.size w W) (hg : W.heap[g]? = some (.cells #[.slice A l.length c] e (0, 0))) {ez : Nat} :
    Kd.C (Kd.slice ez d) W (some ⟨g, 0, none⟩) (halvesT l).length (halvesT l) := by
  unfold halvesT
  rw [if_pos h4]
  refine ⟨rfl, by simp, fun _ => ⟨_, rfl, fun j p hj => ?_⟩⟩
  have k0 := blk_cell hg 0
  have hj2 : j < 1 := (List.getElem?_eq_some_iff.1 hj).1
  obtain rfl : j = 0 := by omega
  cases hj
  refine ⟨_, rfl, ⟨A, c, rfl, hc, Kd.C_below hs hb⟩, fun i u hu => ?_⟩
  cases i with
  | zero => cases hu; exact k0
  | succ i => cases hu
theorem halvesT_len {α : Type} (l : List α) : (halvesT l).length = if l.length ≤ 4 then 1 else 2 := by
  unfold halvesT
  split <;> rfl
set_option maxHeartbeats 4000000 in
theorem halves_vtx (wv : World) (hv : Nat) (A : Option Addr) (c : Nat) (ks : List (T hv)) (w : World) (hr : Kd.C (kV wv hv) w A ks.length ks) (hc : ks.length ≤ c) :
    Calls Try.prog 53 #[.slice A ks.length c] w fun e w' => ∃ A' c', e = .returned (.slice A' (halvesT ks).length c') ∧ (halvesT ks).length ≤ c' ∧ Kd.C (Kd.slice 73 (kV wv hv)) w' A' (halvesT ks).length (halvesT ks) ∧ Below w.heap.size w w' := by
  rw [halvesT_len]
  by_cases h4 : ks.length ≤ 4
  · rw [if_pos h4]
    have hd : decide ((ks.length : Int) ≤ 4) = true := decide_eq_true (by omega)
    have hb := (Below.refl w.heap.size w).alloc (Nat.le_refl _) (.cells #[.slice A ks.length c] 79)
    have HB := Aside0.mk hb
    have HR := Aside0.mk (halves_one (ez := 73) (e := 79) hr hc h4 hb (blk_new w (.cells #[.slice A ks.length c] 79)))
    have hl := halvesT_len ks
    rw [if_pos h4] at hl
    rw [hl] at HR
    generalize halvesT ks = ls at *
    clear hr hb h4 hl
    generalize ks.length = n at *
    go_enter Try.func53, Try.ntmps53
    go_wp2
    go_ret
    exact ⟨_, _, rfl, Nat.le_refl _, HR.out, HB.out⟩
  · rw [if_neg h4]
    have hd : decide ((ks.length : Int) ≤ 4) = false := decide_eq_false (by omega)
    obtain ⟨i0, hi0, _, hsz, _⟩ := info_parts vtx_info
    have hmx := hr.2.1
    obtain ⟨m, hmm⟩ : ∃ m, m = ks.length / 2 := ⟨_, rfl⟩
    have hw : (IntKind.i64.wrap ((ks.length : Int) / 2)) = (m : Int) := by rw [i64_w, hmm]; unfold wrap64; omega
    have hcut1 := cut_to (P := Try.prog) 79 73 .i64 Try.underlying79 hi0 A ks.length c (m : Int) (by omega) (by omega) hc
    have hcut2 := cut_from (P := Try.prog) 79 73 .i64 Try.underlying79 hi0 1 hsz A ks.length c (m : Int) (by omega) (by omega)
    rw [Int.toNat_natCast] at hcut1 hcut2
    obtain ⟨A2, hA2⟩ : ∃ A2, A2 = (if c = m then A else A.map (·.add (m * 1))) := ⟨_, rfl⟩
    obtain ⟨n2, hn2⟩ : ∃ n2, n2 = ks.length - m := ⟨_, rfl⟩
    obtain ⟨c2, hc2⟩ : ∃ c2, c2 = c - m := ⟨_, rfl⟩
    rw [← hA2, ← hn2, ← hc2] at hcut2
    have hb := below_drew ((Below.refl w.heap.size w).alloc (Nat.le_refl _) (.cells #[.slice A m c, .slice A2 n2 c2] 79))
    have HB := Aside0.mk hb
    have HR := Aside0.mk (halves_lit (ez := 73) (e := 79) hr hc hmm h4 hA2 hn2 hc2 hb (blk_drew (blk_new w (.cells #[.slice A m c, .slice A2 n2 c2] 79))))
    have hl := halvesT_len ks
    rw [if_neg h4] at hl
    rw [hl] at HR
    generalize halvesT ks = ls at *
    clear hi0 hsz hr hmm hb hl hA2 hn2 hc2 h4
    generalize ks.length = n at *
    go_enter Try.func53, Try.ntmps53
    go_wp2
    go_region_with (fail)
    go_wp2
    go_ret
    exact ⟨_, _, rfl, Nat.le_refl _, HR.out, HB.out⟩
set_option maxHeartbeats 4000000 in
theorem halves_prs (A : Option Addr) (c : Nat) (ks : List S26) (w : World) (hr : Kd.C k26 w A ks.length ks) (hc : ks.length ≤ c) :
    Calls Try.prog 81 #[.slice A ks.length c] w fun e w' => ∃ A' c', e = .returned (.slice A' (halvesT ks).length c') ∧ (halvesT ks).length ≤ c' ∧ Kd.C (Kd.slice 26 k26) w' A' (halvesT ks).length (halvesT ks) ∧ Below w.heap.size w w' := by
  rw [halvesT_len]
  by_cases h4 : ks.length ≤ 4
  · rw [if_pos h4]
    have hd : decide ((ks.length : Int) ≤ 4) = true := decide_eq_true (by omega)
    have hb := (Below.refl w.heap.size w).alloc (Nat.le_refl _) (.cells #[.slice A ks.length c] 22)
    have HB := Aside0.mk hb
    have HR := Aside0.mk (halves_one (ez := 26) (e := 22) hr hc h4 hb (blk_new w (.cells #[.slice A ks.length c] 22)))
    have hl := halvesT_len ks
    rw [if_pos h4] at hl
    rw [hl] at HR
    generalize halvesT ks = ls at *
    clear hr hb h4 hl
    generalize ks.length = n at *
    go_enter Try.func81, Try.ntmps81
    go_wp2
    go_ret
    exact ⟨_, _, rfl, Nat.le_refl _, HR.out, HB.out⟩
  · rw [if_neg h4]
    have hd : decide ((ks.length : Int) ≤ 4) = false := decide_eq_false (by omega)
    obtain ⟨i0, hi0, _, hsz, _⟩ := info_parts info26
    have hmx := hr.2.1
    obtain ⟨m, hmm⟩ : ∃ m, m = ks.length / 2 := ⟨_, rfl⟩
    have hw : (IntKind.i64.wrap ((ks.length : Int) / 2)) = (m : Int) := by rw [i64_w, hmm]; unfold wrap64; omega
    have hcut1 := cut_to (P := Try.prog) 22 26 .i64 Try.underlying22 hi0 A ks.length c (m : Int) (by omega) (by omega) hc
    have hcut2 := cut_from (P := Try.prog) 22 26 .i64 Try.underlying22 hi0 3 hsz A ks.length c (m : Int) (by omega) (by omega)
    rw [Int.toNat_natCast] at hcut1 hcut2
    obtain ⟨A2, hA2⟩ : ∃ A2, A2 = (if c = m then A else A.map (·.add (m * 3))) := ⟨_, rfl⟩
    obtain ⟨n2, hn2⟩ : ∃ n2, n2 = ks.length - m := ⟨_, rfl⟩
    obtain ⟨c2, hc2⟩ : ∃ c2, c2 = c - m := ⟨_, rfl⟩
    rw [← hA2, ← hn2, ← hc2] at hcut2
    have hb := below_drew ((Below.refl w.heap.size w).alloc (Nat.le_refl _) (.cells #[.slice A m c, .slice A2 n2 c2] 22))
    have HB := Aside0.mk hb
    have HR := Aside0.mk (halves_lit (ez := 26) (e := 22) hr hc hmm h4 hA2 hn2 hc2 hb (blk_drew (blk_new w (.cells #[.slice A m c, .slice A2 n2 c2] 22))))
    have hl := halvesT_len ks
    rw [if_neg h4] at hl
    rw [hl] at HR
    generalize halvesT ks = ls at *
    clear hi0 hsz hr hmm hb hl hA2 hn2 hc2 h4
    generalize ks.length = n at *
    go_enter Try.func81, Try.ntmps81
    go_wp2
    go_region_with (fail)
    go_wp2
    go_ret
    exact ⟨_, _, rfl, Nat.le_refl _, HR.out, HB.out⟩
end Go.Proofs.Ytoiohlmiofplcaa.P
-- Written by a program of this session (xprint.py) over the kit's print.py.
namespace Go.Proofs.Ytoiohlmiofplcaa.P
open Go.RowKit Go.Proofs.YtoiohlmiofplcaaW.PrintWords Go.Proofs.YtoiohlmiofplcaaW.PrintLast Go.Proofs.YtoiohlmiofplcaaW.PrintMore
attribute [local go_sem] max2_int min2_int max_two min_two max_three min_three max_four min_four   -- for this text's walks alone
set_option linter.unusedVariables false
set_option linter.unusedSimpArgs false

/-! ### api_Pair: function 48 -/
def api_Pair.l0 : Nat → List (S26) → List (List (S26)) → Int → Int → Option ((List (S26)))
  | 0, _, _, _, _ => none
  | k + 1, x3, x6, x7, x8 => if x8 < x7 then (if 0 ≤ x8 then (if x8 < (x6.length : Int) then (if x3.length + (rd_L4 x6 x8).length < 3518437208883 then (api_Pair.l0 k (x3 ++ (rd_L4 x6 x8)) x6 x7 (wrap64 (x8 + 1))) else (none)) else (none)) else (none)) else (some x3)
def api_Pair.f (k : Nat) (l0 : List (List (S26))) : Option ((List (S26))) := api_Pair.l0 k ([] : List (S26)) l0 (l0.length : Int) 0
set_option maxHeartbeats 8000000 in
set_option maxRecDepth 100000 in
theorem api_Pair.calls (k : Nat) (A0 : Option Addr) (c0 : Nat) (l0 : List (List (S26))) (r : List (S26)) (w : World) (hr0 : Kd.C (Kd.slice 26 k26) w A0 l0.length l0) (hc0 : l0.length ≤ c0) (h : api_Pair.f k l0 = some r) :
    Calls Try.prog 48 #[.slice A0 l0.length c0] w fun e w' => ∃ v0_ : Value, e = .returned (v0_) ∧ Kd.R k26 26 w' w.heap.size (fun _ => True) v0_ r ∧ Below w.heap.size w w' := by
  have HR0 := Aside0.mk hr0
  have HC0 := Aside0.mk hc0
  clear hr0 hc0
  have HB := Aside0.mk (Below.refl w.heap.size w)
  have H : (api_Pair.l0 k ([] : List (S26)) l0 (l0.length : Int) 0) = some r := h
  clear h
  have H' := Aside0.mk H
  clear H
  go_enter Try.func48, Try.ntmps48
  go_wp2
  go_loopg [3, 8] k (fun kq v3 v8 w' => ∃ (x3_1 : List (S26)) (x8_1 : Int), v8 = .int .i64 x8_1 ∧ Aside0 (api_Pair.l0 kq x3_1 l0 (l0.length : Int) x8_1 = some r) ∧ Aside0 (kq ≤ k) ∧ Aside0 (Kd.R k26 26 w' w.heap.size (fun _ => True) v3 x3_1) ∧ Aside0 (Below w.heap.size w w'))
  case atStart => exact ⟨(([] : List (S26))), (0), (by first | rfl | (simp; done) | (simp [*]; done)), H', ⟨Nat.le_refl _⟩, ⟨by first | exact Kd.R_nil _ _ _ _ _ | exact Kd.N_nil _ _ _ _ _ | exact Kd.V_nil _ _ _ _ _ | exact Kd.Q_nil _ _ _ _ _ | exact Kd.S_nil _ _ _ _ _⟩, ⟨by repeat (first | (with_reducible first | exact HB.out | apply below_alloc | apply pw_below_drewN | apply below_drew1) | exact HB.out)⟩⟩
  case round =>
    clear H'
    obtain ⟨x3_1, x8_1, rfl, HA, HK1, HO_3, HB⟩ := hrel
    cases gk with
    | zero => exact absurd HA.out (by simp [api_Pair.l0])
    | succ k1 =>
      have H := HA.out
      clear HA
      simp only [api_Pair.l0] at H
      by_cases c2 : x8_1 < (l0.length : Int)
      · rw [if_pos c2] at H
        have c2b0 : decide (x8_1 < (l0.length : Int)) = true := decide_eq_true c2
        clear c2
        by_cases c3 : 0 ≤ x8_1
        · rw [if_pos c3] at H
          have c3b0 : decide (0 ≤ x8_1) = true := decide_eq_true c3
          clear c3
          by_cases c4 : x8_1 < (l0.length : Int)
          · rw [if_pos c4] at H
            have c4b0 : decide (x8_1 < (l0.length : Int)) = true := decide_eq_true c4
            clear c4
            by_cases c5 : x3_1.length + (rd_L4 l0 x8_1).length < 3518437208883
            · rw [if_pos c5] at H
              have LMc5 := Aside0.mk c5
              clear c5
              obtain ⟨y124, hy124⟩ : ∃ y_ : List (S26), y_ = (x3_1 ++ (rd_L4 l0 x8_1)) := ⟨_, rfl⟩
              replace H : (api_Pair.l0 k1 y124 l0 (l0.length : Int) (wrap64 (x8_1 + 1))) = some r := by first | (rw [hy124]; with_reducible exact H) | (have H2_ := (Option.bind_some _ _).symm.trans H; rw [hy124]; with_reducible exact H2_) | (have H2_ := (Option.bind_some _ _).symm.trans H; with_reducible exact H2_) | with_reducible exact H | (rw [hy124]; exact H) | exact H
              have Ny124 := Aside0.mk hy124
              clear hy124
              have H' := Aside0.mk H
              clear H
              have p123 : 0 ≤ (x8_1 : Int) := of_decide_eq_true (by first | (with_reducible assumption) | assumption)
              have q123 : x8_1 < (l0.length : Int) := of_decide_eq_true (by first | (with_reducible assumption) | assumption)
              obtain ⟨ad123, A123_0, c123_0, e123, hx123_0, hl123_0, hi123_0⟩ := at_L4 HR0.out x8_1 p123 q123
              cases e123
              replace hx123_0 := (HB.out.cell (World.block_lt_of_cell? w _ hx123_0)).trans hx123_0
              have HR123_0 := Aside0.mk hi123_0
              have HC123_0 := Aside0.mk hl123_0
              clear hi123_0 hl123_0
              replace p123 := eq_true p123
              replace q123 := eq_true q123
              go_wp2_with (first | ((with_reducible refine gate_builtin (b := .append) (xs := #[.tmp 12, .tmp 13]) rfl ?_); at_builtin; refine Kd.R_append_rows k26 (w0 := w) w.heap.size rfl (.tmp 12) (.tmp 13) 22 26 (.agg #[(.string ⟨#[]⟩), (.int .i64 0), (.string ⟨#[]⟩)]) 40 rfl Try.underlying22 info26 rfl (by decide) (by omega) u3 x3_1 (rd_L4 l0 x8_1) _ _ _ (fun _ => True) (fun _ => False) rfl rfl ?aO ?aR (fun _ _ h => h) (fun _ h => h.elim) ?aF ?aB ?aS ?aL ?_; (case aR => repeat (first | exact (Kd.C_below HR123_0.out HB.out) | (with_reducible refine Kd.C_alloc ?_ _) | (with_reducible refine Kd.C_drewN ?_ _) | (with_reducible refine Kd.C_drew ?_))); (case aB => exact (by repeat (first | (with_reducible first | exact HB.out | apply below_alloc | apply pw_below_drewN | apply below_drew1) | exact HB.out))); (case aF => exact (fun _ _ => trivial)); (case aO => exact (by (with_reducible repeat (first | apply Kd.R_alloc | apply Kd.R_drewN | apply Kd.R_drew)); exact HO_3.out)); (case aS => exact (below_size (by repeat (first | (with_reducible first | exact HB.out | apply below_alloc | apply pw_below_drewN | apply below_drew1) | exact HB.out)))); (case aL => have := LMc5.out; omega); intro v125 w6 ho hb hg hat; rw [← Ny124.out] at ho; have n0_ := Aside0.mk (hb); have n1_ := Aside0.mk (ho); clear HB; clear HO_3; have HB := n0_; have HO126 := n1_; clear n0_ n1_; clear ho hb hg hat))
              go_roundg k1
              case measure => have := HK1.out; omega
              case rel => exact ⟨(y124), (wrap64 (x8_1 + 1)), (by first | rfl | (simp; done) | (simp [*]; done)), H', ⟨by have := HK1.out; omega⟩, ⟨by (with_reducible repeat (first | apply Kd.R_alloc | apply Kd.R_drewN | apply Kd.R_drew)); exact HO126.out⟩, ⟨by repeat (first | (with_reducible first | exact HB.out | apply below_alloc | apply pw_below_drewN | apply below_drew1) | exact HB.out)⟩⟩
            · rw [if_neg c5] at H
              exact absurd H (by simp)
          · rw [if_neg c4] at H
            exact absurd H (by simp)
        · rw [if_neg c3] at H
          exact absurd H (by simp)
      · rw [if_neg c2] at H
        have c2b0 : decide (x8_1 < (l0.length : Int)) = false := decide_eq_false c2
        clear c2
        obtain rfl := Option.some.inj H
        go_wp2
        go_ret
        exact ⟨_, by first | rfl | (simp [errW_none, errW_some] <;> rfl) | (simp [*, errW_none, errW_some] <;> rfl), by (with_reducible repeat (first | apply Kd.R_alloc | apply Kd.R_drewN | apply Kd.R_drew)); exact HO_3.out, by repeat (first | (with_reducible first | exact HB.out | apply below_alloc | apply pw_below_drewN | apply below_drew1) | exact HB.out)⟩

end Go.Proofs.Ytoiohlmiofplcaa.P
-- Written by a program of this session (xprint.py) over the kit's print.py.
namespace Go.Proofs.Ytoiohlmiofplcaa.P
open Go.RowKit Go.Proofs.YtoiohlmiofplcaaW.PrintWords Go.Proofs.YtoiohlmiofplcaaW.PrintLast Go.Proofs.YtoiohlmiofplcaaW.PrintMore
attribute [local go_sem] max2_int min2_int max_two min_two max_three min_three max_four min_four   -- for this text's walks alone
set_option linter.unusedVariables false
set_option linter.unusedSimpArgs false

/-! ### node_Put: function 17 -/
def node_Put.f (k : Nat) (l0 : List (S26)) (a1_0 : ByteArray) (a1_1 : Int) (a1_2 : ByteArray) : Option ((List (S26))) := (node_Find.f l0 a1_0 a1_1).bind fun bt128 => (if 0 ≤ bt128.1 then (if bt128.1 ≤ (l0.length : Int) then ((some (l0.drop (bt128.1 : Int).toNat : List (S26))).bind fun y130 => (if bt128.2 = true then (if 1 ≤ (y130.length : Int) then ((api_Pair.f k (([(l0.take (bt128.1 : Int).toNat), (([(⟨(⟨a1_0, a1_1⟩ : S24), a1_2⟩ : S26)] : List (S26))), (y130.drop 1)] : List (List (S26))))).bind fun t151 => (some t151)) else (none)) else ((api_Pair.f k (([(l0.take (bt128.1 : Int).toNat), (([(⟨(⟨a1_0, a1_1⟩ : S24), a1_2⟩ : S26)] : List (S26))), y130] : List (List (S26))))).bind fun t165 => (some t165)))) else (none)) else (none))
def node_Put.T5 : Bool × List (List Nat × List Nat) := (true, [([], []), ([], []), ([0, 1], [0, 1]), ([], []), ([3], [3]), ([], []), ([2, 4, 5], [2, 4, 5]), ([6], [6]), ([7, 7, 0, 1, 2, 3, 4, 5, 6, 7], [7])])
def node_Put.B5 : List Nat := [0, 0, 3, 0, 8, 0, 63, 127, 255]
theorem node_Put.tab5 : rtab .any (opsOf Try.f17 5) = node_Put.T5 := by kernel_rfl
theorem node_Put.bits5 : waitsOk node_Put.T5.2 node_Put.B5 = true := by kernel_rfl
set_option maxHeartbeats 8000000 in
set_option maxRecDepth 100000 in
theorem node_Put.calls (k : Nat) (P0_ : Nat → Prop) (A0 : Option Addr) (c0 : Nat) (l0 : List (S26)) (a1_0 : ByteArray) (a1_1 : Int) (a1_2 : ByteArray) (r : List (S26)) (w : World) (hs0 : Kd.V k26 26 w w.heap.size (fun k_ => P0_ k_) (.slice A0 l0.length c0) l0) (h : node_Put.f k l0 a1_0 a1_1 a1_2 = some r) :
    Calls Try.prog 17 #[.slice A0 l0.length c0, .agg #[.string a1_0, .int .i64 a1_1, .string a1_2]] w fun e w' => ∃ v0_ : Value, e = .returned (v0_) ∧ Kd.R k26 26 w' w.heap.size (fun k_ => (w.heap.size ≤ k_)) v0_ r ∧ Below w.heap.size w w' := by
  have hu26 := Try.underlying26
  have hu24 := Try.underlying24
  have HO0 := Aside0.mk (show Kd.V k26 26 w w.heap.size (fun k_ => (P0_ k_ ∨ w.heap.size ≤ k_)) (.slice A0 l0.length c0) l0 from Kd.V_mono hs0 (fun k_ hk => .inl hk))
  have HB := Aside0.mk (Below.refl w.heap.size w)
  have H : ((node_Find.f l0 a1_0 a1_1).bind fun bt128 => (if 0 ≤ bt128.1 then (if bt128.1 ≤ (l0.length : Int) then ((some (l0.drop (bt128.1 : Int).toNat : List (S26))).bind fun y130 => (if bt128.2 = true then (if 1 ≤ (y130.length : Int) then ((api_Pair.f k (([(l0.take (bt128.1 : Int).toNat), (([(⟨(⟨a1_0, a1_1⟩ : S24), a1_2⟩ : S26)] : List (S26))), (y130.drop 1)] : List (List (S26))))).bind fun t151 => (some t151)) else (none)) else ((api_Pair.f k (([(l0.take (bt128.1 : Int).toNat), (([(⟨(⟨a1_0, a1_1⟩ : S24), a1_2⟩ : S26)] : List (S26))), y130] : List (List (S26))))).bind fun t165 => (some t165)))) else (none)) else (none))) = some r := h
  clear h
  replace H := Option.bind_eq_some_iff.mp H
  obtain ⟨⟨t128, t129⟩, A30, H⟩ := H
  replace H : (if 0 ≤ t128 then (if t128 ≤ (l0.length : Int) then ((some (l0.drop (t128 : Int).toNat : List (S26))).bind fun y130 => (if t129 = true then (if 1 ≤ (y130.length : Int) then ((api_Pair.f k (([(l0.take (t128 : Int).toNat), (([(⟨(⟨a1_0, a1_1⟩ : S24), a1_2⟩ : S26)] : List (S26))), (y130.drop 1)] : List (List (S26))))).bind fun t151 => (some t151)) else (none)) else ((api_Pair.f k (([(l0.take (t128 : Int).toNat), (([(⟨(⟨a1_0, a1_1⟩ : S24), a1_2⟩ : S26)] : List (S26))), y130] : List (List (S26))))).bind fun t165 => (some t165)))) else (none)) else (none)) = some r := H
  have A3 := Aside0.mk A30
  clear A30
  by_cases c4 : 0 ≤ t128
  · rw [if_pos c4] at H
    have c4b0 := eq_true c4
    have c4b1 : decide (0 ≤ t128) = true := decide_eq_true c4
    clear c4
    by_cases c5 : t128 ≤ (l0.length : Int)
    · rw [if_pos c5] at H
      have c5b0 := eq_true c5
      have c5b1 : decide (t128 ≤ (l0.length : Int)) = true := decide_eq_true c5
      clear c5
      obtain ⟨y130, hy130⟩ : ∃ y_ : List (S26), y_ = (l0.drop (t128 : Int).toNat) := ⟨_, rfl⟩
      replace H : (if t129 = true then (if 1 ≤ (y130.length : Int) then ((api_Pair.f k (([(l0.take (t128 : Int).toNat), (([(⟨(⟨a1_0, a1_1⟩ : S24), a1_2⟩ : S26)] : List (S26))), (y130.drop 1)] : List (List (S26))))).bind fun t151 => (some t151)) else (none)) else ((api_Pair.f k (([(l0.take (t128 : Int).toNat), (([(⟨(⟨a1_0, a1_1⟩ : S24), a1_2⟩ : S26)] : List (S26))), y130] : List (List (S26))))).bind fun t165 => (some t165))) = some r := by first | (rw [hy130]; with_reducible exact H) | (have H2_ := (Option.bind_some _ _).symm.trans H; rw [hy130]; with_reducible exact H2_) | (have H2_ := (Option.bind_some _ _).symm.trans H; with_reducible exact H2_) | with_reducible exact H | (rw [hy130]; exact H) | exact H
      have Ny130 := Aside0.mk hy130
      clear hy130
      by_cases c6 : t129 = true
      · subst c6
        have H1 : (if 1 ≤ (y130.length : Int) then ((api_Pair.f k (([(l0.take (t128 : Int).toNat), (([(⟨(⟨a1_0, a1_1⟩ : S24), a1_2⟩ : S26)] : List (S26))), (y130.drop 1)] : List (List (S26))))).bind fun t151 => (some t151)) else (none)) = some r := by rw [if_pos rfl] at H; exact H
        clear H
        have H := H1
        clear H1
        by_cases c7 : 1 ≤ (y130.length : Int)
        · rw [if_pos c7] at H
          have c7b0 := eq_true c7
          have c7b1 : decide (1 ≤ (y130.length : Int)) = true := decide_eq_true c7
          clear c7
          obtain ⟨y135, hy135⟩ : ∃ y_ : List (S26), y_ = (y130.drop 1) := ⟨_, rfl⟩
          replace H : ((api_Pair.f k (([(l0.take (t128 : Int).toNat), (([(⟨(⟨a1_0, a1_1⟩ : S24), a1_2⟩ : S26)] : List (S26))), y135] : List (List (S26))))).bind fun t151 => (some t151)) = some r := by first | (rw [hy135]; with_reducible exact H) | (have H2_ := (Option.bind_some _ _).symm.trans H; rw [hy135]; with_reducible exact H2_) | (have H2_ := (Option.bind_some _ _).symm.trans H; with_reducible exact H2_) | with_reducible exact H | (rw [hy135]; exact H) | exact H
          have Ny135 := Aside0.mk hy135
          clear hy135
          have c8b0 := eq_true (of_decide_eq_true (by first | (with_reducible assumption) | assumption) : 0 ≤ t128)
          have c9b0 := eq_true (of_decide_eq_true (by first | (with_reducible assumption) | assumption) : t128 ≤ (l0.length : Int))
          obtain ⟨y140, hy140⟩ : ∃ y_ : List (S26), y_ = (l0.take (t128 : Int).toNat) := ⟨_, rfl⟩
          replace H : ((api_Pair.f k (([y140, (([(⟨(⟨a1_0, a1_1⟩ : S24), a1_2⟩ : S26)] : List (S26))), y135] : List (List (S26))))).bind fun t151 => (some t151)) = some r := by first | (rw [hy140]; with_reducible exact H) | (have H2_ := (Option.bind_some _ _).symm.trans H; rw [hy140]; with_reducible exact H2_) | (have H2_ := (Option.bind_some _ _).symm.trans H; with_reducible exact H2_) | with_reducible exact H | (rw [hy140]; exact H) | exact H
          have Ny140 := Aside0.mk hy140
          clear hy140
          obtain ⟨y145, hy145⟩ : ∃ y_ : List (S26), y_ = (([(⟨(⟨a1_0, a1_1⟩ : S24), a1_2⟩ : S26)] : List (S26))) := ⟨_, rfl⟩
          replace H : ((api_Pair.f k (([y140, y145, y135] : List (List (S26))))).bind fun t151 => (some t151)) = some r := by first | (rw [hy145]; with_reducible exact H) | (have H2_ := (Option.bind_some _ _).symm.trans H; rw [hy145]; with_reducible exact H2_) | (have H2_ := (Option.bind_some _ _).symm.trans H; with_reducible exact H2_) | with_reducible exact H | (rw [hy145]; exact H) | exact H
          have Ny145 := Aside0.mk hy145
          clear hy145
          obtain ⟨y148, hy148⟩ : ∃ y_ : List (List (S26)), y_ = (([y140, y145, y135] : List (List (S26)))) := ⟨_, rfl⟩
          replace H : ((api_Pair.f k y148).bind fun t151 => (some t151)) = some r := by first | (rw [hy148]; with_reducible exact H) | (have H2_ := (Option.bind_some _ _).symm.trans H; rw [hy148]; with_reducible exact H2_) | (have H2_ := (Option.bind_some _ _).symm.trans H; with_reducible exact H2_) | with_reducible exact H | (rw [hy148]; exact H) | exact H
          have Ny148 := Aside0.mk hy148
          clear hy148
          replace H := Option.bind_eq_some_iff.mp H
          obtain ⟨t151, A100, H⟩ := H
          replace H : (some t151) = some r := H
          have A10 := Aside0.mk A100
          clear A100
          obtain rfl := Option.some.inj H
          go_enter Try.func17, Try.ntmps17
          try go_wp2_with (first | ((with_reducible refine gate_dst (N := 3) rfl ?_); refine box_event ?hg (N := 3) ?hd (cs := #[.string a1_0, .int .i64 a1_1, .string a1_2]) (t := 26) ?hr ?_; (case hd => rfl); (case hg => rfl); (case hr => first | (go_simp; done) | (go_simp; rfl)); intro gb127 hg w11 hbox hb; have n0_ := Aside0.mk (Kd.V_below (Kd.V_elderB (by (with_reducible repeat (first | apply Kd.V_alloc | apply Kd.V_drewN | apply Kd.V_drew)); exact HO0.out) gb127 (Nat.le_of_eq hg.symm)) hb); have n1_ := Aside0.mk (below_step (by repeat (first | (with_reducible first | exact HB.out | apply below_alloc | apply pw_below_drewN | apply below_drew1) | exact HB.out)) hb); have n2_ := Aside0.mk (hbox); have n3_ := Aside0.mk ((by rw [hg]; exact (below_size (by repeat (first | (with_reducible first | exact HB.out | apply below_alloc | apply pw_below_drewN | apply below_drew1) | exact HB.out))) : w.heap.size ≤ gb127)); have n4_ := Aside0.mk ((by rw [hg]; exact (below_size (by repeat (first | (with_reducible first | exact HB.out | apply below_alloc | apply pw_below_drewN | apply below_drew1) | exact HB.out))) : w.heap.size ≤ gb127)); clear HO0; clear HB; have HO0 := n0_; have HB := n1_; have BK127 := n2_; have GW127 := n3_; have GE127 := n4_; clear n0_ n1_ n2_ n3_ n4_; clear hb hbox hg; have hcz12_0 : w11.cell? ⟨gb127, 0, none⟩ = some (.string a1_0) := (blk_cell BK127.out 0).trans rfl; have hcz12_1 : w11.cell? ⟨gb127, 1, none⟩ = some (.int .i64 a1_1) := (blk_cell BK127.out 1).trans rfl; have hcz12_2 : w11.cell? ⟨gb127, 2, none⟩ = some (.string a1_2) := (blk_cell BK127.out 2).trans rfl; have hfz12_0 := blk_frozen BK127.out 0; have hfz12_1 := blk_frozen BK127.out 1; have hfz12_2 := blk_frozen BK127.out 2) | ((with_reducible refine gate_callee (f := 15) rfl ?_); refine goesL_ (some 12) rfl rfl Try.func15 (by kernel_rfl) rfl #[.slice A0 l0.length c0, .agg #[.string a1_0, .int .i64 a1_1]] rfl (by (try simp only [List.map_toArray, List.map_cons, List.map_nil]); first | done | rfl | (simp only [List.length_drop, List.length_take]; rfl)) ?_; (with_reducible refine (node_Find.calls _ _ l0 a1_0 a1_1 t128 true _ ?side1 ?side2 A3.out).mono ?_); (case side1 => repeat (first | exact (Kd.V_reads' HO0.out).2.2 | (with_reducible refine Kd.C_alloc ?_ _) | (with_reducible refine Kd.C_drewN ?_ _) | (with_reducible refine Kd.C_drew ?_))); (case side2 => exact (Kd.V_reads' HO0.out).2.1); rintro e w13 ⟨rfl, hb⟩; refine ⟨_, rfl, ?_⟩; have n0_ := Aside0.mk (Kd.V_below (by (with_reducible repeat (first | apply Kd.V_alloc | apply Kd.V_drewN | apply Kd.V_drew)); exact HO0.out) hb); have n1_ := Aside0.mk (blk_below (g := gb127) (o := .cells #[.string a1_0, .int .i64 a1_1, .string a1_2] 26 (0, 0)) (by (with_reducible repeat (first | refine blk_drewN ?_ _ | refine blk_drew ?_ | refine blk_alloc ?_ _)); exact BK127.out) hb); have n2_ := Aside0.mk (below_step (by repeat (first | (with_reducible first | exact HB.out | apply below_alloc | apply pw_below_drewN | apply below_drew1 | refine below_set ?_ GE127.out) | exact HB.out)) hb); clear HO0; clear BK127; clear HB; have HO0 := n0_; have BK127 := n1_; have HB := n2_; clear n0_ n1_ n2_; (try clear hb); (try clear hb2); (try clear hk); (try clear hi); have q14 : (t128 : Int) ≤ ((l0.length : Int) : Int) := of_decide_eq_true (by first | (with_reducible assumption) | assumption); obtain ⟨i014, hi014, _, hsz14, _⟩ := info_parts info26; have hroom14 : l0.length ≤ c0 := (Kd.V_reads' HO0.out).2.1; have hC14 : Kd.F k26 _ _ A0 l0.length l0 := (Kd.V_at (base := w.heap.size) HO0.out).2.2; have q014 : (0 : Int) ≤ (t128 : Int) := of_decide_eq_true (by first | (with_reducible assumption) | assumption); have hcut14 := cut_from (P := Try.prog) 22 26 .i64 Try.underlying22 hi014 3 hsz14 A0 l0.length c0 t128 q014 q14; have hr14 := Kd.F_cut (m := (t128 : Int).toNat) (c := c0) hC14 (by omega) hroom14; obtain ⟨A14, hA14⟩ : ∃ A1, A1 = (if c0 = (t128 : Int).toNat then A0 else (A0 : Option Addr).map (·.add ((t128 : Int).toNat * 3))) := ⟨_, rfl⟩; obtain ⟨c14, hc14⟩ : ∃ c1, c1 = c0 - (t128 : Int).toNat := ⟨_, rfl⟩; have hy14 : y130.length = l0.length - (t128 : Int).toNat := (by rw [Ny130.out, List.length_drop] <;> omega); rw [show (l0).drop (t128 : Int).toNat = y130 from Ny130.out.symm] at hr14; replace hr14 : Kd.F k26 _ _ A14 y130.length y130 := (by rw [hA14]; exact hr14); rw [← hy14, ← hA14, ← hc14] at hcut14; have HO134 := Aside0.mk (show Kd.V k26 26 _ w.heap.size _ (.slice A14 y130.length c14) y130 from Kd.V_mk (by rw [hy14, hc14]; exact Nat.sub_le_sub_right hroom14 _) hr14); have HC134 := Aside0.mk (show y130.length ≤ c14 from by rw [hy14, hc14]; exact Nat.sub_le_sub_right hroom14 _); clear hr14 hC14 hroom14 hi014 hsz14 hc14; have KY14 := Aside0.mk hy14; have KA14 := Aside0.mk hA14; clear hy14 hA14; replace q14 := eq_true q14; have q15 : (1 : Int) ≤ ((y130.length : Int) : Int) := of_decide_eq_true (by first | (with_reducible assumption) | assumption); obtain ⟨i015, hi015, _, hsz15, _⟩ := info_parts info26; have hroom15 : y130.length ≤ c14 := (Kd.V_reads' HO134.out).2.1; have hC15 : Kd.F k26 _ _ A14 y130.length y130 := (Kd.V_at (base := w.heap.size) HO134.out).2.2; have hcut15 := cut_from (P := Try.prog) 22 26 .i64 Try.underlying22 hi015 3 hsz15 A14 y130.length c14 1 (by omega) q15; have hr15 := Kd.F_cut (m := (1 : Int).toNat) (c := c14) hC15 (by omega) hroom15; obtain ⟨A15, hA15⟩ : ∃ A1, A1 = (if c14 = (1 : Int).toNat then A14 else (A14 : Option Addr).map (·.add ((1 : Int).toNat * 3))) := ⟨_, rfl⟩; obtain ⟨c15, hc15⟩ : ∃ c1, c1 = c14 - (1 : Int).toNat := ⟨_, rfl⟩; have hy15 : y135.length = y130.length - (1 : Int).toNat := (by rw [Ny135.out, List.length_drop] <;> omega); rw [show (y130).drop (1 : Int).toNat = y135 from Ny135.out.symm] at hr15; replace hr15 : Kd.F k26 _ _ A15 y135.length y135 := (by rw [hA15]; exact hr15); rw [← hy15, ← hA15, ← hc15] at hcut15; have HO139 := Aside0.mk (show Kd.V k26 26 _ w.heap.size _ (.slice A15 y135.length c15) y135 from Kd.V_mk (by rw [hy15, hc15]; exact Nat.sub_le_sub_right hroom15 _) hr15); have HC139 := Aside0.mk (show y135.length ≤ c15 from by rw [hy15, hc15]; exact Nat.sub_le_sub_right hroom15 _); clear hr15 hC15 hroom15 hi015 hsz15 hc15; have KY15 := Aside0.mk hy15; have KA15 := Aside0.mk hA15; clear hy15 hA15; replace q15 := eq_true q15))
          have n0_ := Aside0.mk (Kd.V_drew HO0.out)
          have n1_ := Aside0.mk (Kd.V_drew HO134.out)
          have n2_ := Aside0.mk (Kd.V_drew HO139.out)
          have n3_ := Aside0.mk (blk_drew BK127.out)
          have n4_ := Aside0.mk (below_drew1 HB.out)
          clear HO0
          clear HO134
          clear HO139
          clear BK127
          clear HB
          have HO0 := n0_
          have HO134 := n1_
          have HO139 := n2_
          have BK127 := n3_
          have HB := n4_
          clear n0_ n1_ n2_ n3_ n4_
          have q17 : (t128 : Int) ≤ ((l0.length : Int) : Int) := of_decide_eq_true (by first | (with_reducible assumption) | assumption)
          obtain ⟨i017, hi017, _, hsz17, _⟩ := info_parts info26
          have hroom17 : l0.length ≤ c0 := (Kd.V_reads' HO0.out).2.1
          have hC17 : Kd.F k26 _ _ A0 l0.length l0 := (Kd.V_at (base := w.heap.size) HO0.out).2.2
          have hcut17 := cut_to (P := Try.prog) 22 26 .i64 Try.underlying22 hi017 A0 l0.length c0 t128 (of_decide_eq_true (by first | (with_reducible assumption) | assumption)) q17 hroom17
          have hr17 := Kd.F_take (m := (t128 : Int).toNat) hC17 (by omega)
          have hy17 : y140.length = (t128 : Int).toNat := (by rw [Ny140.out, List.length_take]; omega)
          rw [← Ny140.out] at hr17
          rw [← hy17] at hcut17
          have HO144 := Aside0.mk (show Kd.V k26 26 _ w.heap.size _ (.slice A0 y140.length c0) y140 from Kd.V_mk (by omega) hr17)
          have HC144 := Aside0.mk (show y140.length ≤ c0 from by omega)
          clear hr17 hC17 hroom17 hi017 hsz17
          have KY17 := Aside0.mk hy17
          clear hy17
          replace q17 := eq_true q17
          refine start_ (n := 9) (S := fun w' => w'.cell? ⟨gb127, 0, none⟩ = some (.string a1_0) ∧ w'.cell? ⟨gb127, 1, none⟩ = some (.int .i64 a1_1) ∧ w'.cell? ⟨gb127, 2, none⟩ = some (.string a1_2)) (ds := []) #[false, false, false, false, false, false, false, false, false] (by kernel_rfl) rfl rfl ⟨(blk_cell BK127.out 0).trans rfl, (blk_cell BK127.out 1).trans rfl, (blk_cell BK127.out 2).trans rfl⟩ (fun hHeld => ?_); refine with_tabW node_Put.tab5 node_Put.bits5 (fun HT_ HW_ => ?_)
          generalize w13.drew = w16 at HO0 HO134 HO139 BK127 HB HO144 hHeld ⊢
          refine pure_ (i := 0) (N := some 21) (v := ?_) (a' := ?_) #[true, false, false, false, false, false, false, false, false] rfl rfl (any_of HT_.out (by kernel_rfl)) (fun _ _ _ h => h) (Or.inl ⟨by rfl, ?_⟩) ?_ ?_
          rotate_left
          · intro w'
            go_simp
            with_reducible rfl
          rotate_left
          · simp only [Act.put, List.setIfInBounds_toArray, List.set_cons_zero, List.set_cons_succ, i64_w, i32_w]
            rfl
          refine pure_ (i := 1) (N := some 22) (v := ?_) (a' := ?_) #[true, true, false, false, false, false, false, false, false] rfl rfl (any_of HT_.out (by kernel_rfl)) (fun _ _ _ h => h) (Or.inl ⟨by rfl, ?_⟩) ?_ ?_
          rotate_left
          · intro w'
            go_simp
            with_reducible rfl
          rotate_left
          · simp only [Act.put, List.setIfInBounds_toArray, List.set_cons_zero, List.set_cons_succ, i64_w, i32_w]
            rfl
          refine pure_ (i := 2) (N := some 23) (v := ?_) (a' := ?_) #[true, true, true, false, false, false, false, false, false] rfl rfl (any_of HT_.out (by kernel_rfl)) (fun _ _ _ h => h) (Or.inl ⟨by rfl, ?_⟩) ?_ ?_
          rotate_left
          · intro w'
            go_simp
            with_reducible rfl
          rotate_left
          · simp only [Act.put, List.setIfInBounds_toArray, List.set_cons_zero, List.set_cons_succ, i64_w, i32_w]
            rfl
          refine pure_ (i := 5) (N := some 26) (v := ?_) (a' := ?_) #[true, true, true, false, false, true, false, false, false] rfl rfl (any_of HT_.out (by kernel_rfl)) (fun _ _ _ h => h) (Or.inl ⟨by rfl, ?_⟩) ?_ ?_
          rotate_left
          · intro w'
            go_simp
            with_reducible rfl
          rotate_left
          · simp only [Act.put, List.setIfInBounds_toArray, List.set_cons_zero, List.set_cons_succ, i64_w, i32_w]
            rfl
          refine take_ (i := 3) (N := some 24) (v := ?_) (a' := ?_) #[true, true, true, true, false, true, false, false, false] rfl rfl (take_ofW HT_.out HW_.out (by kernel_rfl)) (fun _ _ _ h => h) (Or.inl ⟨by rfl, ?_⟩) hHeld ?_ ?_
          rotate_left
          · rintro w' ⟨s0, s1, s2⟩
            go_simp
            with_reducible rfl
          rotate_left
          · simp only [Act.put, List.setIfInBounds_toArray, List.set_cons_zero, List.set_cons_succ, i64_w, i32_w]
            rfl
          refine one_ (i := 4) (N := some 25) #[true, true, true, true, true, true, false, false, false] rfl rfl (one_of HT_.out (by kernel_rfl)) (by decide) (fun K hK => ?_)
          refine Kd.R_lit_step k26 _ 26 ?hg (N := 25) ?hd (xs := ([(⟨(⟨a1_0, a1_1⟩ : S24), a1_2⟩ : S26)] : List (S26))) (inner := [.string a1_0, .int .i64 a1_1, .string a1_2]) (ok := fun _ => True) (okp := fun _ => True) ?hr ?hp (fun _ hk => hk) trivial (Below.refl _ _) (Nat.le_refl _) (by simp) ?_; (case hd => rfl); (case hg => rfl); (case hr => first | (go_simp; done) | (go_simp; rfl)); (case hp => exact (Reps.c3 (show Kd.M k26 _ _ _ (⟨(⟨a1_0, a1_1⟩ : S24), a1_2⟩ : S26) [.string a1_0, .int .i64 a1_1, .string a1_2] from (k26_mkM _ _ _ (⟨(⟨a1_0, a1_1⟩ : S24), a1_2⟩ : S26) )) (Reps.none _ _)))
          intro v146 w18 ho19 hb hg_ hnew_
          clear hg_ hnew_
          (first | rw [← Ny145.out] at ho19 | (simp only [Int.reduceToNat] at ho19; rw [← Ny145.out] at ho19))
          have n0_ := Aside0.mk (Kd.V_elder' (by (with_reducible repeat (first | apply Kd.V_alloc | apply Kd.V_drewN | apply Kd.V_drew)); exact HO0.out) (Kd.R_base ho19) hb)
          have n1_ := Aside0.mk (Kd.V_elder' (by (with_reducible repeat (first | apply Kd.V_alloc | apply Kd.V_drewN | apply Kd.V_drew)); exact HO134.out) (Kd.R_base ho19) hb)
          have n2_ := Aside0.mk (Kd.V_elder' (by (with_reducible repeat (first | apply Kd.V_alloc | apply Kd.V_drewN | apply Kd.V_drew)); exact HO139.out) (Kd.R_base ho19) hb)
          have n3_ := Aside0.mk (Kd.V_elder' (by (with_reducible repeat (first | apply Kd.V_alloc | apply Kd.V_drewN | apply Kd.V_drew)); exact HO144.out) (Kd.R_base ho19) hb)
          have n4_ := Aside0.mk (Kd.R_lower (Kd.R_newB (Kd.R_newM (M := fun k_ => (w.heap.size ≤ k_)) ho19 (below_size (by repeat (first | (with_reducible first | exact HB.out | apply below_alloc | apply pw_below_drewN | apply below_drew1 | refine below_set ?_ GE127.out) | exact HB.out))) (fun k_ h_ => h_)) (g := gb127) (o := .cells #[.string a1_0, .int .i64 a1_1, .string a1_2] 26 (0, 0)) (by (with_reducible repeat (first | refine blk_drewN ?_ _ | refine blk_drew ?_ | refine blk_alloc ?_ _)); exact BK127.out)) (below_size (by repeat (first | (with_reducible first | exact HB.out | apply below_alloc | apply pw_below_drewN | apply below_drew1 | refine below_set ?_ GE127.out) | exact HB.out))))
          have n5_ := Aside0.mk (blk_below (g := gb127) (o := .cells #[.string a1_0, .int .i64 a1_1, .string a1_2] 26 (0, 0)) (by (with_reducible repeat (first | refine blk_drewN ?_ _ | refine blk_drew ?_ | refine blk_alloc ?_ _)); exact BK127.out) hb)
          have n6_ := Aside0.mk (below_step (by repeat (first | (with_reducible first | exact HB.out | apply below_alloc | apply pw_below_drewN | apply below_drew1 | refine below_set ?_ GE127.out) | exact HB.out)) hb)
          clear HO0
          clear HO134
          clear HO139
          clear HO144
          clear BK127
          clear HB
          have HO0 := n0_
          have HO134 := n1_
          have HO139 := n2_
          have HO144 := n3_
          have HO147 := n4_
          have BK127 := n5_
          have HB := n6_
          clear n0_ n1_ n2_ n3_ n4_ n5_ n6_
          clear hb ho19
          obtain ⟨Ao20, co20, eo20⟩ := Kd.R_slice HO147.out
          (first | subst eo20 | (injection eo20 with f1_ f2_ f3_; have f4_ := f1_.symm; have f5_ := f3_.symm; clear f1_ f2_ f3_; subst f4_; subst f5_))
          refine hK.out _ _ ⟨(blk_cell BK127.out 0).trans rfl, (blk_cell BK127.out 1).trans rfl, (blk_cell BK127.out 2).trans rfl⟩ (fun hHeld => ?_)
          clear hK K
          refine norm_ (a' := ?_) ?_ ?_
          rotate_left
          · show Act.put _ (some 25) _ = _
            simp only [Act.put, List.setIfInBounds_toArray, List.set_cons_zero, List.set_cons_succ, i64_w, i32_w]
            rfl
          refine one_ (i := 6) (N := some 27) #[true, true, true, true, true, true, true, false, false] rfl rfl (one_of HT_.out (by kernel_rfl)) (by decide) (fun K hK => ?_)
          refine Kd.N_lit_step (Kd.slice 26 k26) _ 22 ?hg (N' := 27) ?hd (xs := ([y140, y145, y135] : List (List (S26)))) (inner := [.slice A0 y140.length c0, .slice Ao20 y145.length co20, .slice A15 y135.length c15]) (ok := (fun k_ => (P0_ k_ ∨ w.heap.size ≤ k_) ∧ k_ ≠ gb127)) (okp := (fun k_ => (P0_ k_ ∨ w.heap.size ≤ k_) ∧ k_ ≠ gb127)) ?hr ?hp (fun _ hk => hk) ((show ∀ k_, w18.heap.size ≤ k_ → (fun k_ => (P0_ k_ ∨ w.heap.size ≤ k_) ∧ k_ ≠ gb127) k_ from fun k_ hk => ⟨(.inr (Nat.le_trans (below_size (by repeat (first | (with_reducible first | exact HB.out | apply below_alloc | apply pw_below_drewN | apply below_drew1 | refine below_set ?_ GE127.out) | exact HB.out))) hk)), Kd.freshB (g := gb127) (o := .cells #[.string a1_0, .int .i64 a1_1, .string a1_2] 26 (0, 0)) (by (with_reducible repeat (first | refine blk_drewN ?_ _ | refine blk_drew ?_ | refine blk_alloc ?_ _)); exact BK127.out) k_ hk⟩) _ (Nat.le_refl _)) (Below.refl _ _) (Nat.le_refl _) (by simp) ?_; (case hd => rfl); (case hg => rfl); (case hr => first | (go_simp; done) | (go_simp; rfl)); (case hp => exact (Reps.one (show Kd.FK (Kd.slice 26 k26) _ _ y140 [.slice A0 y140.length c0] from (Kd.FK_slice_mk (Kd.V_reads' (Kd.V_mono (ok' := (fun k_ => (P0_ k_ ∨ w.heap.size ≤ k_) ∧ k_ ≠ gb127)) (HO144.out) (fun k_ hk => ⟨hk.1.1, hk.1.2⟩))).2.1 (Kd.V_F (Kd.V_mono (ok' := (fun k_ => (P0_ k_ ∨ w.heap.size ≤ k_) ∧ k_ ≠ gb127)) (HO144.out) (fun k_ hk => ⟨hk.1.1, hk.1.2⟩))))) (Reps.one (show Kd.FK (Kd.slice 26 k26) _ _ y145 [.slice Ao20 y145.length co20] from (Kd.FK_slice_mk (Kd.R_reads' (Kd.R_mono (ok' := (fun k_ => (P0_ k_ ∨ w.heap.size ≤ k_) ∧ k_ ≠ gb127)) (HO147.out) (fun k_ hk => ⟨(.inr (hk.1.1)), hk.2⟩))).2.1 (Kd.R_F (Kd.R_mono (ok' := (fun k_ => (P0_ k_ ∨ w.heap.size ≤ k_) ∧ k_ ≠ gb127)) (HO147.out) (fun k_ hk => ⟨(.inr (hk.1.1)), hk.2⟩))))) (Reps.one (show Kd.FK (Kd.slice 26 k26) _ _ y135 [.slice A15 y135.length c15] from (Kd.FK_slice_mk (Kd.V_reads' (Kd.V_mono (ok' := (fun k_ => (P0_ k_ ∨ w.heap.size ≤ k_) ∧ k_ ≠ gb127)) (HO139.out) (fun k_ hk => ⟨hk.1.1, hk.1.2⟩))).2.1 (Kd.V_F (Kd.V_mono (ok' := (fun k_ => (P0_ k_ ∨ w.heap.size ≤ k_) ∧ k_ ≠ gb127)) (HO139.out) (fun k_ hk => ⟨hk.1.1, hk.1.2⟩))))) (Reps.none _ _)))))
          intro v149 w21 ho22 hb hg_ hnew_
          clear hg_ hnew_
          (first | rw [← Ny148.out] at ho22 | (simp only [Int.reduceToNat] at ho22; rw [← Ny148.out] at ho22))
          have n0_ := Aside0.mk (Kd.V_elder' (by (with_reducible repeat (first | apply Kd.V_alloc | apply Kd.V_drewN | apply Kd.V_drew)); exact HO0.out) (Kd.N_base ho22) hb)
          have n1_ := Aside0.mk (Kd.V_elder' (by (with_reducible repeat (first | apply Kd.V_alloc | apply Kd.V_drewN | apply Kd.V_drew)); exact HO134.out) (Kd.N_base ho22) hb)
          have n2_ := Aside0.mk (Kd.V_elder' (by (with_reducible repeat (first | apply Kd.V_alloc | apply Kd.V_drewN | apply Kd.V_drew)); exact HO139.out) (Kd.N_base ho22) hb)
          have n3_ := Aside0.mk (Kd.V_elder' (by (with_reducible repeat (first | apply Kd.V_alloc | apply Kd.V_drewN | apply Kd.V_drew)); exact HO144.out) (Kd.N_base ho22) hb)
          have n4_ := Aside0.mk (Kd.N_lower ho22 (below_size (by repeat (first | (with_reducible first | exact HB.out | apply below_alloc | apply pw_below_drewN | apply below_drew1 | refine below_set ?_ GE127.out) | exact HB.out))))
          have n5_ := Aside0.mk (blk_below (g := gb127) (o := .cells #[.string a1_0, .int .i64 a1_1, .string a1_2] 26 (0, 0)) (by (with_reducible repeat (first | refine blk_drewN ?_ _ | refine blk_drew ?_ | refine blk_alloc ?_ _)); exact BK127.out) hb)
          have n6_ := Aside0.mk (below_step (by repeat (first | (with_reducible first | exact HB.out | apply below_alloc | apply pw_below_drewN | apply below_drew1 | refine below_set ?_ GE127.out) | exact HB.out)) hb)
          clear HO0
          clear HO134
          clear HO139
          clear HO144
          clear BK127
          clear HB
          clear HO147
          have HO0 := n0_
          have HO134 := n1_
          have HO139 := n2_
          have HO144 := n3_
          have HO150 := n4_
          have BK127 := n5_
          have HB := n6_
          clear n0_ n1_ n2_ n3_ n4_ n5_ n6_
          clear hb ho22
          obtain ⟨Ao23, co23, eo23⟩ := Kd.N_slice HO150.out
          (first | subst eo23 | (injection eo23 with f1_ f2_ f3_; have f4_ := f1_.symm; have f5_ := f3_.symm; clear f1_ f2_ f3_; subst f4_; subst f5_))
          refine hK.out _ _ ⟨(blk_cell BK127.out 0).trans rfl, (blk_cell BK127.out 1).trans rfl, (blk_cell BK127.out 2).trans rfl⟩ (fun hHeld => ?_)
          clear hK K
          refine norm_ (a' := ?_) ?_ ?_
          rotate_left
          · show Act.put _ (some 27) _ = _
            simp only [Act.put, List.setIfInBounds_toArray, List.set_cons_zero, List.set_cons_succ, i64_w, i32_w]
            rfl
          refine one_ (i := 7) (N := some 28) #[true, true, true, true, true, true, true, true, false] rfl rfl (one_of HT_.out (by kernel_rfl)) (by decide) (fun K hK => ?_)
          refine goes_ Try.func48 (by kernel_rfl) rfl #[.slice Ao23 y148.length co23] (by rfl) rfl rfl (by (try simp only [List.map_toArray, List.map_cons, List.map_nil]); first | done | rfl | (simp only [List.length_drop, List.length_take]; rfl)) ?_
          with_reducible refine (api_Pair.calls k _ _ y148 t151 _ ?side1 ?side2 A10.out).mono ?_
          (case side1 => repeat (first | exact (Kd.N_reads' HO150.out).2.2 | (with_reducible refine Kd.C_alloc ?_ _) | (with_reducible refine Kd.C_drewN ?_ _) | (with_reducible refine Kd.C_drew ?_)))
          (case side2 => exact (Kd.N_reads' HO150.out).2.1)
          rintro e w24 ⟨v152, rfl, ho0, hb⟩
          refine ⟨_, rfl, ?_⟩
          have n0_ := Aside0.mk (Kd.V_elder' (by (with_reducible repeat (first | apply Kd.V_alloc | apply Kd.V_drewN | apply Kd.V_drew)); exact HO0.out) (Kd.R_base ho0) hb)
          have n1_ := Aside0.mk (Kd.V_elder' (by (with_reducible repeat (first | apply Kd.V_alloc | apply Kd.V_drewN | apply Kd.V_drew)); exact HO134.out) (Kd.R_base ho0) hb)
          have n2_ := Aside0.mk (Kd.V_elder' (by (with_reducible repeat (first | apply Kd.V_alloc | apply Kd.V_drewN | apply Kd.V_drew)); exact HO139.out) (Kd.R_base ho0) hb)
          have n3_ := Aside0.mk (Kd.V_elder' (by (with_reducible repeat (first | apply Kd.V_alloc | apply Kd.V_drewN | apply Kd.V_drew)); exact HO144.out) (Kd.R_base ho0) hb)
          have n4_ := Aside0.mk (Kd.N_elder' (by (with_reducible repeat (first | apply Kd.N_alloc | apply Kd.N_drewN | apply Kd.N_drew)); exact HO150.out) (Kd.R_base ho0) hb)
          have n5_ := Aside0.mk (Kd.R_lower (Kd.R_newB (Kd.R_newM (M := fun k_ => (w.heap.size ≤ k_)) ho0 (below_size (by repeat (first | (with_reducible first | exact HB.out | apply below_alloc | apply pw_below_drewN | apply below_drew1 | refine below_set ?_ GE127.out) | exact HB.out))) (fun k_ h_ => h_)) (g := gb127) (o := .cells #[.string a1_0, .int .i64 a1_1, .string a1_2] 26 (0, 0)) (by (with_reducible repeat (first | refine blk_drewN ?_ _ | refine blk_drew ?_ | refine blk_alloc ?_ _)); exact BK127.out)) (below_size (by repeat (first | (with_reducible first | exact HB.out | apply below_alloc | apply pw_below_drewN | apply below_drew1 | refine below_set ?_ GE127.out) | exact HB.out))))
          have n6_ := Aside0.mk (blk_below (g := gb127) (o := .cells #[.string a1_0, .int .i64 a1_1, .string a1_2] 26 (0, 0)) (by (with_reducible repeat (first | refine blk_drewN ?_ _ | refine blk_drew ?_ | refine blk_alloc ?_ _)); exact BK127.out) hb)
          have n7_ := Aside0.mk (below_step (by repeat (first | (with_reducible first | exact HB.out | apply below_alloc | apply pw_below_drewN | apply below_drew1 | refine below_set ?_ GE127.out) | exact HB.out)) hb)
          clear HO0
          clear HO134
          clear HO139
          clear HO144
          clear HO150
          clear BK127
          clear HB
          have HO0 := n0_
          have HO134 := n1_
          have HO139 := n2_
          have HO144 := n3_
          have HO150 := n4_
          have HO153 := n5_
          have BK127 := n6_
          have HB := n7_
          clear n0_ n1_ n2_ n3_ n4_ n5_ n6_ n7_
          (try clear hb)
          (try clear hb2)
          (try clear hk)
          (try clear hi)
          (try clear ho0)
          refine hK.out _ _ ⟨(blk_cell BK127.out 0).trans rfl, (blk_cell BK127.out 1).trans rfl, (blk_cell BK127.out 2).trans rfl⟩ (fun hHeld => ?_)
          clear hK K
          refine norm_ (a' := ?_) ?_ ?_
          rotate_left
          · show Act.put _ (some 28) _ = _
            simp only [Act.put, List.setIfInBounds_toArray, List.set_cons_zero, List.set_cons_succ, i64_w, i32_w]
            rfl
          refine pure_ (i := 8) (N := some 4) (v := ?_) (a' := ?_) #[true, true, true, true, true, true, true, true, true] rfl rfl (any_of HT_.out (by kernel_rfl)) (fun _ _ _ h => h) (Or.inl ⟨by rfl, ?_⟩) ?_ ?_
          rotate_left
          · intro w'
            go_simp
            with_reducible rfl
          rotate_left
          · simp only [Act.put, List.setIfInBounds_toArray, List.set_cons_zero, List.set_cons_succ, i64_w, i32_w]
            rfl
          refine done_ (done_of HT_.out (by kernel_rfl)) ?_
          try go_wp2
          go_ret
          exact ⟨_, by first | rfl | (simp [errW_none, errW_some] <;> rfl) | (simp [*, errW_none, errW_some] <;> rfl), by (with_reducible repeat (first | apply Kd.R_alloc | apply Kd.R_drewN | apply Kd.R_drew)); exact Kd.R_mono HO153.out (fun _ hk => hk.1.1), by repeat (first | (with_reducible first | exact HB.out | apply below_alloc | apply pw_below_drewN | apply below_drew1 | refine below_set ?_ GE127.out) | exact HB.out)⟩
        · rw [if_neg c7] at H
          exact absurd H (by simp)
      · replace c6 := Bool.eq_false_iff.mpr c6
        subst c6
        have H1 : ((api_Pair.f k (([(l0.take (t128 : Int).toNat), (([(⟨(⟨a1_0, a1_1⟩ : S24), a1_2⟩ : S26)] : List (S26))), y130] : List (List (S26))))).bind fun t165 => (some t165)) = some r := by rw [if_neg (show ¬ (false = true) by decide)] at H; exact H
        clear H
        have H := H1
        clear H1
        have c25b0 := eq_true (of_decide_eq_true (by first | (with_reducible assumption) | assumption) : 0 ≤ t128)
        have c26b0 := eq_true (of_decide_eq_true (by first | (with_reducible assumption) | assumption) : t128 ≤ (l0.length : Int))
        obtain ⟨y154, hy154⟩ : ∃ y_ : List (S26), y_ = (l0.take (t128 : Int).toNat) := ⟨_, rfl⟩
        replace H : ((api_Pair.f k (([y154, (([(⟨(⟨a1_0, a1_1⟩ : S24), a1_2⟩ : S26)] : List (S26))), y130] : List (List (S26))))).bind fun t165 => (some t165)) = some r := by first | (rw [hy154]; with_reducible exact H) | (have H2_ := (Option.bind_some _ _).symm.trans H; rw [hy154]; with_reducible exact H2_) | (have H2_ := (Option.bind_some _ _).symm.trans H; with_reducible exact H2_) | with_reducible exact H | (rw [hy154]; exact H) | exact H
        have Ny154 := Aside0.mk hy154
        clear hy154
        obtain ⟨y159, hy159⟩ : ∃ y_ : List (S26), y_ = (([(⟨(⟨a1_0, a1_1⟩ : S24), a1_2⟩ : S26)] : List (S26))) := ⟨_, rfl⟩
        replace H : ((api_Pair.f k (([y154, y159, y130] : List (List (S26))))).bind fun t165 => (some t165)) = some r := by first | (rw [hy159]; with_reducible exact H) | (have H2_ := (Option.bind_some _ _).symm.trans H; rw [hy159]; with_reducible exact H2_) | (have H2_ := (Option.bind_some _ _).symm.trans H; with_reducible exact H2_) | with_reducible exact H | (rw [hy159]; exact H) | exact H
        have Ny159 := Aside0.mk hy159
        clear hy159
        obtain ⟨y162, hy162⟩ : ∃ y_ : List (List (S26)), y_ = (([y154, y159, y130] : List (List (S26)))) := ⟨_, rfl⟩
        replace H : ((api_Pair.f k y162).bind fun t165 => (some t165)) = some r := by first | (rw [hy162]; with_reducible exact H) | (have H2_ := (Option.bind_some _ _).symm.trans H; rw [hy162]; with_reducible exact H2_) | (have H2_ := (Option.bind_some _ _).symm.trans H; with_reducible exact H2_) | with_reducible exact H | (rw [hy162]; exact H) | exact H
        have Ny162 := Aside0.mk hy162
        clear hy162
        replace H := Option.bind_eq_some_iff.mp H
        obtain ⟨t165, A270, H⟩ := H
        replace H : (some t165) = some r := H
        have A27 := Aside0.mk A270
        clear A270
        obtain rfl := Option.some.inj H
        go_enter Try.func17, Try.ntmps17
        try go_wp2_with (first | ((with_reducible refine gate_dst (N := 3) rfl ?_); refine box_event ?hg (N := 3) ?hd (cs := #[.string a1_0, .int .i64 a1_1, .string a1_2]) (t := 26) ?hr ?_; (case hd => rfl); (case hg => rfl); (case hr => first | (go_simp; done) | (go_simp; rfl)); intro gb127 hg w28 hbox hb; have n0_ := Aside0.mk (Kd.V_below (Kd.V_elderB (by (with_reducible repeat (first | apply Kd.V_alloc | apply Kd.V_drewN | apply Kd.V_drew)); exact HO0.out) gb127 (Nat.le_of_eq hg.symm)) hb); have n1_ := Aside0.mk (below_step (by repeat (first | (with_reducible first | exact HB.out | apply below_alloc | apply pw_below_drewN | apply below_drew1) | exact HB.out)) hb); have n2_ := Aside0.mk (hbox); have n3_ := Aside0.mk ((by rw [hg]; exact (below_size (by repeat (first | (with_reducible first | exact HB.out | apply below_alloc | apply pw_below_drewN | apply below_drew1) | exact HB.out))) : w.heap.size ≤ gb127)); have n4_ := Aside0.mk ((by rw [hg]; exact (below_size (by repeat (first | (with_reducible first | exact HB.out | apply below_alloc | apply pw_below_drewN | apply below_drew1) | exact HB.out))) : w.heap.size ≤ gb127)); clear HO0; clear HB; have HO0 := n0_; have HB := n1_; have BK127 := n2_; have GW127 := n3_; have GE127 := n4_; clear n0_ n1_ n2_ n3_ n4_; clear hb hbox hg; have hcz29_0 : w28.cell? ⟨gb127, 0, none⟩ = some (.string a1_0) := (blk_cell BK127.out 0).trans rfl; have hcz29_1 : w28.cell? ⟨gb127, 1, none⟩ = some (.int .i64 a1_1) := (blk_cell BK127.out 1).trans rfl; have hcz29_2 : w28.cell? ⟨gb127, 2, none⟩ = some (.string a1_2) := (blk_cell BK127.out 2).trans rfl; have hfz29_0 := blk_frozen BK127.out 0; have hfz29_1 := blk_frozen BK127.out 1; have hfz29_2 := blk_frozen BK127.out 2) | ((with_reducible refine gate_callee (f := 15) rfl ?_); refine goesL_ (some 12) rfl rfl Try.func15 (by kernel_rfl) rfl #[.slice A0 l0.length c0, .agg #[.string a1_0, .int .i64 a1_1]] rfl (by (try simp only [List.map_toArray, List.map_cons, List.map_nil]); first | done | rfl | (simp only [List.length_drop, List.length_take]; rfl)) ?_; (with_reducible refine (node_Find.calls _ _ l0 a1_0 a1_1 t128 false _ ?side1 ?side2 A3.out).mono ?_); (case side1 => repeat (first | exact (Kd.V_reads' HO0.out).2.2 | (with_reducible refine Kd.C_alloc ?_ _) | (with_reducible refine Kd.C_drewN ?_ _) | (with_reducible refine Kd.C_drew ?_))); (case side2 => exact (Kd.V_reads' HO0.out).2.1); rintro e w30 ⟨rfl, hb⟩; refine ⟨_, rfl, ?_⟩; have n0_ := Aside0.mk (Kd.V_below (by (with_reducible repeat (first | apply Kd.V_alloc | apply Kd.V_drewN | apply Kd.V_drew)); exact HO0.out) hb); have n1_ := Aside0.mk (blk_below (g := gb127) (o := .cells #[.string a1_0, .int .i64 a1_1, .string a1_2] 26 (0, 0)) (by (with_reducible repeat (first | refine blk_drewN ?_ _ | refine blk_drew ?_ | refine blk_alloc ?_ _)); exact BK127.out) hb); have n2_ := Aside0.mk (below_step (by repeat (first | (with_reducible first | exact HB.out | apply below_alloc | apply pw_below_drewN | apply below_drew1 | refine below_set ?_ GE127.out) | exact HB.out)) hb); clear HO0; clear BK127; clear HB; have HO0 := n0_; have BK127 := n1_; have HB := n2_; clear n0_ n1_ n2_; (try clear hb); (try clear hb2); (try clear hk); (try clear hi); have q31 : (t128 : Int) ≤ ((l0.length : Int) : Int) := of_decide_eq_true (by first | (with_reducible assumption) | assumption); obtain ⟨i031, hi031, _, hsz31, _⟩ := info_parts info26; have hroom31 : l0.length ≤ c0 := (Kd.V_reads' HO0.out).2.1; have hC31 : Kd.F k26 _ _ A0 l0.length l0 := (Kd.V_at (base := w.heap.size) HO0.out).2.2; have q031 : (0 : Int) ≤ (t128 : Int) := of_decide_eq_true (by first | (with_reducible assumption) | assumption); have hcut31 := cut_from (P := Try.prog) 22 26 .i64 Try.underlying22 hi031 3 hsz31 A0 l0.length c0 t128 q031 q31; have hr31 := Kd.F_cut (m := (t128 : Int).toNat) (c := c0) hC31 (by omega) hroom31; obtain ⟨A31, hA31⟩ : ∃ A1, A1 = (if c0 = (t128 : Int).toNat then A0 else (A0 : Option Addr).map (·.add ((t128 : Int).toNat * 3))) := ⟨_, rfl⟩; obtain ⟨c31, hc31⟩ : ∃ c1, c1 = c0 - (t128 : Int).toNat := ⟨_, rfl⟩; have hy31 : y130.length = l0.length - (t128 : Int).toNat := (by rw [Ny130.out, List.length_drop] <;> omega); rw [show (l0).drop (t128 : Int).toNat = y130 from Ny130.out.symm] at hr31; replace hr31 : Kd.F k26 _ _ A31 y130.length y130 := (by rw [hA31]; exact hr31); rw [← hy31, ← hA31, ← hc31] at hcut31; have HO134 := Aside0.mk (show Kd.V k26 26 _ w.heap.size _ (.slice A31 y130.length c31) y130 from Kd.V_mk (by rw [hy31, hc31]; exact Nat.sub_le_sub_right hroom31 _) hr31); have HC134 := Aside0.mk (show y130.length ≤ c31 from by rw [hy31, hc31]; exact Nat.sub_le_sub_right hroom31 _); clear hr31 hC31 hroom31 hi031 hsz31 hc31; have KY31 := Aside0.mk hy31; have KA31 := Aside0.mk hA31; clear hy31 hA31; replace q31 := eq_true q31))
        have n0_ := Aside0.mk (Kd.V_drew HO0.out)
        have n1_ := Aside0.mk (Kd.V_drew HO134.out)
        have n2_ := Aside0.mk (blk_drew BK127.out)
        have n3_ := Aside0.mk (below_drew1 HB.out)
        clear HO0
        clear HO134
        clear BK127
        clear HB
        have HO0 := n0_
        have HO134 := n1_
        have BK127 := n2_
        have HB := n3_
        clear n0_ n1_ n2_ n3_
        have q33 : (t128 : Int) ≤ ((l0.length : Int) : Int) := of_decide_eq_true (by first | (with_reducible assumption) | assumption)
        obtain ⟨i033, hi033, _, hsz33, _⟩ := info_parts info26
        have hroom33 : l0.length ≤ c0 := (Kd.V_reads' HO0.out).2.1
        have hC33 : Kd.F k26 _ _ A0 l0.length l0 := (Kd.V_at (base := w.heap.size) HO0.out).2.2
        have hcut33 := cut_to (P := Try.prog) 22 26 .i64 Try.underlying22 hi033 A0 l0.length c0 t128 (of_decide_eq_true (by first | (with_reducible assumption) | assumption)) q33 hroom33
        have hr33 := Kd.F_take (m := (t128 : Int).toNat) hC33 (by omega)
        have hy33 : y154.length = (t128 : Int).toNat := (by rw [Ny154.out, List.length_take]; omega)
        rw [← Ny154.out] at hr33
        rw [← hy33] at hcut33
        have HO158 := Aside0.mk (show Kd.V k26 26 _ w.heap.size _ (.slice A0 y154.length c0) y154 from Kd.V_mk (by omega) hr33)
        have HC158 := Aside0.mk (show y154.length ≤ c0 from by omega)
        clear hr33 hC33 hroom33 hi033 hsz33
        have KY33 := Aside0.mk hy33
        clear hy33
        replace q33 := eq_true q33
        refine start_ (n := 9) (S := fun w' => w'.cell? ⟨gb127, 0, none⟩ = some (.string a1_0) ∧ w'.cell? ⟨gb127, 1, none⟩ = some (.int .i64 a1_1) ∧ w'.cell? ⟨gb127, 2, none⟩ = some (.string a1_2)) (ds := []) #[false, false, false, false, false, false, false, false, false] (by kernel_rfl) rfl rfl ⟨(blk_cell BK127.out 0).trans rfl, (blk_cell BK127.out 1).trans rfl, (blk_cell BK127.out 2).trans rfl⟩ (fun hHeld => ?_); refine with_tabW node_Put.tab5 node_Put.bits5 (fun HT_ HW_ => ?_)
        generalize w30.drew = w32 at HO0 HO134 BK127 HB HO158 hHeld ⊢
        refine pure_ (i := 0) (N := some 21) (v := ?_) (a' := ?_) #[true, false, false, false, false, false, false, false, false] rfl rfl (any_of HT_.out (by kernel_rfl)) (fun _ _ _ h => h) (Or.inl ⟨by rfl, ?_⟩) ?_ ?_
        rotate_left
        · intro w'
          go_simp
          with_reducible rfl
        rotate_left
        · simp only [Act.put, List.setIfInBounds_toArray, List.set_cons_zero, List.set_cons_succ, i64_w, i32_w]
          rfl
        refine pure_ (i := 1) (N := some 22) (v := ?_) (a' := ?_) #[true, true, false, false, false, false, false, false, false] rfl rfl (any_of HT_.out (by kernel_rfl)) (fun _ _ _ h => h) (Or.inl ⟨by rfl, ?_⟩) ?_ ?_
        rotate_left
        · intro w'
          go_simp
          with_reducible rfl
        rotate_left
        · simp only [Act.put, List.setIfInBounds_toArray, List.set_cons_zero, List.set_cons_succ, i64_w, i32_w]
          rfl
        refine pure_ (i := 2) (N := some 23) (v := ?_) (a' := ?_) #[true, true, true, false, false, false, false, false, false] rfl rfl (any_of HT_.out (by kernel_rfl)) (fun _ _ _ h => h) (Or.inl ⟨by rfl, ?_⟩) ?_ ?_
        rotate_left
        · intro w'
          go_simp
          with_reducible rfl
        rotate_left
        · simp only [Act.put, List.setIfInBounds_toArray, List.set_cons_zero, List.set_cons_succ, i64_w, i32_w]
          rfl
        refine pure_ (i := 5) (N := some 26) (v := ?_) (a' := ?_) #[true, true, true, false, false, true, false, false, false] rfl rfl (any_of HT_.out (by kernel_rfl)) (fun _ _ _ h => h) (Or.inl ⟨by rfl, ?_⟩) ?_ ?_
        rotate_left
        · intro w'
          go_simp
          with_reducible rfl
        rotate_left
        · simp only [Act.put, List.setIfInBounds_toArray, List.set_cons_zero, List.set_cons_succ, i64_w, i32_w]
          rfl
        refine take_ (i := 3) (N := some 24) (v := ?_) (a' := ?_) #[true, true, true, true, false, true, false, false, false] rfl rfl (take_ofW HT_.out HW_.out (by kernel_rfl)) (fun _ _ _ h => h) (Or.inl ⟨by rfl, ?_⟩) hHeld ?_ ?_
        rotate_left
        · rintro w' ⟨s0, s1, s2⟩
          go_simp
          with_reducible rfl
        rotate_left
        · simp only [Act.put, List.setIfInBounds_toArray, List.set_cons_zero, List.set_cons_succ, i64_w, i32_w]
          rfl
        refine one_ (i := 4) (N := some 25) #[true, true, true, true, true, true, false, false, false] rfl rfl (one_of HT_.out (by kernel_rfl)) (by decide) (fun K hK => ?_)
        refine Kd.R_lit_step k26 _ 26 ?hg (N := 25) ?hd (xs := ([(⟨(⟨a1_0, a1_1⟩ : S24), a1_2⟩ : S26)] : List (S26))) (inner := [.string a1_0, .int .i64 a1_1, .string a1_2]) (ok := fun _ => True) (okp := fun _ => True) ?hr ?hp (fun _ hk => hk) trivial (Below.refl _ _) (Nat.le_refl _) (by simp) ?_; (case hd => rfl); (case hg => rfl); (case hr => first | (go_simp; done) | (go_simp; rfl)); (case hp => exact (Reps.c3 (show Kd.M k26 _ _ _ (⟨(⟨a1_0, a1_1⟩ : S24), a1_2⟩ : S26) [.string a1_0, .int .i64 a1_1, .string a1_2] from (k26_mkM _ _ _ (⟨(⟨a1_0, a1_1⟩ : S24), a1_2⟩ : S26) )) (Reps.none _ _)))
        intro v160 w34 ho35 hb hg_ hnew_
        clear hg_ hnew_
        (first | rw [← Ny159.out] at ho35 | (simp only [Int.reduceToNat] at ho35; rw [← Ny159.out] at ho35))
        have n0_ := Aside0.mk (Kd.V_elder' (by (with_reducible repeat (first | apply Kd.V_alloc | apply Kd.V_drewN | apply Kd.V_drew)); exact HO0.out) (Kd.R_base ho35) hb)
        have n1_ := Aside0.mk (Kd.V_elder' (by (with_reducible repeat (first | apply Kd.V_alloc | apply Kd.V_drewN | apply Kd.V_drew)); exact HO134.out) (Kd.R_base ho35) hb)
        have n2_ := Aside0.mk (Kd.V_elder' (by (with_reducible repeat (first | apply Kd.V_alloc | apply Kd.V_drewN | apply Kd.V_drew)); exact HO158.out) (Kd.R_base ho35) hb)
        have n3_ := Aside0.mk (Kd.R_lower (Kd.R_newB (Kd.R_newM (M := fun k_ => (w.heap.size ≤ k_)) ho35 (below_size (by repeat (first | (with_reducible first | exact HB.out | apply below_alloc | apply pw_below_drewN | apply below_drew1 | refine below_set ?_ GE127.out) | exact HB.out))) (fun k_ h_ => h_)) (g := gb127) (o := .cells #[.string a1_0, .int .i64 a1_1, .string a1_2] 26 (0, 0)) (by (with_reducible repeat (first | refine blk_drewN ?_ _ | refine blk_drew ?_ | refine blk_alloc ?_ _)); exact BK127.out)) (below_size (by repeat (first | (with_reducible first | exact HB.out | apply below_alloc | apply pw_below_drewN | apply below_drew1 | refine below_set ?_ GE127.out) | exact HB.out))))
        have n4_ := Aside0.mk (blk_below (g := gb127) (o := .cells #[.string a1_0, .int .i64 a1_1, .string a1_2] 26 (0, 0)) (by (with_reducible repeat (first | refine blk_drewN ?_ _ | refine blk_drew ?_ | refine blk_alloc ?_ _)); exact BK127.out) hb)
        have n5_ := Aside0.mk (below_step (by repeat (first | (with_reducible first | exact HB.out | apply below_alloc | apply pw_below_drewN | apply below_drew1 | refine below_set ?_ GE127.out) | exact HB.out)) hb)
        clear HO0
        clear HO134
        clear HO158
        clear BK127
        clear HB
        have HO0 := n0_
        have HO134 := n1_
        have HO158 := n2_
        have HO161 := n3_
        have BK127 := n4_
        have HB := n5_
        clear n0_ n1_ n2_ n3_ n4_ n5_
        clear hb ho35
        obtain ⟨Ao36, co36, eo36⟩ := Kd.R_slice HO161.out
        (first | subst eo36 | (injection eo36 with f1_ f2_ f3_; have f4_ := f1_.symm; have f5_ := f3_.symm; clear f1_ f2_ f3_; subst f4_; subst f5_))
        refine hK.out _ _ ⟨(blk_cell BK127.out 0).trans rfl, (blk_cell BK127.out 1).trans rfl, (blk_cell BK127.out 2).trans rfl⟩ (fun hHeld => ?_)
        clear hK K
        refine norm_ (a' := ?_) ?_ ?_
        rotate_left
        · show Act.put _ (some 25) _ = _
          simp only [Act.put, List.setIfInBounds_toArray, List.set_cons_zero, List.set_cons_succ, i64_w, i32_w]
          rfl
        refine one_ (i := 6) (N := some 27) #[true, true, true, true, true, true, true, false, false] rfl rfl (one_of HT_.out (by kernel_rfl)) (by decide) (fun K hK => ?_)
        refine Kd.N_lit_step (Kd.slice 26 k26) _ 22 ?hg (N' := 27) ?hd (xs := ([y154, y159, y130] : List (List (S26)))) (inner := [.slice A0 y154.length c0, .slice Ao36 y159.length co36, .slice A31 y130.length c31]) (ok := (fun k_ => (P0_ k_ ∨ w.heap.size ≤ k_) ∧ k_ ≠ gb127)) (okp := (fun k_ => (P0_ k_ ∨ w.heap.size ≤ k_) ∧ k_ ≠ gb127)) ?hr ?hp (fun _ hk => hk) ((show ∀ k_, w34.heap.size ≤ k_ → (fun k_ => (P0_ k_ ∨ w.heap.size ≤ k_) ∧ k_ ≠ gb127) k_ from fun k_ hk => ⟨(.inr (Nat.le_trans (below_size (by repeat (first | (with_reducible first | exact HB.out | apply below_alloc | apply pw_below_drewN | apply below_drew1 | refine below_set ?_ GE127.out) | exact HB.out))) hk)), Kd.freshB (g := gb127) (o := .cells #[.string a1_0, .int .i64 a1_1, .string a1_2] 26 (0, 0)) (by (with_reducible repeat (first | refine blk_drewN ?_ _ | refine blk_drew ?_ | refine blk_alloc ?_ _)); exact BK127.out) k_ hk⟩) _ (Nat.le_refl _)) (Below.refl _ _) (Nat.le_refl _) (by simp) ?_; (case hd => rfl); (case hg => rfl); (case hr => first | (go_simp; done) | (go_simp; rfl)); (case hp => exact (Reps.one (show Kd.FK (Kd.slice 26 k26) _ _ y154 [.slice A0 y154.length c0] from (Kd.FK_slice_mk (Kd.V_reads' (Kd.V_mono (ok' := (fun k_ => (P0_ k_ ∨ w.heap.size ≤ k_) ∧ k_ ≠ gb127)) (HO158.out) (fun k_ hk => ⟨hk.1.1, hk.1.2⟩))).2.1 (Kd.V_F (Kd.V_mono (ok' := (fun k_ => (P0_ k_ ∨ w.heap.size ≤ k_) ∧ k_ ≠ gb127)) (HO158.out) (fun k_ hk => ⟨hk.1.1, hk.1.2⟩))))) (Reps.one (show Kd.FK (Kd.slice 26 k26) _ _ y159 [.slice Ao36 y159.length co36] from (Kd.FK_slice_mk (Kd.R_reads' (Kd.R_mono (ok' := (fun k_ => (P0_ k_ ∨ w.heap.size ≤ k_) ∧ k_ ≠ gb127)) (HO161.out) (fun k_ hk => ⟨(.inr (hk.1.1)), hk.2⟩))).2.1 (Kd.R_F (Kd.R_mono (ok' := (fun k_ => (P0_ k_ ∨ w.heap.size ≤ k_) ∧ k_ ≠ gb127)) (HO161.out) (fun k_ hk => ⟨(.inr (hk.1.1)), hk.2⟩))))) (Reps.one (show Kd.FK (Kd.slice 26 k26) _ _ y130 [.slice A31 y130.length c31] from (Kd.FK_slice_mk (Kd.V_reads' (Kd.V_mono (ok' := (fun k_ => (P0_ k_ ∨ w.heap.size ≤ k_) ∧ k_ ≠ gb127)) (HO134.out) (fun k_ hk => ⟨hk.1.1, hk.1.2⟩))).2.1 (Kd.V_F (Kd.V_mono (ok' := (fun k_ => (P0_ k_ ∨ w.heap.size ≤ k_) ∧ k_ ≠ gb127)) (HO134.out) (fun k_ hk => ⟨hk.1.1, hk.1.2⟩))))) (Reps.none _ _)))))
        intro v163 w37 ho38 hb hg_ hnew_
        clear hg_ hnew_
        (first | rw [← Ny162.out] at ho38 | (simp only [Int.reduceToNat] at ho38; rw [← Ny162.out] at ho38))
        have n0_ := Aside0.mk (Kd.V_elder' (by (with_reducible repeat (first | apply Kd.V_alloc | apply Kd.V_drewN | apply Kd.V_drew)); exact HO0.out) (Kd.N_base ho38) hb)
        have n1_ := Aside0.mk (Kd.V_elder' (by (with_reducible repeat (first | apply Kd.V_alloc | apply Kd.V_drewN | apply Kd.V_drew)); exact HO134.out) (Kd.N_base ho38) hb)
        have n2_ := Aside0.mk (Kd.V_elder' (by (with_reducible repeat (first | apply Kd.V_alloc | apply Kd.V_drewN | apply Kd.V_drew)); exact HO158.out) (Kd.N_base ho38) hb)
        have n3_ := Aside0.mk (Kd.N_lower ho38 (below_size (by repeat (first | (with_reducible first | exact HB.out | apply below_alloc | apply pw_below_drewN | apply below_drew1 | refine below_set ?_ GE127.out) | exact HB.out))))
        have n4_ := Aside0.mk (blk_below (g := gb127) (o := .cells #[.string a1_0, .int .i64 a1_1, .string a1_2] 26 (0, 0)) (by (with_reducible repeat (first | refine blk_drewN ?_ _ | refine blk_drew ?_ | refine blk_alloc ?_ _)); exact BK127.out) hb)
        have n5_ := Aside0.mk (below_step (by repeat (first | (with_reducible first | exact HB.out | apply below_alloc | apply pw_below_drewN | apply below_drew1 | refine below_set ?_ GE127.out) | exact HB.out)) hb)
        clear HO0
        clear HO134
        clear HO158
        clear BK127
        clear HB
        clear HO161
        have HO0 := n0_
        have HO134 := n1_
        have HO158 := n2_
        have HO164 := n3_
        have BK127 := n4_
        have HB := n5_
        clear n0_ n1_ n2_ n3_ n4_ n5_
        clear hb ho38
        obtain ⟨Ao39, co39, eo39⟩ := Kd.N_slice HO164.out
        (first | subst eo39 | (injection eo39 with f1_ f2_ f3_; have f4_ := f1_.symm; have f5_ := f3_.symm; clear f1_ f2_ f3_; subst f4_; subst f5_))
        refine hK.out _ _ ⟨(blk_cell BK127.out 0).trans rfl, (blk_cell BK127.out 1).trans rfl, (blk_cell BK127.out 2).trans rfl⟩ (fun hHeld => ?_)
        clear hK K
        refine norm_ (a' := ?_) ?_ ?_
        rotate_left
        · show Act.put _ (some 27) _ = _
          simp only [Act.put, List.setIfInBounds_toArray, List.set_cons_zero, List.set_cons_succ, i64_w, i32_w]
          rfl
        refine one_ (i := 7) (N := some 28) #[true, true, true, true, true, true, true, true, false] rfl rfl (one_of HT_.out (by kernel_rfl)) (by decide) (fun K hK => ?_)
        refine goes_ Try.func48 (by kernel_rfl) rfl #[.slice Ao39 y162.length co39] (by rfl) rfl rfl (by (try simp only [List.map_toArray, List.map_cons, List.map_nil]); first | done | rfl | (simp only [List.length_drop, List.length_take]; rfl)) ?_
        with_reducible refine (api_Pair.calls k _ _ y162 t165 _ ?side1 ?side2 A27.out).mono ?_
        (case side1 => repeat (first | exact (Kd.N_reads' HO164.out).2.2 | (with_reducible refine Kd.C_alloc ?_ _) | (with_reducible refine Kd.C_drewN ?_ _) | (with_reducible refine Kd.C_drew ?_)))
        (case side2 => exact (Kd.N_reads' HO164.out).2.1)
        rintro e w40 ⟨v166, rfl, ho0, hb⟩
        refine ⟨_, rfl, ?_⟩
        have n0_ := Aside0.mk (Kd.V_elder' (by (with_reducible repeat (first | apply Kd.V_alloc | apply Kd.V_drewN | apply Kd.V_drew)); exact HO0.out) (Kd.R_base ho0) hb)
        have n1_ := Aside0.mk (Kd.V_elder' (by (with_reducible repeat (first | apply Kd.V_alloc | apply Kd.V_drewN | apply Kd.V_drew)); exact HO134.out) (Kd.R_base ho0) hb)
        have n2_ := Aside0.mk (Kd.V_elder' (by (with_reducible repeat (first | apply Kd.V_alloc | apply Kd.V_drewN | apply Kd.V_drew)); exact HO158.out) (Kd.R_base ho0) hb)
        have n3_ := Aside0.mk (Kd.N_elder' (by (with_reducible repeat (first | apply Kd.N_alloc | apply Kd.N_drewN | apply Kd.N_drew)); exact HO164.out) (Kd.R_base ho0) hb)
        have n4_ := Aside0.mk (Kd.R_lower (Kd.R_newB (Kd.R_newM (M := fun k_ => (w.heap.size ≤ k_)) ho0 (below_size (by repeat (first | (with_reducible first | exact HB.out | apply below_alloc | apply pw_below_drewN | apply below_drew1 | refine below_set ?_ GE127.out) | exact HB.out))) (fun k_ h_ => h_)) (g := gb127) (o := .cells #[.string a1_0, .int .i64 a1_1, .string a1_2] 26 (0, 0)) (by (with_reducible repeat (first | refine blk_drewN ?_ _ | refine blk_drew ?_ | refine blk_alloc ?_ _)); exact BK127.out)) (below_size (by repeat (first | (with_reducible first | exact HB.out | apply below_alloc | apply pw_below_drewN | apply below_drew1 | refine below_set ?_ GE127.out) | exact HB.out))))
        have n5_ := Aside0.mk (blk_below (g := gb127) (o := .cells #[.string a1_0, .int .i64 a1_1, .string a1_2] 26 (0, 0)) (by (with_reducible repeat (first | refine blk_drewN ?_ _ | refine blk_drew ?_ | refine blk_alloc ?_ _)); exact BK127.out) hb)
        have n6_ := Aside0.mk (below_step (by repeat (first | (with_reducible first | exact HB.out | apply below_alloc | apply pw_below_drewN | apply below_drew1 | refine below_set ?_ GE127.out) | exact HB.out)) hb)
        clear HO0
        clear HO134
        clear HO158
        clear HO164
        clear BK127
        clear HB
        have HO0 := n0_
        have HO134 := n1_
        have HO158 := n2_
        have HO164 := n3_
        have HO167 := n4_
        have BK127 := n5_
        have HB := n6_
        clear n0_ n1_ n2_ n3_ n4_ n5_ n6_
        (try clear hb)
        (try clear hb2)
        (try clear hk)
        (try clear hi)
        (try clear ho0)
        refine hK.out _ _ ⟨(blk_cell BK127.out 0).trans rfl, (blk_cell BK127.out 1).trans rfl, (blk_cell BK127.out 2).trans rfl⟩ (fun hHeld => ?_)
        clear hK K
        refine norm_ (a' := ?_) ?_ ?_
        rotate_left
        · show Act.put _ (some 28) _ = _
          simp only [Act.put, List.setIfInBounds_toArray, List.set_cons_zero, List.set_cons_succ, i64_w, i32_w]
          rfl
        refine pure_ (i := 8) (N := some 4) (v := ?_) (a' := ?_) #[true, true, true, true, true, true, true, true, true] rfl rfl (any_of HT_.out (by kernel_rfl)) (fun _ _ _ h => h) (Or.inl ⟨by rfl, ?_⟩) ?_ ?_
        rotate_left
        · intro w'
          go_simp
          with_reducible rfl
        rotate_left
        · simp only [Act.put, List.setIfInBounds_toArray, List.set_cons_zero, List.set_cons_succ, i64_w, i32_w]
          rfl
        refine done_ (done_of HT_.out (by kernel_rfl)) ?_
        try go_wp2
        go_ret
        exact ⟨_, by first | rfl | (simp [errW_none, errW_some] <;> rfl) | (simp [*, errW_none, errW_some] <;> rfl), by (with_reducible repeat (first | apply Kd.R_alloc | apply Kd.R_drewN | apply Kd.R_drew)); exact Kd.R_mono HO167.out (fun _ hk => hk.1.1), by repeat (first | (with_reducible first | exact HB.out | apply below_alloc | apply pw_below_drewN | apply below_drew1 | refine below_set ?_ GE127.out) | exact HB.out)⟩
    · rw [if_neg c5] at H
      exact absurd H (by simp)
  · rw [if_neg c4] at H
    exact absurd H (by simp)

end Go.Proofs.Ytoiohlmiofplcaa.P
