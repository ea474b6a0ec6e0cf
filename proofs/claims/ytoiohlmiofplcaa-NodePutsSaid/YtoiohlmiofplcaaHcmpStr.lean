/-
  cmp.Compare of two texts, by hand.
-/
import Derived.OwnWalk
import Derived.Laws.Cover1
import Derived.Test.YtoiohlmiofplcaaWMore
import Derived.Test.YtoiohlmiofplcaaPx0
namespace Go.Proofs.Ytoiohlmiofplcaa.P
open Go.RowKit Go.Proofs.YtoiohlmiofplcaaW.PrintWords Go.Proofs.YtoiohlmiofplcaaW.PrintLast

/-- How a text stands to another one. -/
def cmpS (a b : ByteArray) : Int := if Op.bytesLess a.toList b.toList = true then -1 else if a.toList = b.toList then 0 else 1
def cmp_Compare_string.f (a0 a1 : ByteArray) : Option Int := some (cmpS a0 a1)
theorem isNaN_str (s : ByteArray) (w : World) : Calls Try.prog 58 #[.string s] w fun e w' => e = .returned (.bool false) ∧ w' = w := by
  go_enter Try.func58, Try.ntmps58
  go_wp2
  go_ret
  exact ⟨by simp, rfl⟩
set_option maxHeartbeats 1000000 in
theorem cmpS_calls (a b : ByteArray) (w : World) : Calls Try.prog 56 #[.string a, .string b] w fun e w' => e = .returned (.int .i64 (cmpS a b)) ∧ w' = w := by
  have hc := Aside0.mk (show cmpS a b = if Op.bytesLess a.toList b.toList = true then -1 else if a.toList = b.toList then 0 else 1 from rfl)
  by_cases h1 : Op.bytesLess a.toList b.toList = true
  · rw [if_pos h1] at hc
    go_enter Try.func56, Try.ntmps56
    go_wp2_with (first | (go_at_call 58; (with_reducible refine (isNaN_str _ _).mono ?_); rintro e w' ⟨rfl, rfl⟩))
    go_ret
    exact ⟨by rw [hc.out]; rfl, rfl⟩
  · rw [if_neg h1] at hc
    have h1f : Op.bytesLess a.toList b.toList = false := by simpa using h1
    clear h1
    by_cases h2 : a.toList = b.toList
    · rw [if_pos h2] at hc
      have h3 : (a.toList == b.toList) = true := by simpa using h2
      clear h2
      go_enter Try.func56, Try.ntmps56
      go_wp2_with (first | (go_at_call 58; (with_reducible refine (isNaN_str _ _).mono ?_); rintro e w' ⟨rfl, rfl⟩))
      go_ret
      exact ⟨by rw [hc.out]; rfl, rfl⟩
    · rw [if_neg h2] at hc
      have h3 : (a.toList == b.toList) = false := by simpa using h2
      clear h2
      go_enter Try.func56, Try.ntmps56
      go_wp2_with (first | (go_at_call 58; (with_reducible refine (isNaN_str _ _).mono ?_); rintro e w' ⟨rfl, rfl⟩))
      go_ret
      exact ⟨by rw [hc.out]; rfl, rfl⟩
theorem cmp_Compare_string.calls (a0 a1 : ByteArray) (r : Int) (w : World) (h : cmp_Compare_string.f a0 a1 = some r) :
    Calls Try.prog 56 #[.string a0, .string a1] w fun e w' => e = .returned (.int .i64 r) ∧ Drawn0 w w' := by
  obtain rfl := Option.some.inj h
  exact (cmpS_calls a0 a1 w).mono fun e w' ⟨he, hw⟩ => ⟨he, by rw [hw]; exact Drawn0.refl _⟩
end Go.Proofs.Ytoiohlmiofplcaa.P
