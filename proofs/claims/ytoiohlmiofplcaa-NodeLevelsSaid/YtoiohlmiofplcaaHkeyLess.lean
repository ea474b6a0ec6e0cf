/-
  key.Compare and key.Less, by hand.
-/
import Derived.OwnWalk
import Derived.Shelf.RegionOpen
import Derived.Test.YtoiohlmiofplcaaWMore
import Derived.Test.YtoiohlmiofplcaaHcmpStr
import Derived.Test.YtoiohlmiofplcaaFkeyversionto
namespace Go.Proofs.Ytoiohlmiofplcaa.P
open Go.RowKit Go.Shelf Go.Proofs.YtoiohlmiofplcaaW.PrintWords Go.Proofs.YtoiohlmiofplcaaW.PrintLast

/-- Whether a key is ahead of another one. -/
def lessK (p : ByteArray) (a : Int) (q : ByteArray) (b : Int) : Bool := if Op.bytesLess p.toList q.toList = true then true else if p.toList = q.toList then decide (a > b) else false
def cmpI (a b : Int) : Int := if a < b then -1 else if a > b then 1 else 0
def cmpK (p : ByteArray) (a : Int) (q : ByteArray) (b : Int) : Int := if cmpS p q ≠ 0 then cmpS p q else cmpI b a
theorem cmpI_f (a b : Int) : cmp_Compare_int.f a b = some (cmpI a b) := by
  unfold cmp_Compare_int.f cmp_isNaN_int.f cmpI
  simp
  split
  · rfl
  · split <;> rfl
theorem first_two (x y : Int) : key_first.f 4 [x, y] = some (if x ≠ 0 then x else y) := by
  unfold key_first.f
  by_cases h : x = 0
  · subst h
    by_cases h2 : y = 0
    · subst h2; simp [key_first.l0, wrap64, rd]
    · simp [key_first.l0, wrap64, rd, h2]
  · simp [key_first.l0, rd, h]
theorem to_f (p : ByteArray) (a : Int) (q : ByteArray) (b : Int) : key_version_to.f 4 p a q b = some (cmpK p a q b) := by
  unfold key_version_to.f cmp_Compare_string.f cmpK
  rw [cmpI_f]
  simp only [Option.bind_some]
  rw [first_two]
  rfl
theorem cmpK_less (p : ByteArray) (a : Int) (q : ByteArray) (b : Int) : decide (cmpK p a q b < 0) = lessK p a q b := by
  unfold cmpK lessK cmpS cmpI
  by_cases h1 : Op.bytesLess p.toList q.toList = true
  · simp [h1]
  · rw [if_neg h1, if_neg h1]
    by_cases h2 : p.toList = q.toList
    · rw [if_pos h2, if_pos h2]
      simp only [ne_eq, not_true_eq_false, if_false]
      by_cases h3 : b < a
      · rw [if_pos h3]; simp [h3]
      · rw [if_neg h3]
        by_cases h4 : b > a
        · rw [if_pos h4]; simp; omega
        · rw [if_neg h4]; simp; omega
    · simp [h2]
theorem key_Compare_calls (p : ByteArray) (a : Int) (q : ByteArray) (b : Int) (w : World) : Calls Try.prog 52 #[.agg #[.string p, .int .i64 a], .agg #[.string q, .int .i64 b]] w fun e w' => e = .returned (.int .i64 (cmpK p a q b)) ∧ Below w.heap.size w w' := by
  have HC := Aside0.mk (fun W => key_version_to.calls 4 p a q b _ W (to_f p a q b))
  have eg : ∀ args w, (callFunc 54 args).run Try.prog w = .ok (.enter 54 args) w := enters_of Try.func54 (by kernel_rfl) rfl
  obtain ⟨n, hn⟩ : ∃ n, n = cmpK p a q b := ⟨_, rfl⟩
  rw [← hn] at HC ⊢
  clear hn
  have HB := Aside0.mk (((Below.refl w.heap.size w).alloc (Nat.le_refl _) (.cells #[.string p, .int .i64 a] 24)).alloc (by simp) (.cells #[.string q, .int .i64 b] 24))
  go_enter Try.func52, Try.ntmps52
  go_wp2_with (first | (go_at_fn 54; (with_reducible refine (HC.out _).mono ?_); rintro e w3 ⟨rfl, hb3⟩; have HB3 := Aside0.mk (HB.out.trans (hb3.mono HB.out.size)); clear hb3))
  go_ret
  exact ⟨rfl, HB3.out⟩
/-- What key.Less answers. -/
def key_Less.f (a0_0 : ByteArray) (a0_1 : Int) (a1_0 : ByteArray) (a1_1 : Int) : Option Bool := some (lessK a0_0 a0_1 a1_0 a1_1)
theorem key_Less.calls (a0_0 : ByteArray) (a0_1 : Int) (a1_0 : ByteArray) (a1_1 : Int) (r : Bool) (w : World) (h : key_Less.f a0_0 a0_1 a1_0 a1_1 = some r) :
    Calls Try.prog 45 #[.agg #[.string a0_0, .int .i64 a0_1], .agg #[.string a1_0, .int .i64 a1_1]] w fun e w' => e = .returned (.bool r) ∧ Below w.heap.size w w' := by
  obtain rfl := Option.some.inj h
  clear h
  have HC := Aside0.mk (fun W => key_Compare_calls a0_0 a0_1 a1_0 a1_1 W)
  have hk := Aside0.mk (cmpK_less a0_0 a0_1 a1_0 a1_1)
  rw [← hk.out]
  obtain ⟨n, hn⟩ : ∃ n, n = cmpK a0_0 a0_1 a1_0 a1_1 := ⟨_, rfl⟩
  rw [← hn] at HC ⊢
  clear hn hk
  have HB := Aside0.mk (((Below.refl w.heap.size w).alloc (Nat.le_refl _) (.cells #[.string a0_0, .int .i64 a0_1] 24)).alloc (by simp) (.cells #[.string a1_0, .int .i64 a1_1] 24))
  go_enter Try.func45, Try.ntmps45
  go_wp2_with (first | (go_at_call 52; (with_reducible refine (HC.out _).mono ?_); rintro e w3 ⟨rfl, hb3⟩; have HB3 := Aside0.mk (HB.out.trans (hb3.mono HB.out.size)); clear hb3))
  go_ret
  exact ⟨rfl, HB3.out⟩
end Go.Proofs.Ytoiohlmiofplcaa.P
