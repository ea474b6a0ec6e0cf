/-
  The plain statement of NodeLevels: what is split or levelled is, put together, what it was.
-/
import Derived.Test.YtoiohlmiofplcaaLnodeSort
import Derived.Test.YtoiohlmiofplcaaMOpens
import Derived.Test.YtoiohlmiofplcaaHNodeLevels
namespace Go.Proofs.Ytoiohlmiofplcaa.Pure
open Go.RowKit Go.Proofs.YtoiohlmiofplcaaW.PrintWords Go.Proofs.YtoiohlmiofplcaaW.PrintLast Go.Proofs.Ytoiohlmiofplcaa.P Go.Proofs.Ytoiohlmiofplcaa.ND Go.Proofs.Ytoiohlmiofplcaa.Opens

theorem levels_out (k : Nat) (a b : List KV) (most : Int) : sextonlaw09_NodeLevels.j0 (k + 1) a b most true = some true := by
  simp only [sextonlaw09_NodeLevels.j0]
  rw [if_pos trivial]
theorem levels_in (k : Nat) (hk : 200 < k) (a b : List KV) (most : Int) (ha : a.length ≤ 80) (hb : b.length ≤ 80) : sextonlaw09_NodeLevels.j0 (k + 1) a b most false = some true := by
  simp only [sextonlaw09_NodeLevels.j0]
  have hn : ([] : List KV).length = 0 := rfl
  rw [if_neg (by decide), if_pos (by omega), Option.bind_some, List.nil_append, if_pos (by omega), Option.bind_some, level_f a b most (by omega) (by omega) k (by omega), Option.bind_some]
  have hall : (a ++ b).length = a.length + b.length := by simp
  rw [split_f (a ++ b) (by omega) k (by omega), Option.bind_some]
  generalize hc : a ++ b = c at *
  have ht : (c.take (c.length / 2)).length = c.length / 2 := by rw [List.length_take]; omega
  have hd : (c.drop (c.length / 2)).length = c.length - c.length / 2 := by rw [List.length_drop]
  unfold levelV
  rw [hc]
  by_cases h1 : most < 1
  · rw [if_pos h1, if_neg (by decide)]
    simp only [sextonlaw09_nodes.f]
    rw [Option.bind_some, if_pos rfl, if_pos h1]
    simp [wrap64]
  · rw [if_neg h1]
    have fin : ∀ (x y : List KV), x ++ y = c → (y.length = 0 ∨ (c.length : Int) > most ∧ x.length = c.length / 2) →
        (if ((x, y, (0 : Int)).2.2) = 0 then (if ([] : List KV).length + (x, y, (0 : Int)).1.length < 3518437208883 then ((some (([] : List KV) ++ (x, y, (0 : Int)).1 : List KV)).bind fun y448 => (if y448.length + (x, y, (0 : Int)).2.1.length < 3518437208883 then (if ([] : List KV).length + (c.take (c.length / 2), c.drop (c.length / 2)).1.length < 3518437208883 then ((some (([] : List KV) ++ (c.take (c.length / 2), c.drop (c.length / 2)).1 : List KV)).bind fun y454 => (if y454.length + (c.take (c.length / 2), c.drop (c.length / 2)).2.length < 3518437208883 then ((sextonlaw09_nodes.f).bind fun t460 => (if t460 = true then ((sextonref09_Same.f k (y448 ++ (x, y, (0 : Int)).2.1) c).bind fun t461 => (if t461 = true then ((sextonref09_Same.f k (y454 ++ (c.take (c.length / 2), c.drop (c.length / 2)).2) c).bind fun t462 => (if t462 = true then (if (wrap64 (((c.take (c.length / 2), c.drop (c.length / 2)).2.length : Int) - ((c.take (c.length / 2), c.drop (c.length / 2)).1.length : Int))) ≥ 0 then (if (wrap64 (((c.take (c.length / 2), c.drop (c.length / 2)).2.length : Int) - ((c.take (c.length / 2), c.drop (c.length / 2)).1.length : Int))) ≤ 1 then (if ((x, y, (0 : Int)).2.1.length : Int) = 0 then (some true) else (if (c.length : Int) > most then (some (((x, y, (0 : Int)).1.length : Int) == ((c.take (c.length / 2), c.drop (c.length / 2)).1.length : Int))) else (some false))) else (some false)) else (some false)) else (some false))) else (some false))) else (some false))) else (none))) else (none)) else (none))) else (none)) else ((sextonlaw09_nodes.f).bind fun t463 => (if t463 = true then (if most < 1 then (some ((wrap64 (((x, y, (0 : Int)).1.length : Int) + ((x, y, (0 : Int)).2.1.length : Int))) == 0)) else (some false)) else (some false)))) = some true := by
      intro x y hxy hcase
      have hl : x.length + y.length = c.length := by rw [← hxy]; simp
      have hw : wrap64 (((c.drop (c.length / 2)).length : Int) - ((c.take (c.length / 2)).length : Int)) = ((c.length - c.length / 2 : Nat) : Int) - ((c.length / 2 : Nat) : Int) := by rw [ht, hd]; unfold wrap64; omega
      simp only [List.nil_append]
      rw [if_pos trivial, if_pos (by omega), Option.bind_some, if_pos (by omega), if_pos (by omega), Option.bind_some, if_pos (by omega)]
      simp only [sextonlaw09_nodes.f]
      rw [Option.bind_some, if_pos rfl, hxy, same_f c (by omega) k (by omega), Option.bind_some, if_pos rfl, List.take_append_drop, same_f c (by omega) k (by omega), Option.bind_some, if_pos rfl, hw, if_pos (by omega), if_pos (by omega)]
      rcases hcase with h | ⟨h, h2⟩
      · rw [if_pos (by omega)]
      · by_cases h0 : (y.length : Int) = 0
        · rw [if_pos h0]
        · rw [if_neg h0, if_pos h, h2, ht]; simp
    by_cases h2 : (c.length : Int) ≤ most
    · rw [if_pos h2]
      exact fin c [] (by simp) (.inl rfl)
    · rw [if_neg h2]
      exact fin _ _ (List.take_append_drop _ _) (.inr ⟨by omega, ht⟩)
theorem NodeLevels {ok ok' : KV → Prop} (l0 l1 : List KV) (a2 : Int) (h0 : OkList ok l0) (h1 : OkList ok' l1) (h2 : OkInt .i64 a2) : ∃ k, sextonlaw09_NodeLevels.f k l0 l1 a2 = some true := by
  obtain ⟨r, hb, h80⟩ := big_f l0
  obtain ⟨r', hb', h80'⟩ := big_f l1
  refine ⟨300, ?_⟩
  unfold sextonlaw09_NodeLevels.f
  rw [hb 300 (by omega), Option.bind_some]
  cases r with
  | true => rw [if_pos rfl]; exact levels_out 299 _ _ _
  | false =>
    rw [if_neg (by decide), hb' 300 (by omega), Option.bind_some]
    cases r' with
    | true => exact levels_out 299 _ _ _
    | false => exact levels_in 299 (by omega) l0 l1 a2 (h80 rfl) (h80' rfl)
end Go.Proofs.Ytoiohlmiofplcaa.Pure
