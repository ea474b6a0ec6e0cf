/-
  The plain statement of NodeOrder: pairs of which no two have one key may be put in any order.
-/
import Derived.Test.YtoiohlmiofplcaaLnodeSort
import Derived.Test.YtoiohlmiofplcaaMOpens
import Derived.Test.YtoiohlmiofplcaaHNodeOrder
namespace Go.Proofs.Ytoiohlmiofplcaa.Pure
open Go.RowKit Go.Proofs.YtoiohlmiofplcaaW.PrintWords Go.Proofs.YtoiohlmiofplcaaW.PrintLast Go.Proofs.Ytoiohlmiofplcaa.P Go.Proofs.Ytoiohlmiofplcaa.ND Go.Proofs.Ytoiohlmiofplcaa.Opens

theorem key_test (x y : KV) : (x.f0.f0.toList == y.f0.f0.toList && (x.f0.f1 == y.f0.f1)) = true ↔ x.f0 = y.f0 := eqK_iff x y.f0
theorem uniq_snoc (l : List KV) (i : Nat) (hi : i < l.length) (h : Uniq (l.take i)) (hn : ∀ j, j < i → (l[j]?.map (·.f0)) ≠ some l[i].f0) : Uniq (l.take (i + 1)) := by
  unfold Uniq at *
  rw [List.take_succ_eq_append_getElem hi, List.pairwise_append]
  refine ⟨h, by simp, fun a ha b hb => ?_⟩
  obtain rfl : b = l[i] := by simpa using hb
  obtain ⟨j, hj, rfl⟩ := List.mem_iff_getElem.1 ha
  rw [List.length_take] at hj
  intro e
  refine hn j (by omega) ?_
  rw [List.getElem?_eq_getElem (by omega)]
  rw [List.getElem_take] at e
  simp [e]
theorem order_from (l : List KV) (hl : l.length ≤ 80) : ∀ (d i : Nat), i + d = l.length → Uniq (l.take i) → ∀ k, d * (l.length + 3) + 301 ≤ k →
    sextonlaw09_NodeOrder.l0 k l (puts (l.take i)) (puts (l.reverse.take i)) (i : Int) = some true := by
  intro d
  induction d with
  | zero =>
    intro i hi hu k hk
    obtain ⟨k, rfl⟩ : ∃ m, k = m + 1 := ⟨k - 1, by omega⟩
    have e1 : l.take i = l := List.take_of_length_le (by omega)
    have e2 : l.reverse.take i = l.reverse := List.take_of_length_le (by simp; omega)
    rw [e1] at hu
    rw [e1, e2, puts_rev l (by omega) hu]
    obtain ⟨hr, _, hlen⟩ := puts_uniq l (by omega) hu
    simp only [sextonlaw09_NodeOrder.l0]
    rw [if_neg (by omega)]
    simp only [sextonlaw09_nodes.f, Option.bind_some]
    rw [if_pos trivial, same_f _ (by omega) k (by omega)]
    simp only [Option.bind_some]
    rw [if_pos trivial, is_f _ (by omega) k (by omega), (risB_iff _).2 hr]
    simp only [Option.bind_some]
    rw [if_pos trivial, hlen]
    simp
  | succ d ih =>
    intro i hi hu k hk
    rw [Nat.succ_mul] at hk
    obtain ⟨k, rfl⟩ : ∃ m, k = m + 1 := ⟨k - 1, by omega⟩
    have hlt : i < l.length := by omega
    simp only [sextonlaw09_NodeOrder.l0]
    rw [if_pos (by omega)]
    -- the inner loop
    have inner : ∀ (e j : Nat), j + e = i → (∀ q, q < j → (l[q]?.map (·.f0)) ≠ some l[i].f0) → ∀ k, d * (l.length + 3) + (l.length + 3) + 300 ≤ k + j →
        sextonlaw09_NodeOrder.l1 k l (puts (l.take i)) (puts (l.reverse.take i)) (i : Int) (j : Int) = some true := by
      intro e
      induction e with
      | zero =>
        intro j hj hall k hk
        obtain rfl : j = i := by omega
        obtain ⟨k, rfl⟩ : ∃ m, k = m + 1 := ⟨k - 1, by omega⟩
        have hu2 := uniq_snoc l j hlt hu hall
        have hp1 := puts_len (l.take j) (by rw [List.length_take]; omega)
        have hp2 := puts_len (l.reverse.take j) (by rw [List.length_take]; omega)
        rw [List.length_take] at hp1 hp2
        have hw : wrap64 (wrap64 ((l.length : Int) - 1) - (j : Int)) = ((l.length - 1 - j : Nat) : Int) := by unfold wrap64; omega
        have hb : l.length - 1 - j < l.length := by omega
        have hrev : l.reverse.take (j + 1) = l.reverse.take j ++ [l[l.length - 1 - j]] := by
          rw [List.take_succ_eq_append_getElem (by simp; exact hlt)]
          simp
        simp only [sextonlaw09_NodeOrder.l1]
        rw [if_neg (by omega), if_pos (by omega), if_pos (by omega), rd_at l j hlt, putL_f _ _ (by omega) k (by omega)]
        simp only [Option.bind_some]
        rw [hw, if_pos (by omega), if_pos (by omega), rd_at l _ hb, putL_f _ _ (by omega) k (by omega)]
        simp only [Option.bind_some]
        have := ih (j + 1) (by omega) hu2 k (by omega)
        rw [hrev, List.take_succ_eq_append_getElem hlt, puts_snoc, puts_snoc] at this
        rw [show wrap64 ((j : Int) + 1) = ((j + 1 : Nat) : Int) by unfold wrap64; omega]
        exact this
      | succ e ihe =>
        intro j hj hall k hk
        obtain ⟨k, rfl⟩ : ∃ m, k = m + 1 := ⟨k - 1, by omega⟩
        simp only [sextonlaw09_NodeOrder.l1]
        rw [if_pos (by omega), if_pos (by omega), if_pos (by omega), if_pos (by omega), if_pos (by omega), rd_at l j (by omega), rd_at l i hlt]
        by_cases hk2 : l[j].f0 = l[i].f0
        · rw [if_pos ((key_test _ _).2 hk2)]; rfl
        · rw [if_neg (fun h => hk2 ((key_test _ _).1 h)), show wrap64 ((j : Int) + 1) = ((j + 1 : Nat) : Int) by unfold wrap64; omega]
          refine ihe (j + 1) (by omega) (fun q hq => ?_) k (by omega)
          by_cases e : q = j
          · subst e
            rw [List.getElem?_eq_getElem (by omega)]
            simpa using hk2
          · exact hall q (by omega)
    exact inner i 0 (by omega) (fun q hq => by omega) k (by omega)
theorem NodeOrder {ok : KV → Prop} (l0 : List KV) (h0 : OkList ok l0) : ∃ k, sextonlaw09_NodeOrder.f k l0 = some true := by
  obtain ⟨r, hb, h80⟩ := big_f l0
  refine ⟨80 * 83 + 400, ?_⟩
  unfold sextonlaw09_NodeOrder.f
  rw [hb _ (by omega)]
  simp only [Option.bind_some]
  cases r with
  | true => rw [if_pos rfl]
  | false =>
    have hl := h80 rfl
    rw [if_neg (by decide)]
    have hm : l0.length * (l0.length + 3) ≤ 80 * 83 := Nat.mul_le_mul hl (by omega)
    exact order_from l0 hl l0.length 0 (by omega) List.Pairwise.nil _ (by omega)
end Go.Proofs.Ytoiohlmiofplcaa.Pure
