/-
  The plain statement of NodePuts: if pairs rise, they do with one put; it is found, and others stay.
-/
import Derived.Test.YtoiohlmiofplcaaLnodeSort
import Derived.Test.YtoiohlmiofplcaaMOpens
import Derived.Test.YtoiohlmiofplcaaHNodePuts
namespace Go.Proofs.Ytoiohlmiofplcaa.Pure
open Go.RowKit Go.Proofs.YtoiohlmiofplcaaW.PrintWords Go.Proofs.YtoiohlmiofplcaaW.PrintLast Go.Proofs.Ytoiohlmiofplcaa.P Go.Proofs.Ytoiohlmiofplcaa.ND Go.Proofs.Ytoiohlmiofplcaa.Opens

theorem puts_out (k : Nat) (l : List KV) (p : ByteArray) (a : Int) (v : ByteArray) : sextonlaw09_NodePuts.j0 (k + 1) l true p a v = some true := by
  simp only [sextonlaw09_NodePuts.j0]
  rw [if_pos trivial]
  simp only [sextonlaw09_nodes.f]
  rw [Option.bind_some]
theorem key_ne (y : KV) (x : KY) : ((!(y.f0.f0.toList == x.f0.toList)) || (!(y.f0.f1 == x.f1))) = true ↔ y.f0 ≠ x := by
  have := eqK_iff y x
  unfold eqK at this
  rw [← Bool.not_and, Bool.not_eq_true', ← Bool.not_eq_true, this]
theorem puts_loop (l : List KV) (hl : l.length ≤ 80) (hr : Ris l) (x : KV) (A M C : List KV) (hd : Dec l x.f0 A M C) (n : Nat) :
    ∀ (k i : Nat), i + n = l.length → n + 100 < k → sextonlaw09_NodePuts.l0 k l (A ++ x :: C) (i : Int) x.f0.f0 x.f0.f1 x.f1 = some true := by
  have hlen : l.length = A.length + (M.length + C.length) := by rw [hd.eq]; simp
  have hml : (A ++ x :: C).length = A.length + C.length + 1 := by simp; omega
  have hrm : Ris (A ++ x :: C) := ris_put hr hd x.f1
  have hdm : Dec (A ++ x :: C) x.f0 A [x] C := dec_put hd x.f1
  have hmem := mem_put hr hd
  induction n with
  | zero =>
    intro k i hi hk
    obtain ⟨k, rfl⟩ : ∃ m, k = m + 1 := ⟨k - 1, by omega⟩
    simp only [sextonlaw09_NodePuts.l0]
    rw [if_neg (by omega)]
    simp only [sextonlaw09_nodes.f]
    rw [Option.bind_some, if_pos rfl, hml, decide_eq_true (by unfold wrap64; omega)]
  | succ n ih =>
    intro k i hi hk
    obtain ⟨k, rfl⟩ : ∃ m, k = m + 1 := ⟨k - 1, by omega⟩
    have hlt : i < l.length := by omega
    have hin : l[i] ∈ l := List.getElem_mem hlt
    have next := ih k (i + 1) (by omega) (by omega)
    rw [show ((i + 1 : Nat) : Int) = wrap64 ((i : Int) + 1) by unfold wrap64; omega] at next
    simp only [sextonlaw09_NodePuts.l0]
    rw [if_pos (by omega), if_pos (by omega), rd_at l i hlt]
    generalize l[i] = y at *
    by_cases hk2 : y.f0 = x.f0
    · rw [hk2, findf_dec hdm, Option.bind_some, if_pos (show (![x].isEmpty) = true from rfl), if_neg (by rw [hml]; omega), if_neg (by simp)]
      exact next
    · have hym : y ∈ A ++ x :: C := (hmem y).2 (.inr ⟨hin, hk2⟩)
      obtain ⟨A', C', hd'⟩ := dec_mem hrm hym
      have hl2 : (A ++ x :: C).length = A'.length + (1 + C'.length) := by
        have := congrArg List.length hd'.eq
        simp at this ⊢; omega
      have hget : (A ++ x :: C)[A'.length]? = some y := by rw [hd'.eq]; simp
      rw [findf_dec hd', Option.bind_some, if_pos (show (![y].isEmpty) = true from rfl), if_neg (by omega), if_pos ((key_ne y x.f0).2 hk2), if_pos (by omega), if_pos (by omega), rd_some hget, if_neg (by rw [ne_test]; simp)]
      exact next
theorem puts_in (k : Nat) (hk : 300 < k) (l : List KV) (hl : l.length ≤ 80) (hr : Ris l) (x : KV) : sextonlaw09_NodePuts.j0 (k + 1) l false x.f0.f0 x.f0.f1 x.f1 = some true := by
  obtain ⟨A, M, C, hd⟩ := dec_exists l x.f0
  have hlen : l.length = A.length + (M.length + C.length) := by rw [hd.eq]; simp
  have hml : (A ++ x :: C).length = A.length + C.length + 1 := by simp; omega
  have hrm : Ris (A ++ x :: C) := ris_put hr hd x.f1
  have hdm : Dec (A ++ x :: C) x.f0 A [x] C := dec_put hd x.f1
  have hget : (A ++ x :: C)[A.length]? = some x := by simp
  have hwas : ((!M.isEmpty) != (((A ++ x :: C).length : Int) == (l.length : Int))) = false := by
    rw [hml, hlen]
    rcases hd.mid with rfl | ⟨m, rfl, _⟩
    · simp; omega
    · simp; omega
  simp only [sextonlaw09_NodePuts.j0]
  rw [if_neg (by decide), findf_dec hd, Option.bind_some, put_dec hd (by omega) k (by omega), Option.bind_some]
  have hx : (⟨x.f0, x.f1⟩ : KV) = x := rfl
  rw [hx, findf_dec hdm, Option.bind_some, is_f _ (by omega) k (by omega), Option.bind_some, (risB_iff _).2 hrm, if_pos rfl, if_pos (show (![x].isEmpty) = true from rfl), if_neg (by omega), if_neg (by rw [hml]; omega), if_pos (by omega), if_pos (by rw [hml]; omega), rd_some hget, if_neg (by rw [ne_test]; simp), hwas]
  obtain ⟨k, rfl⟩ : ∃ m, k = m + 1 := ⟨k - 1, by omega⟩
  simp only [sextonlaw09_NodePuts.j1]
  rw [if_neg (by decide)]
  exact puts_loop l hl hr x A M C hd l.length k 0 (by omega) (by omega)
theorem NodePuts {ok : KV → Prop} (l0 : List KV) (a1_0 : ByteArray) (a1_1 : Int) (a1_2 : ByteArray) {okp : Prop} (h0 : OkList ok l0) (h1 : okp) : ∃ k, sextonlaw09_NodePuts.f k l0 a1_0 a1_1 a1_2 = some true := by
  obtain ⟨r, hb, h80⟩ := big_f l0
  obtain ⟨r', hb', _⟩ := big_f [⟨⟨a1_0, a1_1⟩, a1_2⟩]
  refine ⟨400, ?_⟩
  unfold sextonlaw09_NodePuts.f
  rw [hb 400 (by omega), Option.bind_some]
  cases r with
  | true => rw [if_pos rfl]; exact puts_out 399 _ _ _ _
  | false =>
    have hl := h80 rfl
    rw [if_neg (by decide), hb' 400 (by omega), Option.bind_some]
    cases r' with
    | true => rw [if_pos rfl]; exact puts_out 399 _ _ _ _
    | false =>
      rw [if_neg (by decide), is_f l0 (by omega) 400 (by omega), Option.bind_some]
      cases hr : risB l0 with
      | false => exact puts_out 399 _ _ _ _
      | true => exact puts_in 399 (by omega) l0 hl ((risB_iff l0).1 hr) ⟨⟨a1_0, a1_1⟩, a1_2⟩
end Go.Proofs.Ytoiohlmiofplcaa.Pure
