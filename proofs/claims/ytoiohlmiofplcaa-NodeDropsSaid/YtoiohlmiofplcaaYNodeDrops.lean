/-
  The plain statement of NodeDrops: if pairs rise, they do with one dropped; it is not found, and others stay; put again, it is as it was.
-/
import Derived.Test.YtoiohlmiofplcaaLnodeSort
import Derived.Test.YtoiohlmiofplcaaMOpens
import Derived.Test.YtoiohlmiofplcaaHNodeDrops
namespace Go.Proofs.Ytoiohlmiofplcaa.Pure
open Go.RowKit Go.Proofs.YtoiohlmiofplcaaW.PrintWords Go.Proofs.YtoiohlmiofplcaaW.PrintLast Go.Proofs.Ytoiohlmiofplcaa.P Go.Proofs.Ytoiohlmiofplcaa.ND Go.Proofs.Ytoiohlmiofplcaa.Opens

theorem drops_out (k : Nat) (l : List KV) (i : Int) : sextonlaw09_NodeDrops.j0 (k + 1) l i true = some true := by
  simp only [sextonlaw09_NodeDrops.j0]
  rw [if_pos trivial]
  simp only [sextonlaw09_nodes.f, Option.bind_some]
theorem drops_eq {l A C : List KV} {x : KV} (h : l = A ++ ([x] ++ C)) : A ++ (⟨x.f0, x.f1⟩ : KV) :: C = l := by rw [h]; rfl
theorem drops_in (k : Nat) (hk : 200 < k) (l : List KV) (hl : l.length ≤ 80) (hr : Ris l) (i : Nat) (hi : i < l.length) : sextonlaw09_NodeDrops.j0 (k + 1) l (i : Int) false = some true := by
  obtain ⟨A, C, hd⟩ := dec_mem hr (List.getElem_mem hi)
  have hlen : l.length = A.length + (1 + C.length) := by
    have := congrArg List.length hd.eq
    simp at this; omega
  have hd2 := dec_drop hr hd
  have hm : (A ++ C).length = A.length + C.length := by simp
  have hput := put_dec (v := l[i].f1) hd2 (by omega) k (by omega)
  have he : A ++ (⟨l[i].f0, l[i].f1⟩ : KV) :: C = l := drops_eq hd.eq
  rw [he] at hput
  generalize hx : l[i] = x at *
  simp only [sextonlaw09_NodeDrops.j0]
  rw [if_neg (by decide), if_pos (by omega), if_pos (by omega), rd_at l i hi, hx, drop_dec hd (by omega) k (by omega)]
  simp only [Option.bind_some]
  rw [findf_dec hd2]
  simp only [Option.bind_some, sextonlaw09_nodes.f]
  rw [if_pos trivial, is_f _ (by omega) k (by omega), (risB_iff _).2 (ris_drop hr hd), Option.bind_some]
  rw [if_pos rfl, if_neg (show ¬ ((!([] : List KV).isEmpty) = true) by decide), if_pos (by rw [hm]; unfold wrap64; omega), hput]
  simp only [Option.bind_some]
  rw [same_f l (by omega) k (by omega)]
  simp only [Option.bind_some]
  rw [if_pos trivial, drop_dec hd2 (by omega) k (by omega)]
  simp only [Option.bind_some]
  rw [same_f _ (by omega) k (by omega)]
  simp only [Option.bind_some]
theorem NodeDrops {ok : KV → Prop} (l0 : List KV) (a1 : Int) (h0 : OkList ok l0) (h1 : OkInt .i64 a1) : ∃ k, sextonlaw09_NodeDrops.f k l0 a1 = some true := by
  obtain ⟨r, hb, h80⟩ := big_f l0
  refine ⟨300, ?_⟩
  unfold sextonlaw09_NodeDrops.f
  rw [hb 300 (by omega)]
  simp only [Option.bind_some]
  cases r with
  | true => rw [if_pos rfl]; exact drops_out 299 _ _
  | false =>
    have hl := h80 rfl
    rw [if_neg (by decide), is_f l0 (by omega) 300 (by omega)]
    simp only [Option.bind_some]
    cases hr : risB l0 with
    | false => rw [if_neg (by decide)]; exact drops_out 299 _ _
    | true =>
      rw [if_pos rfl]
      by_cases hn : a1 < 0
      · rw [if_pos hn]; exact drops_out 299 _ _
      · rw [if_neg hn]
        by_cases hg : a1 ≥ (l0.length : Int)
        · rw [decide_eq_true hg]; exact drops_out 299 _ _
        · rw [decide_eq_false hg]
          obtain ⟨i, rfl⟩ : ∃ i : Nat, a1 = i := ⟨a1.toNat, by omega⟩
          exact drops_in 299 (by omega) l0 hl ((risB_iff l0).1 hr) i (by omega)
end Go.Proofs.Ytoiohlmiofplcaa.Pure
