/-
  node.Find, by hand.
-/
import Derived.RangeFuncBox
import Derived.RangeFuncNested
import Derived.Deep.QuietTactic
import Derived.BigQuiet
import Derived.Test.YtoiohlmiofplcaaHidxPair
import Derived.Test.YtoiohlmiofplcaaHkeyLess
namespace Go.Proofs.Ytoiohlmiofplcaa.P
open Go.RowKit Go.Shelf Go.Proofs.YtoiohlmiofplcaaW.PrintWords Go.Proofs.YtoiohlmiofplcaaW.PrintLast Go.Proofs.Plain

def behindP (p : ByteArray) (a : Int) (x : S26) : Bool := !(lessK x.f0.f0 x.f0.f1 p a)
def eqK (x : S26) (p : ByteArray) (a : Int) : Bool := x.f0.f0.toList == p.toList && (x.f0.f1 == a)
/-- Where a key stands, or would; and whether it does. -/
def findV (l : List S26) (p : ByteArray) (a : Int) : Int × Bool := if idx (behindP p a) l < 0 then ((l.length : Int), false) else (idx (behindP p a) l, eqK (rd_T26 l (idx (behindP p a) l)) p a)
def node_Find.f (l0 : List S26) (a1_0 : ByteArray) (a1_1 : Int) : Option (Int × Bool) := some (findV l0 a1_0 a1_1)

theorem idx_rng {α : Type} (p : α → Bool) (l : List α) : -1 ≤ idx p l ∧ (0 ≤ idx p l → idx p l < l.length) := by
  unfold idx
  by_cases h : l.any p = true
  · rw [if_pos h]
    refine ⟨by omega, fun _ => ?_⟩
    obtain ⟨x, hx, hp⟩ := List.any_eq_true.1 h
    have : ∀ l : List α, x ∈ l → (l.takeWhile fun x => !p x).length < l.length := by
      intro l
      induction l with
      | nil => intro h; cases h
      | cons y l ih =>
        intro h
        rcases List.mem_cons.1 h with h | h
        · subst h; simp [List.takeWhile, hp]
        · have := ih h
          simp only [List.takeWhile]
          cases hy : p y <;> simp <;> omega
    have := this l hx
    omega
  · rw [if_neg h]; exact ⟨by omega, by omega⟩

set_option maxHeartbeats 2000000 in
theorem node_Find1_calls (p : ByteArray) (a : Int) (B : Nat) (x : S26) (w : World) (hb : w.heap[B]? = some (.cells #[.string p, .int .i64 a] 24 (0, 0))) :
    Calls Try.prog 44 #[encPair x, .pointer (some ⟨B, 0, none⟩)] w fun e w' => e = .returned (.bool (behindP p a x)) ∧ Below w.heap.size w w' := by
  obtain ⟨⟨q, b⟩, s⟩ := x
  have hB := blk_lt hb
  have c0 := blk_cell hb 0
  have c1 := blk_cell hb 1
  have HC := Aside0.mk (fun W => key_Less.calls q b p a _ W rfl)
  have hq := Aside0.mk (show behindP p a ⟨⟨q, b⟩, s⟩ = !(lessK q b p a) from rfl)
  have HB := Aside0.mk ((Below.refl w.heap.size w).alloc (Nat.le_refl _) (.cells #[.string q, .int .i64 b, .string s] 26))
  obtain ⟨n, hn⟩ : ∃ n, n = lessK q b p a := ⟨_, rfl⟩
  rw [← hn] at HC hq
  clear hn hb
  unfold encPair
  go_enter Try.func44, Try.ntmps44
  go_wp2_with (first | (go_at_call 45; (with_reducible refine (HC.out _).mono ?_); rintro e w3 ⟨rfl, hb3⟩; have HB3 := Aside0.mk (HB.out.trans (hb3.mono HB.out.size)); clear hb3))
  go_ret
  exact ⟨by rw [hq.out]; rfl, HB3.out⟩

theorem find1_pred (p : ByteArray) (a : Int) (B : Nat) (l : List S26) (w : World) (hb : w.heap[B]? = some (.cells #[.string p, .int .i64 a] 24 (0, 0))) :
    PredAt 44 #[.pointer (some ⟨B, 0, none⟩)] encPair (behindP p a) l w :=
  ⟨enters_of Try.func44 (by kernel_rfl) rfl, fun x _ w1 h1 => node_Find1_calls p a B x w1 (blk_below hb h1)⟩

set_option maxHeartbeats 4000000 in
set_option maxRecDepth 100000 in
theorem node_Find.calls (A0 : Option Addr) (c0 : Nat) (l0 : List (S26)) (a1_0 : ByteArray) (a1_1 : Int) (r1 : Int) (r2 : Bool) (w : World) (hr0 : Kd.C k26 w A0 l0.length l0) (hc0 : l0.length ≤ c0) (h : node_Find.f l0 a1_0 a1_1 = some (r1, r2)) :
    Calls Try.prog 15 #[.slice A0 l0.length c0, .agg #[.string a1_0, .int .i64 a1_1]] w fun e w' => e = .returned (.tuple #[.int .i64 r1, .bool r2]) ∧ Below w.heap.size w w' := by
  have hu24 := Try.underlying24
  have hm := hr0.2.1
  have hv := Aside0.mk (Option.some.inj h)
  clear h
  have hblk := blk_new w (.cells #[.string a1_0, .int .i64 a1_1] 24)
  have HB := Aside0.mk ((Below.refl w.heap.size w).alloc (Nat.le_refl _) (.cells #[.string a1_0, .int .i64 a1_1] 24))
  have HI := Aside0.mk (IndexFuncPair 44 #[.pointer (some ⟨w.heap.size, 0, none⟩)] (behindP a1_0 a1_1) A0 c0 l0 _ (Kd.C_below hr0 HB.out) (find1_pred a1_0 a1_1 w.heap.size l0 _ hblk))
  have HK := Aside0.mk hblk
  have HR := Aside0.mk hr0
  obtain ⟨hi0, hi1⟩ := idx_rng (behindP a1_0 a1_1) l0
  have hvv := Aside0.mk (show findV l0 a1_0 a1_1 = if idx (behindP a1_0 a1_1) l0 < 0 then ((l0.length : Int), false) else (idx (behindP a1_0 a1_1) l0, eqK (rd_T26 l0 (idx (behindP a1_0 a1_1) l0)) a1_0 a1_1) from rfl)
  rw [hv.out] at hvv
  generalize idx (behindP a1_0 a1_1) l0 = i at *
  clear hv hblk hr0
  by_cases hlt : i < 0
  · have hv := hvv.out
    rw [if_pos hlt] at hv
    obtain ⟨rfl, rfl⟩ := Prod.mk.inj hv
    clear hvv hi1 hv
    go_enter Try.func15, Try.ntmps15
    go_wp2_with (first | (go_at_call 46; (with_reducible refine HI.out.mono ?_); rintro e w3 ⟨rfl, hb3⟩; have HB3 := Aside0.mk (HB.out.trans (hb3.mono HB.out.size)); clear hb3))
    go_ret2
    exact ⟨rfl, HB3.out⟩
  · have hv := hvv.out
    rw [if_neg hlt] at hv
    obtain ⟨hr1, hr2⟩ := Prod.mk.inj hv
    subst hr1
    have hlt2 : r1 < (l0.length : Int) := hi1 (by omega)
    obtain ⟨N, rfl⟩ : ∃ N : Nat, r1 = N := ⟨r1.toNat, by omega⟩
    clear hvv hi1 hv hlt hi0
    obtain ⟨ad, rfl, hx0, hx1, hx2⟩ := at_T26 HR.out (N : Int) (by omega) (by omega)
    have HX0 := Aside0.mk hx0
    have HX1 := Aside0.mk hx1
    have hq := Aside0.mk hr2
    clear hx0 hx1 hx2 hr2
    unfold eqK at hq
    generalize rd_T26 l0 (N : Int) = x at *
    obtain ⟨⟨q, b⟩, s⟩ := x
    simp only at HX0 HX1 hq
    rw [Int.toNat_natCast] at HX0 HX1
    have heq : ∀ W, Sem.run Try.prog (binOp .eql 24 (.agg #[.string q, .int .i64 b]) (.agg #[.string a1_0, .int .i64 a1_1])) W = .ok (.bool (q.toList == a1_0.toList && (b == a1_1))) W := fun W => by
      go_simp
      by_cases e1 : q.toList = a1_0.toList <;> by_cases e2 : b = a1_1 <;> simp [e1, e2]
    go_enter Try.func15, Try.ntmps15
    go_wp2_with (first | (go_at_call 46; (with_reducible refine HI.out.mono ?_); rintro e w3 ⟨rfl, hb3⟩; have HB3 := Aside0.mk (HB.out.trans (hb3.mono HB.out.size)); have hk3 := blk_below HK.out hb3; have k0 := blk_cell hk3 0; have k1 := blk_cell hk3 1; have hx0 := (HB3.out.cell (World.block_lt_of_cell? w _ HX0.out)).trans HX0.out; have hx1 := (HB3.out.cell (World.block_lt_of_cell? w _ HX1.out)).trans HX1.out; clear hb3 hk3))
    go_quiet (fail)
    go_wp2
    go_ret2
    exact ⟨by rw [hq.out]; rfl, pw_below_drewN HB3.out _⟩
end Go.Proofs.Ytoiohlmiofplcaa.P
