/-
  slices.IndexFunc over pairs, at whatever function value that answers a plain predicate, by hand.
-/
import Derived.OwnWalk
import Derived.LoopTactic
import Derived.Shelf.RegionOpen
import Derived.Test.YtoiohlmiofplcaaWMore
import Derived.Test.YtoiohlmiofplcaaMPlain
import Derived.Test.YtoiohlmiofplcaaProg
import Derived.Test.YtoiohlmiofplcaaPx0
namespace Go.Proofs.Ytoiohlmiofplcaa.P
open Go.RowKit Go.Shelf Go.Proofs.YtoiohlmiofplcaaW.PrintWords Go.Proofs.YtoiohlmiofplcaaW.PrintLast Go.Proofs.Plain

/-- The function value (g, with lb captured) answers p at each of l's elements, and turns nothing that lies, from w on. -/
def PredAt {α : Type} (g : Nat) (lb : Array Value) (enc : α → Value) (p : α → Bool) (l : List α) (w : World) : Prop :=
  (∀ args w, (callFunc g args).run Try.prog w = .ok (.enter g args) w) ∧
  ∀ x ∈ l, ∀ w1, Below w.heap.size w w1 → Calls Try.prog g (#[enc x] ++ lb) w1 fun e w2 => e = .returned (.bool (p x)) ∧ Below w1.heap.size w1 w2
/-- A pair as a value. -/
def encPair (x : S26) : Value := .agg #[.string x.f0.f0, .int .i64 x.f0.f1, .string x.f1]
theorem rdPair (l : List S26) (k : Nat) (h : k < l.length) : rd_T26 l (k : Int) = l[k] := by
  simp [rd_T26, List.getD_eq_getElem?_getD, h]

set_option maxHeartbeats 2000000 in
theorem IndexFuncPair (g : Nat) (lb : Array Value) (p : S26 → Bool) (A : Option Addr) (c : Nat) (l : List S26) (w : World) (hr : Kd.C k26 w A l.length l) (hp : PredAt g lb encPair p l w) :
    Calls Try.prog 46 #[.slice A l.length c, .func (.func g) #[] lb] w fun e w' => e = .returned (.int .i64 (idx p l)) ∧ Below w.heap.size w w' := by
  have HR := Aside0.mk hr
  have hm := hr.2.1
  obtain ⟨eg, hpr⟩ := hp
  have HP := Aside0.mk hpr
  clear hr hpr
  go_enter Try.func46, Try.ntmps46
  go_wp2
  go_loopw [4, 5, 8] (fun _ _ i wr => ∃ k : Nat, k ≤ l.length ∧ i = .int .i64 k ∧ Aside0 (∀ x ∈ l.take k, p x = false) ∧ Aside0 (Below w.heap.size w wr)) (fun _ _ i _ => l.length - (intOf i).toNat)
  case atStart => exact ⟨0, Nat.zero_le _, rfl, ⟨by simp⟩, ⟨Below.refl _ _⟩⟩
  case round =>
    obtain ⟨k, hk, rfl, hall, HB⟩ := hrel
    by_cases hlt : k < l.length
    · obtain ⟨ad, rfl, hx0, hx1, hx2⟩ := at_T26 (Kd.C_below HR.out HB.out) (k : Int) (by omega) (by omega)
      rw [rdPair l k hlt, Int.toNat_natCast] at hx0 hx1 hx2
      have hcall := HP.out l[k] (List.getElem_mem hlt) wr HB.out
      unfold encPair at hcall
      cases hpk : p l[k]
      · have hal2 : Aside0 (∀ x ∈ l.take (k + 1), p x = false) := ⟨by
          rw [List.take_succ_eq_append_getElem hlt]; intro s hs
          rcases List.mem_append.1 hs with h | h
          · exact hall.out s h
          · rw [List.mem_singleton.1 h]; exact hpk⟩
        have HC := Aside0.mk hcall
        have HK := Aside0.mk hpk
        clear hcall hpk
        go_wp2_with (go_at_fn g; refine HC.out.mono ?_; rintro e w3 ⟨rfl, hb3⟩; have HB3 := Aside0.mk (HB.out.trans (hb3.mono HB.out.size)); clear hb3; rw [HK.out])
        go_roundw
        case rel => exact ⟨k + 1, by omega, by go_num, hal2, HB3⟩
        case measure => simp [intOf]; omega
      · have HC := Aside0.mk hcall
        have HK := Aside0.mk hpk
        have hres := Aside0.mk (idx_at hlt hall.out hpk)
        clear hcall hpk
        go_wp2_with (go_at_fn g; refine HC.out.mono ?_; rintro e w3 ⟨rfl, hb3⟩; have HB3 := Aside0.mk (HB.out.trans (hb3.mono HB.out.size)); clear hb3; rw [HK.out])
        go_ret
        exact ⟨by rw [hres.out]; rfl, HB3.out⟩
    · obtain rfl : k = l.length := by omega
      have hres := Aside0.mk (idx_none (p := p) (l := l) (fun x hx => hall.out x (by rw [List.take_length]; exact hx)))
      go_wp2
      go_ret
      exact ⟨by rw [hres.out]; rfl, HB.out⟩

end Go.Proofs.Ytoiohlmiofplcaa.P
