/-
  The table's step and crc.Step, by hand.
-/
import Derived.Test.YtnkakhcombmdoaaHcrcMade
namespace Go.Proofs.Ytnkakhcombmdoaa.P
open Go.RowKit Go.Shelf Go.Proofs.YtnkakhcombmdoaaW.PrintWords Go.Proofs.YtnkakhcombmdoaaW.PrintLast Go.Proofs.YtnkakhcombmdoaaW.PrintMore

def stepI (c b : Int) : Int := bits BinOp.and IntKind.i64 (bits BinOp.xor IntKind.i64 c b) 255
def stepV (c b : Int) : Int := bits BinOp.xor IntKind.i64 (c / 256) (crcT (stepI c b).toNat)
theorem and255 (x : Int) : 0 ≤ bits BinOp.and IntKind.i64 x 255 ∧ bits BinOp.and IntKind.i64 x 255 < 256 := by
  have hn : (BitVec.ofInt 64 x &&& BitVec.ofInt 64 255).toNat ≤ 255 := by
    rw [BitVec.toNat_and]
    exact Nat.le_trans Nat.and_le_right (by decide)
  show 0 ≤ IntKind.wrap .i64 (((BitVec.ofInt 64 x &&& BitVec.ofInt 64 255).toNat : Nat) : Int) ∧ IntKind.wrap .i64 (((BitVec.ofInt 64 x &&& BitVec.ofInt 64 255).toNat : Nat) : Int) < 256
  generalize (BitVec.ofInt 64 x &&& BitVec.ofInt 64 255).toNat = n at *
  have : IntKind.wrap .i64 (n : Int) = n := by
    simp [IntKind.wrap, IntKind.signed, IntKind.bits]
    omega
  omega

set_option maxHeartbeats 4000000 in
set_option maxRecDepth 100000 in
theorem crc_tstep_calls (B : Nat) (cs : Array Value) (c : Int) (b : Nat) (hb : b < 256) (w : World) (hw : w.heap[B]? = some (.cells cs 77 (0, 0))) (ht : ∀ j : Nat, j < 256 → cs[j]? = some (.int .i64 (crcT j))) :
    Calls Try.prog 45 #[.pointer (some ⟨B, 0, none⟩), .int .i64 c, .int .u8 (b : Int)] w fun e w' => e = .returned (.int .i64 (stepV c b)) ∧ w' = w := by
  obtain ⟨h0, h1⟩ := and255 (bits BinOp.xor IntKind.i64 c b)
  have hc : w.cell? ⟨B, (bits BinOp.and IntKind.i64 (bits BinOp.xor IntKind.i64 c b) 255).toNat, none⟩ = some (.int .i64 (crcT (stepI c b).toNat)) := by
    rw [blk_cell hw]; exact ht _ (by omega)
  have hS := Aside0.mk (show stepV c b = bits BinOp.xor IntKind.i64 (c / 256) (crcT (stepI c b).toNat) from rfl)
  generalize crcT (stepI c b).toNat = v at *
  clear ht hw
  go_enter Try.func45, Try.ntmps45
  go_wp2
  go_ret
  exact ⟨by rw [hS.out]; rfl, rfl⟩

/-- What crc.Step answers at a byte. -/
def crc_Step.f (a0 a1 : Int) : Option (Int × Bool) := if 0 ≤ a1 ∧ a1 < 256 then some (if 0 ≤ a0 ∧ a0 ≤ 4294967295 then (stepV a0 a1, true) else (0, false)) else none
set_option maxHeartbeats 4000000 in
set_option maxRecDepth 100000 in
theorem crc_Step_yes (a0 : Int) (b : Nat) (hb : b < 256) (w : World) (h0 : 0 ≤ a0) (h1 : a0 ≤ 4294967295) : Calls Try.prog 25 #[.int .i64 a0, .int .u8 (b : Int)] w fun e w' => e = .returned (.tuple #[.int .i64 (stepV a0 b), .bool true]) ∧ Below w.heap.size w w' := by
  have HM := Aside0.mk (crc_made_calls w)
  go_enter Try.func25, Try.ntmps25
  go_wp2_with (first | (go_at_call 44; refine HM.out.mono ?_; rintro e w3 ⟨cs, rfl, hw3, ht3, hb3⟩; have HW3 := Aside0.mk hw3; have HT3 := Aside0.mk ht3; have HB3 := Aside0.mk hb3; clear hw3 ht3 hb3) | (go_at_call 45; refine (crc_tstep_calls w.heap.size cs a0 b hb _ HW3.out HT3.out).mono ?_; rintro e w4 ⟨rfl, rfl⟩))
  go_ret2
  exact ⟨rfl, HB3.out⟩
set_option maxHeartbeats 4000000 in
theorem crc_Step_no (a0 : Int) (b : Nat) (w : World) (h : ¬ (0 ≤ a0 ∧ a0 ≤ 4294967295)) : Calls Try.prog 25 #[.int .i64 a0, .int .u8 (b : Int)] w fun e w' => e = .returned (.tuple #[.int .i64 0, .bool false]) ∧ Below w.heap.size w w' := by
  by_cases h0 : a0 < 0
  · clear h
    go_enter Try.func25, Try.ntmps25
    go_wp2
    go_ret2
    exact ⟨rfl, Below.refl _ _⟩
  · have h1 : a0 > 4294967295 := by omega
    clear h
    go_enter Try.func25, Try.ntmps25
    go_wp2
    go_ret2
    exact ⟨rfl, Below.refl _ _⟩
theorem crc_Step.calls (a0 : Int) (a1 : Int) (r1 : Int) (r2 : Bool) (w : World) (h : crc_Step.f a0 a1 = some (r1, r2)) :
    Calls Try.prog 25 #[.int .i64 a0, .int .u8 a1] w fun e w' => e = .returned (.tuple #[.int .i64 r1, .bool r2]) ∧ Below w.heap.size w w' := by
  unfold crc_Step.f at h
  by_cases hb : 0 ≤ a1 ∧ a1 < 256
  · rw [if_pos hb] at h
    obtain ⟨b, rfl⟩ : ∃ b : Nat, a1 = b := ⟨a1.toNat, by omega⟩
    by_cases hc : 0 ≤ a0 ∧ a0 ≤ 4294967295
    · rw [if_pos hc] at h
      simp only [Option.some.injEq, Prod.mk.injEq] at h
      obtain ⟨rfl, rfl⟩ := h
      exact crc_Step_yes a0 b (by omega) w hc.1 hc.2
    · rw [if_neg hc] at h
      simp only [Option.some.injEq, Prod.mk.injEq] at h
      obtain ⟨rfl, rfl⟩ := h
      exact crc_Step_no a0 b w hc
  · rw [if_neg hb] at h; cases h
end Go.Proofs.Ytnkakhcombmdoaa.P
