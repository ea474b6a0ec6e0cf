/-
  crc.made and the table's step, by hand: the table has what eight steps make of each byte.
-/
import Derived.Maps.AppendAt
import Derived.OwnWalk
import Derived.LoopTactic
import Derived.RangeFuncBox
import Derived.Test.YtnkakhcombmdoaaWMore
import Derived.Test.YtnkakhcombmdoaaHBuilder
import Derived.Test.YtnkakhcombmdoaaMPlain
import Derived.Test.YtnkakhcombmdoaaPx0
namespace Go.Proofs.Ytnkakhcombmdoaa.P
open Go.RowKit Go.Shelf Go.Proofs.YtnkakhcombmdoaaW.PrintWords Go.Proofs.YtnkakhcombmdoaaW.PrintLast Go.Proofs.YtnkakhcombmdoaaW.PrintMore

def crc1 (c : Int) : Int := if (bits BinOp.and IntKind.i64 c 1 == 1) = true then bits BinOp.xor IntKind.i64 (c / 2) 3988292384 else c / 2
def crcN : Nat → Int → Int
  | 0, c => c
  | n + 1, c => crc1 (crcN n c)
def crcT (i : Nat) : Int := crcN 8 (i : Int)

def zeros : Array Value := Array.replicate 256 (.int .i64 0)
theorem zeros_size : zeros.size = 256 := by simp [zeros]
theorem zero_tab (w : World) : Sem.run Try.prog (zeroValue 77) w = .ok (.agg zeros) w := by kernel_rfl
attribute [local go_sem] zero_tab

set_option maxHeartbeats 8000000 in
set_option maxRecDepth 100000 in
theorem crc_made_calls (w : World) : Calls Try.prog 44 #[] w fun e w' => ∃ cs, e = .returned (.pointer (some ⟨w.heap.size, 0, none⟩)) ∧ w'.heap[w.heap.size]? = some (.cells cs 77 (0, 0)) ∧ (∀ j : Nat, j < 256 → cs[j]? = some (.int .i64 (crcT j))) ∧ Below w.heap.size w w' := by
  go_enter Try.func44, Try.ntmps44
  go_wp2
  go_loopw [5] (fun i wr => ∃ (k : Nat) (cs : Array Value), k ≤ 256 ∧ i = .int .i64 k ∧ cs.size = 256 ∧ Aside0 (wr.heap[w.heap.size]? = some (.cells cs 77 (0, 0))) ∧ Aside0 (∀ j : Nat, j < k → cs[j]? = some (.int .i64 (crcT j))) ∧ Aside0 (Below w.heap.size w wr))
    (fun i _ => 256 - (intOf i).toNat)
  case atStart => exact ⟨0, zeros, by omega, rfl, zeros_size, ⟨blk_new _ _⟩, ⟨fun j hj => by omega⟩, ⟨(Below.refl _ _).alloc (Nat.le_refl _) _⟩⟩
  case round =>
    obtain ⟨k, cs, hk, rfl, hcs, HW, HT, HB⟩ := hrel
    by_cases hlt : k < 256
    · go_wp2
      go_loopw [9, 3] (fun i c wr2 => ∃ n : Nat, n ≤ 8 ∧ i = .int .i64 n ∧ c = .int .i64 (crcN n (k : Int)) ∧ Aside0 (wr2 = wr))
        (fun i _ _ => 8 - (intOf i).toNat)
      case atStart => exact ⟨0, by omega, rfl, rfl, ⟨rfl⟩⟩
      case round =>
        obtain ⟨n, hn, rfl, rfl, HE⟩ := hrel
        obtain rfl := HE.out
        by_cases h8 : n < 8
        · have HS := Aside0.mk (show crcN (n + 1) (k : Int) = crc1 (crcN n (k : Int)) from rfl)
          generalize crcN n (k : Int) = c at *
          unfold crc1 at HS
          by_cases h1 : (bits BinOp.and IntKind.i64 c 1 == 1) = true
          · rw [if_pos h1] at HS
            go_wp2
            exact ⟨⟨n + 1, by omega, by go_num, by rw [HS.out], ⟨trivial⟩⟩, by simp [intOf]; omega⟩
          · rw [if_neg h1] at HS
            have h2 : (bits BinOp.and IntKind.i64 c 1 == 1) = false := by simpa using h1
            clear h1
            go_wp2
            exact ⟨⟨n + 1, by omega, by go_num, by rw [HS.out], ⟨trivial⟩⟩, by simp [intOf]; omega⟩
        · obtain rfl : n = 8 := by omega
          have c0 := blk_cell HW.out k
          rw [Array.getElem?_eq_getElem (by omega)] at c0
          have f0 := blk_frozen HW.out k
          have hset := Aside0.mk (blk_set HW.out k (.int .i64 (crcN 8 (k : Int))))
          have hb := Aside0.mk (HB.out.setCell (p := ⟨w.heap.size, k, none⟩) (Nat.le_refl _) (.int .i64 (crcN 8 (k : Int))))
          generalize cs[k] = old at c0
          go_wp2
          refine ⟨⟨k + 1, _, by omega, by go_num, by simpa using hcs, hset, ⟨fun j hj => ?_⟩, hb⟩, by simp [intOf]; omega⟩
          rw [Array.getElem?_setIfInBounds]
          by_cases e : k = j
          · subst e; rw [if_pos rfl, if_pos (by omega)]; rfl
          · rw [if_neg e]; exact HT.out j (by omega)
    · obtain rfl : k = 256 := by omega
      go_wp2
      go_ret
      exact ⟨cs, rfl, HW.out, HT.out, HB.out⟩
end Go.Proofs.Ytnkakhcombmdoaa.P
