/-
  codec.bytes, by hand: what the iterator gives to whatever loop. For every number that has bytes.
-/
import Derived.RangeFuncNested
import Derived.RangeFuncBound
import Derived.RangeFuncCalls
import Derived.RangeFuncLeaves
import Derived.RangeFuncBox
import Derived.Shelf.Abstract
import Derived.Shelf.RegionOpen
import Derived.WalkKit
import Derived.OwnWalkIn
import Derived.TacticsInMore
import Derived.LoopNIn
import Derived.LoopIn
import Derived.Maps.AppendAt
import Derived.Outline
import Derived.Test.YtnkakhcombmdoaaMcodecPlain
import Derived.Test.YtnkakhcombmdoaaProg
namespace Go.Proofs.Ytnkakhcombmdoaa.P
open Go.RowKit Go.Shelf Go.Proofs.CodecPlain

attribute [local go_sem] Oper.semAt_some

set_option maxHeartbeats 1000000 in
/-- 'bytes(n)': n lies in a block of its own; the function value captures it. -/
theorem codec_bytes_in (F : Fence) (m : Nat) (h : F.fn 41) (hro : F.round = none) (n : Int) (w : World) :
    CallsIn F m Try.prog 41 #[.int .i64 n] w fun e w' => e = .returned (.func (.func 49) #[] #[.pointer (some ⟨w.heap.size, 0, none⟩)]) ∧ w' = w.alloc (.cells #[.int .i64 n] 3) := by
  refine callsIn_of_wp Try.func41 rfl h ?_ hro
  simp only [Try.ntmps41, List.size_toArray, List.length_cons, List.length_nil, Nat.reduceAdd, Nat.reduceSub, Array.replicate_succ, Array.replicate_zero, List.push_toArray, List.append_toArray, List.nil_append, List.cons_append]
  gi_wp2
  go_ret
  exact ⟨rfl, rfl⟩

theorem step_zero (n : Int) (j : Nat) (e : Int) (h : As (nbyte n (3 - j) = e)) (hb : As (false = !(lead (tops n j)).isEmpty)) (hz : e = 0) :
    As (false = !(lead (tops n (j + 1))).isEmpty ∧ lead (tops n j) = lead (tops n (j + 1))) := by
  have h0 : lead (tops n j) = [] := by have := hb.out; simpa using this.symm
  have := lead_snoc_nil h0 (nbyte n (3 - j))
  rw [h.out, if_pos hz] at this
  constructor
  simp [tops, h.out, this, h0]
theorem step_on (n : Int) (j : Nat) (e : Int) (h : As (nbyte n (3 - j) = e)) (hb : As (true = !(lead (tops n j)).isEmpty) ∨ ¬ e = 0) :
    As (true = !(lead (tops n (j + 1))).isEmpty ∧ lead (tops n j) ++ [e] = lead (tops n (j + 1))) := by
  have hk : lead (tops n (j + 1)) = lead (tops n j) ++ [e] := by
    by_cases h0 : lead (tops n j) = []
    · have := lead_snoc_nil h0 (nbyte n (3 - j))
      rw [h.out, if_neg (hb.elim (fun z => by have := z.out; simp [h0] at this) id)] at this
      simp [tops, h.out, this, h0]
    · have := lead_snoc h0 (nbyte n (3 - j))
      rw [h.out] at this
      simp [tops, h.out, this]
  exact ⟨by simp [hk], hk.symm⟩

set_option maxRecDepth 100000 in
set_option maxHeartbeats 4000000 in
theorem codec_bytes1_in (F : Fence) (m : Nat) (h : F.fn 49) (hro : F.round = none) (hm : 1 ≤ m) (l Bn : Nat) (n : Int) (h0n : 0 ≤ n) (h1n : n ≤ 4294967295) (J Jx : List Int → World → Prop)
    (hY : ∀ pre x W, J pre W → pre.length < 4 → YieldAt F (m - 1) Try.prog l #[.int .u8 x] W fun e W' =>
      (e = .returned (.bool true) ∧ J (pre ++ [x]) W' ∧ (∀ v, Boxed W Bn 3 v → Boxed W' Bn 3 v)) ∨ (e = .returned (.bool false) ∧ Jx (pre ++ [x]) W'))
    (W : World) (hBn : Boxed W Bn 3 (.int .i64 n)) (h0 : J [] W) :
    CallsIn F m Try.prog 49 #[.func (.yield l) #[] #[], .pointer (some ⟨Bn, 0, none⟩)] W fun e W' => (∃ v, e = .returned v) ∧
      ((∃ ys, ys = nbytes n ∧ J ys W') ∨ (∃ pre, True ∧ Jx pre W')) := by
  refine callsIn_of_wp Try.func49 rfl h ?_ hro
  simp only [Try.ntmps49, List.size_toArray, List.length_cons, List.length_nil, Nat.reduceAdd, Nat.reduceSub, Array.replicate_succ, Array.replicate_zero, List.push_toArray, List.append_toArray, List.nil_append, List.cons_append]
  gi_wp2
  gi_loopw [3, 4] (fun s k wr => ∃ (j : Nat) (z : Int) (b : Bool), As ((j = 0 ∧ z = 3) ∨ (j = 1 ∧ z = 2) ∨ (j = 2 ∧ z = 1) ∨ (j = 3 ∧ z = 0) ∨ (j = 4 ∧ z = -1)) ∧ s = .bool b ∧ k = .int .i64 z ∧ As (b = !(lead (tops n j)).isEmpty) ∧ As (Boxed wr Bn 3 (.int .i64 n)) ∧ J (lead (tops n j)) wr)
    (fun _ k _ => (intOf k + 1).toNat)
  case atStart => exact ⟨0, 3, false, ⟨.inl ⟨rfl, rfl⟩⟩, rfl, rfl, ⟨rfl⟩, ⟨hBn⟩, h0⟩
  case round =>
    obtain ⟨j, z, b, hjz, rfl, rfl, hb, hbx, hJ⟩ := hrel
    have hc := hbx.out.cell
    rcases hjz.out with ⟨rfl, rfl⟩ | ⟨rfl, rfl⟩ | ⟨rfl, rfl⟩ | ⟨rfl, rfl⟩ | ⟨rfl, rfl⟩
    · clear hjz
      have hbyte : As (nbyte n 3 = n / 16777216) := ⟨by unfold nbyte; omega⟩
      by_cases hz : n / 16777216 = 0
      · cases b
        · have hnew := step_zero n 0 (n / 16777216) hbyte hb hz
          have e1 : (n / 16777216 == 0) = true := by simpa using hz
          have e2 : (n / 16777216 != 0) = false := by simpa using hz
          clear hz
          gi_wp2
          refine ⟨fun _ h => (by cases h), ?_⟩
          gi_wp2
          go_roundw
          case rel => exact ⟨1, (2), false, ⟨(.inr (.inl ⟨rfl, rfl⟩))⟩, rfl, rfl, ⟨hnew.out.1⟩, hbx, hnew.out.2 ▸ hJ⟩
          case measure => simp [intOf]
        · have hnew := step_on n 0 (n / 16777216) hbyte (.inl hb)
          have e1 : (n / 16777216 == 0) = true := by simpa using hz
          have e2 : (n / 16777216 != 0) = false := by simpa using hz
          clear hz
          obtain ⟨fn, tmps, assign, body, hy, hR⟩ := hY (lead (tops n 0)) (n / 16777216) wr hJ (by have := lead_length (tops n 0); rw [tops_length] at this; omega)
          gi_wp2
          refine hR.mono ?_
          rintro e W3 (⟨rfl, hJ3, hk3⟩ | ⟨rfl, hJx3⟩)
          · have hb3 := (hk3 _ hbx.out); clear hk3
            gi_wp2
            go_roundw
            case rel => exact ⟨1, (2), true, ⟨(.inr (.inl ⟨rfl, rfl⟩))⟩, rfl, rfl, ⟨hnew.out.1⟩, ⟨hb3⟩, hnew.out.2 ▸ hJ3⟩
            case measure => simp [intOf]
          · gi_wp2
            refine bodyPost_ret (results_none rfl _ _ _) rfl ?_
            exact ⟨⟨_, rfl⟩, .inr ⟨_, trivial, hJx3⟩⟩
      · have hnew := step_on n 0 (n / 16777216) hbyte (.inr hz)
        have e1 : (n / 16777216 == 0) = false := by simpa using hz
        have e2 : (n / 16777216 != 0) = true := by simpa using hz
        clear hz
        cases b
        · clear hb
          obtain ⟨fn, tmps, assign, body, hy, hR⟩ := hY (lead (tops n 0)) (n / 16777216) wr hJ (by have := lead_length (tops n 0); rw [tops_length] at this; omega)
          gi_wp2
          refine hR.mono ?_
          rintro e W3 (⟨rfl, hJ3, hk3⟩ | ⟨rfl, hJx3⟩)
          · have hb3 := (hk3 _ hbx.out); clear hk3
            gi_wp2
            go_roundw
            case rel => exact ⟨1, (2), true, ⟨(.inr (.inl ⟨rfl, rfl⟩))⟩, rfl, rfl, ⟨hnew.out.1⟩, ⟨hb3⟩, hnew.out.2 ▸ hJ3⟩
            case measure => simp [intOf]
          · gi_wp2
            refine bodyPost_ret (results_none rfl _ _ _) rfl ?_
            exact ⟨⟨_, rfl⟩, .inr ⟨_, trivial, hJx3⟩⟩
        · clear hb
          obtain ⟨fn, tmps, assign, body, hy, hR⟩ := hY (lead (tops n 0)) (n / 16777216) wr hJ (by have := lead_length (tops n 0); rw [tops_length] at this; omega)
          gi_wp2
          refine hR.mono ?_
          rintro e W3 (⟨rfl, hJ3, hk3⟩ | ⟨rfl, hJx3⟩)
          · have hb3 := (hk3 _ hbx.out); clear hk3
            gi_wp2
            go_roundw
            case rel => exact ⟨1, (2), true, ⟨(.inr (.inl ⟨rfl, rfl⟩))⟩, rfl, rfl, ⟨hnew.out.1⟩, ⟨hb3⟩, hnew.out.2 ▸ hJ3⟩
            case measure => simp [intOf]
          · gi_wp2
            refine bodyPost_ret (results_none rfl _ _ _) rfl ?_
            exact ⟨⟨_, rfl⟩, .inr ⟨_, trivial, hJx3⟩⟩
    · clear hjz
      have hbyte : As (nbyte n 2 = n / 65536 % 256) := ⟨by unfold nbyte; omega⟩
      by_cases hz : n / 65536 % 256 = 0
      · cases b
        · have hnew := step_zero n 1 (n / 65536 % 256) hbyte hb hz
          have e1 : (n / 65536 % 256 == 0) = true := by simpa using hz
          have e2 : (n / 65536 % 256 != 0) = false := by simpa using hz
          clear hz
          gi_wp2
          refine ⟨fun _ h => (by cases h), ?_⟩
          gi_wp2
          go_roundw
          case rel => exact ⟨2, (1), false, ⟨(.inr (.inr (.inl ⟨rfl, rfl⟩)))⟩, rfl, rfl, ⟨hnew.out.1⟩, hbx, hnew.out.2 ▸ hJ⟩
          case measure => simp [intOf]
        · have hnew := step_on n 1 (n / 65536 % 256) hbyte (.inl hb)
          have e1 : (n / 65536 % 256 == 0) = true := by simpa using hz
          have e2 : (n / 65536 % 256 != 0) = false := by simpa using hz
          clear hz
          obtain ⟨fn, tmps, assign, body, hy, hR⟩ := hY (lead (tops n 1)) (n / 65536 % 256) wr hJ (by have := lead_length (tops n 1); rw [tops_length] at this; omega)
          gi_wp2
          refine hR.mono ?_
          rintro e W3 (⟨rfl, hJ3, hk3⟩ | ⟨rfl, hJx3⟩)
          · have hb3 := (hk3 _ hbx.out); clear hk3
            gi_wp2
            go_roundw
            case rel => exact ⟨2, (1), true, ⟨(.inr (.inr (.inl ⟨rfl, rfl⟩)))⟩, rfl, rfl, ⟨hnew.out.1⟩, ⟨hb3⟩, hnew.out.2 ▸ hJ3⟩
            case measure => simp [intOf]
          · gi_wp2
            refine bodyPost_ret (results_none rfl _ _ _) rfl ?_
            exact ⟨⟨_, rfl⟩, .inr ⟨_, trivial, hJx3⟩⟩
      · have hnew := step_on n 1 (n / 65536 % 256) hbyte (.inr hz)
        have e1 : (n / 65536 % 256 == 0) = false := by simpa using hz
        have e2 : (n / 65536 % 256 != 0) = true := by simpa using hz
        clear hz
        cases b
        · clear hb
          obtain ⟨fn, tmps, assign, body, hy, hR⟩ := hY (lead (tops n 1)) (n / 65536 % 256) wr hJ (by have := lead_length (tops n 1); rw [tops_length] at this; omega)
          gi_wp2
          refine hR.mono ?_
          rintro e W3 (⟨rfl, hJ3, hk3⟩ | ⟨rfl, hJx3⟩)
          · have hb3 := (hk3 _ hbx.out); clear hk3
            gi_wp2
            go_roundw
            case rel => exact ⟨2, (1), true, ⟨(.inr (.inr (.inl ⟨rfl, rfl⟩)))⟩, rfl, rfl, ⟨hnew.out.1⟩, ⟨hb3⟩, hnew.out.2 ▸ hJ3⟩
            case measure => simp [intOf]
          · gi_wp2
            refine bodyPost_ret (results_none rfl _ _ _) rfl ?_
            exact ⟨⟨_, rfl⟩, .inr ⟨_, trivial, hJx3⟩⟩
        · clear hb
          obtain ⟨fn, tmps, assign, body, hy, hR⟩ := hY (lead (tops n 1)) (n / 65536 % 256) wr hJ (by have := lead_length (tops n 1); rw [tops_length] at this; omega)
          gi_wp2
          refine hR.mono ?_
          rintro e W3 (⟨rfl, hJ3, hk3⟩ | ⟨rfl, hJx3⟩)
          · have hb3 := (hk3 _ hbx.out); clear hk3
            gi_wp2
            go_roundw
            case rel => exact ⟨2, (1), true, ⟨(.inr (.inr (.inl ⟨rfl, rfl⟩)))⟩, rfl, rfl, ⟨hnew.out.1⟩, ⟨hb3⟩, hnew.out.2 ▸ hJ3⟩
            case measure => simp [intOf]
          · gi_wp2
            refine bodyPost_ret (results_none rfl _ _ _) rfl ?_
            exact ⟨⟨_, rfl⟩, .inr ⟨_, trivial, hJx3⟩⟩
    · clear hjz
      have hbyte : As (nbyte n 1 = n / 256 % 256) := ⟨by unfold nbyte; omega⟩
      by_cases hz : n / 256 % 256 = 0
      · cases b
        · have hnew := step_zero n 2 (n / 256 % 256) hbyte hb hz
          have e1 : (n / 256 % 256 == 0) = true := by simpa using hz
          have e2 : (n / 256 % 256 != 0) = false := by simpa using hz
          clear hz
          gi_wp2
          refine ⟨fun _ h => (by cases h), ?_⟩
          gi_wp2
          go_roundw
          case rel => exact ⟨3, (0), false, ⟨(.inr (.inr (.inr (.inl ⟨rfl, rfl⟩))))⟩, rfl, rfl, ⟨hnew.out.1⟩, hbx, hnew.out.2 ▸ hJ⟩
          case measure => simp [intOf]
        · have hnew := step_on n 2 (n / 256 % 256) hbyte (.inl hb)
          have e1 : (n / 256 % 256 == 0) = true := by simpa using hz
          have e2 : (n / 256 % 256 != 0) = false := by simpa using hz
          clear hz
          obtain ⟨fn, tmps, assign, body, hy, hR⟩ := hY (lead (tops n 2)) (n / 256 % 256) wr hJ (by have := lead_length (tops n 2); rw [tops_length] at this; omega)
          gi_wp2
          refine hR.mono ?_
          rintro e W3 (⟨rfl, hJ3, hk3⟩ | ⟨rfl, hJx3⟩)
          · have hb3 := (hk3 _ hbx.out); clear hk3
            gi_wp2
            go_roundw
            case rel => exact ⟨3, (0), true, ⟨(.inr (.inr (.inr (.inl ⟨rfl, rfl⟩))))⟩, rfl, rfl, ⟨hnew.out.1⟩, ⟨hb3⟩, hnew.out.2 ▸ hJ3⟩
            case measure => simp [intOf]
          · gi_wp2
            refine bodyPost_ret (results_none rfl _ _ _) rfl ?_
            exact ⟨⟨_, rfl⟩, .inr ⟨_, trivial, hJx3⟩⟩
      · have hnew := step_on n 2 (n / 256 % 256) hbyte (.inr hz)
        have e1 : (n / 256 % 256 == 0) = false := by simpa using hz
        have e2 : (n / 256 % 256 != 0) = true := by simpa using hz
        clear hz
        cases b
        · clear hb
          obtain ⟨fn, tmps, assign, body, hy, hR⟩ := hY (lead (tops n 2)) (n / 256 % 256) wr hJ (by have := lead_length (tops n 2); rw [tops_length] at this; omega)
          gi_wp2
          refine hR.mono ?_
          rintro e W3 (⟨rfl, hJ3, hk3⟩ | ⟨rfl, hJx3⟩)
          · have hb3 := (hk3 _ hbx.out); clear hk3
            gi_wp2
            go_roundw
            case rel => exact ⟨3, (0), true, ⟨(.inr (.inr (.inr (.inl ⟨rfl, rfl⟩))))⟩, rfl, rfl, ⟨hnew.out.1⟩, ⟨hb3⟩, hnew.out.2 ▸ hJ3⟩
            case measure => simp [intOf]
          · gi_wp2
            refine bodyPost_ret (results_none rfl _ _ _) rfl ?_
            exact ⟨⟨_, rfl⟩, .inr ⟨_, trivial, hJx3⟩⟩
        · clear hb
          obtain ⟨fn, tmps, assign, body, hy, hR⟩ := hY (lead (tops n 2)) (n / 256 % 256) wr hJ (by have := lead_length (tops n 2); rw [tops_length] at this; omega)
          gi_wp2
          refine hR.mono ?_
          rintro e W3 (⟨rfl, hJ3, hk3⟩ | ⟨rfl, hJx3⟩)
          · have hb3 := (hk3 _ hbx.out); clear hk3
            gi_wp2
            go_roundw
            case rel => exact ⟨3, (0), true, ⟨(.inr (.inr (.inr (.inl ⟨rfl, rfl⟩))))⟩, rfl, rfl, ⟨hnew.out.1⟩, ⟨hb3⟩, hnew.out.2 ▸ hJ3⟩
            case measure => simp [intOf]
          · gi_wp2
            refine bodyPost_ret (results_none rfl _ _ _) rfl ?_
            exact ⟨⟨_, rfl⟩, .inr ⟨_, trivial, hJx3⟩⟩
    · clear hjz
      have hbyte : As (nbyte n 0 = n % 256) := ⟨by unfold nbyte; omega⟩
      by_cases hz : n % 256 = 0
      · cases b
        · have hnew := step_zero n 3 (n % 256) hbyte hb hz
          have e1 : (n % 256 == 0) = true := by simpa using hz
          have e2 : (n % 256 != 0) = false := by simpa using hz
          clear hz
          gi_wp2
          refine ⟨fun _ h => (by cases h), ?_⟩
          gi_wp2
          go_roundw
          case rel => exact ⟨4, (-1), false, ⟨(.inr (.inr (.inr (.inr ⟨rfl, rfl⟩))))⟩, rfl, rfl, ⟨hnew.out.1⟩, hbx, hnew.out.2 ▸ hJ⟩
          case measure => simp [intOf]
        · have hnew := step_on n 3 (n % 256) hbyte (.inl hb)
          have e1 : (n % 256 == 0) = true := by simpa using hz
          have e2 : (n % 256 != 0) = false := by simpa using hz
          clear hz
          obtain ⟨fn, tmps, assign, body, hy, hR⟩ := hY (lead (tops n 3)) (n % 256) wr hJ (by have := lead_length (tops n 3); rw [tops_length] at this; omega)
          gi_wp2
          refine hR.mono ?_
          rintro e W3 (⟨rfl, hJ3, hk3⟩ | ⟨rfl, hJx3⟩)
          · have hb3 := (hk3 _ hbx.out); clear hk3
            gi_wp2
            go_roundw
            case rel => exact ⟨4, (-1), true, ⟨(.inr (.inr (.inr (.inr ⟨rfl, rfl⟩))))⟩, rfl, rfl, ⟨hnew.out.1⟩, ⟨hb3⟩, hnew.out.2 ▸ hJ3⟩
            case measure => simp [intOf]
          · gi_wp2
            refine bodyPost_ret (results_none rfl _ _ _) rfl ?_
            exact ⟨⟨_, rfl⟩, .inr ⟨_, trivial, hJx3⟩⟩
      · have hnew := step_on n 3 (n % 256) hbyte (.inr hz)
        have e1 : (n % 256 == 0) = false := by simpa using hz
        have e2 : (n % 256 != 0) = true := by simpa using hz
        clear hz
        cases b
        · clear hb
          obtain ⟨fn, tmps, assign, body, hy, hR⟩ := hY (lead (tops n 3)) (n % 256) wr hJ (by have := lead_length (tops n 3); rw [tops_length] at this; omega)
          gi_wp2
          refine hR.mono ?_
          rintro e W3 (⟨rfl, hJ3, hk3⟩ | ⟨rfl, hJx3⟩)
          · have hb3 := (hk3 _ hbx.out); clear hk3
            gi_wp2
            go_roundw
            case rel => exact ⟨4, (-1), true, ⟨(.inr (.inr (.inr (.inr ⟨rfl, rfl⟩))))⟩, rfl, rfl, ⟨hnew.out.1⟩, ⟨hb3⟩, hnew.out.2 ▸ hJ3⟩
            case measure => simp [intOf]
          · gi_wp2
            refine bodyPost_ret (results_none rfl _ _ _) rfl ?_
            exact ⟨⟨_, rfl⟩, .inr ⟨_, trivial, hJx3⟩⟩
        · clear hb
          obtain ⟨fn, tmps, assign, body, hy, hR⟩ := hY (lead (tops n 3)) (n % 256) wr hJ (by have := lead_length (tops n 3); rw [tops_length] at this; omega)
          gi_wp2
          refine hR.mono ?_
          rintro e W3 (⟨rfl, hJ3, hk3⟩ | ⟨rfl, hJx3⟩)
          · have hb3 := (hk3 _ hbx.out); clear hk3
            gi_wp2
            go_roundw
            case rel => exact ⟨4, (-1), true, ⟨(.inr (.inr (.inr (.inr ⟨rfl, rfl⟩))))⟩, rfl, rfl, ⟨hnew.out.1⟩, ⟨hb3⟩, hnew.out.2 ▸ hJ3⟩
            case measure => simp [intOf]
          · gi_wp2
            refine bodyPost_ret (results_none rfl _ _ _) rfl ?_
            exact ⟨⟨_, rfl⟩, .inr ⟨_, trivial, hJx3⟩⟩
    · clear hjz
      gi_wp2
      go_end0
      exact ⟨⟨_, rfl⟩, .inl ⟨_, rfl, hJ⟩⟩
end Go.Proofs.Ytnkakhcombmdoaa.P
