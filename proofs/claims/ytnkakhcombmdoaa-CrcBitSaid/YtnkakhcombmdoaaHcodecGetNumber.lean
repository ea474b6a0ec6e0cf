/-
  codec.GetNumber, by hand. For every text of a size that a text may have.
-/
import Derived.WalkKit
import Derived.IntWalk
import Derived.LoopTactic
import Derived.Deep.QuietTactic
import Derived.BigQuiet
import Derived.Laws.BitsLemmas
import Derived.Laws.Slices
import Derived.Test.YtnkakhcombmdoaaWMore
import Derived.Test.YtnkakhcombmdoaaMcodecGet
import Derived.Test.YtnkakhcombmdoaaProg
namespace Go.Proofs.Ytnkakhcombmdoaa.P
open Go.RowKit Go.Proofs.CodecPlain Go.Proofs.YtnkakhcombmdoaaW.PrintWords Go.Proofs.YtnkakhcombmdoaaW.PrintLast

/-- What codec.GetNumber answers. -/
def codec_GetNumber.f (a0 : ByteArray) : Option (Int × ByteArray × Bool) := some (getNum a0)

theorem toList_ne {s : ByteArray} (h : 0 < s.size) : s.toList.isEmpty = false := by
  rw [ByteArray.toList_eq]
  cases e : s.data.toList with
  | nil =>
    have h1 := congrArg List.length e
    rw [Array.length_toList] at h1
    have h2 : s.size = 0 := h1
    omega
  | cons a l => rfl

theorem getNum_no {s : ByteArray} (h : s.size = 0 ∨ 4 < hd s ∨ s.size ≤ hd s) : getNum s = (0, ⟨#[]⟩, false) := by unfold getNum; rw [if_pos h]

theorem getNum_is (s : ByteArray) (q : 0 < s.size) (h4 : hd s ≤ 4) (h5 : hd s < s.size) :
    getNum s = if hd s ≠ 0 ∧ hd (s.extract 1 (1 + hd s)) = 0 then (0, ⟨#[]⟩, false) else (accB (s.extract 1 (1 + hd s)).data.toList, s.extract (1 + hd s) s.size, true) := by
  unfold getNum; rw [if_neg (by omega)]

theorem hd_at {s : ByteArray} (h : 0 < s.size) : ((s[0]'h).toNat : Int) = (hd s : Int) := by simp [hd, h]

set_option maxHeartbeats 4000000 in
set_option maxRecDepth 100000 in
theorem codec_GetNumber_no (s : ByteArray) (w : World) (h : s.size = 0 ∨ 4 < hd s ∨ s.size ≤ hd s) :
    Calls Try.prog 30 #[.string s] w fun e w' => e = .returned (.tuple #[.int .i64 0, .string ⟨#[]⟩, .bool false]) ∧ Drawn0 w w' := by
  by_cases h0 : s.size = 0
  · obtain rfl : s = ⟨#[]⟩ := by
      cases s; rename_i d; simp [ByteArray.size] at h0; subst h0; rfl
    clear h h0
    go_enter Try.func30, Try.ntmps30
    go_wp2
    go_ret3
    exact ⟨rfl, Drawn0.refl _⟩
  · have q : 0 < s.size := by omega
    have hx := hd_at q
    have hlt : hd s < 256 := by unfold hd; rw [dif_pos q]; exact (s[0]).toNat_lt
    have en := toList_ne q
    obtain ⟨m, hm⟩ : ∃ m, m = hd s := ⟨_, rfl⟩
    rw [← hm] at hx h hlt
    clear h0 hm
    by_cases h4 : 4 < m
    · clear h
      go_enter Try.func30, Try.ntmps30
      go_wp2
      go_ret3
      exact ⟨rfl, Drawn0.refl _⟩
    · have h5 : s.size ≤ m := by omega
      clear h
      go_enter Try.func30, Try.ntmps30
      go_wp2
      go_ret3
      exact ⟨rfl, Drawn0.refl _⟩

theorem accB_take (b : ByteArray) (k : Nat) (h : k < b.size) : accB (b.data.toList.take (k + 1)) = accB (b.data.toList.take k) * 256 + (b[k].toNat : Int) := by
  have hl : k < b.data.toList.length := by rw [Array.length_toList]; exact h
  rw [List.take_succ_eq_append_getElem hl, accB_snoc]
  rfl
theorem accB_lt (b : ByteArray) (k : Nat) (h : k ≤ b.size) (h4 : b.size ≤ 4) (hk : k < b.size) : 0 ≤ accB (b.data.toList.take k) ∧ accB (b.data.toList.take k) < 16777216 := by
  have h1 := accB_bd (b.data.toList.take k)
  have hl : (b.data.toList.take k).length = k := by rw [List.length_take, Array.length_toList]; exact Nat.min_eq_left h
  rw [hl] at h1
  refine ⟨h1.1, Int.lt_of_lt_of_le h1.2 ?_⟩
  match k, h, hk with
  | 0, _, _ => decide
  | 1, _, _ => decide
  | 2, _, _ => decide
  | 3, _, _ => decide
  | k + 4, _, hk => omega
theorem accB_whole (b : ByteArray) : accB (b.data.toList.take b.size) = accB b.data.toList := by
  rw [List.take_of_length_le]; rw [Array.length_toList]; exact Nat.le_refl _
theorem or_byte (x y : Int) (hx : 0 ≤ x) (hx1 : x < 16777216) (hy : 0 ≤ y) (hy1 : y < 256) : Go.bits .or .i64 (x * 256) y = x * 256 + y :=
  bits_join .i64 63 (by decide) (fun n h0 h1 => IntWalk.i64_in n ⟨by omega, by omega⟩) 8 (x * 256) y (by omega) (by omega) (by omega) hy (by omega) (by omega)

set_option maxHeartbeats 4000000 in
set_option maxRecDepth 100000 in
theorem codec_GetNumber_0 (s : ByteArray) (w : World) (q : 0 < s.size) (hm : hd s = 0) (h5 : 0 < s.size) :
    Calls Try.prog 30 #[.string s] w fun e w' => e = .returned (.tuple #[.int .i64 (getNum s).1, .string (getNum s).2.1, .bool (getNum s).2.2]) ∧ Drawn0 w w' := by
  have hx := hd_at q
  have en := toList_ne q
  have hg0 := getNum_is s q (by omega) (by omega)
  rw [hm] at hx hg0
  have HG := Aside0.mk hg0
  clear hg0 hm
  have hw0 : IntKind.i64.wrap (1 + 0) = 1 := rfl
  have hi0 : (1 : Int) ≤ 1 := by omega
  have hi1 : 1 ≤ s.size := by omega
  have hi2 : (1 : Int) ≤ (s.size : Int) := by omega
  have hem : decide (s = ByteArray.empty) = false := decide_eq_false (by rintro rfl; exact absurd q (by decide))
  have hbs := Aside0.mk (show (s.extract 1 1).size = 0 by rw [ByteArray.size_extract]; omega)
  go_enter Try.func30, Try.ntmps30
  go_wp2
  go_quiet (fail)
  clear en hi1 hi2 hx hw0 hi0 h5 hem
  have he : s.extract 1 1 = ⟨#[]⟩ := by
    have := hbs.out
    cases h : s.extract 1 1 with
    | mk d => rw [h] at this; simp [ByteArray.size] at this; rw [this]
  have he0 : ByteArray.empty = ⟨#[]⟩ := rfl
  rw [he0]
  clear he0
  go_wp2
  go_loopw [7, 8, 46] (fun v _ i wr => v = .int .i64 0 ∧ i = .int .i64 0 ∧ Drawn0 w wr) (fun _ _ i _ => 0)
  case atStart => exact ⟨rfl, rfl, by repeat (first | exact Drawn0.refl _ | apply Drawn0.step)⟩
  case round =>
    obtain ⟨rfl, rfl, ⟨n, rfl⟩⟩ := hrel
    go_wp2
    go_ret3
    refine ⟨?_, ⟨_, rfl⟩⟩
    rw [HG.out, if_neg (by simp)]
    simp only [Nat.add_zero, he]
    rfl
set_option maxHeartbeats 4000000 in
set_option maxRecDepth 100000 in
theorem codec_GetNumber_1 (s : ByteArray) (w : World) (q : 0 < s.size) (hm : hd s = 1) (h5 : 1 < s.size) :
    Calls Try.prog 30 #[.string s] w fun e w' => e = .returned (.tuple #[.int .i64 (getNum s).1, .string (getNum s).2.1, .bool (getNum s).2.2]) ∧ Drawn0 w w' := by
  have hx := hd_at q
  have en := toList_ne q
  have hg0 := getNum_is s q (by omega) (by omega)
  rw [hm] at hx hg0
  have HG := Aside0.mk hg0
  clear hg0 hm
  have hw0 : IntKind.i64.wrap (1 + 1) = 2 := rfl
  have hi0 : (1 : Int) ≤ 2 := by omega
  have hi1 : 2 ≤ s.size := by omega
  have hi2 : (2 : Int) ≤ (s.size : Int) := by omega
  have hem : decide (s = ByteArray.empty) = false := decide_eq_false (by rintro rfl; exact absurd q (by decide))
  have hbs := Aside0.mk (show (s.extract 1 2).size = 1 by rw [ByteArray.size_extract]; omega)
  go_enter Try.func30, Try.ntmps30
  go_wp2
  go_quiet (fail)
  clear en hi1 hi2 hx hw0 hi0 h5 hem
  generalize s.extract 1 2 = b at *
  have q0 : 0 < b.size := by rw [hbs.out]; omega
  have hx := hd_at q0
  have en := toList_ne q0
  have en2 : b.toList ≠ [] := by intro h; rw [h] at en; cases en
  obtain ⟨h0, hh0⟩ : ∃ h0, h0 = hd b := ⟨_, rfl⟩
  rw [← hh0] at hx
  have HH := Aside0.mk hh0
  clear hh0
  by_cases hz : (h0 : Int) = 0
  · have e1 : ((h0 : Int) == 0) = true := by simpa using hz
    have HZ := Aside0.mk hz
    clear hz
    go_wp2
    go_ret3
    refine ⟨?_, by repeat (first | exact Drawn0.refl _ | apply Drawn0.step)⟩
    rw [HG.out, if_pos ⟨by omega, by rw [← HH.out]; have := HZ.out; omega⟩]
    rfl
  · have e1 : ((h0 : Int) == 0) = false := by simpa using hz
    have HZ := Aside0.mk hz
    clear hz
    go_wp2
    clear en en2 e1 hx
    clear q0
    have hlen : (b.size : Int) = 1 := by rw [hbs.out]; rfl
    go_loopw [7, 8, 46] (fun v _ i wr => ∃ k : Nat, k ≤ b.size ∧ i = .int .i64 k ∧ v = .int .i64 (accB (b.data.toList.take k)) ∧ Drawn0 w wr) (fun _ _ i _ => b.size - (intOf i).toNat)
    case atStart => exact ⟨0, Nat.zero_le _, rfl, rfl, by repeat (first | exact Drawn0.refl _ | apply Drawn0.step)⟩
    case round =>
      obtain ⟨k, hk, rfl, rfl, ⟨n, rfl⟩⟩ := hrel
      by_cases hlt : k < b.size
      · have hb1 := accB_lt b k hk (by omega) hlt
        have hb2 := b[k].toNat_lt
        have hob := or_byte (accB (b.data.toList.take k)) (b[k].toNat : Int) hb1.1 hb1.2 (by omega) (by omega)
        have hnx := Aside0.mk (accB_take b k hlt)
        go_wp2
        go_roundw
        case rel => exact ⟨k + 1, by omega, by go_num, by rw [hnx.out], ⟨_, rfl⟩⟩
        case measure => simp [intOf]; omega
      · obtain rfl : k = b.size := by omega
        have haw := Aside0.mk (accB_whole b)
        go_wp2
        go_ret3
        refine ⟨?_, ⟨_, rfl⟩⟩
        rw [HG.out, if_neg (by rintro ⟨_, h⟩; have h1 := HH.out; have h2 := HZ.out; omega), haw.out]
        rfl
set_option maxHeartbeats 4000000 in
set_option maxRecDepth 100000 in
theorem codec_GetNumber_2 (s : ByteArray) (w : World) (q : 0 < s.size) (hm : hd s = 2) (h5 : 2 < s.size) :
    Calls Try.prog 30 #[.string s] w fun e w' => e = .returned (.tuple #[.int .i64 (getNum s).1, .string (getNum s).2.1, .bool (getNum s).2.2]) ∧ Drawn0 w w' := by
  have hx := hd_at q
  have en := toList_ne q
  have hg0 := getNum_is s q (by omega) (by omega)
  rw [hm] at hx hg0
  have HG := Aside0.mk hg0
  clear hg0 hm
  have hw0 : IntKind.i64.wrap (1 + 2) = 3 := rfl
  have hi0 : (1 : Int) ≤ 3 := by omega
  have hi1 : 3 ≤ s.size := by omega
  have hi2 : (3 : Int) ≤ (s.size : Int) := by omega
  have hem : decide (s = ByteArray.empty) = false := decide_eq_false (by rintro rfl; exact absurd q (by decide))
  have hbs := Aside0.mk (show (s.extract 1 3).size = 2 by rw [ByteArray.size_extract]; omega)
  go_enter Try.func30, Try.ntmps30
  go_wp2
  go_quiet (fail)
  clear en hi1 hi2 hx hw0 hi0 h5 hem
  generalize s.extract 1 3 = b at *
  have q0 : 0 < b.size := by rw [hbs.out]; omega
  have hx := hd_at q0
  have en := toList_ne q0
  have en2 : b.toList ≠ [] := by intro h; rw [h] at en; cases en
  obtain ⟨h0, hh0⟩ : ∃ h0, h0 = hd b := ⟨_, rfl⟩
  rw [← hh0] at hx
  have HH := Aside0.mk hh0
  clear hh0
  by_cases hz : (h0 : Int) = 0
  · have e1 : ((h0 : Int) == 0) = true := by simpa using hz
    have HZ := Aside0.mk hz
    clear hz
    go_wp2
    go_ret3
    refine ⟨?_, by repeat (first | exact Drawn0.refl _ | apply Drawn0.step)⟩
    rw [HG.out, if_pos ⟨by omega, by rw [← HH.out]; have := HZ.out; omega⟩]
    rfl
  · have e1 : ((h0 : Int) == 0) = false := by simpa using hz
    have HZ := Aside0.mk hz
    clear hz
    go_wp2
    clear en en2 e1 hx
    clear q0
    have hlen : (b.size : Int) = 2 := by rw [hbs.out]; rfl
    go_loopw [7, 8, 46] (fun v _ i wr => ∃ k : Nat, k ≤ b.size ∧ i = .int .i64 k ∧ v = .int .i64 (accB (b.data.toList.take k)) ∧ Drawn0 w wr) (fun _ _ i _ => b.size - (intOf i).toNat)
    case atStart => exact ⟨0, Nat.zero_le _, rfl, rfl, by repeat (first | exact Drawn0.refl _ | apply Drawn0.step)⟩
    case round =>
      obtain ⟨k, hk, rfl, rfl, ⟨n, rfl⟩⟩ := hrel
      by_cases hlt : k < b.size
      · have hb1 := accB_lt b k hk (by omega) hlt
        have hb2 := b[k].toNat_lt
        have hob := or_byte (accB (b.data.toList.take k)) (b[k].toNat : Int) hb1.1 hb1.2 (by omega) (by omega)
        have hnx := Aside0.mk (accB_take b k hlt)
        go_wp2
        go_roundw
        case rel => exact ⟨k + 1, by omega, by go_num, by rw [hnx.out], ⟨_, rfl⟩⟩
        case measure => simp [intOf]; omega
      · obtain rfl : k = b.size := by omega
        have haw := Aside0.mk (accB_whole b)
        go_wp2
        go_ret3
        refine ⟨?_, ⟨_, rfl⟩⟩
        rw [HG.out, if_neg (by rintro ⟨_, h⟩; have h1 := HH.out; have h2 := HZ.out; omega), haw.out]
        rfl
set_option maxHeartbeats 4000000 in
set_option maxRecDepth 100000 in
theorem codec_GetNumber_3 (s : ByteArray) (w : World) (q : 0 < s.size) (hm : hd s = 3) (h5 : 3 < s.size) :
    Calls Try.prog 30 #[.string s] w fun e w' => e = .returned (.tuple #[.int .i64 (getNum s).1, .string (getNum s).2.1, .bool (getNum s).2.2]) ∧ Drawn0 w w' := by
  have hx := hd_at q
  have en := toList_ne q
  have hg0 := getNum_is s q (by omega) (by omega)
  rw [hm] at hx hg0
  have HG := Aside0.mk hg0
  clear hg0 hm
  have hw0 : IntKind.i64.wrap (1 + 3) = 4 := rfl
  have hi0 : (1 : Int) ≤ 4 := by omega
  have hi1 : 4 ≤ s.size := by omega
  have hi2 : (4 : Int) ≤ (s.size : Int) := by omega
  have hem : decide (s = ByteArray.empty) = false := decide_eq_false (by rintro rfl; exact absurd q (by decide))
  have hbs := Aside0.mk (show (s.extract 1 4).size = 3 by rw [ByteArray.size_extract]; omega)
  go_enter Try.func30, Try.ntmps30
  go_wp2
  go_quiet (fail)
  clear en hi1 hi2 hx hw0 hi0 h5 hem
  generalize s.extract 1 4 = b at *
  have q0 : 0 < b.size := by rw [hbs.out]; omega
  have hx := hd_at q0
  have en := toList_ne q0
  have en2 : b.toList ≠ [] := by intro h; rw [h] at en; cases en
  obtain ⟨h0, hh0⟩ : ∃ h0, h0 = hd b := ⟨_, rfl⟩
  rw [← hh0] at hx
  have HH := Aside0.mk hh0
  clear hh0
  by_cases hz : (h0 : Int) = 0
  · have e1 : ((h0 : Int) == 0) = true := by simpa using hz
    have HZ := Aside0.mk hz
    clear hz
    go_wp2
    go_ret3
    refine ⟨?_, by repeat (first | exact Drawn0.refl _ | apply Drawn0.step)⟩
    rw [HG.out, if_pos ⟨by omega, by rw [← HH.out]; have := HZ.out; omega⟩]
    rfl
  · have e1 : ((h0 : Int) == 0) = false := by simpa using hz
    have HZ := Aside0.mk hz
    clear hz
    go_wp2
    clear en en2 e1 hx
    clear q0
    have hlen : (b.size : Int) = 3 := by rw [hbs.out]; rfl
    go_loopw [7, 8, 46] (fun v _ i wr => ∃ k : Nat, k ≤ b.size ∧ i = .int .i64 k ∧ v = .int .i64 (accB (b.data.toList.take k)) ∧ Drawn0 w wr) (fun _ _ i _ => b.size - (intOf i).toNat)
    case atStart => exact ⟨0, Nat.zero_le _, rfl, rfl, by repeat (first | exact Drawn0.refl _ | apply Drawn0.step)⟩
    case round =>
      obtain ⟨k, hk, rfl, rfl, ⟨n, rfl⟩⟩ := hrel
      by_cases hlt : k < b.size
      · have hb1 := accB_lt b k hk (by omega) hlt
        have hb2 := b[k].toNat_lt
        have hob := or_byte (accB (b.data.toList.take k)) (b[k].toNat : Int) hb1.1 hb1.2 (by omega) (by omega)
        have hnx := Aside0.mk (accB_take b k hlt)
        go_wp2
        go_roundw
        case rel => exact ⟨k + 1, by omega, by go_num, by rw [hnx.out], ⟨_, rfl⟩⟩
        case measure => simp [intOf]; omega
      · obtain rfl : k = b.size := by omega
        have haw := Aside0.mk (accB_whole b)
        go_wp2
        go_ret3
        refine ⟨?_, ⟨_, rfl⟩⟩
        rw [HG.out, if_neg (by rintro ⟨_, h⟩; have h1 := HH.out; have h2 := HZ.out; omega), haw.out]
        rfl
set_option maxHeartbeats 4000000 in
set_option maxRecDepth 100000 in
theorem codec_GetNumber_4 (s : ByteArray) (w : World) (q : 0 < s.size) (hm : hd s = 4) (h5 : 4 < s.size) :
    Calls Try.prog 30 #[.string s] w fun e w' => e = .returned (.tuple #[.int .i64 (getNum s).1, .string (getNum s).2.1, .bool (getNum s).2.2]) ∧ Drawn0 w w' := by
  have hx := hd_at q
  have en := toList_ne q
  have hg0 := getNum_is s q (by omega) (by omega)
  rw [hm] at hx hg0
  have HG := Aside0.mk hg0
  clear hg0 hm
  have hw0 : IntKind.i64.wrap (1 + 4) = 5 := rfl
  have hi0 : (1 : Int) ≤ 5 := by omega
  have hi1 : 5 ≤ s.size := by omega
  have hi2 : (5 : Int) ≤ (s.size : Int) := by omega
  have hem : decide (s = ByteArray.empty) = false := decide_eq_false (by rintro rfl; exact absurd q (by decide))
  have hbs := Aside0.mk (show (s.extract 1 5).size = 4 by rw [ByteArray.size_extract]; omega)
  go_enter Try.func30, Try.ntmps30
  go_wp2
  go_quiet (fail)
  clear en hi1 hi2 hx hw0 hi0 h5 hem
  generalize s.extract 1 5 = b at *
  have q0 : 0 < b.size := by rw [hbs.out]; omega
  have hx := hd_at q0
  have en := toList_ne q0
  have en2 : b.toList ≠ [] := by intro h; rw [h] at en; cases en
  obtain ⟨h0, hh0⟩ : ∃ h0, h0 = hd b := ⟨_, rfl⟩
  rw [← hh0] at hx
  have HH := Aside0.mk hh0
  clear hh0
  by_cases hz : (h0 : Int) = 0
  · have e1 : ((h0 : Int) == 0) = true := by simpa using hz
    have HZ := Aside0.mk hz
    clear hz
    go_wp2
    go_ret3
    refine ⟨?_, by repeat (first | exact Drawn0.refl _ | apply Drawn0.step)⟩
    rw [HG.out, if_pos ⟨by omega, by rw [← HH.out]; have := HZ.out; omega⟩]
    rfl
  · have e1 : ((h0 : Int) == 0) = false := by simpa using hz
    have HZ := Aside0.mk hz
    clear hz
    go_wp2
    clear en en2 e1 hx
    clear q0
    have hlen : (b.size : Int) = 4 := by rw [hbs.out]; rfl
    go_loopw [7, 8, 46] (fun v _ i wr => ∃ k : Nat, k ≤ b.size ∧ i = .int .i64 k ∧ v = .int .i64 (accB (b.data.toList.take k)) ∧ Drawn0 w wr) (fun _ _ i _ => b.size - (intOf i).toNat)
    case atStart => exact ⟨0, Nat.zero_le _, rfl, rfl, by repeat (first | exact Drawn0.refl _ | apply Drawn0.step)⟩
    case round =>
      obtain ⟨k, hk, rfl, rfl, ⟨n, rfl⟩⟩ := hrel
      by_cases hlt : k < b.size
      · have hb1 := accB_lt b k hk (by omega) hlt
        have hb2 := b[k].toNat_lt
        have hob := or_byte (accB (b.data.toList.take k)) (b[k].toNat : Int) hb1.1 hb1.2 (by omega) (by omega)
        have hnx := Aside0.mk (accB_take b k hlt)
        go_wp2
        go_roundw
        case rel => exact ⟨k + 1, by omega, by go_num, by rw [hnx.out], ⟨_, rfl⟩⟩
        case measure => simp [intOf]; omega
      · obtain rfl : k = b.size := by omega
        have haw := Aside0.mk (accB_whole b)
        go_wp2
        go_ret3
        refine ⟨?_, ⟨_, rfl⟩⟩
        rw [HG.out, if_neg (by rintro ⟨_, h⟩; have h1 := HH.out; have h2 := HZ.out; omega), haw.out]
        rfl
theorem codec_GetNumber.calls (a0 : ByteArray) (r1 : Int) (r2 : ByteArray) (r3 : Bool) (w : World) (h : codec_GetNumber.f a0 = some (r1, r2, r3)) :
    Calls Try.prog 30 #[.string a0] w fun e w' => e = .returned (.tuple #[.int .i64 r1, .string r2, .bool r3]) ∧ Drawn0 w w' := by
  have hg : getNum a0 = (r1, r2, r3) := by simpa [codec_GetNumber.f] using h
  by_cases hno : a0.size = 0 ∨ 4 < hd a0 ∨ a0.size ≤ hd a0
  · have h2 := getNum_no hno
    rw [hg] at h2
    simp only [Prod.mk.injEq] at h2
    obtain ⟨rfl, rfl, rfl⟩ := h2
    exact codec_GetNumber_no a0 w hno
  · have q : 0 < a0.size := by omega
    have h5 : hd a0 < a0.size := by omega
    have hm : hd a0 = 0 ∨ hd a0 = 1 ∨ hd a0 = 2 ∨ hd a0 = 3 ∨ hd a0 = 4 := by omega
    rcases hm with hm | hm | hm | hm | hm
    · have := codec_GetNumber_0 a0 w q hm (by omega); rw [hg] at this; exact this
    · have := codec_GetNumber_1 a0 w q hm (by omega); rw [hg] at this; exact this
    · have := codec_GetNumber_2 a0 w q hm (by omega); rw [hg] at this; exact this
    · have := codec_GetNumber_3 a0 w q hm (by omega); rw [hg] at this; exact this
    · have := codec_GetNumber_4 a0 w q hm (by omega); rw [hg] at this; exact this
end Go.Proofs.Ytnkakhcombmdoaa.P
