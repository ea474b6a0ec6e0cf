/-
  sextonlaw03.CrcBit, by hand: it answers true for every input.
-/
import Derived.LoopTactic
import Derived.OwnWalk
import Derived.Test.YtnkakhcombmdoaaLcrcInj
import Derived.Test.YtnkakhcombmdoaaLcrcLaw
import Derived.Test.YtnkakhcombmdoaaFsextonlaw03summed
namespace Go.Proofs.Ytnkakhcombmdoaa.P
open Go.RowKit Go.Shelf Go.Proofs.CodecPlain Go.Proofs.YtnkakhcombmdoaaW.PrintWords Go.Proofs.YtnkakhcombmdoaaW.PrintLast Go.Proofs.YtnkakhcombmdoaaW.PrintMore Go.Proofs.Ytnkakhcombmdoaa.C Go.Proofs.Ytnkakhcombmdoaa.B

/-- What the statement answers. -/
def sextonlaw03_CrcBit.f (_a0 : ByteArray) (_a1 _a2 : Int) : Option Bool := some true

def pw : Nat → Int
  | 0 => 1
  | n + 1 => 2 * pw n
theorem pw_bd : ∀ n, n < 8 → 1 ≤ pw n ∧ pw n ≤ 128 := by decide
theorem bit_all : ∀ n : Fin 8, ∀ c : Fin 256, if (c.val : Int) / pw n.val % 2 = 1 then pw n.val ≤ (c.val : Int) else (c.val : Int) + pw n.val ≤ 255 := by decide +kernel
theorem bit_one (n c : Nat) (hn : n < 8) (hc : c < 256) : if (c : Int) / pw n % 2 = 1 then pw n ≤ (c : Int) else (c : Int) + pw n ≤ 255 := bit_all ⟨n, hn⟩ ⟨c, hc⟩

/-- A block that is marked behind its end (a conversion's): its cells, and a store. -/
theorem mk_cell {w : World} {g m : Nat} {t : TypeId} {cs : Array Value} {fr : Nat × Nat} (h : w.heap[g]? = some (.cells cs t fr)) (i : Nat) : w.cell? ⟨g, i, none⟩ = cs[i]? := cell_of_row w g i cs t fr h
theorem bytes_set (W : World) (s : ByteArray) (i : Nat) (hi : i < s.size) (hs : s.size ≤ 9223372036854775807) (v : Int) :
    ReadsInt ((Lib.bytesWorld W 5 s).setCell ⟨W.heap.size, i, none⟩ (.int .u8 v)) .u8 (some ⟨W.heap.size, 0, none⟩) s.size ((bytesOf s).set i v) := by
  have hr := bytes_reads W 5 s hs
  refine ⟨by rw [List.length_set]; exact hr.1, hs, fun hp => ⟨_, rfl, fun j hj => ?_⟩⟩
  obtain ⟨ad, he, hc⟩ := hr.2.2 hp
  injection he with he
  subst he
  have hcj := hc j hj
  rw [add_plain] at hcj ⊢
  have hlt : W.heap.size < (Lib.bytesWorld W 5 s).heap.size := by rw [Lib.bytesWorld_size]; omega
  by_cases e : i = j
  · subst e
    have hl : i < (bytesOf s).length := by rw [bytesOf_length]; exact hi
    rw [show ((bytesOf s).set i v).getD i 0 = v by simp [List.getD_eq_getElem?_getD, hl]]
    exact World.cell?_setCell_same _ _ _ hcj
  · rw [show ((bytesOf s).set i v).getD j 0 = (bytesOf s).getD j 0 by simp [List.getD_eq_getElem?_getD, e]]
    rw [← hcj]
    exact World.cell?_setCell_other _ _ _ _ (by intro h; injection h with _ h2 _; exact e h2)

theorem below_set {B : Nat} {w W : World} (h : Below B w W) {p : Addr} (hp : B ≤ p.block) (v : Value) : Below B w (W.setCell p v) := h.setCell hp v
theorem strOfNums_bytesOf (s : ByteArray) : strOfNums (bytesOf s) = s := by
  apply ba_ext
  rw [strOfNums_list, bytesOf, List.map_map]
  have : (u8 ∘ fun b : UInt8 => (b.toNat : Int)) = id := by
    funext b
    simp [u8]
  rw [this, List.map_id]
theorem mod_list (s : ByteArray) (i : Nat) (v : Int) : (strOfNums ((bytesOf s).set i v)).data.toList = s.data.toList.set i (u8 v) := by
  rw [strOfNums_list, List.map_set, ← strOfNums_list, strOfNums_bytesOf]
theorem set_parts {α : Type} (l : List α) (i : Nat) (h : i < l.length) (v : α) : l.set i v = l.take i ++ v :: l.drop (i + 1) ∧ l = l.take i ++ l[i] :: l.drop (i + 1) := by
  refine ⟨?_, ?_⟩
  · rw [List.set_eq_take_append_cons_drop, if_pos h]
  · rw [List.getElem_cons_drop, List.take_append_drop]
theorem u8_ne (c : UInt8) (v : Int) (h0 : 0 ≤ v) (h1 : v ≤ 255) (h : v ≠ (c.toNat : Int)) : u8 v ≠ c := by
  intro e
  apply h
  rw [← e]
  have hv : v.toNat < 256 := by omega
  simp [u8]
  omega
/-- The changed text's sum is another one; so it is with one byte behind. -/
theorem bit_sums (s : ByteArray) (i : Nat) (hi : i < s.size) (v : Int) (h0 : 0 ≤ v) (h1 : v ≤ 255) (h : v ≠ bt s (i : Int)) :
    sumV (strOfNums ((bytesOf s).set i v)) ≠ sumV s ∧ sumV (strOfNums ((bytesOf s).set i v) ++ ⟨#[120]⟩) ≠ sumV (s ++ ⟨#[120]⟩) := by
  have hl : i < s.data.toList.length := by rw [data_length]; exact hi
  obtain ⟨e1, e2⟩ := set_parts s.data.toList i hl (u8 v)
  have hb : bt s (i : Int) = ((s.data.toList[i]).toNat : Int) := by
    unfold bt
    rw [dif_pos (by simpa using hi)]
    simp
    rfl
  have hne : u8 v ≠ s.data.toList[i] := u8_ne _ v h0 h1 (by rw [← hb]; exact h)
  refine ⟨sumV_ne _ _ _ _ hne (by rw [mod_list]; exact e1) e2, ?_⟩
  refine sumV_ne (s.data.toList.take i) (s.data.toList.drop (i + 1) ++ [120]) _ _ hne ?_ ?_
  · rw [app_list, mod_list, e1]; simp
  · rw [app_list]; conv => lhs; rw [e2]
    simp

set_option maxHeartbeats 4000000 in
theorem crcbit_out (s : ByteArray) (at_ bit : Int) (w : World) (h : 400 < s.size ∨ at_ < 0 ∨ (s.size : Int) ≤ at_ ∨ bit < 0 ∨ 7 < bit) :
    Calls Try.prog 5 #[.string s, .int .i64 at_, .int .i64 bit] w fun e w' => e = .returned (.bool true) ∧ Below w.heap.size w w' := by
  obtain ⟨K, hK⟩ := summed_ev
  have HS := Aside0.mk (sextonlaw03_summed.calls K true w (hK K (Nat.le_refl _)))
  clear hK
  have hd : As (decide (400 < (s.size : Int)) = true ∨ decide (400 < (s.size : Int)) = false ∧ (decide (at_ < 0) = true ∨ decide (at_ < 0) = false ∧ (decide ((s.size : Int) ≤ at_) = true ∨ decide ((s.size : Int) ≤ at_) = false ∧ (decide (bit < 0) = true ∨ decide (bit < 0) = false ∧ decide (7 < bit) = true)))) := ⟨by
    simp only [decide_eq_true_eq, decide_eq_false_iff_not]; omega⟩
  clear h
  rcases hd.out with h | ⟨h0, h | ⟨h1, h | ⟨h2, h | ⟨h3, h⟩⟩⟩⟩ <;> clear hd
  all_goals
    go_enter Try.func5, Try.ntmps5
    go_wp2_with (go_at_call 23; refine HS.out.mono ?_; rintro e w3 ⟨rfl, hb3⟩; have HB3 := Aside0.mk hb3; clear hb3)
    go_ret
    exact ⟨rfl, HB3.out⟩

theorem qtest (c : Nat) (x : Int) (hc : c < 256) (hx : 1 ≤ x) : (wrap64 ((c : Int) / x)).tmod 2 = (c : Int) / x % 2 := by
  have h0 : 0 ≤ (c : Int) / x := Int.ediv_nonneg (by omega) (by omega)
  have h1 : (c : Int) / x ≤ c := Int.ediv_le_self x (by omega)
  rw [show wrap64 ((c : Int) / x) = (c : Int) / x by unfold wrap64; omega, Int.tmod_eq_emod_of_nonneg h0]
theorem bytes_free (W : World) (s : ByteArray) (i : Nat) (hi : i < s.size) : (Lib.bytesWorld W 5 s).frozen? ⟨W.heap.size, i, none⟩ = false := by
  have h := Lib.bytesWorld_at_new W 5 s
  have hl : i < (Lib.bytesCells W 5 s).size := by
    unfold Lib.bytesCells
    rw [Array.size_append, Array.size_map]
    have : s.data.size = s.size := rfl
    omega
  unfold World.frozen?
  simp only [h]
  simp
  omega
set_option maxHeartbeats 8000000 in
set_option maxRecDepth 100000 in
theorem crcbit_in (s : ByteArray) (i n : Nat) (w : World) (hs : s.size ≤ 400) (hi : i < s.size) (hn : n < 8) :
    Calls Try.prog 5 #[.string s, .int .i64 (i : Int), .int .i64 (n : Int)] w fun e w' => e = .returned (.bool true) ∧ Below w.heap.size w w' := by
  obtain ⟨K, hK⟩ := summed_ev
  have HS := Aside0.mk (fun W => sextonlaw03_summed.calls K true W (hK K (Nat.le_refl _)))
  clear hK
  have kb := print_bytes (P := Try.prog) 9 34 5 Try.underlying9 Try.underlying34 Try.underlying5 s w
  obtain ⟨c0, hc0, hc1, hcell⟩ : ∃ c : Nat, bt s (i : Int) = c ∧ c < 256 ∧ (Lib.bytesWorld w 5 s).cell? ⟨w.heap.size, i, none⟩ = some (.int .u8 (c : Int)) := by
    have hr := bt_range s (i : Int)
    refine ⟨(bt s (i : Int)).toNat, by omega, by omega, ?_⟩
    obtain ⟨ad, he, hc⟩ := (bytes_reads w 5 s (by omega)).2.2 (by omega)
    injection he with he
    subst he
    have := hc i hi
    rw [add_plain] at this
    rw [this, show ((bt s (i : Int)).toNat : Int) = bt s (i : Int) by omega, ← rd_bytesOf]
    rfl
  have hfree := bytes_free w s i hi
  have hone := Aside0.mk (bit_one n c0 hn hc1)
  have HSM := Aside0.mk (bit_sums s i hi)
  have HB := Aside0.mk (bytes_below (Below.refl w.heap.size w) (Nat.le_refl _) 5 s)
  have HC0 := Aside0.mk hc0
  have d0 : decide (400 < (s.size : Int)) = false := decide_eq_false (by omega)
  have d1 : decide ((s.size : Int) ≤ (i : Int)) = false := decide_eq_false (by omega)
  have d2 : decide (7 < (n : Int)) = false := decide_eq_false (by omega)
  have HRV := Aside0.mk (fun v => bytes_set w s i hi (by omega) v)
  generalize grownCap w s.size 0 5 = cap at kb
  clear hc0
  go_enter Try.func5, Try.ntmps5
  go_wp2
  go_loop [8, 9] (fun x k => ∃ m : Nat, m ≤ n ∧ k = .int .i64 m ∧ x = .int .i64 (pw m)) (fun _ k => n - (intOf k).toNat)
  case atStart => exact ⟨0, Nat.zero_le _, rfl, rfl⟩
  case round =>
    obtain ⟨m, hm, rfl, rfl⟩ := hrel
    by_cases hlt : m < n
    · have hp := pw_bd m (by omega)
      have hq := Aside0.mk (show pw (m + 1) = 2 * pw m from rfl)
      generalize pw m = x at *
      go_wp2
      go_round
      case rel => exact ⟨m + 1, by omega, by go_num, by rw [hq.out]⟩
      case measure => simp [intOf]; omega
    · obtain rfl : m = n := by omega
      have hp := pw_bd m hn
      generalize pw m = x at *
      have hqt := qtest c0 x hc1 hp.1
      by_cases ht : (c0 : Int) / x % 2 = 1
      · have hx := hone.out
        rw [if_pos ht] at hx
        clear hone
        have ht2 : ((wrap64 ((c0 : Int) / x)).tmod 2 == 1) = true := by rw [hqt]; simpa using ht
        clear ht hqt
        have hne := Aside0.mk (HSM.out ((c0 : Int) - x) (by omega) (by omega) (by rw [HC0.out]; omega))
        have HR := Aside0.mk (HRV.out ((c0 : Int) - x))
        have HB2 := Aside0.mk (HB.out.setCell (p := ⟨w.heap.size, i, none⟩) (Nat.le_refl _) (.int .u8 ((c0 : Int) - x)))
        have hsz : (strOfNums ((bytesOf s).set i ((c0 : Int) - x))).size = s.size := by rw [strOfNums_size, List.length_set, bytesOf_length]
        obtain ⟨t, ht⟩ : ∃ t, t = strOfNums ((bytesOf s).set i ((c0 : Int) - x)) := ⟨_, rfl⟩
        have HCV := Aside0.mk (fun W (hb : Below ((Lib.bytesWorld w 5 s).setCell ⟨w.heap.size, i, none⟩ (.int .u8 ((c0 : Int) - x))).heap.size ((Lib.bytesWorld w 5 s).setCell ⟨w.heap.size, i, none⟩ (.int .u8 ((c0 : Int) - x))) W) => string_of_reads (P := Try.prog) (n := s.size) (c := cap) Try.underlying34 Try.underlying5 Try.underlying9 (HR.out.below hb))
        rw [← ht] at hne HCV hsz
        have e1 : (sumV t != sumV s) = true := by rw [bne_iff_ne]; exact hne.out.1
        have e2 : (sumV (t ++ ⟨#[120]⟩) != sumV (s ++ ⟨#[120]⟩)) = true := by rw [bne_iff_ne]; exact hne.out.2
        have HX1 := Aside0.mk (show ∀ W, Calls Try.prog 24 #[.string s] W fun e w' => e = .returned (.int .i64 (sumV s)) ∧ Below W.heap.size W w' from fun W => crc_Sum_yes s (by omega) W)
        have HX2 := Aside0.mk (show ∀ W, Calls Try.prog 24 #[.string t] W fun e w' => e = .returned (.int .i64 (sumV t)) ∧ Below W.heap.size W w' from fun W => crc_Sum_yes t (by omega) W)
        have HX3 := Aside0.mk (show ∀ W, Calls Try.prog 24 #[.string (s ++ ⟨#[120]⟩)] W fun e w' => e = .returned (.int .i64 (sumV (s ++ ⟨#[120]⟩))) ∧ Below W.heap.size W w' from fun W => crc_Sum_yes _ (by rw [CodecPlain.size_append]; have : (⟨#[120]⟩ : ByteArray).size = 1 := rfl; omega) W)
        have HX4 := Aside0.mk (show ∀ W, Calls Try.prog 24 #[.string (t ++ ⟨#[120]⟩)] W fun e w' => e = .returned (.int .i64 (sumV (t ++ ⟨#[120]⟩))) ∧ Below W.heap.size W w' from fun W => crc_Sum_yes _ (by rw [CodecPlain.size_append]; have : (⟨#[120]⟩ : ByteArray).size = 1 := rfl; omega) W)
        clear ht hne HR HRV HSM HC0
        generalize sumV (s ++ ⟨#[120]⟩) = n3 at *
        generalize sumV (t ++ ⟨#[120]⟩) = n4 at *
        generalize sumV s = n1 at *
        generalize sumV t = n2 at *
        go_wp2_with fail
        go_wp2_with (first | (go_at_call 23; refine (HS.out _).mono ?_; rintro e w3 ⟨rfl, hb3⟩; have kc := HCV.out w3 hb3; have HB3 := Aside0.mk hb3; clear hb3))
        go_wp2_with (first | (go_at_call 24; (with_reducible refine (HX2.out _).mono ?_); rintro e w4 ⟨rfl, hb4⟩; have HB4 := Aside0.mk (HB3.out.trans (hb4.mono HB3.out.size)); clear hb4 kc HB3))
        go_wp2_with (first | (go_at_call 24; (with_reducible refine (HX1.out _).mono ?_); rintro e w5 ⟨rfl, hb5⟩; have HB5 := Aside0.mk (HB4.out.trans (hb5.mono HB4.out.size)); clear hb5 HB4; have kc5 := HCV.out w5 HB5.out))
        go_wp2_with (first | (go_at_call 24; (with_reducible refine (HX4.out _).mono ?_); rintro e w6 ⟨rfl, hb6⟩; have HB6 := Aside0.mk (HB5.out.trans (hb6.mono HB5.out.size)); clear hb6 kc5 HB5))
        go_wp2_with (first | (go_at_call 24; (with_reducible refine (HX3.out _).mono ?_); rintro e w7 ⟨rfl, hb7⟩; have HB7 := Aside0.mk (HB6.out.trans (hb7.mono HB6.out.size)); clear hb7 HB6))
        go_ret
        exact ⟨rfl, HB2.out.trans (HB7.out.mono HB2.out.size)⟩
      · have hx := hone.out
        rw [if_neg ht] at hx
        clear hone
        have ht2 : ((wrap64 ((c0 : Int) / x)).tmod 2 == 1) = false := by rw [hqt]; simpa using ht
        clear ht hqt
        have hne := Aside0.mk (HSM.out ((c0 : Int) + x) (by omega) (by omega) (by rw [HC0.out]; omega))
        have HR := Aside0.mk (HRV.out ((c0 : Int) + x))
        have HB2 := Aside0.mk (HB.out.setCell (p := ⟨w.heap.size, i, none⟩) (Nat.le_refl _) (.int .u8 ((c0 : Int) + x)))
        have hsz : (strOfNums ((bytesOf s).set i ((c0 : Int) + x))).size = s.size := by rw [strOfNums_size, List.length_set, bytesOf_length]
        obtain ⟨t, ht⟩ : ∃ t, t = strOfNums ((bytesOf s).set i ((c0 : Int) + x)) := ⟨_, rfl⟩
        have HCV := Aside0.mk (fun W (hb : Below ((Lib.bytesWorld w 5 s).setCell ⟨w.heap.size, i, none⟩ (.int .u8 ((c0 : Int) + x))).heap.size ((Lib.bytesWorld w 5 s).setCell ⟨w.heap.size, i, none⟩ (.int .u8 ((c0 : Int) + x))) W) => string_of_reads (P := Try.prog) (n := s.size) (c := cap) Try.underlying34 Try.underlying5 Try.underlying9 (HR.out.below hb))
        rw [← ht] at hne HCV hsz
        have e1 : (sumV t != sumV s) = true := by rw [bne_iff_ne]; exact hne.out.1
        have e2 : (sumV (t ++ ⟨#[120]⟩) != sumV (s ++ ⟨#[120]⟩)) = true := by rw [bne_iff_ne]; exact hne.out.2
        have HX1 := Aside0.mk (show ∀ W, Calls Try.prog 24 #[.string s] W fun e w' => e = .returned (.int .i64 (sumV s)) ∧ Below W.heap.size W w' from fun W => crc_Sum_yes s (by omega) W)
        have HX2 := Aside0.mk (show ∀ W, Calls Try.prog 24 #[.string t] W fun e w' => e = .returned (.int .i64 (sumV t)) ∧ Below W.heap.size W w' from fun W => crc_Sum_yes t (by omega) W)
        have HX3 := Aside0.mk (show ∀ W, Calls Try.prog 24 #[.string (s ++ ⟨#[120]⟩)] W fun e w' => e = .returned (.int .i64 (sumV (s ++ ⟨#[120]⟩))) ∧ Below W.heap.size W w' from fun W => crc_Sum_yes _ (by rw [CodecPlain.size_append]; have : (⟨#[120]⟩ : ByteArray).size = 1 := rfl; omega) W)
        have HX4 := Aside0.mk (show ∀ W, Calls Try.prog 24 #[.string (t ++ ⟨#[120]⟩)] W fun e w' => e = .returned (.int .i64 (sumV (t ++ ⟨#[120]⟩))) ∧ Below W.heap.size W w' from fun W => crc_Sum_yes _ (by rw [CodecPlain.size_append]; have : (⟨#[120]⟩ : ByteArray).size = 1 := rfl; omega) W)
        clear ht hne HR HRV HSM HC0
        generalize sumV (s ++ ⟨#[120]⟩) = n3 at *
        generalize sumV (t ++ ⟨#[120]⟩) = n4 at *
        generalize sumV s = n1 at *
        generalize sumV t = n2 at *
        go_wp2_with fail
        go_wp2_with (first | (go_at_call 23; refine (HS.out _).mono ?_; rintro e w3 ⟨rfl, hb3⟩; have kc := HCV.out w3 hb3; have HB3 := Aside0.mk hb3; clear hb3))
        go_wp2_with (first | (go_at_call 24; (with_reducible refine (HX2.out _).mono ?_); rintro e w4 ⟨rfl, hb4⟩; have HB4 := Aside0.mk (HB3.out.trans (hb4.mono HB3.out.size)); clear hb4 kc HB3))
        go_wp2_with (first | (go_at_call 24; (with_reducible refine (HX1.out _).mono ?_); rintro e w5 ⟨rfl, hb5⟩; have HB5 := Aside0.mk (HB4.out.trans (hb5.mono HB4.out.size)); clear hb5 HB4; have kc5 := HCV.out w5 HB5.out))
        go_wp2_with (first | (go_at_call 24; (with_reducible refine (HX4.out _).mono ?_); rintro e w6 ⟨rfl, hb6⟩; have HB6 := Aside0.mk (HB5.out.trans (hb6.mono HB5.out.size)); clear hb6 kc5 HB5))
        go_wp2_with (first | (go_at_call 24; (with_reducible refine (HX3.out _).mono ?_); rintro e w7 ⟨rfl, hb7⟩; have HB7 := Aside0.mk (HB6.out.trans (hb7.mono HB6.out.size)); clear hb7 HB6))
        go_ret
        exact ⟨rfl, HB2.out.trans (HB7.out.mono HB2.out.size)⟩

theorem sextonlaw03_CrcBit.calls (a0 : ByteArray) (a1 a2 : Int) (r : Bool) (w : World) (h : sextonlaw03_CrcBit.f a0 a1 a2 = some r) :
    Calls Try.prog 5 #[.string a0, .int .i64 a1, .int .i64 a2] w fun e w' => e = .returned (.bool r) ∧ Below w.heap.size w w' := by
  obtain rfl : true = r := Option.some.inj h
  by_cases hc : 400 < a0.size ∨ a1 < 0 ∨ (a0.size : Int) ≤ a1 ∨ a2 < 0 ∨ 7 < a2
  · exact crcbit_out a0 a1 a2 w hc
  · obtain ⟨i, rfl⟩ : ∃ i : Nat, a1 = i := ⟨a1.toNat, by omega⟩
    obtain ⟨n, rfl⟩ : ∃ n : Nat, a2 = n := ⟨a2.toNat, by omega⟩
    exact crcbit_in a0 i n w (by omega) (by omega) (by omega)
end Go.Proofs.Ytnkakhcombmdoaa.P
