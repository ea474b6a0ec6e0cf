/-
  Texts that the claims of this chapter share, joined.
-/
import Derived.Test.YtoibofhmlokglaaPx0
import Derived.OwnWalk
import Derived.LoopTactic
import Derived.Test.YtoibofhmlokglaaC7db
import Derived.Test.YtoibofhmlokglaaC7da
set_option linter.unusedVariables false
set_option linter.unusedSimpArgs false
-- Written by a program of this session (xprint.py) over the kit's print.py.
namespace Go.Proofs.Ytoibofhmlokglaa.P
open Go.RowKit Go.Proofs.YtoibofhmlokglaaW.PrintWords Go.Proofs.YtoibofhmlokglaaW.PrintLast Go.Proofs.YtoibofhmlokglaaW.PrintMore
attribute [local go_sem] max2_int min2_int max_two min_two max_three min_three max_four min_four   -- for this text's walks alone
set_option linter.unusedVariables false
set_option linter.unusedSimpArgs false

/-! ### sextonref01_Texts: function 38 -/
def sextonref01_Texts.l0 : Nat → List ByteArray → List ByteArray → Int → Option (Bool)
  | 0, _, _, _ => none
  | k + 1, x0, x1, x5 => if x5 < (x0.length : Int) then (if 0 ≤ x5 then (if x5 < (x1.length : Int) then (if (rdOf ByteArray.empty x0 x5).toList = (rdOf ByteArray.empty x1 x5).toList then (sextonref01_Texts.l0 k x0 x1 (wrap64 (x5 + 1))) else (some false)) else (none)) else (none)) else (some true)
def sextonref01_Texts.f (k : Nat) (l0 : List ByteArray) (l1 : List ByteArray) : Option (Bool) := if (l0.length : Int) = (l1.length : Int) then (sextonref01_Texts.l0 k l0 l1 0) else (some false)
set_option maxHeartbeats 8000000 in
set_option maxRecDepth 100000 in
theorem sextonref01_Texts.calls (k : Nat) (A0 : Option Addr) (c0 : Nat) (l0 : List ByteArray) (A1 : Option Addr) (c1 : Nat) (l1 : List ByteArray) (r : Bool) (w : World) (hr0 : Kd.C Kd.string w A0 l0.length l0) (hc0 : l0.length ≤ c0) (hr1 : Kd.C Kd.string w A1 l1.length l1) (hc1 : l1.length ≤ c1) (h : sextonref01_Texts.f k l0 l1 = some r) :
    Calls Try.prog 38 #[.slice A0 l0.length c0, .slice A1 l1.length c1] w fun e w' => e = .returned (.bool r) ∧ Drawn0 w w' := by
  have HR0 := Aside0.mk hr0
  have HC0 := Aside0.mk hc0
  clear hr0 hc0
  have HR1 := Aside0.mk hr1
  have HC1 := Aside0.mk hc1
  clear hr1 hc1
  have H : (if (l0.length : Int) = (l1.length : Int) then (sextonref01_Texts.l0 k l0 l1 0) else (some false)) = some r := h
  clear h
  by_cases c3 : (l0.length : Int) = (l1.length : Int)
  · rw [if_pos c3] at H
    have c3b0 : ((l0.length : Int) == (l1.length : Int)) = true := beq_iff_eq.mpr c3
    have c3b1 : ((l0.length : Int) != (l1.length : Int)) = false := bne_eq_false_iff_eq.mpr c3
    have c3b2 : (l0.length == l1.length) = true := by first | simpa using c3 | (simp at c3 ⊢; omega)
    clear c3
    have H' := Aside0.mk H
    clear H
    go_enter Try.func38, Try.ntmps38
    go_wp2
    repeat (go_quiet (fail); try go_wp2)
    go_loopg [5] k (fun kq v5 w' => ∃ (x5_1 : Int), v5 = .int .i64 x5_1 ∧ Aside0 (sextonref01_Texts.l0 kq l0 l1 x5_1 = some r) ∧ Aside0 (kq ≤ k) ∧ Drawn0 w w')
    case atStart => exact ⟨(0), (by first | rfl | (simp; done) | (simp [*]; done)), H', ⟨Nat.le_refl _⟩, by repeat (first | exact Drawn0.refl _ | apply Drawn0.step)⟩
    case round =>
      clear H'
      try clear c1
      try clear p2
      try clear c3
      try clear c3b0
      try clear c3b1
      try clear c3b2
      obtain ⟨x5_1, rfl, HA, HK1, ⟨m1, rfl⟩⟩ := hrel
      cases gk with
      | zero => exact absurd HA.out (by simp [sextonref01_Texts.l0])
      | succ k1 =>
        have H := HA.out
        clear HA
        simp only [sextonref01_Texts.l0] at H
        by_cases c4 : x5_1 < (l0.length : Int)
        · rw [if_pos c4] at H
          have c4b0 : decide (x5_1 < (l0.length : Int)) = true := decide_eq_true c4
          clear c4
          by_cases c5 : 0 ≤ x5_1
          · rw [if_pos c5] at H
            have c5b0 : decide (0 ≤ x5_1) = true := decide_eq_true c5
            clear c5
            by_cases c6 : x5_1 < (l1.length : Int)
            · rw [if_pos c6] at H
              have c6b0 : decide (x5_1 < (l1.length : Int)) = true := decide_eq_true c6
              clear c6
              by_cases c7 : (rdOf ByteArray.empty l0 x5_1).toList = (rdOf ByteArray.empty l1 x5_1).toList
              · rw [if_pos c7] at H
                have c7b0 : ((rdOf ByteArray.empty l0 x5_1).toList == (rdOf ByteArray.empty l1 x5_1).toList) = true := beq_iff_eq.mpr c7
                have c7b1 : ((rdOf ByteArray.empty l0 x5_1).toList != (rdOf ByteArray.empty l1 x5_1).toList) = false := bne_eq_false_iff_eq.mpr c7
                clear c7
                have H' := Aside0.mk H
                clear H
                have p182 : 0 ≤ (x5_1 : Int) := of_decide_eq_true (by first | (with_reducible assumption) | assumption)
                have q182 : x5_1 < (l0.length : Int) := of_decide_eq_true (by first | (with_reducible assumption) | assumption)
                obtain ⟨ad182, e182, hx182_0⟩ := Kd.at_string HR0.out x5_1 p182 q182
                cases e182
                replace p182 := eq_true p182
                replace q182 := eq_true q182
                have p183 : 0 ≤ (x5_1 : Int) := of_decide_eq_true (by first | (with_reducible assumption) | assumption)
                have q183 : x5_1 < (l1.length : Int) := of_decide_eq_true (by first | (with_reducible assumption) | assumption)
                obtain ⟨ad183, e183, hx183_0⟩ := Kd.at_string HR1.out x5_1 p183 q183
                cases e183
                replace p183 := eq_true p183
                replace q183 := eq_true q183
                go_wp2
                repeat (go_quiet (fail); try go_wp2)
                go_roundg k1
                case measure => have := HK1.out; omega
                case rel => exact ⟨(wrap64 (x5_1 + 1)), (by first | rfl | (simp; done) | (simp [*]; done)), H', ⟨by have := HK1.out; omega⟩, by repeat (first | exact Drawn0.refl _ | apply Drawn0.step)⟩
              · rw [if_neg c7] at H
                have c7b0 : ((rdOf ByteArray.empty l0 x5_1).toList == (rdOf ByteArray.empty l1 x5_1).toList) = false := beq_eq_false_iff_ne.mpr c7
                have c7b1 : ((rdOf ByteArray.empty l0 x5_1).toList != (rdOf ByteArray.empty l1 x5_1).toList) = true := bne_iff_ne.mpr c7
                obtain rfl := Option.some.inj H
                have p182 : 0 ≤ (x5_1 : Int) := of_decide_eq_true (by first | (with_reducible assumption) | assumption)
                have q182 : x5_1 < (l0.length : Int) := of_decide_eq_true (by first | (with_reducible assumption) | assumption)
                obtain ⟨ad182, e182, hx182_0⟩ := Kd.at_string HR0.out x5_1 p182 q182
                cases e182
                replace p182 := eq_true p182
                replace q182 := eq_true q182
                have p183 : 0 ≤ (x5_1 : Int) := of_decide_eq_true (by first | (with_reducible assumption) | assumption)
                have q183 : x5_1 < (l1.length : Int) := of_decide_eq_true (by first | (with_reducible assumption) | assumption)
                obtain ⟨ad183, e183, hx183_0⟩ := Kd.at_string HR1.out x5_1 p183 q183
                cases e183
                replace p183 := eq_true p183
                replace q183 := eq_true q183
                go_wp2
                repeat (go_quiet (fail); try go_wp2)
                go_ret
                exact ⟨by first | rfl | (simp; done) | (simp [*]; done), by repeat (first | exact Drawn0.refl _ | apply Drawn0.step)⟩
            · rw [if_neg c6] at H
              exact absurd H (by simp)
          · rw [if_neg c5] at H
            exact absurd H (by simp)
        · rw [if_neg c4] at H
          have c4b0 : decide (x5_1 < (l0.length : Int)) = false := decide_eq_false c4
          clear c4
          obtain rfl := Option.some.inj H
          go_wp2
          repeat (go_quiet (fail); try go_wp2)
          go_ret
          exact ⟨by first | rfl | (simp; done) | (simp [*]; done), by repeat (first | exact Drawn0.refl _ | apply Drawn0.step)⟩
  · rw [if_neg c3] at H
    have c3b0 : ((l0.length : Int) == (l1.length : Int)) = false := beq_eq_false_iff_ne.mpr c3
    have c3b1 : ((l0.length : Int) != (l1.length : Int)) = true := bne_iff_ne.mpr c3
    have c3b2 : (l0.length == l1.length) = false := by first | simpa using c3 | (simp at c3 ⊢; omega)
    obtain rfl := Option.some.inj H
    go_enter Try.func38, Try.ntmps38
    go_wp2
    repeat (go_quiet (fail); try go_wp2)
    go_ret
    exact ⟨by first | rfl | (simp; done) | (simp [*]; done), by repeat (first | exact Drawn0.refl _ | apply Drawn0.step)⟩

end Go.Proofs.Ytoibofhmlokglaa.P
/-
  sextonlaw07.logged answers true, by hand.
-/
namespace Go.Proofs.Ytoibofhmlokglaa.P
open Go.RowKit Go.Proofs Go.Shelf Go.Proofs.YtoibofhmlokglaaW.PrintWords Go.Proofs.YtoibofhmlokglaaW.PrintLast Go.Proofs.YtoibofhmlokglaaW.PrintMore Go.Proofs.Plain

def blkD (v0 v1 : Value) : Array Value := #[v0, v1]
theorem blkD_one (v0 v1 : Value) (h0 : v0.oneCell' = true) (h1 : v1.oneCell' = true) : ∀ x ∈ (blkD v0 v1).toList, x.oneCell' = true := by
  intro x hx
  simp only [blkD, List.mem_cons, List.not_mem_nil, or_false] at hx
  rcases hx with rfl | rfl
  · exact h0
  · exact h1
theorem store_disk {W : World} {g : Nat} {cur : Array Value} (hh : W.heap[g]? = some (.cells cur 25 (0, 0))) (hs : cur.size = 2) (v0 v1 : Value) (h0 : v0.oneCell' = true) (h1 : v1.oneCell' = true) :
    (Instr.storeAt 25 (.pointer (some ⟨g, 0, none⟩)) (.agg (blkD v0 v1))).run Try.prog W = .ok () (W.setCells g 0 (blkD v0 v1).toList) ∧
    (W.setCells g 0 (blkD v0 v1).toList).heap[g]? = some (.cells (blkD v0 v1) 25 (0, 0)) := by
  have hl : (blkD v0 v1).toList.length = 2 := rfl
  refine ⟨run_store_run (P := Try.prog) (o := 0) 25 _ _ hh rfl (by rw [hl]; kernel_rfl) (by omega) (blkD_one v0 v1 h0 h1), ?_⟩
  obtain ⟨cur', h1, h2, h3⟩ := setCells_row (blkD v0 v1).toList 0 W cur hh (by omega)
  rw [h1]
  have : cur' = blkD v0 v1 := by
    apply Array.toList_inj.1
    rw [h3, List.take_zero, List.nil_append, hl, List.drop_of_length_le (by rw [Array.length_toList]; omega), List.append_nil]
  rw [this]
theorem belowD_cells {B g : Nat} {w W : World} (h : Below B w W) (hg : B ≤ g) (vs : List Value) : Below B w (W.setCells g 0 vs) := by
  have hs := setCells_same g vs 0 W
  exact h.trans ⟨hs.1, hs.2.1, hs.2.2.1, Nat.le_of_eq hs.2.2.2.symm, fun k hk => setCells_far _ _ k (by omega)⟩

theorem lit_S (xs : List ByteArray) (W : World) (e : TypeId) {g : Nat} (hg : g = W.heap.size) (hm : xs.length ≤ 9223372036854775807) : Kd.C Kd.string (W.alloc (.cells (xs.map Value.string).toArray e)) (some ⟨g, 0, none⟩) xs.length xs := by
  subst hg
  have ho := World.ownsRow_lit (base := 0) (e := e) (size := 1) W (xs.map Value.string).toArray xs.length (Nat.zero_le _) (by simpa [maxLen] using hm) (by simp)
  simp only [List.toList_toArray] at ho
  exact (Kd.R_reads' (Kd.R_of_own (ok := fun _ => True) ho (fun _ _ => trivial))).2.2
theorem lit_B (xs : List Bool) (W : World) (e : TypeId) {g : Nat} (hg : g = W.heap.size) (hm : xs.length ≤ 9223372036854775807) : Kd.C Kd.bool (W.alloc (.cells (xs.map Value.bool).toArray e)) (some ⟨g, 0, none⟩) xs.length xs := by
  subst hg
  have ho := World.ownsRow_lit (base := 0) (e := e) (size := 1) W (xs.map Value.bool).toArray xs.length (Nat.zero_le _) (by simpa [maxLen] using hm) (by simp)
  simp only [List.toList_toArray] at ho
  exact (Kd.R_reads' (Kd.R_of_own (ok := fun _ => True) ho (fun _ _ => trivial))).2.2
/-- What is told of the calls. -/
structure LogOk (b0 : List ByteArray) (u0 : List S40) (b1 : List ByteArray) (u1 : List S40) (b2 : List ByteArray) (u2 : List S40) (b5 : List ByteArray) (u5 : List S40) : Prop where
  n : disk_New.f 5 = some (b0, u0, 0)
  a1 : wal_Append.f b0 u0 2 1 ⟨#[97]⟩ = some (b1, u1, 0)
  a2 : wal_Append.f b1 u1 2 1 ⟨#[98]⟩ = some (b2, u2, 0)
  o3 : wal_Open.f b2 u2 2 1 = some ([⟨#[97]⟩, ⟨#[98]⟩], 0)
  o4 : wal_Open.f b2 u2 2 2 = some ([], 0)
  c5 : disk_Crash.f b2 u2 [false, true] = some (b5, u5, 0)
  o6 : wal_Open.f b5 u5 2 1 = some ([], 0)
  r7 : wal_Room.f b2 u2 2 1 = some (1, 0)
  o8 : wal_Open.f b2 u2 5 1 = some ([], 40)
theorem log_t : sextonref01_Texts.f 9 [⟨#[97]⟩, ⟨#[98]⟩] [⟨#[97]⟩, ⟨#[98]⟩] = some true := by decide +kernel
set_option maxHeartbeats 16000000 in
set_option maxRecDepth 100000 in
theorem logged_in (b0 : List ByteArray) (u0 : List S40) (b1 : List ByteArray) (u1 : List S40) (b2 : List ByteArray) (u2 : List S40) (b5 : List ByteArray) (u5 : List S40) (w : World) (hok : LogOk b0 u0 b1 u1 b2 u2 b5 u5) :
    Calls Try.prog 37 #[] w fun e w' => e = .returned (.bool true) ∧ Below w.heap.size w w' := by
  have OK := Aside0.mk hok
  have HB0 := Aside0.mk (Below.refl w.heap.size w)
  clear hok
  go_enter Try.func37, Try.ntmps37
  go_wp2_with (first | (go_at_call 21; (with_reducible refine (disk_New.calls 5 b0 u0 0 _ OK.out.n).mono ?_); rintro e w1 ⟨v0, v1, rfl, h0, h1, hb⟩; obtain ⟨Aa, ca, rfl⟩ := Kd.R_slice h0; obtain ⟨Ba, da, rfl⟩ := Kd.R_slice h1; have Z1 := Aside0.mk hb.size; have HB1 := Aside0.mk (HB0.out.trans (hb.mono HB0.out.size)); have Ra0_1 := Aside0.mk (Kd.R_reads' h0).2.2; have La0 := Aside0.mk (Kd.R_reads' h0).2.1; have Ra1_1 := Aside0.mk (Kd.R_reads' h1).2.2; have La1 := Aside0.mk (Kd.R_reads' h1).2.1; clear h0 h1; clear hb) | ((with_reducible refine gate_store (t := 25) (p := 1) rfl ?_); refine store_event (t := 25) (p := 1) (w1 := (w1.alloc (.cells #[.slice none 0 0, .slice none 0 0] 25)).setCells w1.heap.size 0 (blkD (.slice Aa b0.length ca) (.slice Ba u0.length da)).toList) rfl rfl rfl ?hr ?_; (case hr => (unfold execOp; simp only [Act.eval, Sem.run_bind, Sem.run_pure, Result.andThen_ok]; show ((Sem.run Try.prog (Instr.storeAt 25 (.pointer (some ⟨w1.heap.size, 0, none⟩)) (.agg (blkD (.slice Aa b0.length ca) (.slice Ba u0.length da)))) (w1.alloc (.cells #[.slice none 0 0, .slice none 0 0] 25))).andThen _) = _; rw [(store_disk (blk_new w1 (.cells #[.slice none 0 0, .slice none 0 0] 25)) rfl (.slice Aa b0.length ca) (.slice Ba u0.length da) rfl rfl).1]; try rfl)); intro w2 hw_; have HS := Aside0.mk (show Below w1.heap.size w1 w2 by rw [hw_]; exact belowD_cells ((Below.refl _ _).alloc (Nat.le_refl _) _) (Nat.le_refl _) _); have Z2 := Aside0.mk HS.out.size; have HB2 := Aside0.mk (HB1.out.trans (HS.out.mono HB1.out.size)); have Ra0_2 := Aside0.mk (Kd.C_below Ra0_1.out HS.out); have Ra1_2 := Aside0.mk (Kd.C_below Ra1_1.out HS.out); have Ha2 := Aside0.mk (hw_ ▸ (store_disk (blk_new w1 (.cells #[.slice none 0 0, .slice none 0 0] 25)) rfl (.slice Aa b0.length ca) (.slice Ba u0.length da) rfl rfl).2 : w2.heap[w1.heap.size]? = some (.cells (blkD (.slice Aa b0.length ca) (.slice Ba u0.length da)) 25 (0, 0))); clear hw_ HS; have qa2_0 := blk_cell Ha2.out 0; have qa2_1 := blk_cell Ha2.out 1; simp only [blkD, List.getElem?_toArray, List.getElem?_cons_zero, List.getElem?_cons_succ] at qa2_0 qa2_1))
  go_wp2_with (first | (go_at_call 31; (with_reducible refine (wal_Append.calls Aa ca b0 Ba da u0 2 1 ⟨#[97]⟩ b1 u1 0 _ Ra0_2.out La0.out Ra1_2.out La1.out OK.out.a1).mono ?_); rintro e w3 ⟨v0, v1, rfl, h0, h1, hb⟩; obtain ⟨Ab, cb, rfl⟩ := Kd.R_slice h0; obtain ⟨Bb, db, rfl⟩ := Kd.R_slice h1; have Z3 := Aside0.mk hb.size; have HB3 := Aside0.mk (HB2.out.trans (hb.mono HB2.out.size)); have Ha3 := Aside0.mk (blk_below Ha2.out hb); have Ra0_3 := Aside0.mk (Kd.C_below Ra0_2.out hb); have Ra1_3 := Aside0.mk (Kd.C_below Ra1_2.out hb); have Rb0_3 := Aside0.mk (Kd.R_reads' h0).2.2; have Lb0 := Aside0.mk (Kd.R_reads' h0).2.1; have Rb1_3 := Aside0.mk (Kd.R_reads' h1).2.2; have Lb1 := Aside0.mk (Kd.R_reads' h1).2.1; clear h0 h1; clear hb) | ((with_reducible refine gate_store (t := 25) (p := 3) rfl ?_); refine store_event (t := 25) (p := 3) (w1 := (w3.alloc (.cells #[.slice none 0 0, .slice none 0 0] 25)).setCells w3.heap.size 0 (blkD (.slice Ab b1.length cb) (.slice Bb u1.length db)).toList) rfl rfl rfl ?hr ?_; (case hr => (unfold execOp; simp only [Act.eval, Sem.run_bind, Sem.run_pure, Result.andThen_ok]; show ((Sem.run Try.prog (Instr.storeAt 25 (.pointer (some ⟨w3.heap.size, 0, none⟩)) (.agg (blkD (.slice Ab b1.length cb) (.slice Bb u1.length db)))) (w3.alloc (.cells #[.slice none 0 0, .slice none 0 0] 25))).andThen _) = _; rw [(store_disk (blk_new w3 (.cells #[.slice none 0 0, .slice none 0 0] 25)) rfl (.slice Ab b1.length cb) (.slice Bb u1.length db) rfl rfl).1]; try rfl)); intro w4 hw_; have HS := Aside0.mk (show Below w3.heap.size w3 w4 by rw [hw_]; exact belowD_cells ((Below.refl _ _).alloc (Nat.le_refl _) _) (Nat.le_refl _) _); have Z4 := Aside0.mk HS.out.size; have HB4 := Aside0.mk (HB3.out.trans (HS.out.mono HB3.out.size)); have Ha4 := Aside0.mk (blk_below Ha3.out HS.out); have Ra0_4 := Aside0.mk (Kd.C_below Ra0_3.out HS.out); have Ra1_4 := Aside0.mk (Kd.C_below Ra1_3.out HS.out); have Rb0_4 := Aside0.mk (Kd.C_below Rb0_3.out HS.out); have Rb1_4 := Aside0.mk (Kd.C_below Rb1_3.out HS.out); have Hb4 := Aside0.mk (hw_ ▸ (store_disk (blk_new w3 (.cells #[.slice none 0 0, .slice none 0 0] 25)) rfl (.slice Ab b1.length cb) (.slice Bb u1.length db) rfl rfl).2 : w4.heap[w3.heap.size]? = some (.cells (blkD (.slice Ab b1.length cb) (.slice Bb u1.length db)) 25 (0, 0))); clear hw_ HS; have qb4_0 := blk_cell Hb4.out 0; have qb4_1 := blk_cell Hb4.out 1; simp only [blkD, List.getElem?_toArray, List.getElem?_cons_zero, List.getElem?_cons_succ] at qb4_0 qb4_1))
  go_wp2_with (first | (go_at_call 31; (with_reducible refine (wal_Append.calls Ab cb b1 Bb db u1 2 1 ⟨#[98]⟩ b2 u2 0 _ Rb0_4.out Lb0.out Rb1_4.out Lb1.out OK.out.a2).mono ?_); rintro e w5 ⟨v0, v1, rfl, h0, h1, hb⟩; obtain ⟨Ac, cc, rfl⟩ := Kd.R_slice h0; obtain ⟨Bc, dc, rfl⟩ := Kd.R_slice h1; have Z5 := Aside0.mk hb.size; have HB5 := Aside0.mk (HB4.out.trans (hb.mono HB4.out.size)); have Hb5 := Aside0.mk (blk_below Hb4.out hb); have Rb0_5 := Aside0.mk (Kd.C_below Rb0_4.out hb); have Rb1_5 := Aside0.mk (Kd.C_below Rb1_4.out hb); have Rc0_5 := Aside0.mk (Kd.R_reads' h0).2.2; have Lc0 := Aside0.mk (Kd.R_reads' h0).2.1; have Rc1_5 := Aside0.mk (Kd.R_reads' h1).2.2; have Lc1 := Aside0.mk (Kd.R_reads' h1).2.1; clear h0 h1; clear hb) | ((with_reducible refine gate_store (t := 25) (p := 5) rfl ?_); refine store_event (t := 25) (p := 5) (w1 := (w5.alloc (.cells #[.slice none 0 0, .slice none 0 0] 25)).setCells w5.heap.size 0 (blkD (.slice Ac b2.length cc) (.slice Bc u2.length dc)).toList) rfl rfl rfl ?hr ?_; (case hr => (unfold execOp; simp only [Act.eval, Sem.run_bind, Sem.run_pure, Result.andThen_ok]; show ((Sem.run Try.prog (Instr.storeAt 25 (.pointer (some ⟨w5.heap.size, 0, none⟩)) (.agg (blkD (.slice Ac b2.length cc) (.slice Bc u2.length dc)))) (w5.alloc (.cells #[.slice none 0 0, .slice none 0 0] 25))).andThen _) = _; rw [(store_disk (blk_new w5 (.cells #[.slice none 0 0, .slice none 0 0] 25)) rfl (.slice Ac b2.length cc) (.slice Bc u2.length dc) rfl rfl).1]; try rfl)); intro w6 hw_; have HS := Aside0.mk (show Below w5.heap.size w5 w6 by rw [hw_]; exact belowD_cells ((Below.refl _ _).alloc (Nat.le_refl _) _) (Nat.le_refl _) _); have Z6 := Aside0.mk HS.out.size; have HB6 := Aside0.mk (HB5.out.trans (HS.out.mono HB5.out.size)); have Hb6 := Aside0.mk (blk_below Hb5.out HS.out); have Rb0_6 := Aside0.mk (Kd.C_below Rb0_5.out HS.out); have Rb1_6 := Aside0.mk (Kd.C_below Rb1_5.out HS.out); have Rc0_6 := Aside0.mk (Kd.C_below Rc0_5.out HS.out); have Rc1_6 := Aside0.mk (Kd.C_below Rc1_5.out HS.out); have Hc6 := Aside0.mk (hw_ ▸ (store_disk (blk_new w5 (.cells #[.slice none 0 0, .slice none 0 0] 25)) rfl (.slice Ac b2.length cc) (.slice Bc u2.length dc) rfl rfl).2 : w6.heap[w5.heap.size]? = some (.cells (blkD (.slice Ac b2.length cc) (.slice Bc u2.length dc)) 25 (0, 0))); clear hw_ HS; have qc6_0 := blk_cell Hc6.out 0; have qc6_1 := blk_cell Hc6.out 1; simp only [blkD, List.getElem?_toArray, List.getElem?_cons_zero, List.getElem?_cons_succ] at qc6_0 qc6_1))
  go_wp2_with (first | (go_at_call 29; (with_reducible refine (wal_Open.calls Ac cc b2 Bc dc u2 2 1 [⟨#[97]⟩, ⟨#[98]⟩] 0 _ Rc0_6.out Lc0.out Rc1_6.out Lc1.out OK.out.o3).mono ?_); rintro e w7 ⟨v0, rfl, h0, hb⟩; obtain ⟨Ax, cx, rfl⟩ := Kd.R_slice h0; have Z7 := Aside0.mk hb.size; have HB7 := Aside0.mk (HB6.out.trans (hb.mono HB6.out.size)); have Hc7 := Aside0.mk (blk_below Hc6.out hb); have Rc0_7 := Aside0.mk (Kd.C_below Rc0_6.out hb); have Rc1_7 := Aside0.mk (Kd.C_below Rc1_6.out hb); have Rx_7 := Aside0.mk (Kd.R_reads' h0).2.2; have Lx := Aside0.mk (Kd.R_reads' h0).2.1; clear h0; have qc7_0 := blk_cell Hc7.out 0; have qc7_1 := blk_cell Hc7.out 1; simp only [blkD, List.getElem?_toArray, List.getElem?_cons_zero, List.getElem?_cons_succ] at qc7_0 qc7_1; clear hb))
  go_wp2_with (first | (go_at_call 29; (with_reducible refine (wal_Open.calls Ac cc b2 Bc dc u2 2 2 [] 0 _ Rc0_7.out Lc0.out Rc1_7.out Lc1.out OK.out.o4).mono ?_); rintro e w8 ⟨v0, rfl, h0, hb⟩; obtain ⟨Ay, cy, rfl⟩ := Kd.R_slice h0; have Z8 := Aside0.mk hb.size; have HB8 := Aside0.mk (HB7.out.trans (hb.mono HB7.out.size)); have Hc8 := Aside0.mk (blk_below Hc7.out hb); have Rc0_8 := Aside0.mk (Kd.C_below Rc0_7.out hb); have Rc1_8 := Aside0.mk (Kd.C_below Rc1_7.out hb); have Rx_8 := Aside0.mk (Kd.C_below Rx_7.out hb); have Ry_8 := Aside0.mk (Kd.R_reads' h0).2.2; have Ly := Aside0.mk (Kd.R_reads' h0).2.1; clear h0; have qc8_0 := blk_cell Hc8.out 0; have qc8_1 := blk_cell Hc8.out 1; simp only [blkD, List.getElem?_toArray, List.getElem?_cons_zero, List.getElem?_cons_succ] at qc8_0 qc8_1; clear hb))
  go_wp2_with (first | (go_at_call 19; have hA := (Below.refl w8.heap.size w8).alloc (Nat.le_refl _) (.cells #[.bool false, .bool true] 4); (refine (disk_Crash.calls Ac cc b2 Bc dc u2 (some ⟨w8.heap.size, 0, none⟩) 2 [false, true] b5 u5 0 _ (Kd.C_below Rc0_8.out hA) Lc0.out (Kd.C_below Rc1_8.out hA) Lc1.out (lit_B [false, true] w8 4 rfl (by decide)) (Nat.le_refl _) OK.out.c5).mono ?_); rintro e w9 ⟨v0, v1, rfl, h0, h1, hb⟩; replace hb := hA.trans (hb.mono hA.size); obtain ⟨Ae, ce, rfl⟩ := Kd.R_slice h0; obtain ⟨Be, de, rfl⟩ := Kd.R_slice h1; have Z9 := Aside0.mk hb.size; have HB9 := Aside0.mk (HB8.out.trans (hb.mono HB8.out.size)); have Hc9 := Aside0.mk (blk_below Hc8.out hb); have Rc0_9 := Aside0.mk (Kd.C_below Rc0_8.out hb); have Rc1_9 := Aside0.mk (Kd.C_below Rc1_8.out hb); have Rx_9 := Aside0.mk (Kd.C_below Rx_8.out hb); have Re0_9 := Aside0.mk (Kd.R_reads' h0).2.2; have Le0 := Aside0.mk (Kd.R_reads' h0).2.1; have Re1_9 := Aside0.mk (Kd.R_reads' h1).2.2; have Le1 := Aside0.mk (Kd.R_reads' h1).2.1; clear h0 h1; clear hb) | ((with_reducible refine gate_store (t := 25) (p := 11) rfl ?_); refine store_event (t := 25) (p := 11) (w1 := (w9.alloc (.cells #[.slice none 0 0, .slice none 0 0] 25)).setCells w9.heap.size 0 (blkD (.slice Ae b5.length ce) (.slice Be u5.length de)).toList) rfl rfl rfl ?hr ?_; (case hr => (unfold execOp; simp only [Act.eval, Sem.run_bind, Sem.run_pure, Result.andThen_ok]; show ((Sem.run Try.prog (Instr.storeAt 25 (.pointer (some ⟨w9.heap.size, 0, none⟩)) (.agg (blkD (.slice Ae b5.length ce) (.slice Be u5.length de)))) (w9.alloc (.cells #[.slice none 0 0, .slice none 0 0] 25))).andThen _) = _; rw [(store_disk (blk_new w9 (.cells #[.slice none 0 0, .slice none 0 0] 25)) rfl (.slice Ae b5.length ce) (.slice Be u5.length de) rfl rfl).1]; try rfl)); intro w10 hw_; have HS := Aside0.mk (show Below w9.heap.size w9 w10 by rw [hw_]; exact belowD_cells ((Below.refl _ _).alloc (Nat.le_refl _) _) (Nat.le_refl _) _); have Z10 := Aside0.mk HS.out.size; have HB10 := Aside0.mk (HB9.out.trans (HS.out.mono HB9.out.size)); have Hc10 := Aside0.mk (blk_below Hc9.out HS.out); have Rc0_10 := Aside0.mk (Kd.C_below Rc0_9.out HS.out); have Rc1_10 := Aside0.mk (Kd.C_below Rc1_9.out HS.out); have Rx_10 := Aside0.mk (Kd.C_below Rx_9.out HS.out); have Re0_10 := Aside0.mk (Kd.C_below Re0_9.out HS.out); have Re1_10 := Aside0.mk (Kd.C_below Re1_9.out HS.out); have He10 := Aside0.mk (hw_ ▸ (store_disk (blk_new w9 (.cells #[.slice none 0 0, .slice none 0 0] 25)) rfl (.slice Ae b5.length ce) (.slice Be u5.length de) rfl rfl).2 : w10.heap[w9.heap.size]? = some (.cells (blkD (.slice Ae b5.length ce) (.slice Be u5.length de)) 25 (0, 0))); clear hw_ HS; have qe10_0 := blk_cell He10.out 0; have qe10_1 := blk_cell He10.out 1; simp only [blkD, List.getElem?_toArray, List.getElem?_cons_zero, List.getElem?_cons_succ] at qe10_0 qe10_1))
  go_wp2_with (first | (go_at_call 29; (with_reducible refine (wal_Open.calls Ae ce b5 Be de u5 2 1 [] 0 _ Re0_10.out Le0.out Re1_10.out Le1.out OK.out.o6).mono ?_); rintro e w11 ⟨v0, rfl, h0, hb⟩; obtain ⟨Az, cz, rfl⟩ := Kd.R_slice h0; have Z11 := Aside0.mk hb.size; have HB11 := Aside0.mk (HB10.out.trans (hb.mono HB10.out.size)); have Hc11 := Aside0.mk (blk_below Hc10.out hb); have He11 := Aside0.mk (blk_below He10.out hb); have Rc0_11 := Aside0.mk (Kd.C_below Rc0_10.out hb); have Rc1_11 := Aside0.mk (Kd.C_below Rc1_10.out hb); have Rx_11 := Aside0.mk (Kd.C_below Rx_10.out hb); have Re0_11 := Aside0.mk (Kd.C_below Re0_10.out hb); have Re1_11 := Aside0.mk (Kd.C_below Re1_10.out hb); have Rz_11 := Aside0.mk (Kd.R_reads' h0).2.2; have Lz := Aside0.mk (Kd.R_reads' h0).2.1; clear h0; have qc11_0 := blk_cell Hc11.out 0; have qc11_1 := blk_cell Hc11.out 1; simp only [blkD, List.getElem?_toArray, List.getElem?_cons_zero, List.getElem?_cons_succ] at qc11_0 qc11_1; clear hb))
  go_wp2_with (first | (go_at_call 35; (with_reducible refine (wal_Room.calls Ac cc b2 Bc dc u2 2 1 1 0 _ Rc0_11.out Lc0.out Rc1_11.out Lc1.out OK.out.r7).mono ?_); rintro e w12 ⟨rfl, hb⟩; have Z12 := Aside0.mk hb.size; have HB12 := Aside0.mk (HB11.out.trans (hb.mono HB11.out.size)); have Hc12 := Aside0.mk (blk_below Hc11.out hb); have Rc0_12 := Aside0.mk (Kd.C_below Rc0_11.out hb); have Rc1_12 := Aside0.mk (Kd.C_below Rc1_11.out hb); have Rx_12 := Aside0.mk (Kd.C_below Rx_11.out hb); have qc12_0 := blk_cell Hc12.out 0; have qc12_1 := blk_cell Hc12.out 1; simp only [blkD, List.getElem?_toArray, List.getElem?_cons_zero, List.getElem?_cons_succ] at qc12_0 qc12_1; clear hb))
  go_wp2_with (first | (go_at_call 29; (with_reducible refine (wal_Open.calls Ac cc b2 Bc dc u2 5 1 [] 40 _ Rc0_12.out Lc0.out Rc1_12.out Lc1.out OK.out.o8).mono ?_); rintro e w13 ⟨v0, rfl, h0, hb⟩; obtain ⟨Av, cv, rfl⟩ := Kd.R_slice h0; have Z13 := Aside0.mk hb.size; have HB13 := Aside0.mk (HB12.out.trans (hb.mono HB12.out.size)); have Hc13 := Aside0.mk (blk_below Hc12.out hb); have Rc0_13 := Aside0.mk (Kd.C_below Rc0_12.out hb); have Rc1_13 := Aside0.mk (Kd.C_below Rc1_12.out hb); have Rx_13 := Aside0.mk (Kd.C_below Rx_12.out hb); have Rv_13 := Aside0.mk (Kd.R_reads' h0).2.2; have Lv := Aside0.mk (Kd.R_reads' h0).2.1; clear h0; clear hb))
  go_wp2_with (first | (go_at_call 38; have hA := (Below.refl w13.heap.size w13).alloc (Nat.le_refl _) (.cells #[.string ⟨#[97]⟩, .string ⟨#[98]⟩] 9); (refine (sextonref01_Texts.calls 9 Ax cx [⟨#[97]⟩, ⟨#[98]⟩] (some ⟨w13.heap.size, 0, none⟩) 2 [⟨#[97]⟩, ⟨#[98]⟩] true _ (Kd.C_below Rx_13.out hA) Lx.out (lit_S [⟨#[97]⟩, ⟨#[98]⟩] w13 9 rfl (by decide)) (Nat.le_refl _) log_t).mono ?_); rintro e w14_ ⟨rfl, nd, rfl⟩; have hb := pw_below_drewN (Below.refl (w13.alloc (.cells #[.string ⟨#[97]⟩, .string ⟨#[98]⟩] 9)).heap.size (w13.alloc (.cells #[.string ⟨#[97]⟩, .string ⟨#[98]⟩] 9))) nd; generalize World.drewN (w13.alloc (.cells #[.string ⟨#[97]⟩, .string ⟨#[98]⟩] 9)) nd = w14 at *; replace hb := hA.trans (hb.mono hA.size); have Z14 := Aside0.mk hb.size; have HB14 := Aside0.mk (HB13.out.trans (hb.mono HB13.out.size)); have Rx_14 := Aside0.mk (Kd.C_below Rx_13.out hb); clear hb))
  go_ret
  exact ⟨rfl, HB14.out⟩

/-! ### The example's values -/
def lg1 : List ByteArray × List S40 × Int := appendV (List.replicate 5 ⟨#[]⟩) [] 2 1 ⟨#[97]⟩
def lg2 : List ByteArray × List S40 × Int := appendV lg1.1 lg1.2.1 2 1 ⟨#[98]⟩
def lg5 : List ByteArray × List S40 × Int := doneV (keepB [false, true]) lg2.1 lg2.2.1
theorem lg_of {α β : Type} {x : α × β × Int} {e : Int} (h : x.2.2 = e) : some x = some (x.1, x.2.1, e) := by rw [← h]
theorem log_ok : LogOk (List.replicate 5 ⟨#[]⟩) [] lg1.1 lg1.2.1 lg2.1 lg2.2.1 lg5.1 lg5.2.1 where
  n := rfl
  a1 := lg_of (x := lg1) (by decide +kernel)
  a2 := lg_of (x := lg2) (by decide +kernel)
  o3 := by decide +kernel
  o4 := by decide +kernel
  c5 := lg_of (x := lg5) (by decide +kernel)
  o6 := by decide +kernel
  r7 := by decide +kernel
  o8 := by decide +kernel
/-- What it answers. -/
def sextonlaw07_logged.f : Option Bool := some true
theorem sextonlaw07_logged.calls (r : Bool) (w : World) (h : sextonlaw07_logged.f = some r) :
    Calls Try.prog 37 #[] w fun e w' => e = .returned (.bool r) ∧ Below w.heap.size w w' := by
  obtain rfl := Option.some.inj h
  exact logged_in _ _ _ _ _ _ _ _ w log_ok
end Go.Proofs.Ytoibofhmlokglaa.P
-- Written by a program of this session (xprint.py) over the kit's print.py.
namespace Go.Proofs.Ytoibofhmlokglaa.P
open Go.RowKit Go.Proofs.YtoibofhmlokglaaW.PrintWords Go.Proofs.YtoibofhmlokglaaW.PrintLast Go.Proofs.YtoibofhmlokglaaW.PrintMore
attribute [local go_sem] max2_int min2_int max_two min_two max_three min_three max_four min_four   -- for this text's walks alone
set_option linter.unusedVariables false
set_option linter.unusedSimpArgs false

/-! ### wal_All: function 33 -/
def wal_All.l0 : Nat → Int → Int → Int → List ByteArray → Int → Int → List ByteArray → List (S40) → Option (List ByteArray × (List (S40)) × Bool × Int)
  | 0, _, _, _, _, _, _, _, _ => none
  | k + 1, x1, x2, x4, x42, x43, x44, x469000, x469001 => if x44 < x43 then (if 0 ≤ x44 then (if x44 < (x42.length : Int) then (if x4 = 0 then (some (x469000, x469001, false, 0)) else ((wal_Append.f x469000 x469001 x1 x2 (rdOf ByteArray.empty x42 x44)).bind fun bt478 => (if bt478.2.2 = 0 then (if x4 > 0 then (wal_All.l0 k x1 x2 (wrap64 (x4 - 1)) x42 x43 (wrap64 (x44 + 1)) bt478.1 bt478.2.1) else (wal_All.l0 k x1 x2 x4 x42 x43 (wrap64 (x44 + 1)) bt478.1 bt478.2.1)) else (some (([] : List ByteArray), ([] : List (S40)), false, bt478.2.2))))) else (none)) else (none)) else (if x4 = 0 then (some (x469000, x469001, false, 0)) else ((disk_Sync.f x469000 x469001).bind fun bt469 => (some (bt469.1, bt469.2.1, true, bt469.2.2))))
def wal_All.f (k : Nat) (l0_0 : List ByteArray) (l0_1 : List (S40)) (a1 : Int) (a2 : Int) (l3 : List ByteArray) (a4 : Int) : Option (List ByteArray × (List (S40)) × Bool × Int) := (wal_open.f k l0_0 l0_1 a1 a2).bind fun t461 => (if t461 = 0 then ((slices_Clone_string_string.f l0_0).bind fun t462 => ((slices_Clone_WN.f l0_1).bind fun t465 => (wal_All.l0 k a1 a2 (mn (mx a4 (-1)) (wrap64 ((l3.length : Int) + 1))) l3 (l3.length : Int) 0 t462 t465))) else (some (([] : List ByteArray), ([] : List (S40)), false, t461)))
def wal_All.T4 : Bool × List (List Nat × List Nat) := (true, [([], []), ([0], [0]), ([1], [1]), ([], []), ([3], [3]), ([4, 2], [4]), ([2, 5], [2, 5]), ([], []), ([7, 6, 5, 0, 1, 2, 3, 4, 5, 6, 7], [6, 7])])
def wal_All.B4 : List Nat := [0, 1, 3, 0, 8, 31, 63, 0, 255]
theorem wal_All.tab4 : rtab .any (opsOf Try.f33 4) = wal_All.T4 := by kernel_rfl
theorem wal_All.bits4 : waitsOk wal_All.T4.2 wal_All.B4 = true := by kernel_rfl
set_option maxHeartbeats 8000000 in
set_option maxRecDepth 100000 in
theorem wal_All.calls (k : Nat) (A0_0 : Option Addr) (c0_0 : Nat) (l0_0 : List ByteArray) (A0_1 : Option Addr) (c0_1 : Nat) (l0_1 : List (S40)) (a1 : Int) (a2 : Int) (A3 : Option Addr) (c3 : Nat) (l3 : List ByteArray) (a4 : Int) (r1 : List ByteArray) (r2 : List (S40)) (r3 : Bool) (r4 : Int) (w : World) (hr0_0 : Kd.C Kd.string w A0_0 l0_0.length l0_0) (hc0_0 : l0_0.length ≤ c0_0) (hr0_1 : Kd.C k40 w A0_1 l0_1.length l0_1) (hc0_1 : l0_1.length ≤ c0_1) (hr3 : Kd.C Kd.string w A3 l3.length l3) (hc3 : l3.length ≤ c3) (h : wal_All.f k l0_0 l0_1 a1 a2 l3 a4 = some (r1, r2, r3, r4)) :
    Calls Try.prog 33 #[.agg #[.slice A0_0 l0_0.length c0_0, .slice A0_1 l0_1.length c0_1], .int .i64 a1, .int .i64 a2, .slice A3 l3.length c3, .int .i64 a4] w fun e w' => ∃ v0_ v1_ : Value, e = .returned (.tuple #[.agg #[v0_, v1_], .bool r3, .int .i64 r4]) ∧ Kd.R Kd.string 9 w' w.heap.size (fun _ => True) v0_ r1 ∧ Kd.R k40 40 w' w.heap.size (fun _ => True) v1_ r2 ∧ Below w.heap.size w w' := by
  have hu25 := Try.underlying25
  have HR0_0 := Aside0.mk hr0_0
  have HC0_0 := Aside0.mk hc0_0
  clear hr0_0 hc0_0
  have HR0_1 := Aside0.mk hr0_1
  have HC0_1 := Aside0.mk hc0_1
  clear hr0_1 hc0_1
  have HR3 := Aside0.mk hr3
  have HC3 := Aside0.mk hc3
  clear hr3 hc3
  have HB := Aside0.mk (Below.refl w.heap.size w)
  have H : ((wal_open.f k l0_0 l0_1 a1 a2).bind fun t461 => (if t461 = 0 then ((slices_Clone_string_string.f l0_0).bind fun t462 => ((slices_Clone_WN.f l0_1).bind fun t465 => (wal_All.l0 k a1 a2 (mn (mx a4 (-1)) (wrap64 ((l3.length : Int) + 1))) l3 (l3.length : Int) 0 t462 t465))) else (some (([] : List ByteArray), ([] : List (S40)), false, t461)))) = some (r1, r2, r3, r4) := h
  clear h
  replace H := Option.bind_eq_some_iff.mp H
  obtain ⟨t461, A60, H⟩ := H
  replace H : (if t461 = 0 then ((slices_Clone_string_string.f l0_0).bind fun t462 => ((slices_Clone_WN.f l0_1).bind fun t465 => (wal_All.l0 k a1 a2 (mn (mx a4 (-1)) (wrap64 ((l3.length : Int) + 1))) l3 (l3.length : Int) 0 t462 t465))) else (some (([] : List ByteArray), ([] : List (S40)), false, t461))) = some (r1, r2, r3, r4) := H
  have A6 := Aside0.mk A60
  clear A60
  by_cases c7 : t461 = 0
  · rw [if_pos c7] at H
    have c7b0 : (t461 == 0) = true := beq_iff_eq.mpr c7
    have c7b1 : (t461 != 0) = false := bne_eq_false_iff_eq.mpr c7
    clear c7
    replace H := Option.bind_eq_some_iff.mp H
    obtain ⟨t462, A80, H⟩ := H
    replace H : ((slices_Clone_WN.f l0_1).bind fun t465 => (wal_All.l0 k a1 a2 (mn (mx a4 (-1)) (wrap64 ((l3.length : Int) + 1))) l3 (l3.length : Int) 0 t462 t465)) = some (r1, r2, r3, r4) := H
    have A8 := Aside0.mk A80
    clear A80
    replace H := Option.bind_eq_some_iff.mp H
    obtain ⟨t465, A90, H⟩ := H
    replace H : (wal_All.l0 k a1 a2 (mn (mx a4 (-1)) (wrap64 ((l3.length : Int) + 1))) l3 (l3.length : Int) 0 t462 t465) = some (r1, r2, r3, r4) := H
    have A9 := Aside0.mk A90
    clear A90
    obtain ⟨ji10, hji10⟩ : ∃ j_ : Int, (mx a4 (-1)) = j_ := ⟨_, rfl⟩
    replace H : (wal_All.l0 k a1 a2 (mn (ji10) (wrap64 ((l3.length : Int) + 1))) l3 (l3.length : Int) 0 t462 t465) = some (r1, r2, r3, r4) := by first | (rw [hji10] at H; exact H) | (simp only [hji10] at H ⊢; exact H)
    (try rw [hji10] at A6)
    (try rw [hji10] at A8)
    (try rw [hji10] at A9)
    have hji10_ : (if a4 < (-1) then (-1) else a4) = ji10 := hji10
    obtain ⟨ji11, hji11⟩ : ∃ j_ : Int, (mn (ji10) (wrap64 ((l3.length : Int) + 1))) = j_ := ⟨_, rfl⟩
    replace H : (wal_All.l0 k a1 a2 ji11 l3 (l3.length : Int) 0 t462 t465) = some (r1, r2, r3, r4) := by first | (rw [hji11] at H; exact H) | (simp only [hji11] at H ⊢; exact H)
    (try rw [hji11] at A6)
    (try rw [hji11] at A8)
    (try rw [hji11] at A9)
    have hji11_ : (if (wrap64 ((l3.length : Int) + 1)) < (ji10) then (wrap64 ((l3.length : Int) + 1)) else (ji10)) = ji11 := hji11
    have H' := Aside0.mk H
    clear H
    go_enter Try.func33, Try.ntmps33
    try go_wp2_with (first | ((with_reducible refine gate_dst (N := 5) rfl ?_); refine box_event ?hg (N := 5) ?hd (cs := #[.slice A0_0 l0_0.length c0_0, .slice A0_1 l0_1.length c0_1]) (t := 25) ?hr ?_; (case hd => rfl); (case hg => rfl); (case hr => first | (go_simp; done) | (go_simp; rfl)); intro gb459 hg w12 hbox hb; have n0_ := Aside0.mk (below_step (by repeat (first | (with_reducible first | exact HB.out | apply below_alloc | apply pw_below_drewN | apply below_drew1) | exact HB.out)) hb); have n1_ := Aside0.mk (hbox); have n2_ := Aside0.mk ((by rw [hg]; exact (below_size (by repeat (first | (with_reducible first | exact HB.out | apply below_alloc | apply pw_below_drewN | apply below_drew1) | exact HB.out))) : w.heap.size ≤ gb459)); have n3_ := Aside0.mk ((by rw [hg]; exact (below_size (by repeat (first | (with_reducible first | exact HB.out | apply below_alloc | apply pw_below_drewN | apply below_drew1) | exact HB.out))) : w.heap.size ≤ gb459)); clear HB; have HB := n0_; have BK459 := n1_; have GW459 := n2_; have GE459 := n3_; clear n0_ n1_ n2_ n3_; clear hb hbox hg) | ((with_reducible refine gate_dst (N := 10) rfl ?_); refine box_event ?hg (N := 10) ?hd (cs := #[.slice none 0 0, .slice none 0 0]) (t := 25) ?hr ?_; (case hd => rfl); (case hg => rfl); (case hr => first | (go_simp; done) | (go_simp; rfl)); intro gb460 hg w13 hbox hb; have n0_ := Aside0.mk (blk_below (g := gb459) (o := .cells #[.slice A0_0 l0_0.length c0_0, .slice A0_1 l0_1.length c0_1] 25 (0, 0)) (by (with_reducible repeat (first | refine blk_drewN ?_ _ | refine blk_drew ?_ | refine blk_alloc ?_ _)); exact BK459.out) hb); have n1_ := Aside0.mk (below_step (by repeat (first | (with_reducible first | exact HB.out | apply below_alloc | apply pw_below_drewN | apply below_drew1 | refine below_set ?_ GE459.out) | exact HB.out)) hb); have n2_ := Aside0.mk (hbox); have n3_ := Aside0.mk ((by rw [hg]; exact (below_size (by repeat (first | (with_reducible first | exact HB.out | apply below_alloc | apply pw_below_drewN | apply below_drew1 | refine below_set ?_ GE459.out) | exact HB.out))) : w.heap.size ≤ gb460)); have n4_ := Aside0.mk ((by rw [hg]; exact (below_size (by repeat (first | (with_reducible first | exact HB.out | apply below_alloc | apply pw_below_drewN | apply below_drew1 | refine below_set ?_ GE459.out) | exact HB.out))) : w.heap.size ≤ gb460)); have n5_ := Aside0.mk ((by rw [hg]; exact Nat.ne_of_lt (blk_lt (g := gb459) (o := .cells #[.slice A0_0 l0_0.length c0_0, .slice A0_1 l0_1.length c0_1] 25 (0, 0)) (by (with_reducible repeat (first | refine blk_drewN ?_ _ | refine blk_drew ?_ | refine blk_alloc ?_ _)); exact BK459.out)) : gb459 ≠ gb460)); have n6_ := Aside0.mk ((by rw [hg]; exact Nat.ne_of_gt (blk_lt (g := gb459) (o := .cells #[.slice A0_0 l0_0.length c0_0, .slice A0_1 l0_1.length c0_1] 25 (0, 0)) (by (with_reducible repeat (first | refine blk_drewN ?_ _ | refine blk_drew ?_ | refine blk_alloc ?_ _)); exact BK459.out)) : gb460 ≠ gb459)); clear BK459; clear HB; have BK459 := n0_; have HB := n1_; have BK460 := n2_; have GW460 := n3_; have GE460 := n4_; have NB459_460 := n5_; have NB460_459 := n6_; clear n0_ n1_ n2_ n3_ n4_ n5_ n6_; clear hb hbox hg; have hnb14 := NB459_460.out; have hnc14 := NB460_459.out; have hcz15_0 : w13.cell? ⟨gb459, 0, none⟩ = some (.slice A0_0 l0_0.length c0_0) := (blk_cell BK459.out 0).trans rfl; have hcz15_1 : w13.cell? ⟨gb459, 1, none⟩ = some (.slice A0_1 l0_1.length c0_1) := (blk_cell BK459.out 1).trans rfl; have hfz15_0 := blk_frozen BK459.out 0; have hfz15_1 := blk_frozen BK459.out 1) | ((with_reducible refine gate_callee (f := 50) rfl ?_); refine goesL_ (some 24) rfl rfl Try.func50 (by kernel_rfl) rfl #[.agg #[.slice A0_0 l0_0.length c0_0, .slice A0_1 l0_1.length c0_1], .int .i64 a1, .int .i64 a2] rfl (by (try simp only [List.map_toArray, List.map_cons, List.map_nil]); first | done | rfl | (simp only [List.length_drop, List.length_take]; rfl)) ?_; (with_reducible refine (wal_open.calls k _ _ l0_0 _ _ l0_1 a1 a2 t461 _ ?side1 ?side2 ?side3 ?side4 A6.out).mono ?_); (case side1 => repeat (first | exact (Kd.C_below HR0_0.out HB.out) | (with_reducible refine Kd.C_alloc ?_ _) | (with_reducible refine Kd.C_drewN ?_ _) | (with_reducible refine Kd.C_drew ?_))); (case side2 => exact HC0_0.out); (case side3 => repeat (first | exact (Kd.C_below HR0_1.out HB.out) | (with_reducible refine Kd.C_alloc ?_ _) | (with_reducible refine Kd.C_drewN ?_ _) | (with_reducible refine Kd.C_drew ?_))); (case side4 => exact HC0_1.out); rintro e w16 ⟨rfl, hb⟩; refine ⟨_, rfl, ?_⟩; have n0_ := Aside0.mk (blk_below (g := gb459) (o := .cells #[.slice A0_0 l0_0.length c0_0, .slice A0_1 l0_1.length c0_1] 25 (0, 0)) (by (with_reducible repeat (first | refine blk_drewN ?_ _ | refine blk_drew ?_ | refine blk_alloc ?_ _)); exact BK459.out) hb); have n1_ := Aside0.mk (blk_below (g := gb460) (o := .cells #[.slice none 0 0, .slice none 0 0] 25 (0, 0)) (by (with_reducible repeat (first | refine blk_drewN ?_ _ | refine blk_drew ?_ | refine blk_alloc ?_ _)); exact BK460.out) hb); have n2_ := Aside0.mk (below_step (by repeat (first | (with_reducible first | exact HB.out | apply below_alloc | apply pw_below_drewN | apply below_drew1 | refine below_set ?_ GE459.out | refine below_set ?_ GE460.out) | exact HB.out)) hb); clear BK459; clear BK460; clear HB; have BK459 := n0_; have BK460 := n1_; have HB := n2_; clear n0_ n1_ n2_; (try clear hb); (try clear hb2); (try clear hk); (try clear hi)))
    have n0_ := Aside0.mk (blk_drew BK459.out)
    have n1_ := Aside0.mk (blk_drew BK460.out)
    have n2_ := Aside0.mk (below_drew1 HB.out)
    clear BK459
    clear BK460
    clear HB
    have BK459 := n0_
    have BK460 := n1_
    have HB := n2_
    clear n0_ n1_ n2_
    refine start_ (n := 9) (S := fun w' => w'.cell? ⟨gb459, 0, none⟩ = some (.slice A0_0 l0_0.length c0_0) ∧ w'.cell? ⟨gb459, 1, none⟩ = some (.slice A0_1 l0_1.length c0_1)) (ds := []) #[false, false, false, false, false, false, false, false, false] (by kernel_rfl) rfl rfl ⟨(blk_cell BK459.out 0).trans rfl, (blk_cell BK459.out 1).trans rfl⟩ (fun hHeld => ?_); refine with_tabW wal_All.tab4 wal_All.bits4 (fun HT_ HW_ => ?_)
    generalize w16.drew = w17 at BK459 BK460 HB hHeld ⊢
    refine pure_ (i := 0) (N := some 29) (v := ?_) (a' := ?_) #[true, false, false, false, false, false, false, false, false] rfl rfl (any_of HT_.out (by kernel_rfl)) (fun _ _ _ h => h) (Or.inl ⟨by rfl, ?_⟩) ?_ ?_
    rotate_left
    · intro w'
      go_simp
      with_reducible rfl
    rotate_left
    · simp only [Act.put, List.setIfInBounds_toArray, List.set_cons_zero, List.set_cons_succ, i64_w, i32_w]
      rfl
    refine pure_ (i := 3) (N := some 32) (v := ?_) (a' := ?_) #[true, false, false, true, false, false, false, false, false] rfl rfl (any_of HT_.out (by kernel_rfl)) (fun _ _ _ h => h) (Or.inl ⟨by rfl, ?_⟩) ?_ ?_
    rotate_left
    · intro w'
      go_simp
      with_reducible rfl
    rotate_left
    · simp only [Act.put, List.setIfInBounds_toArray, List.set_cons_zero, List.set_cons_succ, i64_w, i32_w]
      rfl
    refine take_ (i := 1) (N := some 30) (v := ?_) (a' := ?_) #[true, true, false, true, false, false, false, false, false] rfl rfl (take_ofW HT_.out HW_.out (by kernel_rfl)) (fun _ _ _ h => h) (Or.inl ⟨by rfl, ?_⟩) hHeld ?_ ?_
    rotate_left
    · rintro w' ⟨s0, s1⟩
      go_simp
      with_reducible rfl
    rotate_left
    · simp only [Act.put, List.setIfInBounds_toArray, List.set_cons_zero, List.set_cons_succ, i64_w, i32_w]
      rfl
    refine take_ (i := 4) (N := some 33) (v := ?_) (a' := ?_) #[true, true, false, true, true, false, false, false, false] rfl rfl (take_ofW HT_.out HW_.out (by kernel_rfl)) (fun _ _ _ h => h) (Or.inl ⟨by rfl, ?_⟩) hHeld ?_ ?_
    rotate_left
    · rintro w' ⟨s0, s1⟩
      go_simp
      with_reducible rfl
    rotate_left
    · simp only [Act.put, List.setIfInBounds_toArray, List.set_cons_zero, List.set_cons_succ, i64_w, i32_w]
      rfl
    refine join_ (σ := Value × Value × Nat) 1 #[true, true, true, true, true, true, true, true, false] (fun s_ => [(31, s_.1), (34, s_.2.1), (14, .pointer (some ⟨s_.2.2, 0, none⟩)), (35, .agg #[s_.1, s_.2.1])]) (fun s_ w' => (w'.cell? ⟨gb459, 0, none⟩ = some (.slice A0_0 l0_0.length c0_0) ∧ w'.cell? ⟨gb459, 1, none⟩ = some (.slice A0_1 l0_1.length c0_1)) ∧ (Kd.R Kd.string 9 w' w.heap.size (fun _ => True) s_.1 t462) ∧ (Kd.R k40 40 w' w.heap.size (fun _ => True) s_.2.1 t465) ∧ (w'.heap[gb459]? = some (.cells #[.slice A0_0 l0_0.length c0_0, .slice A0_1 l0_1.length c0_1] 25 (0, 0))) ∧ (w'.heap[gb460]? = some (.cells #[.slice none 0 0, .slice none 0 0] 25 (0, 0))) ∧ (w'.heap[s_.2.2]? = some (.cells #[.slice none 0 0, .slice none 0 0] 25 (0, 0))) ∧ (w.heap.size ≤ s_.2.2) ∧ (w.heap.size ≤ s_.2.2) ∧ (gb459 ≠ s_.2.2) ∧ (s_.2.2 ≠ gb459) ∧ (gb460 ≠ s_.2.2) ∧ (s_.2.2 ≠ gb460) ∧ (Below w.heap.size w w')) ?_ ?_
    rotate_left
    · intro hCont
      refine two_ (i := 2) (j := 7) (Ni := some 31) (Nj := some 14) #[true, true, true, true, true, false, false, false, false] #[true, true, false, true, true, false, false, true, false] rfl rfl rfl rfl (two_of HT_.out (by kernel_rfl)) (by decide) (by decide) (fun K hK => ?_) (fun K hK => ?_)
      · skip
        refine goes_ Try.func57 (by kernel_rfl) rfl #[.slice A0_0 l0_0.length c0_0] (by rfl) rfl rfl (by (try simp only [List.map_toArray, List.map_cons, List.map_nil]); first | done | rfl | (simp only [List.length_drop, List.length_take]; rfl)) ?_
        with_reducible refine (slices_Clone_string_string.calls _ _ l0_0 t462 _ ?side1 ?side2 A8.out).mono ?_
        (case side1 => repeat (first | exact (Kd.C_below HR0_0.out HB.out) | (with_reducible refine Kd.C_alloc ?_ _) | (with_reducible refine Kd.C_drewN ?_ _) | (with_reducible refine Kd.C_drew ?_)))
        (case side2 => exact HC0_0.out)
        rintro e w18 ⟨v463, rfl, ho0, hb⟩
        refine ⟨_, rfl, ?_⟩
        have n0_ := Aside0.mk (Kd.R_lower ho0 (below_size (by repeat (first | (with_reducible first | exact HB.out | apply below_alloc | apply pw_below_drewN | apply below_drew1 | refine below_set ?_ GE459.out | refine below_set ?_ GE460.out) | exact HB.out))))
        have n1_ := Aside0.mk (blk_below (g := gb459) (o := .cells #[.slice A0_0 l0_0.length c0_0, .slice A0_1 l0_1.length c0_1] 25 (0, 0)) (by (with_reducible repeat (first | refine blk_drewN ?_ _ | refine blk_drew ?_ | refine blk_alloc ?_ _)); exact BK459.out) hb)
        have n2_ := Aside0.mk (blk_below (g := gb460) (o := .cells #[.slice none 0 0, .slice none 0 0] 25 (0, 0)) (by (with_reducible repeat (first | refine blk_drewN ?_ _ | refine blk_drew ?_ | refine blk_alloc ?_ _)); exact BK460.out) hb)
        have n3_ := Aside0.mk (below_step (by repeat (first | (with_reducible first | exact HB.out | apply below_alloc | apply pw_below_drewN | apply below_drew1 | refine below_set ?_ GE459.out | refine below_set ?_ GE460.out) | exact HB.out)) hb)
        clear BK459
        clear BK460
        clear HB
        have HO464 := n0_
        have BK459 := n1_
        have BK460 := n2_
        have HB := n3_
        clear n0_ n1_ n2_ n3_
        (try clear hb)
        (try clear hb2)
        (try clear hk)
        (try clear hi)
        (try clear ho0)
        refine hK.out _ _ ⟨(blk_cell BK459.out 0).trans rfl, (blk_cell BK459.out 1).trans rfl⟩ (fun hHeld => ?_)
        clear hK K
        refine norm_ (a' := ?_) ?_ ?_
        rotate_left
        · show Act.put _ (some 31) _ = _
          simp only [Act.put, List.setIfInBounds_toArray, List.set_cons_zero, List.set_cons_succ, i64_w, i32_w]
          rfl
        refine two_ (i := 5) (j := 7) (Ni := some 34) (Nj := some 14) #[true, true, true, true, true, true, false, false, false] #[true, true, true, true, true, false, false, true, false] rfl rfl rfl rfl (two_of HT_.out (by kernel_rfl)) (by decide) (by decide) (fun K hK => ?_) (fun K hK => ?_)
        · skip
          refine goes_ Try.func43 (by kernel_rfl) rfl #[.slice A0_1 l0_1.length c0_1] (by rfl) rfl rfl (by (try simp only [List.map_toArray, List.map_cons, List.map_nil]); first | done | rfl | (simp only [List.length_drop, List.length_take]; rfl)) ?_
          with_reducible refine (slices_Clone_WN.calls _ _ l0_1 t465 _ ?side1 ?side2 A9.out).mono ?_
          (case side1 => repeat (first | exact (Kd.C_below HR0_1.out HB.out) | (with_reducible refine Kd.C_alloc ?_ _) | (with_reducible refine Kd.C_drewN ?_ _) | (with_reducible refine Kd.C_drew ?_)))
          (case side2 => exact HC0_1.out)
          rintro e w19 ⟨v466, rfl, ho0, hb⟩
          refine ⟨_, rfl, ?_⟩
          have n0_ := Aside0.mk (Kd.R_below (by (with_reducible repeat (first | apply Kd.R_alloc | apply Kd.R_drewN | apply Kd.R_drew)); exact HO464.out) hb)
          have n1_ := Aside0.mk (Kd.R_lower ho0 (below_size (by repeat (first | (with_reducible first | exact HB.out | apply below_alloc | apply pw_below_drewN | apply below_drew1 | refine below_set ?_ GE459.out | refine below_set ?_ GE460.out) | exact HB.out))))
          have n2_ := Aside0.mk (blk_below (g := gb459) (o := .cells #[.slice A0_0 l0_0.length c0_0, .slice A0_1 l0_1.length c0_1] 25 (0, 0)) (by (with_reducible repeat (first | refine blk_drewN ?_ _ | refine blk_drew ?_ | refine blk_alloc ?_ _)); exact BK459.out) hb)
          have n3_ := Aside0.mk (blk_below (g := gb460) (o := .cells #[.slice none 0 0, .slice none 0 0] 25 (0, 0)) (by (with_reducible repeat (first | refine blk_drewN ?_ _ | refine blk_drew ?_ | refine blk_alloc ?_ _)); exact BK460.out) hb)
          have n4_ := Aside0.mk (below_step (by repeat (first | (with_reducible first | exact HB.out | apply below_alloc | apply pw_below_drewN | apply below_drew1 | refine below_set ?_ GE459.out | refine below_set ?_ GE460.out) | exact HB.out)) hb)
          clear HO464
          clear BK459
          clear BK460
          clear HB
          have HO464 := n0_
          have HO467 := n1_
          have BK459 := n2_
          have BK460 := n3_
          have HB := n4_
          clear n0_ n1_ n2_ n3_ n4_
          (try clear hb)
          (try clear hb2)
          (try clear hk)
          (try clear hi)
          (try clear ho0)
          obtain ⟨Ao20, co20, eo20⟩ := Kd.R_slice HO467.out
          (first | subst eo20 | (injection eo20 with f1_ f2_ f3_; have f4_ := f1_.symm; have f5_ := f3_.symm; clear f1_ f2_ f3_; subst f4_; subst f5_))
          obtain ⟨Ao21, co21, eo21⟩ := Kd.R_slice HO464.out
          (first | subst eo21 | (injection eo21 with f1_ f2_ f3_; have f4_ := f1_.symm; have f5_ := f3_.symm; clear f1_ f2_ f3_; subst f4_; subst f5_))
          refine hK.out _ _ ⟨(blk_cell BK459.out 0).trans rfl, (blk_cell BK459.out 1).trans rfl⟩ (fun hHeld => ?_)
          clear hK K
          refine norm_ (a' := ?_) ?_ ?_
          rotate_left
          · show Act.put _ (some 34) _ = _
            simp only [Act.put, List.setIfInBounds_toArray, List.set_cons_zero, List.set_cons_succ, i64_w, i32_w]
            rfl
          refine pure_ (i := 6) (N := some 35) (v := ?_) (a' := ?_) #[true, true, true, true, true, true, true, false, false] rfl rfl (any_of HT_.out (by kernel_rfl)) (fun _ _ _ h => h) (Or.inl ⟨by rfl, ?_⟩) ?_ ?_
          rotate_left
          · intro w'
            go_simp
            with_reducible rfl
          rotate_left
          · simp only [Act.put, List.setIfInBounds_toArray, List.set_cons_zero, List.set_cons_succ, i64_w, i32_w]
            rfl
          refine one_ (i := 7) (N := some 14) #[true, true, true, true, true, true, true, true, false] rfl rfl (one_of HT_.out (by kernel_rfl)) (by decide) (fun K hK => ?_)
          refine box_step ?hg (N := 14) ?hd (cs := #[.slice none 0 0, .slice none 0 0]) (t := 25) ?hr ?_; (case hd => rfl); (case hg => rfl); (case hr => first | (go_simp; done) | (go_simp; rfl))
          intro gb468 hg w22 hbox hb
          have n0_ := Aside0.mk (Kd.R_below (by (with_reducible repeat (first | apply Kd.R_alloc | apply Kd.R_drewN | apply Kd.R_drew)); exact HO464.out) hb)
          have n1_ := Aside0.mk (Kd.R_below (by (with_reducible repeat (first | apply Kd.R_alloc | apply Kd.R_drewN | apply Kd.R_drew)); exact HO467.out) hb)
          have n2_ := Aside0.mk (blk_below (g := gb459) (o := .cells #[.slice A0_0 l0_0.length c0_0, .slice A0_1 l0_1.length c0_1] 25 (0, 0)) (by (with_reducible repeat (first | refine blk_drewN ?_ _ | refine blk_drew ?_ | refine blk_alloc ?_ _)); exact BK459.out) hb)
          have n3_ := Aside0.mk (blk_below (g := gb460) (o := .cells #[.slice none 0 0, .slice none 0 0] 25 (0, 0)) (by (with_reducible repeat (first | refine blk_drewN ?_ _ | refine blk_drew ?_ | refine blk_alloc ?_ _)); exact BK460.out) hb)
          have n4_ := Aside0.mk (below_step (by repeat (first | (with_reducible first | exact HB.out | apply below_alloc | apply pw_below_drewN | apply below_drew1 | refine below_set ?_ GE459.out | refine below_set ?_ GE460.out) | exact HB.out)) hb)
          have n5_ := Aside0.mk (hbox)
          have n6_ := Aside0.mk ((by rw [hg]; exact (below_size (by repeat (first | (with_reducible first | exact HB.out | apply below_alloc | apply pw_below_drewN | apply below_drew1 | refine below_set ?_ GE459.out | refine below_set ?_ GE460.out) | exact HB.out))) : w.heap.size ≤ gb468))
          have n7_ := Aside0.mk ((by rw [hg]; exact (below_size (by repeat (first | (with_reducible first | exact HB.out | apply below_alloc | apply pw_below_drewN | apply below_drew1 | refine below_set ?_ GE459.out | refine below_set ?_ GE460.out) | exact HB.out))) : w.heap.size ≤ gb468))
          have n8_ := Aside0.mk ((by rw [hg]; exact Nat.ne_of_lt (blk_lt (g := gb459) (o := .cells #[.slice A0_0 l0_0.length c0_0, .slice A0_1 l0_1.length c0_1] 25 (0, 0)) (by (with_reducible repeat (first | refine blk_drewN ?_ _ | refine blk_drew ?_ | refine blk_alloc ?_ _)); exact BK459.out)) : gb459 ≠ gb468))
          have n9_ := Aside0.mk ((by rw [hg]; exact Nat.ne_of_gt (blk_lt (g := gb459) (o := .cells #[.slice A0_0 l0_0.length c0_0, .slice A0_1 l0_1.length c0_1] 25 (0, 0)) (by (with_reducible repeat (first | refine blk_drewN ?_ _ | refine blk_drew ?_ | refine blk_alloc ?_ _)); exact BK459.out)) : gb468 ≠ gb459))
          have n10_ := Aside0.mk ((by rw [hg]; exact Nat.ne_of_lt (blk_lt (g := gb460) (o := .cells #[.slice none 0 0, .slice none 0 0] 25 (0, 0)) (by (with_reducible repeat (first | refine blk_drewN ?_ _ | refine blk_drew ?_ | refine blk_alloc ?_ _)); exact BK460.out)) : gb460 ≠ gb468))
          have n11_ := Aside0.mk ((by rw [hg]; exact Nat.ne_of_gt (blk_lt (g := gb460) (o := .cells #[.slice none 0 0, .slice none 0 0] 25 (0, 0)) (by (with_reducible repeat (first | refine blk_drewN ?_ _ | refine blk_drew ?_ | refine blk_alloc ?_ _)); exact BK460.out)) : gb468 ≠ gb460))
          clear HO464
          clear HO467
          clear BK459
          clear BK460
          clear HB
          have HO464 := n0_
          have HO467 := n1_
          have BK459 := n2_
          have BK460 := n3_
          have HB := n4_
          have BK468 := n5_
          have GW468 := n6_
          have GE468 := n7_
          have NB459_468 := n8_
          have NB468_459 := n9_
          have NB460_468 := n10_
          have NB468_460 := n11_
          clear n0_ n1_ n2_ n3_ n4_ n5_ n6_ n7_ n8_ n9_ n10_ n11_
          clear hb hbox hg
          refine hK.out _ _ ⟨(blk_cell BK459.out 0).trans rfl, (blk_cell BK459.out 1).trans rfl⟩ (fun hHeld => ?_)
          clear hK K
          refine norm_ (a' := ?_) ?_ ?_
          rotate_left
          · show Act.put _ (some 14) _ = _
            simp only [Act.put, List.setIfInBounds_toArray, List.set_cons_zero, List.set_cons_succ, i64_w, i32_w]
            rfl
          exact norm_ (by simp only [putAll, Act.put, List.setIfInBounds_toArray, List.set_cons_zero, List.set_cons_succ]) (hCont (.slice Ao21 t462.length co21, .slice Ao20 t465.length co20, gb468) _ ⟨hHeld, (by (with_reducible repeat (first | apply Kd.R_alloc | apply Kd.R_drewN | apply Kd.R_drew)); exact HO464.out), (by (with_reducible repeat (first | apply Kd.R_alloc | apply Kd.R_drewN | apply Kd.R_drew)); exact HO467.out), (by (with_reducible repeat (first | refine blk_drewN ?_ _ | refine blk_drew ?_ | refine blk_alloc ?_ _)); exact BK459.out), (by (with_reducible repeat (first | refine blk_drewN ?_ _ | refine blk_drew ?_ | refine blk_alloc ?_ _)); exact BK460.out), (by (with_reducible repeat (first | refine blk_drewN ?_ _ | refine blk_drew ?_ | refine blk_alloc ?_ _)); exact BK468.out), GW468.out, GE468.out, NB459_468.out, NB468_459.out, NB460_468.out, NB468_460.out, (by repeat (first | (with_reducible first | exact HB.out | apply below_alloc | apply pw_below_drewN | apply below_drew1 | refine below_set ?_ GE459.out | refine below_set ?_ GE460.out | refine below_set ?_ GE468.out) | exact HB.out))⟩)
        · skip
          refine box_step ?hg (N := 14) ?hd (cs := #[.slice none 0 0, .slice none 0 0]) (t := 25) ?hr ?_; (case hd => rfl); (case hg => rfl); (case hr => first | (go_simp; done) | (go_simp; rfl))
          intro gb468 hg w19 hbox hb
          have n0_ := Aside0.mk (Kd.R_below (by (with_reducible repeat (first | apply Kd.R_alloc | apply Kd.R_drewN | apply Kd.R_drew)); exact HO464.out) hb)
          have n1_ := Aside0.mk (blk_below (g := gb459) (o := .cells #[.slice A0_0 l0_0.length c0_0, .slice A0_1 l0_1.length c0_1] 25 (0, 0)) (by (with_reducible repeat (first | refine blk_drewN ?_ _ | refine blk_drew ?_ | refine blk_alloc ?_ _)); exact BK459.out) hb)
          have n2_ := Aside0.mk (blk_below (g := gb460) (o := .cells #[.slice none 0 0, .slice none 0 0] 25 (0, 0)) (by (with_reducible repeat (first | refine blk_drewN ?_ _ | refine blk_drew ?_ | refine blk_alloc ?_ _)); exact BK460.out) hb)
          have n3_ := Aside0.mk (below_step (by repeat (first | (with_reducible first | exact HB.out | apply below_alloc | apply pw_below_drewN | apply below_drew1 | refine below_set ?_ GE459.out | refine below_set ?_ GE460.out) | exact HB.out)) hb)
          have n4_ := Aside0.mk (hbox)
          have n5_ := Aside0.mk ((by rw [hg]; exact (below_size (by repeat (first | (with_reducible first | exact HB.out | apply below_alloc | apply pw_below_drewN | apply below_drew1 | refine below_set ?_ GE459.out | refine below_set ?_ GE460.out) | exact HB.out))) : w.heap.size ≤ gb468))
          have n6_ := Aside0.mk ((by rw [hg]; exact (below_size (by repeat (first | (with_reducible first | exact HB.out | apply below_alloc | apply pw_below_drewN | apply below_drew1 | refine below_set ?_ GE459.out | refine below_set ?_ GE460.out) | exact HB.out))) : w.heap.size ≤ gb468))
          have n7_ := Aside0.mk ((by rw [hg]; exact Nat.ne_of_lt (blk_lt (g := gb459) (o := .cells #[.slice A0_0 l0_0.length c0_0, .slice A0_1 l0_1.length c0_1] 25 (0, 0)) (by (with_reducible repeat (first | refine blk_drewN ?_ _ | refine blk_drew ?_ | refine blk_alloc ?_ _)); exact BK459.out)) : gb459 ≠ gb468))
          have n8_ := Aside0.mk ((by rw [hg]; exact Nat.ne_of_gt (blk_lt (g := gb459) (o := .cells #[.slice A0_0 l0_0.length c0_0, .slice A0_1 l0_1.length c0_1] 25 (0, 0)) (by (with_reducible repeat (first | refine blk_drewN ?_ _ | refine blk_drew ?_ | refine blk_alloc ?_ _)); exact BK459.out)) : gb468 ≠ gb459))
          have n9_ := Aside0.mk ((by rw [hg]; exact Nat.ne_of_lt (blk_lt (g := gb460) (o := .cells #[.slice none 0 0, .slice none 0 0] 25 (0, 0)) (by (with_reducible repeat (first | refine blk_drewN ?_ _ | refine blk_drew ?_ | refine blk_alloc ?_ _)); exact BK460.out)) : gb460 ≠ gb468))
          have n10_ := Aside0.mk ((by rw [hg]; exact Nat.ne_of_gt (blk_lt (g := gb460) (o := .cells #[.slice none 0 0, .slice none 0 0] 25 (0, 0)) (by (with_reducible repeat (first | refine blk_drewN ?_ _ | refine blk_drew ?_ | refine blk_alloc ?_ _)); exact BK460.out)) : gb468 ≠ gb460))
          clear HO464
          clear BK459
          clear BK460
          clear HB
          have HO464 := n0_
          have BK459 := n1_
          have BK460 := n2_
          have HB := n3_
          have BK468 := n4_
          have GW468 := n5_
          have GE468 := n6_
          have NB459_468 := n7_
          have NB468_459 := n8_
          have NB460_468 := n9_
          have NB468_460 := n10_
          clear n0_ n1_ n2_ n3_ n4_ n5_ n6_ n7_ n8_ n9_ n10_
          clear hb hbox hg
          refine hK.out _ _ ⟨(blk_cell BK459.out 0).trans rfl, (blk_cell BK459.out 1).trans rfl⟩ (fun hHeld => ?_)
          clear hK K
          refine norm_ (a' := ?_) ?_ ?_
          rotate_left
          · show Act.put _ (some 14) _ = _
            simp only [Act.put, List.setIfInBounds_toArray, List.set_cons_zero, List.set_cons_succ, i64_w, i32_w]
            rfl
          refine one_ (i := 5) (N := some 34) #[true, true, true, true, true, true, false, true, false] rfl rfl (one_of HT_.out (by kernel_rfl)) (by decide) (fun K hK => ?_)
          refine goes_ Try.func43 (by kernel_rfl) rfl #[.slice A0_1 l0_1.length c0_1] (by rfl) rfl rfl (by (try simp only [List.map_toArray, List.map_cons, List.map_nil]); first | done | rfl | (simp only [List.length_drop, List.length_take]; rfl)) ?_
          with_reducible refine (slices_Clone_WN.calls _ _ l0_1 t465 _ ?side1 ?side2 A9.out).mono ?_
          (case side1 => repeat (first | exact (Kd.C_below HR0_1.out HB.out) | (with_reducible refine Kd.C_alloc ?_ _) | (with_reducible refine Kd.C_drewN ?_ _) | (with_reducible refine Kd.C_drew ?_)))
          (case side2 => exact HC0_1.out)
          rintro e w20 ⟨v466, rfl, ho0, hb⟩
          refine ⟨_, rfl, ?_⟩
          have n0_ := Aside0.mk (Kd.R_below (by (with_reducible repeat (first | apply Kd.R_alloc | apply Kd.R_drewN | apply Kd.R_drew)); exact HO464.out) hb)
          have n1_ := Aside0.mk (Kd.R_lower ho0 (below_size (by repeat (first | (with_reducible first | exact HB.out | apply below_alloc | apply pw_below_drewN | apply below_drew1 | refine below_set ?_ GE459.out | refine below_set ?_ GE460.out | refine below_set ?_ GE468.out) | exact HB.out))))
          have n2_ := Aside0.mk (blk_below (g := gb459) (o := .cells #[.slice A0_0 l0_0.length c0_0, .slice A0_1 l0_1.length c0_1] 25 (0, 0)) (by (with_reducible repeat (first | refine blk_drewN ?_ _ | refine blk_drew ?_ | refine blk_alloc ?_ _)); exact BK459.out) hb)
          have n3_ := Aside0.mk (blk_below (g := gb460) (o := .cells #[.slice none 0 0, .slice none 0 0] 25 (0, 0)) (by (with_reducible repeat (first | refine blk_drewN ?_ _ | refine blk_drew ?_ | refine blk_alloc ?_ _)); exact BK460.out) hb)
          have n4_ := Aside0.mk (blk_below (g := gb468) (o := .cells #[.slice none 0 0, .slice none 0 0] 25 (0, 0)) (by (with_reducible repeat (first | refine blk_drewN ?_ _ | refine blk_drew ?_ | refine blk_alloc ?_ _)); exact BK468.out) hb)
          have n5_ := Aside0.mk (below_step (by repeat (first | (with_reducible first | exact HB.out | apply below_alloc | apply pw_below_drewN | apply below_drew1 | refine below_set ?_ GE459.out | refine below_set ?_ GE460.out | refine below_set ?_ GE468.out) | exact HB.out)) hb)
          clear HO464
          clear BK459
          clear BK460
          clear BK468
          clear HB
          have HO464 := n0_
          have HO467 := n1_
          have BK459 := n2_
          have BK460 := n3_
          have BK468 := n4_
          have HB := n5_
          clear n0_ n1_ n2_ n3_ n4_ n5_
          (try clear hb)
          (try clear hb2)
          (try clear hk)
          (try clear hi)
          (try clear ho0)
          obtain ⟨Ao21, co21, eo21⟩ := Kd.R_slice HO467.out
          (first | subst eo21 | (injection eo21 with f1_ f2_ f3_; have f4_ := f1_.symm; have f5_ := f3_.symm; clear f1_ f2_ f3_; subst f4_; subst f5_))
          obtain ⟨Ao22, co22, eo22⟩ := Kd.R_slice HO464.out
          (first | subst eo22 | (injection eo22 with f1_ f2_ f3_; have f4_ := f1_.symm; have f5_ := f3_.symm; clear f1_ f2_ f3_; subst f4_; subst f5_))
          refine hK.out _ _ ⟨(blk_cell BK459.out 0).trans rfl, (blk_cell BK459.out 1).trans rfl⟩ (fun hHeld => ?_)
          clear hK K
          refine norm_ (a' := ?_) ?_ ?_
          rotate_left
          · show Act.put _ (some 34) _ = _
            simp only [Act.put, List.setIfInBounds_toArray, List.set_cons_zero, List.set_cons_succ, i64_w, i32_w]
            rfl
          refine pure_ (i := 6) (N := some 35) (v := ?_) (a' := ?_) #[true, true, true, true, true, true, true, true, false] rfl rfl (any_of HT_.out (by kernel_rfl)) (fun _ _ _ h => h) (Or.inl ⟨by rfl, ?_⟩) ?_ ?_
          rotate_left
          · intro w'
            go_simp
            with_reducible rfl
          rotate_left
          · simp only [Act.put, List.setIfInBounds_toArray, List.set_cons_zero, List.set_cons_succ, i64_w, i32_w]
            rfl
          exact norm_ (by simp only [putAll, Act.put, List.setIfInBounds_toArray, List.set_cons_zero, List.set_cons_succ]) (hCont (.slice Ao22 t462.length co22, .slice Ao21 t465.length co21, gb468) _ ⟨hHeld, (by (with_reducible repeat (first | apply Kd.R_alloc | apply Kd.R_drewN | apply Kd.R_drew)); exact HO464.out), (by (with_reducible repeat (first | apply Kd.R_alloc | apply Kd.R_drewN | apply Kd.R_drew)); exact HO467.out), (by (with_reducible repeat (first | refine blk_drewN ?_ _ | refine blk_drew ?_ | refine blk_alloc ?_ _)); exact BK459.out), (by (with_reducible repeat (first | refine blk_drewN ?_ _ | refine blk_drew ?_ | refine blk_alloc ?_ _)); exact BK460.out), (by (with_reducible repeat (first | refine blk_drewN ?_ _ | refine blk_drew ?_ | refine blk_alloc ?_ _)); exact BK468.out), GW468.out, GE468.out, NB459_468.out, NB468_459.out, NB460_468.out, NB468_460.out, (by repeat (first | (with_reducible first | exact HB.out | apply below_alloc | apply pw_below_drewN | apply below_drew1 | refine below_set ?_ GE459.out | refine below_set ?_ GE460.out | refine below_set ?_ GE468.out) | exact HB.out))⟩)
      · skip
        refine box_step ?hg (N := 14) ?hd (cs := #[.slice none 0 0, .slice none 0 0]) (t := 25) ?hr ?_; (case hd => rfl); (case hg => rfl); (case hr => first | (go_simp; done) | (go_simp; rfl))
        intro gb468 hg w18 hbox hb
        have n0_ := Aside0.mk (blk_below (g := gb459) (o := .cells #[.slice A0_0 l0_0.length c0_0, .slice A0_1 l0_1.length c0_1] 25 (0, 0)) (by (with_reducible repeat (first | refine blk_drewN ?_ _ | refine blk_drew ?_ | refine blk_alloc ?_ _)); exact BK459.out) hb)
        have n1_ := Aside0.mk (blk_below (g := gb460) (o := .cells #[.slice none 0 0, .slice none 0 0] 25 (0, 0)) (by (with_reducible repeat (first | refine blk_drewN ?_ _ | refine blk_drew ?_ | refine blk_alloc ?_ _)); exact BK460.out) hb)
        have n2_ := Aside0.mk (below_step (by repeat (first | (with_reducible first | exact HB.out | apply below_alloc | apply pw_below_drewN | apply below_drew1 | refine below_set ?_ GE459.out | refine below_set ?_ GE460.out) | exact HB.out)) hb)
        have n3_ := Aside0.mk (hbox)
        have n4_ := Aside0.mk ((by rw [hg]; exact (below_size (by repeat (first | (with_reducible first | exact HB.out | apply below_alloc | apply pw_below_drewN | apply below_drew1 | refine below_set ?_ GE459.out | refine below_set ?_ GE460.out) | exact HB.out))) : w.heap.size ≤ gb468))
        have n5_ := Aside0.mk ((by rw [hg]; exact (below_size (by repeat (first | (with_reducible first | exact HB.out | apply below_alloc | apply pw_below_drewN | apply below_drew1 | refine below_set ?_ GE459.out | refine below_set ?_ GE460.out) | exact HB.out))) : w.heap.size ≤ gb468))
        have n6_ := Aside0.mk ((by rw [hg]; exact Nat.ne_of_lt (blk_lt (g := gb459) (o := .cells #[.slice A0_0 l0_0.length c0_0, .slice A0_1 l0_1.length c0_1] 25 (0, 0)) (by (with_reducible repeat (first | refine blk_drewN ?_ _ | refine blk_drew ?_ | refine blk_alloc ?_ _)); exact BK459.out)) : gb459 ≠ gb468))
        have n7_ := Aside0.mk ((by rw [hg]; exact Nat.ne_of_gt (blk_lt (g := gb459) (o := .cells #[.slice A0_0 l0_0.length c0_0, .slice A0_1 l0_1.length c0_1] 25 (0, 0)) (by (with_reducible repeat (first | refine blk_drewN ?_ _ | refine blk_drew ?_ | refine blk_alloc ?_ _)); exact BK459.out)) : gb468 ≠ gb459))
        have n8_ := Aside0.mk ((by rw [hg]; exact Nat.ne_of_lt (blk_lt (g := gb460) (o := .cells #[.slice none 0 0, .slice none 0 0] 25 (0, 0)) (by (with_reducible repeat (first | refine blk_drewN ?_ _ | refine blk_drew ?_ | refine blk_alloc ?_ _)); exact BK460.out)) : gb460 ≠ gb468))
        have n9_ := Aside0.mk ((by rw [hg]; exact Nat.ne_of_gt (blk_lt (g := gb460) (o := .cells #[.slice none 0 0, .slice none 0 0] 25 (0, 0)) (by (with_reducible repeat (first | refine blk_drewN ?_ _ | refine blk_drew ?_ | refine blk_alloc ?_ _)); exact BK460.out)) : gb468 ≠ gb460))
        clear BK459
        clear BK460
        clear HB
        have BK459 := n0_
        have BK460 := n1_
        have HB := n2_
        have BK468 := n3_
        have GW468 := n4_
        have GE468 := n5_
        have NB459_468 := n6_
        have NB468_459 := n7_
        have NB460_468 := n8_
        have NB468_460 := n9_
        clear n0_ n1_ n2_ n3_ n4_ n5_ n6_ n7_ n8_ n9_
        clear hb hbox hg
        refine hK.out _ _ ⟨(blk_cell BK459.out 0).trans rfl, (blk_cell BK459.out 1).trans rfl⟩ (fun hHeld => ?_)
        clear hK K
        refine norm_ (a' := ?_) ?_ ?_
        rotate_left
        · show Act.put _ (some 14) _ = _
          simp only [Act.put, List.setIfInBounds_toArray, List.set_cons_zero, List.set_cons_succ, i64_w, i32_w]
          rfl
        refine one_ (i := 2) (N := some 31) #[true, true, true, true, true, false, false, true, false] rfl rfl (one_of HT_.out (by kernel_rfl)) (by decide) (fun K hK => ?_)
        refine goes_ Try.func57 (by kernel_rfl) rfl #[.slice A0_0 l0_0.length c0_0] (by rfl) rfl rfl (by (try simp only [List.map_toArray, List.map_cons, List.map_nil]); first | done | rfl | (simp only [List.length_drop, List.length_take]; rfl)) ?_
        with_reducible refine (slices_Clone_string_string.calls _ _ l0_0 t462 _ ?side1 ?side2 A8.out).mono ?_
        (case side1 => repeat (first | exact (Kd.C_below HR0_0.out HB.out) | (with_reducible refine Kd.C_alloc ?_ _) | (with_reducible refine Kd.C_drewN ?_ _) | (with_reducible refine Kd.C_drew ?_)))
        (case side2 => exact HC0_0.out)
        rintro e w19 ⟨v463, rfl, ho0, hb⟩
        refine ⟨_, rfl, ?_⟩
        have n0_ := Aside0.mk (Kd.R_lower ho0 (below_size (by repeat (first | (with_reducible first | exact HB.out | apply below_alloc | apply pw_below_drewN | apply below_drew1 | refine below_set ?_ GE459.out | refine below_set ?_ GE460.out | refine below_set ?_ GE468.out) | exact HB.out))))
        have n1_ := Aside0.mk (blk_below (g := gb459) (o := .cells #[.slice A0_0 l0_0.length c0_0, .slice A0_1 l0_1.length c0_1] 25 (0, 0)) (by (with_reducible repeat (first | refine blk_drewN ?_ _ | refine blk_drew ?_ | refine blk_alloc ?_ _)); exact BK459.out) hb)
        have n2_ := Aside0.mk (blk_below (g := gb460) (o := .cells #[.slice none 0 0, .slice none 0 0] 25 (0, 0)) (by (with_reducible repeat (first | refine blk_drewN ?_ _ | refine blk_drew ?_ | refine blk_alloc ?_ _)); exact BK460.out) hb)
        have n3_ := Aside0.mk (blk_below (g := gb468) (o := .cells #[.slice none 0 0, .slice none 0 0] 25 (0, 0)) (by (with_reducible repeat (first | refine blk_drewN ?_ _ | refine blk_drew ?_ | refine blk_alloc ?_ _)); exact BK468.out) hb)
        have n4_ := Aside0.mk (below_step (by repeat (first | (with_reducible first | exact HB.out | apply below_alloc | apply pw_below_drewN | apply below_drew1 | refine below_set ?_ GE459.out | refine below_set ?_ GE460.out | refine below_set ?_ GE468.out) | exact HB.out)) hb)
        clear BK459
        clear BK460
        clear BK468
        clear HB
        have HO464 := n0_
        have BK459 := n1_
        have BK460 := n2_
        have BK468 := n3_
        have HB := n4_
        clear n0_ n1_ n2_ n3_ n4_
        (try clear hb)
        (try clear hb2)
        (try clear hk)
        (try clear hi)
        (try clear ho0)
        refine hK.out _ _ ⟨(blk_cell BK459.out 0).trans rfl, (blk_cell BK459.out 1).trans rfl⟩ (fun hHeld => ?_)
        clear hK K
        refine norm_ (a' := ?_) ?_ ?_
        rotate_left
        · show Act.put _ (some 31) _ = _
          simp only [Act.put, List.setIfInBounds_toArray, List.set_cons_zero, List.set_cons_succ, i64_w, i32_w]
          rfl
        refine one_ (i := 5) (N := some 34) #[true, true, true, true, true, true, false, true, false] rfl rfl (one_of HT_.out (by kernel_rfl)) (by decide) (fun K hK => ?_)
        refine goes_ Try.func43 (by kernel_rfl) rfl #[.slice A0_1 l0_1.length c0_1] (by rfl) rfl rfl (by (try simp only [List.map_toArray, List.map_cons, List.map_nil]); first | done | rfl | (simp only [List.length_drop, List.length_take]; rfl)) ?_
        with_reducible refine (slices_Clone_WN.calls _ _ l0_1 t465 _ ?side1 ?side2 A9.out).mono ?_
        (case side1 => repeat (first | exact (Kd.C_below HR0_1.out HB.out) | (with_reducible refine Kd.C_alloc ?_ _) | (with_reducible refine Kd.C_drewN ?_ _) | (with_reducible refine Kd.C_drew ?_)))
        (case side2 => exact HC0_1.out)
        rintro e w20 ⟨v466, rfl, ho0, hb⟩
        refine ⟨_, rfl, ?_⟩
        have n0_ := Aside0.mk (Kd.R_below (by (with_reducible repeat (first | apply Kd.R_alloc | apply Kd.R_drewN | apply Kd.R_drew)); exact HO464.out) hb)
        have n1_ := Aside0.mk (Kd.R_lower ho0 (below_size (by repeat (first | (with_reducible first | exact HB.out | apply below_alloc | apply pw_below_drewN | apply below_drew1 | refine below_set ?_ GE459.out | refine below_set ?_ GE460.out | refine below_set ?_ GE468.out) | exact HB.out))))
        have n2_ := Aside0.mk (blk_below (g := gb459) (o := .cells #[.slice A0_0 l0_0.length c0_0, .slice A0_1 l0_1.length c0_1] 25 (0, 0)) (by (with_reducible repeat (first | refine blk_drewN ?_ _ | refine blk_drew ?_ | refine blk_alloc ?_ _)); exact BK459.out) hb)
        have n3_ := Aside0.mk (blk_below (g := gb460) (o := .cells #[.slice none 0 0, .slice none 0 0] 25 (0, 0)) (by (with_reducible repeat (first | refine blk_drewN ?_ _ | refine blk_drew ?_ | refine blk_alloc ?_ _)); exact BK460.out) hb)
        have n4_ := Aside0.mk (blk_below (g := gb468) (o := .cells #[.slice none 0 0, .slice none 0 0] 25 (0, 0)) (by (with_reducible repeat (first | refine blk_drewN ?_ _ | refine blk_drew ?_ | refine blk_alloc ?_ _)); exact BK468.out) hb)
        have n5_ := Aside0.mk (below_step (by repeat (first | (with_reducible first | exact HB.out | apply below_alloc | apply pw_below_drewN | apply below_drew1 | refine below_set ?_ GE459.out | refine below_set ?_ GE460.out | refine below_set ?_ GE468.out) | exact HB.out)) hb)
        clear HO464
        clear BK459
        clear BK460
        clear BK468
        clear HB
        have HO464 := n0_
        have HO467 := n1_
        have BK459 := n2_
        have BK460 := n3_
        have BK468 := n4_
        have HB := n5_
        clear n0_ n1_ n2_ n3_ n4_ n5_
        (try clear hb)
        (try clear hb2)
        (try clear hk)
        (try clear hi)
        (try clear ho0)
        obtain ⟨Ao21, co21, eo21⟩ := Kd.R_slice HO467.out
        (first | subst eo21 | (injection eo21 with f1_ f2_ f3_; have f4_ := f1_.symm; have f5_ := f3_.symm; clear f1_ f2_ f3_; subst f4_; subst f5_))
        obtain ⟨Ao22, co22, eo22⟩ := Kd.R_slice HO464.out
        (first | subst eo22 | (injection eo22 with f1_ f2_ f3_; have f4_ := f1_.symm; have f5_ := f3_.symm; clear f1_ f2_ f3_; subst f4_; subst f5_))
        refine hK.out _ _ ⟨(blk_cell BK459.out 0).trans rfl, (blk_cell BK459.out 1).trans rfl⟩ (fun hHeld => ?_)
        clear hK K
        refine norm_ (a' := ?_) ?_ ?_
        rotate_left
        · show Act.put _ (some 34) _ = _
          simp only [Act.put, List.setIfInBounds_toArray, List.set_cons_zero, List.set_cons_succ, i64_w, i32_w]
          rfl
        refine pure_ (i := 6) (N := some 35) (v := ?_) (a' := ?_) #[true, true, true, true, true, true, true, true, false] rfl rfl (any_of HT_.out (by kernel_rfl)) (fun _ _ _ h => h) (Or.inl ⟨by rfl, ?_⟩) ?_ ?_
        rotate_left
        · intro w'
          go_simp
          with_reducible rfl
        rotate_left
        · simp only [Act.put, List.setIfInBounds_toArray, List.set_cons_zero, List.set_cons_succ, i64_w, i32_w]
          rfl
        exact norm_ (by simp only [putAll, Act.put, List.setIfInBounds_toArray, List.set_cons_zero, List.set_cons_succ]) (hCont (.slice Ao22 t462.length co22, .slice Ao21 t465.length co21, gb468) _ ⟨hHeld, (by (with_reducible repeat (first | apply Kd.R_alloc | apply Kd.R_drewN | apply Kd.R_drew)); exact HO464.out), (by (with_reducible repeat (first | apply Kd.R_alloc | apply Kd.R_drewN | apply Kd.R_drew)); exact HO467.out), (by (with_reducible repeat (first | refine blk_drewN ?_ _ | refine blk_drew ?_ | refine blk_alloc ?_ _)); exact BK459.out), (by (with_reducible repeat (first | refine blk_drewN ?_ _ | refine blk_drew ?_ | refine blk_alloc ?_ _)); exact BK460.out), (by (with_reducible repeat (first | refine blk_drewN ?_ _ | refine blk_drew ?_ | refine blk_alloc ?_ _)); exact BK468.out), GW468.out, GE468.out, NB459_468.out, NB468_459.out, NB460_468.out, NB468_460.out, (by repeat (first | (with_reducible first | exact HB.out | apply below_alloc | apply pw_below_drewN | apply below_drew1 | refine below_set ?_ GE459.out | refine below_set ?_ GE460.out | refine below_set ?_ GE468.out) | exact HB.out))⟩)
    rintro ⟨v463, v466, gb468⟩ w23 ⟨hS_, h0_, h1_, h2_, h3_, h4_, h5_, h6_, h7_, h8_, h9_, h10_, h11_⟩
    have n0_ : Aside0 (Kd.R Kd.string 9 w23 w.heap.size (fun _ => True) v463 t462) := ⟨h0_⟩
    have n1_ : Aside0 (Kd.R k40 40 w23 w.heap.size (fun _ => True) v466 t465) := ⟨h1_⟩
    have n2_ : Aside0 (w23.heap[gb459]? = some (.cells #[.slice A0_0 l0_0.length c0_0, .slice A0_1 l0_1.length c0_1] 25 (0, 0))) := ⟨h2_⟩
    have n3_ : Aside0 (w23.heap[gb460]? = some (.cells #[.slice none 0 0, .slice none 0 0] 25 (0, 0))) := ⟨h3_⟩
    have n4_ : Aside0 (w23.heap[gb468]? = some (.cells #[.slice none 0 0, .slice none 0 0] 25 (0, 0))) := ⟨h4_⟩
    have n5_ : Aside0 (w.heap.size ≤ gb468) := ⟨h5_⟩
    have n6_ : Aside0 (w.heap.size ≤ gb468) := ⟨h6_⟩
    have n7_ : Aside0 (gb459 ≠ gb468) := ⟨h7_⟩
    have n8_ : Aside0 (gb468 ≠ gb459) := ⟨h8_⟩
    have n9_ : Aside0 (gb460 ≠ gb468) := ⟨h9_⟩
    have n10_ : Aside0 (gb468 ≠ gb460) := ⟨h10_⟩
    have n11_ : Aside0 (Below w.heap.size w w23) := ⟨h11_⟩
    clear BK459
    clear BK460
    clear HB
    clear h0_ h1_ h2_ h3_ h4_ h5_ h6_ h7_ h8_ h9_ h10_ h11_
    have HO464 := n0_
    have HO467 := n1_
    have BK459 := n2_
    have BK460 := n3_
    have BK468 := n4_
    have GW468 := n5_
    have GE468 := n6_
    have NB459_468 := n7_
    have NB468_459 := n8_
    have NB460_468 := n9_
    have NB468_460 := n10_
    have HB := n11_
    clear n0_ n1_ n2_ n3_ n4_ n5_ n6_ n7_ n8_ n9_ n10_ n11_
    have hHeld : w23.cell? ⟨gb459, 0, none⟩ = some (.slice A0_0 l0_0.length c0_0) ∧ w23.cell? ⟨gb459, 1, none⟩ = some (.slice A0_1 l0_1.length c0_1) := hS_
    obtain ⟨Ao24, co24, eo24⟩ := Kd.R_slice HO467.out
    (first | subst eo24 | (injection eo24 with f1_ f2_ f3_; have f4_ := f1_.symm; have f5_ := f3_.symm; clear f1_ f2_ f3_; subst f4_; subst f5_))
    obtain ⟨Ao25, co25, eo25⟩ := Kd.R_slice HO464.out
    (first | subst eo25 | (injection eo25 with f1_ f2_ f3_; have f4_ := f1_.symm; have f5_ := f3_.symm; clear f1_ f2_ f3_; subst f4_; subst f5_))
    refine norm_ (a' := ?_) ?_ ?_
    rotate_left
    · simp only [putAll, Act.put, List.setIfInBounds_toArray, List.set_cons_zero, List.set_cons_succ]
      rfl
    refine one_ (i := 8) (N := none) #[true, true, true, true, true, true, true, true, true] rfl rfl (one_of HT_.out (by kernel_rfl)) (by decide) (fun K hK => ?_)
    have hs26 : w23.cell? ⟨gb468, 0, none⟩ = some (.slice none 0 0) := (blk_cell BK468.out 0).trans rfl
    have hfs26 := blk_frozen BK468.out 0
    have hns26_0 := NB459_468.out
    have hns26_1 := NB460_468.out
    have hms26_0 := NB468_459.out
    have hms26_1 := NB468_460.out
    have hs27 : w23.cell? ⟨gb468, 1, none⟩ = some (.slice none 0 0) := (blk_cell BK468.out 1).trans rfl
    have hfs27 := blk_frozen BK468.out 1
    have hns27_0 := NB459_468.out
    have hns27_1 := NB460_468.out
    have hms27_0 := NB468_459.out
    have hms27_1 := NB468_460.out
    refine skip_ (w1 := ?_) (by rfl) rfl ?_ ?_
    rotate_left
    · go_simp
      rfl
    refine hK.out _ _ ⟨((cell_far (p := ⟨gb468, _, none⟩) NB459_468.out _).trans (((cell_far (p := ⟨gb468, _, none⟩) NB459_468.out _).trans (hHeld.1)))), ((cell_far (p := ⟨gb468, _, none⟩) NB459_468.out _).trans (((cell_far (p := ⟨gb468, _, none⟩) NB459_468.out _).trans (hHeld.2))))⟩ (fun hHeld => ?_)
    clear hK K
    refine done_ (done_of HT_.out (by kernel_rfl)) ?_
    try go_wp2
    go_loopg [4, 44] k (fun kq v4 v44 w' => ∃ (x4_1 : Int) (x44_1 : Int) (x469000_1 : List ByteArray) (x469001_1 : List (S40)) (u469000 : Value) (u469001 : Value), v4 = .int .i64 x4_1 ∧ v44 = .int .i64 x44_1 ∧ Aside0 (wal_All.l0 kq a1 a2 x4_1 l3 (l3.length : Int) x44_1 x469000_1 x469001_1 = some (r1, r2, r3, r4)) ∧ Aside0 (kq ≤ k) ∧ Aside0 (Kd.R Kd.string 9 w' w.heap.size (fun _ => True) u469000 x469000_1) ∧ Aside0 (Kd.R k40 40 w' w.heap.size (fun _ => True) u469001 x469001_1) ∧ Aside0 (w'.heap[gb459]? = some (.cells #[(.slice A0_0 l0_0.length c0_0), (.slice A0_1 l0_1.length c0_1)] 25 (0, 0))) ∧ Aside0 (w'.heap[gb460]? = some (.cells #[(.slice none 0 0), (.slice none 0 0)] 25 (0, 0))) ∧ Aside0 (w'.heap[gb468]? = some (.cells #[u469000, u469001] 25 (0, 0))) ∧ Aside0 (Below w.heap.size w w'))
    case atStart => exact ⟨(ji11), (0), (t462), (t465), (.slice Ao25 t462.length co25), (.slice Ao24 t465.length co24), (by first | rfl | (simp; done) | (simp only [← hji11] <;> (first | rfl | simp)) | (simp [*]; done)), (by first | rfl | (simp; done) | (simp [*]; done)), H', ⟨Nat.le_refl _⟩, ⟨by (with_reducible repeat (first | apply Kd.R_alloc | apply Kd.R_drewN | apply Kd.R_drew)); exact Kd.R_mono (Kd.R_far (p := ⟨gb468, 1, none⟩) (Kd.R_far (p := ⟨gb468, 0, none⟩) (Kd.R_types HO464.out BK468.out (by decide)) (fun _ hk => hk.2) (.slice Ao25 t462.length co25)) (fun _ hk => hk.2) (.slice Ao24 t465.length co24)) (fun _ hk => trivial)⟩, ⟨by (with_reducible repeat (first | apply Kd.R_alloc | apply Kd.R_drewN | apply Kd.R_drew)); exact Kd.R_mono (Kd.R_far (p := ⟨gb468, 1, none⟩) (Kd.R_far (p := ⟨gb468, 0, none⟩) (Kd.R_types HO467.out BK468.out (by decide)) (fun _ hk => hk.2) (.slice Ao25 t462.length co25)) (fun _ hk => hk.2) (.slice Ao24 t465.length co24)) (fun _ hk => trivial)⟩, ⟨by (with_reducible repeat (first | refine blk_drewN ?_ _ | refine blk_drew ?_ | refine blk_alloc ?_ _)); refine blk_far ?_ NB459_468.out _; (with_reducible repeat (first | refine blk_drewN ?_ _ | refine blk_drew ?_ | refine blk_alloc ?_ _)); refine blk_far ?_ NB459_468.out _; (with_reducible repeat (first | refine blk_drewN ?_ _ | refine blk_drew ?_ | refine blk_alloc ?_ _)); exact BK459.out⟩, ⟨by (with_reducible repeat (first | refine blk_drewN ?_ _ | refine blk_drew ?_ | refine blk_alloc ?_ _)); refine blk_far ?_ NB460_468.out _; (with_reducible repeat (first | refine blk_drewN ?_ _ | refine blk_drew ?_ | refine blk_alloc ?_ _)); refine blk_far ?_ NB460_468.out _; (with_reducible repeat (first | refine blk_drewN ?_ _ | refine blk_drew ?_ | refine blk_alloc ?_ _)); exact BK460.out⟩, ⟨by (with_reducible repeat (first | refine blk_drewN ?_ _ | refine blk_drew ?_ | refine blk_alloc ?_ _)); refine blk_put (cs := #[.slice Ao25 t462.length co25, .slice none 0 0]) ?_ 1 _ rfl; (with_reducible repeat (first | refine blk_drewN ?_ _ | refine blk_drew ?_ | refine blk_alloc ?_ _)); refine blk_put (cs := #[.slice none 0 0, .slice none 0 0]) ?_ 0 _ rfl; (with_reducible repeat (first | refine blk_drewN ?_ _ | refine blk_drew ?_ | refine blk_alloc ?_ _)); exact BK468.out⟩, ⟨by repeat (first | (with_reducible first | exact HB.out | apply below_alloc | apply pw_below_drewN | apply below_drew1 | refine below_set ?_ GE459.out | refine below_set ?_ GE460.out | refine below_set ?_ GE468.out) | exact HB.out)⟩⟩
    case round =>
      clear H'
      try clear c1
      try clear p2
      try clear c3
      try clear c4
      try clear c5
      try clear p6
      try clear c7
      try clear c7b0
      try clear c7b1
      try clear c14
      try clear hcz15_0
      try clear hcz15_1
      try clear hfz15_0
      try clear hfz15_1
      obtain ⟨x4_1, x44_1, x469000_1, x469001_1, u469000, u469001, rfl, rfl, HA, HK1, HO_469000, HO_469001, BK459, BK460, BK468, HB⟩ := hrel
      cases gk with
      | zero => exact absurd HA.out (by simp [wal_All.l0])
      | succ k1 =>
        have H := HA.out
        clear HA
        simp only [wal_All.l0] at H
        by_cases c28 : x44_1 < (l3.length : Int)
        · rw [if_pos c28] at H
          have c28b0 : decide (x44_1 < (l3.length : Int)) = true := decide_eq_true c28
          clear c28
          by_cases c29 : 0 ≤ x44_1
          · rw [if_pos c29] at H
            have c29b0 : decide (0 ≤ x44_1) = true := decide_eq_true c29
            clear c29
            by_cases c30 : x44_1 < (l3.length : Int)
            · rw [if_pos c30] at H
              have c30b0 : decide (x44_1 < (l3.length : Int)) = true := decide_eq_true c30
              clear c30
              by_cases c31 : x4_1 = 0
              · rw [if_pos c31] at H
                have c31b0 : (x4_1 == 0) = true := beq_iff_eq.mpr c31
                have c31b1 : (x4_1 != 0) = false := bne_eq_false_iff_eq.mpr c31
                clear c31
                simp only [Option.some.injEq, Prod.mk.injEq] at H
                obtain ⟨rfl, rfl, rfl, rfl⟩ := H
                have p477 : 0 ≤ (x44_1 : Int) := of_decide_eq_true (by first | (with_reducible assumption) | assumption)
                have q477 : x44_1 < (l3.length : Int) := of_decide_eq_true (by first | (with_reducible assumption) | assumption)
                obtain ⟨ad477, e477, hx477_0⟩ := Kd.at_string HR3.out x44_1 p477 q477
                cases e477
                replace hx477_0 := (HB.out.cell (World.block_lt_of_cell? w _ hx477_0)).trans hx477_0
                replace p477 := eq_true p477
                replace q477 := eq_true q477
                have hnb32 := NB468_459.out
                have hnc32 := NB459_468.out
                have hnb33 := NB468_460.out
                have hnc33 := NB460_468.out
                have hcz34_0 : wr.cell? ⟨gb468, 0, none⟩ = some (u469000) := (blk_cell BK468.out 0).trans rfl
                have hcz34_1 : wr.cell? ⟨gb468, 1, none⟩ = some (u469001) := (blk_cell BK468.out 1).trans rfl
                have hfz34_0 := blk_frozen BK468.out 0
                have hfz34_1 := blk_frozen BK468.out 1
                obtain ⟨Ao35, co35, eo35⟩ := Kd.R_slice HO_469000.out
                subst eo35
                have hnb36 := NB460_459.out
                have hnc36 := NB459_460.out
                have hcz37_0 : wr.cell? ⟨gb460, 0, none⟩ = some (.slice none 0 0) := (blk_cell BK460.out 0).trans rfl
                have hcz37_1 : wr.cell? ⟨gb460, 1, none⟩ = some (.slice none 0 0) := (blk_cell BK460.out 1).trans rfl
                have hfz37_0 := blk_frozen BK460.out 0
                have hfz37_1 := blk_frozen BK460.out 1
                obtain ⟨Ao38, co38, eo38⟩ := Kd.R_slice HO_469001.out
                subst eo38
                go_wp2
                refine bodyPost_ret (results_ctt rfl _ _ gb460 25 #[.slice Ao35 x469000_1.length co35, .slice Ao38 x469001_1.length co38] (0, 0) _ rfl (by (with_reducible repeat (first | refine blk_drewN ?_ _ | refine blk_drew ?_ | refine blk_alloc ?_ _)); refine blk_put (cs := #[.slice Ao35 x469000_1.length co35, .slice none 0 0]) ?_ 1 _ rfl; (with_reducible repeat (first | refine blk_drewN ?_ _ | refine blk_drew ?_ | refine blk_alloc ?_ _)); refine blk_put (cs := #[.slice none 0 0, .slice none 0 0]) ?_ 0 _ rfl; (with_reducible repeat (first | refine blk_drewN ?_ _ | refine blk_drew ?_ | refine blk_alloc ?_ _)); exact BK460.out) Try.underlying25 rfl (by kernel_rfl)) rfl ?_
                exact ⟨_, _, by first | rfl | (simp [errW_none, errW_some] <;> rfl) | (simp only [← hji10, ← hji11]; first | rfl | (simp [errW_none, errW_some] <;> rfl)) | (simp [*, errW_none, errW_some] <;> rfl), by (with_reducible repeat (first | apply Kd.R_alloc | apply Kd.R_drewN | apply Kd.R_drew)); exact Kd.R_mono (Kd.R_far (p := ⟨gb460, 1, none⟩) (Kd.R_far (p := ⟨gb460, 0, none⟩) (Kd.R_types HO_469000.out BK460.out (by decide)) (fun _ hk => hk.2) (.slice Ao35 x469000_1.length co35)) (fun _ hk => hk.2) (.slice Ao38 x469001_1.length co38)) (fun _ hk => trivial), by (with_reducible repeat (first | apply Kd.R_alloc | apply Kd.R_drewN | apply Kd.R_drew)); exact Kd.R_mono (Kd.R_far (p := ⟨gb460, 1, none⟩) (Kd.R_far (p := ⟨gb460, 0, none⟩) (Kd.R_types HO_469001.out BK460.out (by decide)) (fun _ hk => hk.2) (.slice Ao35 x469000_1.length co35)) (fun _ hk => hk.2) (.slice Ao38 x469001_1.length co38)) (fun _ hk => trivial), by repeat (first | (with_reducible first | exact HB.out | apply below_alloc | apply pw_below_drewN | apply below_drew1 | refine below_set ?_ GE459.out | refine below_set ?_ GE460.out | refine below_set ?_ GE468.out) | exact HB.out)⟩
              · rw [if_neg c31] at H
                have c31b0 : (x4_1 == 0) = false := beq_eq_false_iff_ne.mpr c31
                have c31b1 : (x4_1 != 0) = true := bne_iff_ne.mpr c31
                replace H := Option.bind_eq_some_iff.mp H
                obtain ⟨⟨t478, t481, t484⟩, A390, H⟩ := H
                replace H : (if t484 = 0 then (if x4_1 > 0 then (wal_All.l0 k1 a1 a2 (wrap64 (x4_1 - 1)) l3 (l3.length : Int) (wrap64 (x44_1 + 1)) t478 t481) else (wal_All.l0 k1 a1 a2 x4_1 l3 (l3.length : Int) (wrap64 (x44_1 + 1)) t478 t481)) else (some (([] : List ByteArray), ([] : List (S40)), false, t484))) = some (r1, r2, r3, r4) := H
                have A39 := Aside0.mk A390
                clear A390
                by_cases c40 : t484 = 0
                · rw [if_pos c40] at H
                  have c40b0 : (t484 == 0) = true := beq_iff_eq.mpr c40
                  have c40b1 : (t484 != 0) = false := bne_eq_false_iff_eq.mpr c40
                  clear c40
                  by_cases c41 : x4_1 > 0
                  · rw [if_pos c41] at H
                    have c41b0 : decide (0 < x4_1) = true := decide_eq_true c41
                    clear c41
                    have H' := Aside0.mk H
                    clear H
                    have p477 : 0 ≤ (x44_1 : Int) := of_decide_eq_true (by first | (with_reducible assumption) | assumption)
                    have q477 : x44_1 < (l3.length : Int) := of_decide_eq_true (by first | (with_reducible assumption) | assumption)
                    obtain ⟨ad477, e477, hx477_0⟩ := Kd.at_string HR3.out x44_1 p477 q477
                    cases e477
                    replace hx477_0 := (HB.out.cell (World.block_lt_of_cell? w _ hx477_0)).trans hx477_0
                    replace p477 := eq_true p477
                    replace q477 := eq_true q477
                    have hnb42 := NB468_459.out
                    have hnc42 := NB459_468.out
                    have hnb43 := NB468_460.out
                    have hnc43 := NB460_468.out
                    have hcz44_0 : wr.cell? ⟨gb468, 0, none⟩ = some (u469000) := (blk_cell BK468.out 0).trans rfl
                    have hcz44_1 : wr.cell? ⟨gb468, 1, none⟩ = some (u469001) := (blk_cell BK468.out 1).trans rfl
                    have hfz44_0 := blk_frozen BK468.out 0
                    have hfz44_1 := blk_frozen BK468.out 1
                    obtain ⟨Ao45, co45, eo45⟩ := Kd.R_slice HO_469000.out
                    subst eo45
                    obtain ⟨Ao46, co46, eo46⟩ := Kd.R_slice HO_469001.out
                    subst eo46
                    go_wp2_with (first | ((with_reducible refine gate_callee (f := 31) rfl ?_); refine goesL_ (some 56) rfl rfl Try.func31 (by kernel_rfl) rfl #[.agg #[.slice Ao45 x469000_1.length co45, .slice Ao46 x469001_1.length co46], .int .i64 a1, .int .i64 a2, .string (rdOf ByteArray.empty l3 x44_1)] rfl (by (try simp only [List.map_toArray, List.map_cons, List.map_nil]); first | done | rfl | (simp only [List.length_drop, List.length_take]; rfl)) ?_; (with_reducible refine (wal_Append.calls _ _ x469000_1 _ _ x469001_1 a1 a2 (rdOf ByteArray.empty l3 x44_1) t478 t481 t484 _ ?side1 ?side2 ?side3 ?side4 A39.out).mono ?_); (case side1 => repeat (first | exact (Kd.R_reads' HO_469000.out).2.2 | (with_reducible refine Kd.C_alloc ?_ _) | (with_reducible refine Kd.C_drewN ?_ _) | (with_reducible refine Kd.C_drew ?_))); (case side2 => exact (Kd.R_reads' HO_469000.out).2.1); (case side3 => repeat (first | exact (Kd.R_reads' HO_469001.out).2.2 | (with_reducible refine Kd.C_alloc ?_ _) | (with_reducible refine Kd.C_drewN ?_ _) | (with_reducible refine Kd.C_drew ?_))); (case side4 => exact (Kd.R_reads' HO_469001.out).2.1); rintro e w47 ⟨v479, v482, rfl, ho0, ho1, hb⟩; refine ⟨_, rfl, ?_⟩; have n0_ := Aside0.mk (Kd.R_elder' (by (with_reducible repeat (first | apply Kd.R_alloc | apply Kd.R_drewN | apply Kd.R_drew)); exact HO_469000.out) (Kd.R_base ho0) hb); have n1_ := Aside0.mk (Kd.R_elder' (by (with_reducible repeat (first | apply Kd.R_alloc | apply Kd.R_drewN | apply Kd.R_drew)); exact HO_469001.out) (Kd.R_base ho1) hb); have n2_ := Aside0.mk (Kd.R_lower (Kd.R_new' ho0 (Kd.R_lt (by (with_reducible repeat (first | apply Kd.R_alloc | apply Kd.R_drewN | apply Kd.R_drew)); exact HO_469000.out))) (below_size (by repeat (first | (with_reducible first | exact HB.out | apply below_alloc | apply pw_below_drewN | apply below_drew1 | refine below_set ?_ GE459.out | refine below_set ?_ GE460.out | refine below_set ?_ GE468.out) | exact HB.out)))); have n3_ := Aside0.mk (Kd.R_lower (Kd.R_new' ho1 (Kd.R_lt (by (with_reducible repeat (first | apply Kd.R_alloc | apply Kd.R_drewN | apply Kd.R_drew)); exact HO_469001.out))) (below_size (by repeat (first | (with_reducible first | exact HB.out | apply below_alloc | apply pw_below_drewN | apply below_drew1 | refine below_set ?_ GE459.out | refine below_set ?_ GE460.out | refine below_set ?_ GE468.out) | exact HB.out)))); have n4_ := Aside0.mk (blk_below (g := gb459) (o := .cells #[.slice A0_0 l0_0.length c0_0, .slice A0_1 l0_1.length c0_1] 25 (0, 0)) (by (with_reducible repeat (first | refine blk_drewN ?_ _ | refine blk_drew ?_ | refine blk_alloc ?_ _)); exact BK459.out) hb); have n5_ := Aside0.mk (blk_below (g := gb460) (o := .cells #[.slice none 0 0, .slice none 0 0] 25 (0, 0)) (by (with_reducible repeat (first | refine blk_drewN ?_ _ | refine blk_drew ?_ | refine blk_alloc ?_ _)); exact BK460.out) hb); have n6_ := Aside0.mk (blk_below (g := gb468) (o := .cells #[.slice Ao45 x469000_1.length co45, .slice Ao46 x469001_1.length co46] 25 (0, 0)) (by (with_reducible repeat (first | refine blk_drewN ?_ _ | refine blk_drew ?_ | refine blk_alloc ?_ _)); exact BK468.out) hb); have n7_ := Aside0.mk (below_step (by repeat (first | (with_reducible first | exact HB.out | apply below_alloc | apply pw_below_drewN | apply below_drew1 | refine below_set ?_ GE459.out | refine below_set ?_ GE460.out | refine below_set ?_ GE468.out) | exact HB.out)) hb); clear HO_469000; clear HO_469001; clear BK459; clear BK460; clear BK468; clear HB; have HO_469000 := n0_; have HO_469001 := n1_; have HO480 := n2_; have HO483 := n3_; have BK459 := n4_; have BK460 := n5_; have BK468 := n6_; have HB := n7_; clear n0_ n1_ n2_ n3_ n4_ n5_ n6_ n7_; (try clear hb); (try clear hb2); (try clear hk); (try clear hi); (try clear ho0); (try clear ho1)) | ((with_reducible refine gate_dst (N := 17) rfl ?_); refine box_event ?hg (N := 17) ?hd (cs := #[.slice none 0 0, .slice none 0 0]) (t := 25) ?hr ?_; (case hd => rfl); (case hg => rfl); (case hr => first | (go_simp; done) | (go_simp; rfl)); intro gb485 hg w48 hbox hb; have n0_ := Aside0.mk (Kd.R_below (by (with_reducible repeat (first | apply Kd.R_alloc | apply Kd.R_drewN | apply Kd.R_drew)); exact HO_469000.out) hb); have n1_ := Aside0.mk (Kd.R_below (by (with_reducible repeat (first | apply Kd.R_alloc | apply Kd.R_drewN | apply Kd.R_drew)); exact HO_469001.out) hb); have n2_ := Aside0.mk (Kd.R_below (by (with_reducible repeat (first | apply Kd.R_alloc | apply Kd.R_drewN | apply Kd.R_drew)); exact HO480.out) hb); have n3_ := Aside0.mk (Kd.R_below (by (with_reducible repeat (first | apply Kd.R_alloc | apply Kd.R_drewN | apply Kd.R_drew)); exact HO483.out) hb); have n4_ := Aside0.mk (blk_below (g := gb459) (o := .cells #[.slice A0_0 l0_0.length c0_0, .slice A0_1 l0_1.length c0_1] 25 (0, 0)) (by (with_reducible repeat (first | refine blk_drewN ?_ _ | refine blk_drew ?_ | refine blk_alloc ?_ _)); exact BK459.out) hb); have n5_ := Aside0.mk (blk_below (g := gb460) (o := .cells #[.slice none 0 0, .slice none 0 0] 25 (0, 0)) (by (with_reducible repeat (first | refine blk_drewN ?_ _ | refine blk_drew ?_ | refine blk_alloc ?_ _)); exact BK460.out) hb); have n6_ := Aside0.mk (blk_below (g := gb468) (o := .cells #[.slice Ao45 x469000_1.length co45, .slice Ao46 x469001_1.length co46] 25 (0, 0)) (by (with_reducible repeat (first | refine blk_drewN ?_ _ | refine blk_drew ?_ | refine blk_alloc ?_ _)); exact BK468.out) hb); have n7_ := Aside0.mk (below_step (by repeat (first | (with_reducible first | exact HB.out | apply below_alloc | apply pw_below_drewN | apply below_drew1 | refine below_set ?_ GE459.out | refine below_set ?_ GE460.out | refine below_set ?_ GE468.out) | exact HB.out)) hb); have n8_ := Aside0.mk (hbox); have n9_ := Aside0.mk ((by rw [hg]; exact (below_size (by repeat (first | (with_reducible first | exact HB.out | apply below_alloc | apply pw_below_drewN | apply below_drew1 | refine below_set ?_ GE459.out | refine below_set ?_ GE460.out | refine below_set ?_ GE468.out) | exact HB.out))) : w.heap.size ≤ gb485)); have n10_ := Aside0.mk ((by rw [hg]; exact (below_size (by repeat (first | (with_reducible first | exact HB.out | apply below_alloc | apply pw_below_drewN | apply below_drew1 | refine below_set ?_ GE459.out | refine below_set ?_ GE460.out | refine below_set ?_ GE468.out) | exact HB.out))) : w.heap.size ≤ gb485)); have n11_ := Aside0.mk ((by rw [hg]; exact Nat.ne_of_lt (blk_lt (g := gb459) (o := .cells #[.slice A0_0 l0_0.length c0_0, .slice A0_1 l0_1.length c0_1] 25 (0, 0)) (by (with_reducible repeat (first | refine blk_drewN ?_ _ | refine blk_drew ?_ | refine blk_alloc ?_ _)); exact BK459.out)) : gb459 ≠ gb485)); have n12_ := Aside0.mk ((by rw [hg]; exact Nat.ne_of_gt (blk_lt (g := gb459) (o := .cells #[.slice A0_0 l0_0.length c0_0, .slice A0_1 l0_1.length c0_1] 25 (0, 0)) (by (with_reducible repeat (first | refine blk_drewN ?_ _ | refine blk_drew ?_ | refine blk_alloc ?_ _)); exact BK459.out)) : gb485 ≠ gb459)); have n13_ := Aside0.mk ((by rw [hg]; exact Nat.ne_of_lt (blk_lt (g := gb460) (o := .cells #[.slice none 0 0, .slice none 0 0] 25 (0, 0)) (by (with_reducible repeat (first | refine blk_drewN ?_ _ | refine blk_drew ?_ | refine blk_alloc ?_ _)); exact BK460.out)) : gb460 ≠ gb485)); have n14_ := Aside0.mk ((by rw [hg]; exact Nat.ne_of_gt (blk_lt (g := gb460) (o := .cells #[.slice none 0 0, .slice none 0 0] 25 (0, 0)) (by (with_reducible repeat (first | refine blk_drewN ?_ _ | refine blk_drew ?_ | refine blk_alloc ?_ _)); exact BK460.out)) : gb485 ≠ gb460)); have n15_ := Aside0.mk ((by rw [hg]; exact Nat.ne_of_lt (blk_lt (g := gb468) (o := .cells #[.slice Ao45 x469000_1.length co45, .slice Ao46 x469001_1.length co46] 25 (0, 0)) (by (with_reducible repeat (first | refine blk_drewN ?_ _ | refine blk_drew ?_ | refine blk_alloc ?_ _)); exact BK468.out)) : gb468 ≠ gb485)); have n16_ := Aside0.mk ((by rw [hg]; exact Nat.ne_of_gt (blk_lt (g := gb468) (o := .cells #[.slice Ao45 x469000_1.length co45, .slice Ao46 x469001_1.length co46] 25 (0, 0)) (by (with_reducible repeat (first | refine blk_drewN ?_ _ | refine blk_drew ?_ | refine blk_alloc ?_ _)); exact BK468.out)) : gb485 ≠ gb468)); clear HO_469000; clear HO_469001; clear HO480; clear HO483; clear BK459; clear BK460; clear BK468; clear HB; have HO_469000 := n0_; have HO_469001 := n1_; have HO480 := n2_; have HO483 := n3_; have BK459 := n4_; have BK460 := n5_; have BK468 := n6_; have HB := n7_; have BK485 := n8_; have GW485 := n9_; have GE485 := n10_; have NB459_485 := n11_; have NB485_459 := n12_; have NB460_485 := n13_; have NB485_460 := n14_; have NB468_485 := n15_; have NB485_468 := n16_; clear n0_ n1_ n2_ n3_ n4_ n5_ n6_ n7_ n8_ n9_ n10_ n11_ n12_ n13_ n14_ n15_ n16_; clear hb hbox hg; obtain ⟨Ao49, co49, eo49⟩ := Kd.R_slice HO480.out; subst eo49; have hnb50 := NB485_459.out; have hnc50 := NB459_485.out; have hnb51 := NB485_460.out; have hnc51 := NB460_485.out; have hnb52 := NB485_468.out; have hnc52 := NB468_485.out; have hcz53_0 : w48.cell? ⟨gb485, 0, none⟩ = some (.slice none 0 0) := (blk_cell BK485.out 0).trans rfl; have hcz53_1 : w48.cell? ⟨gb485, 1, none⟩ = some (.slice none 0 0) := (blk_cell BK485.out 1).trans rfl; have hfz53_0 := blk_frozen BK485.out 0; have hfz53_1 := blk_frozen BK485.out 1; obtain ⟨Ao54, co54, eo54⟩ := Kd.R_slice HO483.out; subst eo54; have hcz55_0 : w48.cell? ⟨gb468, 0, none⟩ = some (.slice Ao45 x469000_1.length co45) := (blk_cell BK468.out 0).trans rfl; have hcz55_1 : w48.cell? ⟨gb468, 1, none⟩ = some (.slice Ao46 x469001_1.length co46) := (blk_cell BK468.out 1).trans rfl; have hfz55_0 := blk_frozen BK468.out 0; have hfz55_1 := blk_frozen BK468.out 1))
                    go_roundg k1
                    case measure => have := HK1.out; omega
                    case rel => exact ⟨(wrap64 (x4_1 - 1)), (wrap64 (x44_1 + 1)), (t478), (t481), (.slice Ao49 t478.length co49), (.slice Ao54 t481.length co54), (by first | rfl | (simp; done) | (simp [*]; done)), (by first | rfl | (simp; done) | (simp [*]; done)), H', ⟨by have := HK1.out; omega⟩, ⟨by (with_reducible repeat (first | apply Kd.R_alloc | apply Kd.R_drewN | apply Kd.R_drew)); exact Kd.R_mono (Kd.R_far (p := ⟨gb468, 1, none⟩) (Kd.R_far (p := ⟨gb468, 0, none⟩) (Kd.R_far (p := ⟨gb485, 1, none⟩) (Kd.R_far (p := ⟨gb485, 0, none⟩) (Kd.R_types (Kd.R_types HO480.out BK485.out (by decide)) BK468.out (by decide)) (fun _ hk => hk.1.2) (.slice Ao49 t478.length co49)) (fun _ hk => hk.1.2) (.slice Ao54 t481.length co54)) (fun _ hk => hk.2) (.slice Ao49 t478.length co49)) (fun _ hk => hk.2) (.slice Ao54 t481.length co54)) (fun _ hk => trivial)⟩, ⟨by (with_reducible repeat (first | apply Kd.R_alloc | apply Kd.R_drewN | apply Kd.R_drew)); exact Kd.R_mono (Kd.R_far (p := ⟨gb468, 1, none⟩) (Kd.R_far (p := ⟨gb468, 0, none⟩) (Kd.R_far (p := ⟨gb485, 1, none⟩) (Kd.R_far (p := ⟨gb485, 0, none⟩) (Kd.R_types (Kd.R_types HO483.out BK485.out (by decide)) BK468.out (by decide)) (fun _ hk => hk.1.2) (.slice Ao49 t478.length co49)) (fun _ hk => hk.1.2) (.slice Ao54 t481.length co54)) (fun _ hk => hk.2) (.slice Ao49 t478.length co49)) (fun _ hk => hk.2) (.slice Ao54 t481.length co54)) (fun _ hk => trivial)⟩, ⟨by (with_reducible repeat (first | refine blk_drewN ?_ _ | refine blk_drew ?_ | refine blk_alloc ?_ _)); refine blk_far ?_ NB459_468.out _; (with_reducible repeat (first | refine blk_drewN ?_ _ | refine blk_drew ?_ | refine blk_alloc ?_ _)); refine blk_far ?_ NB459_468.out _; (with_reducible repeat (first | refine blk_drewN ?_ _ | refine blk_drew ?_ | refine blk_alloc ?_ _)); refine blk_far ?_ NB459_485.out _; (with_reducible repeat (first | refine blk_drewN ?_ _ | refine blk_drew ?_ | refine blk_alloc ?_ _)); refine blk_far ?_ NB459_485.out _; (with_reducible repeat (first | refine blk_drewN ?_ _ | refine blk_drew ?_ | refine blk_alloc ?_ _)); exact BK459.out⟩, ⟨by (with_reducible repeat (first | refine blk_drewN ?_ _ | refine blk_drew ?_ | refine blk_alloc ?_ _)); refine blk_far ?_ NB460_468.out _; (with_reducible repeat (first | refine blk_drewN ?_ _ | refine blk_drew ?_ | refine blk_alloc ?_ _)); refine blk_far ?_ NB460_468.out _; (with_reducible repeat (first | refine blk_drewN ?_ _ | refine blk_drew ?_ | refine blk_alloc ?_ _)); refine blk_far ?_ NB460_485.out _; (with_reducible repeat (first | refine blk_drewN ?_ _ | refine blk_drew ?_ | refine blk_alloc ?_ _)); refine blk_far ?_ NB460_485.out _; (with_reducible repeat (first | refine blk_drewN ?_ _ | refine blk_drew ?_ | refine blk_alloc ?_ _)); exact BK460.out⟩, ⟨by (with_reducible repeat (first | refine blk_drewN ?_ _ | refine blk_drew ?_ | refine blk_alloc ?_ _)); refine blk_put (cs := #[.slice Ao49 t478.length co49, .slice Ao46 x469001_1.length co46]) ?_ 1 _ rfl; (with_reducible repeat (first | refine blk_drewN ?_ _ | refine blk_drew ?_ | refine blk_alloc ?_ _)); refine blk_put (cs := #[.slice Ao45 x469000_1.length co45, .slice Ao46 x469001_1.length co46]) ?_ 0 _ rfl; (with_reducible repeat (first | refine blk_drewN ?_ _ | refine blk_drew ?_ | refine blk_alloc ?_ _)); refine blk_far ?_ NB468_485.out _; (with_reducible repeat (first | refine blk_drewN ?_ _ | refine blk_drew ?_ | refine blk_alloc ?_ _)); refine blk_far ?_ NB468_485.out _; (with_reducible repeat (first | refine blk_drewN ?_ _ | refine blk_drew ?_ | refine blk_alloc ?_ _)); exact BK468.out⟩, ⟨by repeat (first | (with_reducible first | exact HB.out | apply below_alloc | apply pw_below_drewN | apply below_drew1 | refine below_set ?_ GE459.out | refine below_set ?_ GE460.out | refine below_set ?_ GE468.out | refine below_set ?_ GE485.out) | exact HB.out)⟩⟩
                  · rw [if_neg c41] at H
                    have c41b0 : decide (0 < x4_1) = false := decide_eq_false c41
                    clear c41
                    have H' := Aside0.mk H
                    clear H
                    have p477 : 0 ≤ (x44_1 : Int) := of_decide_eq_true (by first | (with_reducible assumption) | assumption)
                    have q477 : x44_1 < (l3.length : Int) := of_decide_eq_true (by first | (with_reducible assumption) | assumption)
                    obtain ⟨ad477, e477, hx477_0⟩ := Kd.at_string HR3.out x44_1 p477 q477
                    cases e477
                    replace hx477_0 := (HB.out.cell (World.block_lt_of_cell? w _ hx477_0)).trans hx477_0
                    replace p477 := eq_true p477
                    replace q477 := eq_true q477
                    have hnb56 := NB468_459.out
                    have hnc56 := NB459_468.out
                    have hnb57 := NB468_460.out
                    have hnc57 := NB460_468.out
                    have hcz58_0 : wr.cell? ⟨gb468, 0, none⟩ = some (u469000) := (blk_cell BK468.out 0).trans rfl
                    have hcz58_1 : wr.cell? ⟨gb468, 1, none⟩ = some (u469001) := (blk_cell BK468.out 1).trans rfl
                    have hfz58_0 := blk_frozen BK468.out 0
                    have hfz58_1 := blk_frozen BK468.out 1
                    obtain ⟨Ao59, co59, eo59⟩ := Kd.R_slice HO_469000.out
                    subst eo59
                    obtain ⟨Ao60, co60, eo60⟩ := Kd.R_slice HO_469001.out
                    subst eo60
                    go_wp2_with (first | ((with_reducible refine gate_callee (f := 31) rfl ?_); refine goesL_ (some 56) rfl rfl Try.func31 (by kernel_rfl) rfl #[.agg #[.slice Ao59 x469000_1.length co59, .slice Ao60 x469001_1.length co60], .int .i64 a1, .int .i64 a2, .string (rdOf ByteArray.empty l3 x44_1)] rfl (by (try simp only [List.map_toArray, List.map_cons, List.map_nil]); first | done | rfl | (simp only [List.length_drop, List.length_take]; rfl)) ?_; (with_reducible refine (wal_Append.calls _ _ x469000_1 _ _ x469001_1 a1 a2 (rdOf ByteArray.empty l3 x44_1) t478 t481 t484 _ ?side1 ?side2 ?side3 ?side4 A39.out).mono ?_); (case side1 => repeat (first | exact (Kd.R_reads' HO_469000.out).2.2 | (with_reducible refine Kd.C_alloc ?_ _) | (with_reducible refine Kd.C_drewN ?_ _) | (with_reducible refine Kd.C_drew ?_))); (case side2 => exact (Kd.R_reads' HO_469000.out).2.1); (case side3 => repeat (first | exact (Kd.R_reads' HO_469001.out).2.2 | (with_reducible refine Kd.C_alloc ?_ _) | (with_reducible refine Kd.C_drewN ?_ _) | (with_reducible refine Kd.C_drew ?_))); (case side4 => exact (Kd.R_reads' HO_469001.out).2.1); rintro e w61 ⟨v479, v482, rfl, ho0, ho1, hb⟩; refine ⟨_, rfl, ?_⟩; have n0_ := Aside0.mk (Kd.R_elder' (by (with_reducible repeat (first | apply Kd.R_alloc | apply Kd.R_drewN | apply Kd.R_drew)); exact HO_469000.out) (Kd.R_base ho0) hb); have n1_ := Aside0.mk (Kd.R_elder' (by (with_reducible repeat (first | apply Kd.R_alloc | apply Kd.R_drewN | apply Kd.R_drew)); exact HO_469001.out) (Kd.R_base ho1) hb); have n2_ := Aside0.mk (Kd.R_lower (Kd.R_new' ho0 (Kd.R_lt (by (with_reducible repeat (first | apply Kd.R_alloc | apply Kd.R_drewN | apply Kd.R_drew)); exact HO_469000.out))) (below_size (by repeat (first | (with_reducible first | exact HB.out | apply below_alloc | apply pw_below_drewN | apply below_drew1 | refine below_set ?_ GE459.out | refine below_set ?_ GE460.out | refine below_set ?_ GE468.out) | exact HB.out)))); have n3_ := Aside0.mk (Kd.R_lower (Kd.R_new' ho1 (Kd.R_lt (by (with_reducible repeat (first | apply Kd.R_alloc | apply Kd.R_drewN | apply Kd.R_drew)); exact HO_469001.out))) (below_size (by repeat (first | (with_reducible first | exact HB.out | apply below_alloc | apply pw_below_drewN | apply below_drew1 | refine below_set ?_ GE459.out | refine below_set ?_ GE460.out | refine below_set ?_ GE468.out) | exact HB.out)))); have n4_ := Aside0.mk (blk_below (g := gb459) (o := .cells #[.slice A0_0 l0_0.length c0_0, .slice A0_1 l0_1.length c0_1] 25 (0, 0)) (by (with_reducible repeat (first | refine blk_drewN ?_ _ | refine blk_drew ?_ | refine blk_alloc ?_ _)); exact BK459.out) hb); have n5_ := Aside0.mk (blk_below (g := gb460) (o := .cells #[.slice none 0 0, .slice none 0 0] 25 (0, 0)) (by (with_reducible repeat (first | refine blk_drewN ?_ _ | refine blk_drew ?_ | refine blk_alloc ?_ _)); exact BK460.out) hb); have n6_ := Aside0.mk (blk_below (g := gb468) (o := .cells #[.slice Ao59 x469000_1.length co59, .slice Ao60 x469001_1.length co60] 25 (0, 0)) (by (with_reducible repeat (first | refine blk_drewN ?_ _ | refine blk_drew ?_ | refine blk_alloc ?_ _)); exact BK468.out) hb); have n7_ := Aside0.mk (below_step (by repeat (first | (with_reducible first | exact HB.out | apply below_alloc | apply pw_below_drewN | apply below_drew1 | refine below_set ?_ GE459.out | refine below_set ?_ GE460.out | refine below_set ?_ GE468.out) | exact HB.out)) hb); clear HO_469000; clear HO_469001; clear BK459; clear BK460; clear BK468; clear HB; have HO_469000 := n0_; have HO_469001 := n1_; have HO480 := n2_; have HO483 := n3_; have BK459 := n4_; have BK460 := n5_; have BK468 := n6_; have HB := n7_; clear n0_ n1_ n2_ n3_ n4_ n5_ n6_ n7_; (try clear hb); (try clear hb2); (try clear hk); (try clear hi); (try clear ho0); (try clear ho1)) | ((with_reducible refine gate_dst (N := 17) rfl ?_); refine box_event ?hg (N := 17) ?hd (cs := #[.slice none 0 0, .slice none 0 0]) (t := 25) ?hr ?_; (case hd => rfl); (case hg => rfl); (case hr => first | (go_simp; done) | (go_simp; rfl)); intro gb485 hg w62 hbox hb; have n0_ := Aside0.mk (Kd.R_below (by (with_reducible repeat (first | apply Kd.R_alloc | apply Kd.R_drewN | apply Kd.R_drew)); exact HO_469000.out) hb); have n1_ := Aside0.mk (Kd.R_below (by (with_reducible repeat (first | apply Kd.R_alloc | apply Kd.R_drewN | apply Kd.R_drew)); exact HO_469001.out) hb); have n2_ := Aside0.mk (Kd.R_below (by (with_reducible repeat (first | apply Kd.R_alloc | apply Kd.R_drewN | apply Kd.R_drew)); exact HO480.out) hb); have n3_ := Aside0.mk (Kd.R_below (by (with_reducible repeat (first | apply Kd.R_alloc | apply Kd.R_drewN | apply Kd.R_drew)); exact HO483.out) hb); have n4_ := Aside0.mk (blk_below (g := gb459) (o := .cells #[.slice A0_0 l0_0.length c0_0, .slice A0_1 l0_1.length c0_1] 25 (0, 0)) (by (with_reducible repeat (first | refine blk_drewN ?_ _ | refine blk_drew ?_ | refine blk_alloc ?_ _)); exact BK459.out) hb); have n5_ := Aside0.mk (blk_below (g := gb460) (o := .cells #[.slice none 0 0, .slice none 0 0] 25 (0, 0)) (by (with_reducible repeat (first | refine blk_drewN ?_ _ | refine blk_drew ?_ | refine blk_alloc ?_ _)); exact BK460.out) hb); have n6_ := Aside0.mk (blk_below (g := gb468) (o := .cells #[.slice Ao59 x469000_1.length co59, .slice Ao60 x469001_1.length co60] 25 (0, 0)) (by (with_reducible repeat (first | refine blk_drewN ?_ _ | refine blk_drew ?_ | refine blk_alloc ?_ _)); exact BK468.out) hb); have n7_ := Aside0.mk (below_step (by repeat (first | (with_reducible first | exact HB.out | apply below_alloc | apply pw_below_drewN | apply below_drew1 | refine below_set ?_ GE459.out | refine below_set ?_ GE460.out | refine below_set ?_ GE468.out) | exact HB.out)) hb); have n8_ := Aside0.mk (hbox); have n9_ := Aside0.mk ((by rw [hg]; exact (below_size (by repeat (first | (with_reducible first | exact HB.out | apply below_alloc | apply pw_below_drewN | apply below_drew1 | refine below_set ?_ GE459.out | refine below_set ?_ GE460.out | refine below_set ?_ GE468.out) | exact HB.out))) : w.heap.size ≤ gb485)); have n10_ := Aside0.mk ((by rw [hg]; exact (below_size (by repeat (first | (with_reducible first | exact HB.out | apply below_alloc | apply pw_below_drewN | apply below_drew1 | refine below_set ?_ GE459.out | refine below_set ?_ GE460.out | refine below_set ?_ GE468.out) | exact HB.out))) : w.heap.size ≤ gb485)); have n11_ := Aside0.mk ((by rw [hg]; exact Nat.ne_of_lt (blk_lt (g := gb459) (o := .cells #[.slice A0_0 l0_0.length c0_0, .slice A0_1 l0_1.length c0_1] 25 (0, 0)) (by (with_reducible repeat (first | refine blk_drewN ?_ _ | refine blk_drew ?_ | refine blk_alloc ?_ _)); exact BK459.out)) : gb459 ≠ gb485)); have n12_ := Aside0.mk ((by rw [hg]; exact Nat.ne_of_gt (blk_lt (g := gb459) (o := .cells #[.slice A0_0 l0_0.length c0_0, .slice A0_1 l0_1.length c0_1] 25 (0, 0)) (by (with_reducible repeat (first | refine blk_drewN ?_ _ | refine blk_drew ?_ | refine blk_alloc ?_ _)); exact BK459.out)) : gb485 ≠ gb459)); have n13_ := Aside0.mk ((by rw [hg]; exact Nat.ne_of_lt (blk_lt (g := gb460) (o := .cells #[.slice none 0 0, .slice none 0 0] 25 (0, 0)) (by (with_reducible repeat (first | refine blk_drewN ?_ _ | refine blk_drew ?_ | refine blk_alloc ?_ _)); exact BK460.out)) : gb460 ≠ gb485)); have n14_ := Aside0.mk ((by rw [hg]; exact Nat.ne_of_gt (blk_lt (g := gb460) (o := .cells #[.slice none 0 0, .slice none 0 0] 25 (0, 0)) (by (with_reducible repeat (first | refine blk_drewN ?_ _ | refine blk_drew ?_ | refine blk_alloc ?_ _)); exact BK460.out)) : gb485 ≠ gb460)); have n15_ := Aside0.mk ((by rw [hg]; exact Nat.ne_of_lt (blk_lt (g := gb468) (o := .cells #[.slice Ao59 x469000_1.length co59, .slice Ao60 x469001_1.length co60] 25 (0, 0)) (by (with_reducible repeat (first | refine blk_drewN ?_ _ | refine blk_drew ?_ | refine blk_alloc ?_ _)); exact BK468.out)) : gb468 ≠ gb485)); have n16_ := Aside0.mk ((by rw [hg]; exact Nat.ne_of_gt (blk_lt (g := gb468) (o := .cells #[.slice Ao59 x469000_1.length co59, .slice Ao60 x469001_1.length co60] 25 (0, 0)) (by (with_reducible repeat (first | refine blk_drewN ?_ _ | refine blk_drew ?_ | refine blk_alloc ?_ _)); exact BK468.out)) : gb485 ≠ gb468)); clear HO_469000; clear HO_469001; clear HO480; clear HO483; clear BK459; clear BK460; clear BK468; clear HB; have HO_469000 := n0_; have HO_469001 := n1_; have HO480 := n2_; have HO483 := n3_; have BK459 := n4_; have BK460 := n5_; have BK468 := n6_; have HB := n7_; have BK485 := n8_; have GW485 := n9_; have GE485 := n10_; have NB459_485 := n11_; have NB485_459 := n12_; have NB460_485 := n13_; have NB485_460 := n14_; have NB468_485 := n15_; have NB485_468 := n16_; clear n0_ n1_ n2_ n3_ n4_ n5_ n6_ n7_ n8_ n9_ n10_ n11_ n12_ n13_ n14_ n15_ n16_; clear hb hbox hg; obtain ⟨Ao63, co63, eo63⟩ := Kd.R_slice HO480.out; subst eo63; have hnb64 := NB485_459.out; have hnc64 := NB459_485.out; have hnb65 := NB485_460.out; have hnc65 := NB460_485.out; have hnb66 := NB485_468.out; have hnc66 := NB468_485.out; have hcz67_0 : w62.cell? ⟨gb485, 0, none⟩ = some (.slice none 0 0) := (blk_cell BK485.out 0).trans rfl; have hcz67_1 : w62.cell? ⟨gb485, 1, none⟩ = some (.slice none 0 0) := (blk_cell BK485.out 1).trans rfl; have hfz67_0 := blk_frozen BK485.out 0; have hfz67_1 := blk_frozen BK485.out 1; obtain ⟨Ao68, co68, eo68⟩ := Kd.R_slice HO483.out; subst eo68; have hcz69_0 : w62.cell? ⟨gb468, 0, none⟩ = some (.slice Ao59 x469000_1.length co59) := (blk_cell BK468.out 0).trans rfl; have hcz69_1 : w62.cell? ⟨gb468, 1, none⟩ = some (.slice Ao60 x469001_1.length co60) := (blk_cell BK468.out 1).trans rfl; have hfz69_0 := blk_frozen BK468.out 0; have hfz69_1 := blk_frozen BK468.out 1))
                    go_roundg k1
                    case measure => have := HK1.out; omega
                    case rel => exact ⟨(x4_1), (wrap64 (x44_1 + 1)), (t478), (t481), (.slice Ao63 t478.length co63), (.slice Ao68 t481.length co68), (by first | rfl | (simp; done) | (simp [*]; done)), (by first | rfl | (simp; done) | (simp [*]; done)), H', ⟨by have := HK1.out; omega⟩, ⟨by (with_reducible repeat (first | apply Kd.R_alloc | apply Kd.R_drewN | apply Kd.R_drew)); exact Kd.R_mono (Kd.R_far (p := ⟨gb468, 1, none⟩) (Kd.R_far (p := ⟨gb468, 0, none⟩) (Kd.R_far (p := ⟨gb485, 1, none⟩) (Kd.R_far (p := ⟨gb485, 0, none⟩) (Kd.R_types (Kd.R_types HO480.out BK485.out (by decide)) BK468.out (by decide)) (fun _ hk => hk.1.2) (.slice Ao63 t478.length co63)) (fun _ hk => hk.1.2) (.slice Ao68 t481.length co68)) (fun _ hk => hk.2) (.slice Ao63 t478.length co63)) (fun _ hk => hk.2) (.slice Ao68 t481.length co68)) (fun _ hk => trivial)⟩, ⟨by (with_reducible repeat (first | apply Kd.R_alloc | apply Kd.R_drewN | apply Kd.R_drew)); exact Kd.R_mono (Kd.R_far (p := ⟨gb468, 1, none⟩) (Kd.R_far (p := ⟨gb468, 0, none⟩) (Kd.R_far (p := ⟨gb485, 1, none⟩) (Kd.R_far (p := ⟨gb485, 0, none⟩) (Kd.R_types (Kd.R_types HO483.out BK485.out (by decide)) BK468.out (by decide)) (fun _ hk => hk.1.2) (.slice Ao63 t478.length co63)) (fun _ hk => hk.1.2) (.slice Ao68 t481.length co68)) (fun _ hk => hk.2) (.slice Ao63 t478.length co63)) (fun _ hk => hk.2) (.slice Ao68 t481.length co68)) (fun _ hk => trivial)⟩, ⟨by (with_reducible repeat (first | refine blk_drewN ?_ _ | refine blk_drew ?_ | refine blk_alloc ?_ _)); refine blk_far ?_ NB459_468.out _; (with_reducible repeat (first | refine blk_drewN ?_ _ | refine blk_drew ?_ | refine blk_alloc ?_ _)); refine blk_far ?_ NB459_468.out _; (with_reducible repeat (first | refine blk_drewN ?_ _ | refine blk_drew ?_ | refine blk_alloc ?_ _)); refine blk_far ?_ NB459_485.out _; (with_reducible repeat (first | refine blk_drewN ?_ _ | refine blk_drew ?_ | refine blk_alloc ?_ _)); refine blk_far ?_ NB459_485.out _; (with_reducible repeat (first | refine blk_drewN ?_ _ | refine blk_drew ?_ | refine blk_alloc ?_ _)); exact BK459.out⟩, ⟨by (with_reducible repeat (first | refine blk_drewN ?_ _ | refine blk_drew ?_ | refine blk_alloc ?_ _)); refine blk_far ?_ NB460_468.out _; (with_reducible repeat (first | refine blk_drewN ?_ _ | refine blk_drew ?_ | refine blk_alloc ?_ _)); refine blk_far ?_ NB460_468.out _; (with_reducible repeat (first | refine blk_drewN ?_ _ | refine blk_drew ?_ | refine blk_alloc ?_ _)); refine blk_far ?_ NB460_485.out _; (with_reducible repeat (first | refine blk_drewN ?_ _ | refine blk_drew ?_ | refine blk_alloc ?_ _)); refine blk_far ?_ NB460_485.out _; (with_reducible repeat (first | refine blk_drewN ?_ _ | refine blk_drew ?_ | refine blk_alloc ?_ _)); exact BK460.out⟩, ⟨by (with_reducible repeat (first | refine blk_drewN ?_ _ | refine blk_drew ?_ | refine blk_alloc ?_ _)); refine blk_put (cs := #[.slice Ao63 t478.length co63, .slice Ao60 x469001_1.length co60]) ?_ 1 _ rfl; (with_reducible repeat (first | refine blk_drewN ?_ _ | refine blk_drew ?_ | refine blk_alloc ?_ _)); refine blk_put (cs := #[.slice Ao59 x469000_1.length co59, .slice Ao60 x469001_1.length co60]) ?_ 0 _ rfl; (with_reducible repeat (first | refine blk_drewN ?_ _ | refine blk_drew ?_ | refine blk_alloc ?_ _)); refine blk_far ?_ NB468_485.out _; (with_reducible repeat (first | refine blk_drewN ?_ _ | refine blk_drew ?_ | refine blk_alloc ?_ _)); refine blk_far ?_ NB468_485.out _; (with_reducible repeat (first | refine blk_drewN ?_ _ | refine blk_drew ?_ | refine blk_alloc ?_ _)); exact BK468.out⟩, ⟨by repeat (first | (with_reducible first | exact HB.out | apply below_alloc | apply pw_below_drewN | apply below_drew1 | refine below_set ?_ GE459.out | refine below_set ?_ GE460.out | refine below_set ?_ GE468.out | refine below_set ?_ GE485.out) | exact HB.out)⟩⟩
                · rw [if_neg c40] at H
                  have c40b0 : (t484 == 0) = false := beq_eq_false_iff_ne.mpr c40
                  have c40b1 : (t484 != 0) = true := bne_iff_ne.mpr c40
                  simp only [Option.some.injEq, Prod.mk.injEq] at H
                  obtain ⟨rfl, rfl, rfl, rfl⟩ := H
                  have p477 : 0 ≤ (x44_1 : Int) := of_decide_eq_true (by first | (with_reducible assumption) | assumption)
                  have q477 : x44_1 < (l3.length : Int) := of_decide_eq_true (by first | (with_reducible assumption) | assumption)
                  obtain ⟨ad477, e477, hx477_0⟩ := Kd.at_string HR3.out x44_1 p477 q477
                  cases e477
                  replace hx477_0 := (HB.out.cell (World.block_lt_of_cell? w _ hx477_0)).trans hx477_0
                  replace p477 := eq_true p477
                  replace q477 := eq_true q477
                  have hnb70 := NB468_459.out
                  have hnc70 := NB459_468.out
                  have hnb71 := NB468_460.out
                  have hnc71 := NB460_468.out
                  have hcz72_0 : wr.cell? ⟨gb468, 0, none⟩ = some (u469000) := (blk_cell BK468.out 0).trans rfl
                  have hcz72_1 : wr.cell? ⟨gb468, 1, none⟩ = some (u469001) := (blk_cell BK468.out 1).trans rfl
                  have hfz72_0 := blk_frozen BK468.out 0
                  have hfz72_1 := blk_frozen BK468.out 1
                  obtain ⟨Ao73, co73, eo73⟩ := Kd.R_slice HO_469000.out
                  subst eo73
                  obtain ⟨Ao74, co74, eo74⟩ := Kd.R_slice HO_469001.out
                  subst eo74
                  go_wp2_with (first | ((with_reducible refine gate_callee (f := 31) rfl ?_); refine goesL_ (some 56) rfl rfl Try.func31 (by kernel_rfl) rfl #[.agg #[.slice Ao73 x469000_1.length co73, .slice Ao74 x469001_1.length co74], .int .i64 a1, .int .i64 a2, .string (rdOf ByteArray.empty l3 x44_1)] rfl (by (try simp only [List.map_toArray, List.map_cons, List.map_nil]); first | done | rfl | (simp only [List.length_drop, List.length_take]; rfl)) ?_; (with_reducible refine (wal_Append.calls _ _ x469000_1 _ _ x469001_1 a1 a2 (rdOf ByteArray.empty l3 x44_1) t478 t481 t484 _ ?side1 ?side2 ?side3 ?side4 A39.out).mono ?_); (case side1 => repeat (first | exact (Kd.R_reads' HO_469000.out).2.2 | (with_reducible refine Kd.C_alloc ?_ _) | (with_reducible refine Kd.C_drewN ?_ _) | (with_reducible refine Kd.C_drew ?_))); (case side2 => exact (Kd.R_reads' HO_469000.out).2.1); (case side3 => repeat (first | exact (Kd.R_reads' HO_469001.out).2.2 | (with_reducible refine Kd.C_alloc ?_ _) | (with_reducible refine Kd.C_drewN ?_ _) | (with_reducible refine Kd.C_drew ?_))); (case side4 => exact (Kd.R_reads' HO_469001.out).2.1); rintro e w75 ⟨v479, v482, rfl, ho0, ho1, hb⟩; refine ⟨_, rfl, ?_⟩; have n0_ := Aside0.mk (Kd.R_elder' (by (with_reducible repeat (first | apply Kd.R_alloc | apply Kd.R_drewN | apply Kd.R_drew)); exact HO_469000.out) (Kd.R_base ho0) hb); have n1_ := Aside0.mk (Kd.R_elder' (by (with_reducible repeat (first | apply Kd.R_alloc | apply Kd.R_drewN | apply Kd.R_drew)); exact HO_469001.out) (Kd.R_base ho1) hb); have n2_ := Aside0.mk (Kd.R_lower (Kd.R_new' ho0 (Kd.R_lt (by (with_reducible repeat (first | apply Kd.R_alloc | apply Kd.R_drewN | apply Kd.R_drew)); exact HO_469000.out))) (below_size (by repeat (first | (with_reducible first | exact HB.out | apply below_alloc | apply pw_below_drewN | apply below_drew1 | refine below_set ?_ GE459.out | refine below_set ?_ GE460.out | refine below_set ?_ GE468.out) | exact HB.out)))); have n3_ := Aside0.mk (Kd.R_lower (Kd.R_new' ho1 (Kd.R_lt (by (with_reducible repeat (first | apply Kd.R_alloc | apply Kd.R_drewN | apply Kd.R_drew)); exact HO_469001.out))) (below_size (by repeat (first | (with_reducible first | exact HB.out | apply below_alloc | apply pw_below_drewN | apply below_drew1 | refine below_set ?_ GE459.out | refine below_set ?_ GE460.out | refine below_set ?_ GE468.out) | exact HB.out)))); have n4_ := Aside0.mk (blk_below (g := gb459) (o := .cells #[.slice A0_0 l0_0.length c0_0, .slice A0_1 l0_1.length c0_1] 25 (0, 0)) (by (with_reducible repeat (first | refine blk_drewN ?_ _ | refine blk_drew ?_ | refine blk_alloc ?_ _)); exact BK459.out) hb); have n5_ := Aside0.mk (blk_below (g := gb460) (o := .cells #[.slice none 0 0, .slice none 0 0] 25 (0, 0)) (by (with_reducible repeat (first | refine blk_drewN ?_ _ | refine blk_drew ?_ | refine blk_alloc ?_ _)); exact BK460.out) hb); have n6_ := Aside0.mk (blk_below (g := gb468) (o := .cells #[.slice Ao73 x469000_1.length co73, .slice Ao74 x469001_1.length co74] 25 (0, 0)) (by (with_reducible repeat (first | refine blk_drewN ?_ _ | refine blk_drew ?_ | refine blk_alloc ?_ _)); exact BK468.out) hb); have n7_ := Aside0.mk (below_step (by repeat (first | (with_reducible first | exact HB.out | apply below_alloc | apply pw_below_drewN | apply below_drew1 | refine below_set ?_ GE459.out | refine below_set ?_ GE460.out | refine below_set ?_ GE468.out) | exact HB.out)) hb); clear HO_469000; clear HO_469001; clear BK459; clear BK460; clear BK468; clear HB; have HO_469000 := n0_; have HO_469001 := n1_; have HO480 := n2_; have HO483 := n3_; have BK459 := n4_; have BK460 := n5_; have BK468 := n6_; have HB := n7_; clear n0_ n1_ n2_ n3_ n4_ n5_ n6_ n7_; (try clear hb); (try clear hb2); (try clear hk); (try clear hi); (try clear ho0); (try clear ho1)) | ((with_reducible refine gate_dst (N := 17) rfl ?_); refine box_event ?hg (N := 17) ?hd (cs := #[.slice none 0 0, .slice none 0 0]) (t := 25) ?hr ?_; (case hd => rfl); (case hg => rfl); (case hr => first | (go_simp; done) | (go_simp; rfl)); intro gb485 hg w76 hbox hb; have n0_ := Aside0.mk (Kd.R_below (by (with_reducible repeat (first | apply Kd.R_alloc | apply Kd.R_drewN | apply Kd.R_drew)); exact HO_469000.out) hb); have n1_ := Aside0.mk (Kd.R_below (by (with_reducible repeat (first | apply Kd.R_alloc | apply Kd.R_drewN | apply Kd.R_drew)); exact HO_469001.out) hb); have n2_ := Aside0.mk (Kd.R_below (by (with_reducible repeat (first | apply Kd.R_alloc | apply Kd.R_drewN | apply Kd.R_drew)); exact HO480.out) hb); have n3_ := Aside0.mk (Kd.R_below (by (with_reducible repeat (first | apply Kd.R_alloc | apply Kd.R_drewN | apply Kd.R_drew)); exact HO483.out) hb); have n4_ := Aside0.mk (blk_below (g := gb459) (o := .cells #[.slice A0_0 l0_0.length c0_0, .slice A0_1 l0_1.length c0_1] 25 (0, 0)) (by (with_reducible repeat (first | refine blk_drewN ?_ _ | refine blk_drew ?_ | refine blk_alloc ?_ _)); exact BK459.out) hb); have n5_ := Aside0.mk (blk_below (g := gb460) (o := .cells #[.slice none 0 0, .slice none 0 0] 25 (0, 0)) (by (with_reducible repeat (first | refine blk_drewN ?_ _ | refine blk_drew ?_ | refine blk_alloc ?_ _)); exact BK460.out) hb); have n6_ := Aside0.mk (blk_below (g := gb468) (o := .cells #[.slice Ao73 x469000_1.length co73, .slice Ao74 x469001_1.length co74] 25 (0, 0)) (by (with_reducible repeat (first | refine blk_drewN ?_ _ | refine blk_drew ?_ | refine blk_alloc ?_ _)); exact BK468.out) hb); have n7_ := Aside0.mk (below_step (by repeat (first | (with_reducible first | exact HB.out | apply below_alloc | apply pw_below_drewN | apply below_drew1 | refine below_set ?_ GE459.out | refine below_set ?_ GE460.out | refine below_set ?_ GE468.out) | exact HB.out)) hb); have n8_ := Aside0.mk (hbox); have n9_ := Aside0.mk ((by rw [hg]; exact (below_size (by repeat (first | (with_reducible first | exact HB.out | apply below_alloc | apply pw_below_drewN | apply below_drew1 | refine below_set ?_ GE459.out | refine below_set ?_ GE460.out | refine below_set ?_ GE468.out) | exact HB.out))) : w.heap.size ≤ gb485)); have n10_ := Aside0.mk ((by rw [hg]; exact (below_size (by repeat (first | (with_reducible first | exact HB.out | apply below_alloc | apply pw_below_drewN | apply below_drew1 | refine below_set ?_ GE459.out | refine below_set ?_ GE460.out | refine below_set ?_ GE468.out) | exact HB.out))) : w.heap.size ≤ gb485)); have n11_ := Aside0.mk ((by rw [hg]; exact Nat.ne_of_lt (blk_lt (g := gb459) (o := .cells #[.slice A0_0 l0_0.length c0_0, .slice A0_1 l0_1.length c0_1] 25 (0, 0)) (by (with_reducible repeat (first | refine blk_drewN ?_ _ | refine blk_drew ?_ | refine blk_alloc ?_ _)); exact BK459.out)) : gb459 ≠ gb485)); have n12_ := Aside0.mk ((by rw [hg]; exact Nat.ne_of_gt (blk_lt (g := gb459) (o := .cells #[.slice A0_0 l0_0.length c0_0, .slice A0_1 l0_1.length c0_1] 25 (0, 0)) (by (with_reducible repeat (first | refine blk_drewN ?_ _ | refine blk_drew ?_ | refine blk_alloc ?_ _)); exact BK459.out)) : gb485 ≠ gb459)); have n13_ := Aside0.mk ((by rw [hg]; exact Nat.ne_of_lt (blk_lt (g := gb460) (o := .cells #[.slice none 0 0, .slice none 0 0] 25 (0, 0)) (by (with_reducible repeat (first | refine blk_drewN ?_ _ | refine blk_drew ?_ | refine blk_alloc ?_ _)); exact BK460.out)) : gb460 ≠ gb485)); have n14_ := Aside0.mk ((by rw [hg]; exact Nat.ne_of_gt (blk_lt (g := gb460) (o := .cells #[.slice none 0 0, .slice none 0 0] 25 (0, 0)) (by (with_reducible repeat (first | refine blk_drewN ?_ _ | refine blk_drew ?_ | refine blk_alloc ?_ _)); exact BK460.out)) : gb485 ≠ gb460)); have n15_ := Aside0.mk ((by rw [hg]; exact Nat.ne_of_lt (blk_lt (g := gb468) (o := .cells #[.slice Ao73 x469000_1.length co73, .slice Ao74 x469001_1.length co74] 25 (0, 0)) (by (with_reducible repeat (first | refine blk_drewN ?_ _ | refine blk_drew ?_ | refine blk_alloc ?_ _)); exact BK468.out)) : gb468 ≠ gb485)); have n16_ := Aside0.mk ((by rw [hg]; exact Nat.ne_of_gt (blk_lt (g := gb468) (o := .cells #[.slice Ao73 x469000_1.length co73, .slice Ao74 x469001_1.length co74] 25 (0, 0)) (by (with_reducible repeat (first | refine blk_drewN ?_ _ | refine blk_drew ?_ | refine blk_alloc ?_ _)); exact BK468.out)) : gb485 ≠ gb468)); clear HO_469000; clear HO_469001; clear HO480; clear HO483; clear BK459; clear BK460; clear BK468; clear HB; have HO_469000 := n0_; have HO_469001 := n1_; have HO480 := n2_; have HO483 := n3_; have BK459 := n4_; have BK460 := n5_; have BK468 := n6_; have HB := n7_; have BK485 := n8_; have GW485 := n9_; have GE485 := n10_; have NB459_485 := n11_; have NB485_459 := n12_; have NB460_485 := n13_; have NB485_460 := n14_; have NB468_485 := n15_; have NB485_468 := n16_; clear n0_ n1_ n2_ n3_ n4_ n5_ n6_ n7_ n8_ n9_ n10_ n11_ n12_ n13_ n14_ n15_ n16_; clear hb hbox hg; obtain ⟨Ao77, co77, eo77⟩ := Kd.R_slice HO480.out; subst eo77; have hnb78 := NB485_459.out; have hnc78 := NB459_485.out; have hnb79 := NB485_460.out; have hnc79 := NB460_485.out; have hnb80 := NB485_468.out; have hnc80 := NB468_485.out; have hcz81_0 : w76.cell? ⟨gb485, 0, none⟩ = some (.slice none 0 0) := (blk_cell BK485.out 0).trans rfl; have hcz81_1 : w76.cell? ⟨gb485, 1, none⟩ = some (.slice none 0 0) := (blk_cell BK485.out 1).trans rfl; have hfz81_0 := blk_frozen BK485.out 0; have hfz81_1 := blk_frozen BK485.out 1; obtain ⟨Ao82, co82, eo82⟩ := Kd.R_slice HO483.out; subst eo82; have hnb83 := NB460_459.out; have hnc83 := NB459_460.out; have hcz84_0 : w76.cell? ⟨gb460, 0, none⟩ = some (.slice none 0 0) := (blk_cell BK460.out 0).trans rfl; have hcz84_1 : w76.cell? ⟨gb460, 1, none⟩ = some (.slice none 0 0) := (blk_cell BK460.out 1).trans rfl; have hfz84_0 := blk_frozen BK460.out 0; have hfz84_1 := blk_frozen BK460.out 1))
                  refine bodyPost_ret (results_ctt rfl _ _ gb460 25 #[.slice none 0 0, .slice none 0 0] (0, 0) _ rfl (by (with_reducible repeat (first | refine blk_drewN ?_ _ | refine blk_drew ?_ | refine blk_alloc ?_ _)); refine blk_put (cs := #[.slice none 0 0, .slice none 0 0]) ?_ 1 _ rfl; (with_reducible repeat (first | refine blk_drewN ?_ _ | refine blk_drew ?_ | refine blk_alloc ?_ _)); refine blk_put (cs := #[.slice none 0 0, .slice none 0 0]) ?_ 0 _ rfl; (with_reducible repeat (first | refine blk_drewN ?_ _ | refine blk_drew ?_ | refine blk_alloc ?_ _)); refine blk_far ?_ NB460_485.out _; (with_reducible repeat (first | refine blk_drewN ?_ _ | refine blk_drew ?_ | refine blk_alloc ?_ _)); refine blk_far ?_ NB460_485.out _; (with_reducible repeat (first | refine blk_drewN ?_ _ | refine blk_drew ?_ | refine blk_alloc ?_ _)); exact BK460.out) Try.underlying25 rfl (by kernel_rfl)) rfl ?_
                  exact ⟨_, _, by first | rfl | (simp [errW_none, errW_some] <;> rfl) | (simp only [← hji10, ← hji11]; first | rfl | (simp [errW_none, errW_some] <;> rfl)) | (simp [*, errW_none, errW_some] <;> rfl), by first | exact Kd.R_nil _ _ _ _ _ | exact Kd.N_nil _ _ _ _ _ | exact Kd.V_nil _ _ _ _ _ | exact Kd.Q_nil _ _ _ _ _ | exact Kd.S_nil _ _ _ _ _, by first | exact Kd.R_nil _ _ _ _ _ | exact Kd.N_nil _ _ _ _ _ | exact Kd.V_nil _ _ _ _ _ | exact Kd.Q_nil _ _ _ _ _ | exact Kd.S_nil _ _ _ _ _, by repeat (first | (with_reducible first | exact HB.out | apply below_alloc | apply pw_below_drewN | apply below_drew1 | refine below_set ?_ GE459.out | refine below_set ?_ GE460.out | refine below_set ?_ GE468.out | refine below_set ?_ GE485.out) | exact HB.out)⟩
            · rw [if_neg c30] at H
              exact absurd H (by simp)
          · rw [if_neg c29] at H
            exact absurd H (by simp)
        · rw [if_neg c28] at H
          have c28b0 : decide (x44_1 < (l3.length : Int)) = false := decide_eq_false c28
          clear c28
          by_cases c85 : x4_1 = 0
          · rw [if_pos c85] at H
            have c85b0 : (x4_1 == 0) = true := beq_iff_eq.mpr c85
            have c85b1 : (x4_1 != 0) = false := bne_eq_false_iff_eq.mpr c85
            clear c85
            simp only [Option.some.injEq, Prod.mk.injEq] at H
            obtain ⟨rfl, rfl, rfl, rfl⟩ := H
            have hnb86 := NB468_459.out
            have hnc86 := NB459_468.out
            have hnb87 := NB468_460.out
            have hnc87 := NB460_468.out
            have hcz88_0 : wr.cell? ⟨gb468, 0, none⟩ = some (u469000) := (blk_cell BK468.out 0).trans rfl
            have hcz88_1 : wr.cell? ⟨gb468, 1, none⟩ = some (u469001) := (blk_cell BK468.out 1).trans rfl
            have hfz88_0 := blk_frozen BK468.out 0
            have hfz88_1 := blk_frozen BK468.out 1
            obtain ⟨Ao89, co89, eo89⟩ := Kd.R_slice HO_469000.out
            subst eo89
            have hnb90 := NB460_459.out
            have hnc90 := NB459_460.out
            have hcz91_0 : wr.cell? ⟨gb460, 0, none⟩ = some (.slice none 0 0) := (blk_cell BK460.out 0).trans rfl
            have hcz91_1 : wr.cell? ⟨gb460, 1, none⟩ = some (.slice none 0 0) := (blk_cell BK460.out 1).trans rfl
            have hfz91_0 := blk_frozen BK460.out 0
            have hfz91_1 := blk_frozen BK460.out 1
            obtain ⟨Ao92, co92, eo92⟩ := Kd.R_slice HO_469001.out
            subst eo92
            go_wp2
            refine bodyPost_ret (results_ctt rfl _ _ gb460 25 #[.slice Ao89 x469000_1.length co89, .slice Ao92 x469001_1.length co92] (0, 0) _ rfl (by (with_reducible repeat (first | refine blk_drewN ?_ _ | refine blk_drew ?_ | refine blk_alloc ?_ _)); refine blk_put (cs := #[.slice Ao89 x469000_1.length co89, .slice none 0 0]) ?_ 1 _ rfl; (with_reducible repeat (first | refine blk_drewN ?_ _ | refine blk_drew ?_ | refine blk_alloc ?_ _)); refine blk_put (cs := #[.slice none 0 0, .slice none 0 0]) ?_ 0 _ rfl; (with_reducible repeat (first | refine blk_drewN ?_ _ | refine blk_drew ?_ | refine blk_alloc ?_ _)); exact BK460.out) Try.underlying25 rfl (by kernel_rfl)) rfl ?_
            exact ⟨_, _, by first | rfl | (simp [errW_none, errW_some] <;> rfl) | (simp only [← hji10, ← hji11]; first | rfl | (simp [errW_none, errW_some] <;> rfl)) | (simp [*, errW_none, errW_some] <;> rfl), by (with_reducible repeat (first | apply Kd.R_alloc | apply Kd.R_drewN | apply Kd.R_drew)); exact Kd.R_mono (Kd.R_far (p := ⟨gb460, 1, none⟩) (Kd.R_far (p := ⟨gb460, 0, none⟩) (Kd.R_types HO_469000.out BK460.out (by decide)) (fun _ hk => hk.2) (.slice Ao89 x469000_1.length co89)) (fun _ hk => hk.2) (.slice Ao92 x469001_1.length co92)) (fun _ hk => trivial), by (with_reducible repeat (first | apply Kd.R_alloc | apply Kd.R_drewN | apply Kd.R_drew)); exact Kd.R_mono (Kd.R_far (p := ⟨gb460, 1, none⟩) (Kd.R_far (p := ⟨gb460, 0, none⟩) (Kd.R_types HO_469001.out BK460.out (by decide)) (fun _ hk => hk.2) (.slice Ao89 x469000_1.length co89)) (fun _ hk => hk.2) (.slice Ao92 x469001_1.length co92)) (fun _ hk => trivial), by repeat (first | (with_reducible first | exact HB.out | apply below_alloc | apply pw_below_drewN | apply below_drew1 | refine below_set ?_ GE459.out | refine below_set ?_ GE460.out | refine below_set ?_ GE468.out) | exact HB.out)⟩
          · rw [if_neg c85] at H
            have c85b0 : (x4_1 == 0) = false := beq_eq_false_iff_ne.mpr c85
            have c85b1 : (x4_1 != 0) = true := bne_iff_ne.mpr c85
            replace H := Option.bind_eq_some_iff.mp H
            obtain ⟨⟨t469, t472, t475⟩, A930, H⟩ := H
            replace H : (some (t469, t472, true, t475)) = some (r1, r2, r3, r4) := H
            have A93 := Aside0.mk A930
            clear A930
            simp only [Option.some.injEq, Prod.mk.injEq] at H
            obtain ⟨rfl, rfl, rfl, rfl⟩ := H
            have hnb94 := NB468_459.out
            have hnc94 := NB459_468.out
            have hnb95 := NB468_460.out
            have hnc95 := NB460_468.out
            have hcz96_0 : wr.cell? ⟨gb468, 0, none⟩ = some (u469000) := (blk_cell BK468.out 0).trans rfl
            have hcz96_1 : wr.cell? ⟨gb468, 1, none⟩ = some (u469001) := (blk_cell BK468.out 1).trans rfl
            have hfz96_0 := blk_frozen BK468.out 0
            have hfz96_1 := blk_frozen BK468.out 1
            obtain ⟨Ao97, co97, eo97⟩ := Kd.R_slice HO_469000.out
            subst eo97
            obtain ⟨Ao98, co98, eo98⟩ := Kd.R_slice HO_469001.out
            subst eo98
            go_wp2_with (first | ((with_reducible refine gate_callee (f := 17) rfl ?_); refine goesL_ (some 74) rfl rfl Try.func17 (by kernel_rfl) rfl #[.agg #[.slice Ao97 x469000_1.length co97, .slice Ao98 x469001_1.length co98]] rfl (by (try simp only [List.map_toArray, List.map_cons, List.map_nil]); first | done | rfl | (simp only [List.length_drop, List.length_take]; rfl)) ?_; (with_reducible refine (disk_Sync.calls _ _ x469000_1 _ _ x469001_1 t469 t472 t475 _ ?side1 ?side2 ?side3 ?side4 A93.out).mono ?_); (case side1 => repeat (first | exact (Kd.R_reads' HO_469000.out).2.2 | (with_reducible refine Kd.C_alloc ?_ _) | (with_reducible refine Kd.C_drewN ?_ _) | (with_reducible refine Kd.C_drew ?_))); (case side2 => exact (Kd.R_reads' HO_469000.out).2.1); (case side3 => repeat (first | exact (Kd.R_reads' HO_469001.out).2.2 | (with_reducible refine Kd.C_alloc ?_ _) | (with_reducible refine Kd.C_drewN ?_ _) | (with_reducible refine Kd.C_drew ?_))); (case side4 => exact (Kd.R_reads' HO_469001.out).2.1); rintro e w99 ⟨v470, v473, rfl, ho0, ho1, hb⟩; refine ⟨_, rfl, ?_⟩; have n0_ := Aside0.mk (Kd.R_elder' (by (with_reducible repeat (first | apply Kd.R_alloc | apply Kd.R_drewN | apply Kd.R_drew)); exact HO_469000.out) (Kd.R_base ho0) hb); have n1_ := Aside0.mk (Kd.R_elder' (by (with_reducible repeat (first | apply Kd.R_alloc | apply Kd.R_drewN | apply Kd.R_drew)); exact HO_469001.out) (Kd.R_base ho1) hb); have n2_ := Aside0.mk (Kd.R_lower (Kd.R_new' ho0 (Kd.R_lt (by (with_reducible repeat (first | apply Kd.R_alloc | apply Kd.R_drewN | apply Kd.R_drew)); exact HO_469000.out))) (below_size (by repeat (first | (with_reducible first | exact HB.out | apply below_alloc | apply pw_below_drewN | apply below_drew1 | refine below_set ?_ GE459.out | refine below_set ?_ GE460.out | refine below_set ?_ GE468.out) | exact HB.out)))); have n3_ := Aside0.mk (Kd.R_lower (Kd.R_new' ho1 (Kd.R_lt (by (with_reducible repeat (first | apply Kd.R_alloc | apply Kd.R_drewN | apply Kd.R_drew)); exact HO_469001.out))) (below_size (by repeat (first | (with_reducible first | exact HB.out | apply below_alloc | apply pw_below_drewN | apply below_drew1 | refine below_set ?_ GE459.out | refine below_set ?_ GE460.out | refine below_set ?_ GE468.out) | exact HB.out)))); have n4_ := Aside0.mk (blk_below (g := gb459) (o := .cells #[.slice A0_0 l0_0.length c0_0, .slice A0_1 l0_1.length c0_1] 25 (0, 0)) (by (with_reducible repeat (first | refine blk_drewN ?_ _ | refine blk_drew ?_ | refine blk_alloc ?_ _)); exact BK459.out) hb); have n5_ := Aside0.mk (blk_below (g := gb460) (o := .cells #[.slice none 0 0, .slice none 0 0] 25 (0, 0)) (by (with_reducible repeat (first | refine blk_drewN ?_ _ | refine blk_drew ?_ | refine blk_alloc ?_ _)); exact BK460.out) hb); have n6_ := Aside0.mk (blk_below (g := gb468) (o := .cells #[.slice Ao97 x469000_1.length co97, .slice Ao98 x469001_1.length co98] 25 (0, 0)) (by (with_reducible repeat (first | refine blk_drewN ?_ _ | refine blk_drew ?_ | refine blk_alloc ?_ _)); exact BK468.out) hb); have n7_ := Aside0.mk (below_step (by repeat (first | (with_reducible first | exact HB.out | apply below_alloc | apply pw_below_drewN | apply below_drew1 | refine below_set ?_ GE459.out | refine below_set ?_ GE460.out | refine below_set ?_ GE468.out) | exact HB.out)) hb); clear HO_469000; clear HO_469001; clear BK459; clear BK460; clear BK468; clear HB; have HO_469000 := n0_; have HO_469001 := n1_; have HO471 := n2_; have HO474 := n3_; have BK459 := n4_; have BK460 := n5_; have BK468 := n6_; have HB := n7_; clear n0_ n1_ n2_ n3_ n4_ n5_ n6_ n7_; (try clear hb); (try clear hb2); (try clear hk); (try clear hi); (try clear ho0); (try clear ho1)) | ((with_reducible refine gate_dst (N := 19) rfl ?_); refine box_event ?hg (N := 19) ?hd (cs := #[.slice none 0 0, .slice none 0 0]) (t := 25) ?hr ?_; (case hd => rfl); (case hg => rfl); (case hr => first | (go_simp; done) | (go_simp; rfl)); intro gb476 hg w100 hbox hb; have n0_ := Aside0.mk (Kd.R_below (by (with_reducible repeat (first | apply Kd.R_alloc | apply Kd.R_drewN | apply Kd.R_drew)); exact HO_469000.out) hb); have n1_ := Aside0.mk (Kd.R_below (by (with_reducible repeat (first | apply Kd.R_alloc | apply Kd.R_drewN | apply Kd.R_drew)); exact HO_469001.out) hb); have n2_ := Aside0.mk (Kd.R_below (by (with_reducible repeat (first | apply Kd.R_alloc | apply Kd.R_drewN | apply Kd.R_drew)); exact HO471.out) hb); have n3_ := Aside0.mk (Kd.R_below (by (with_reducible repeat (first | apply Kd.R_alloc | apply Kd.R_drewN | apply Kd.R_drew)); exact HO474.out) hb); have n4_ := Aside0.mk (blk_below (g := gb459) (o := .cells #[.slice A0_0 l0_0.length c0_0, .slice A0_1 l0_1.length c0_1] 25 (0, 0)) (by (with_reducible repeat (first | refine blk_drewN ?_ _ | refine blk_drew ?_ | refine blk_alloc ?_ _)); exact BK459.out) hb); have n5_ := Aside0.mk (blk_below (g := gb460) (o := .cells #[.slice none 0 0, .slice none 0 0] 25 (0, 0)) (by (with_reducible repeat (first | refine blk_drewN ?_ _ | refine blk_drew ?_ | refine blk_alloc ?_ _)); exact BK460.out) hb); have n6_ := Aside0.mk (blk_below (g := gb468) (o := .cells #[.slice Ao97 x469000_1.length co97, .slice Ao98 x469001_1.length co98] 25 (0, 0)) (by (with_reducible repeat (first | refine blk_drewN ?_ _ | refine blk_drew ?_ | refine blk_alloc ?_ _)); exact BK468.out) hb); have n7_ := Aside0.mk (below_step (by repeat (first | (with_reducible first | exact HB.out | apply below_alloc | apply pw_below_drewN | apply below_drew1 | refine below_set ?_ GE459.out | refine below_set ?_ GE460.out | refine below_set ?_ GE468.out) | exact HB.out)) hb); have n8_ := Aside0.mk (hbox); have n9_ := Aside0.mk ((by rw [hg]; exact (below_size (by repeat (first | (with_reducible first | exact HB.out | apply below_alloc | apply pw_below_drewN | apply below_drew1 | refine below_set ?_ GE459.out | refine below_set ?_ GE460.out | refine below_set ?_ GE468.out) | exact HB.out))) : w.heap.size ≤ gb476)); have n10_ := Aside0.mk ((by rw [hg]; exact (below_size (by repeat (first | (with_reducible first | exact HB.out | apply below_alloc | apply pw_below_drewN | apply below_drew1 | refine below_set ?_ GE459.out | refine below_set ?_ GE460.out | refine below_set ?_ GE468.out) | exact HB.out))) : w.heap.size ≤ gb476)); have n11_ := Aside0.mk ((by rw [hg]; exact Nat.ne_of_lt (blk_lt (g := gb459) (o := .cells #[.slice A0_0 l0_0.length c0_0, .slice A0_1 l0_1.length c0_1] 25 (0, 0)) (by (with_reducible repeat (first | refine blk_drewN ?_ _ | refine blk_drew ?_ | refine blk_alloc ?_ _)); exact BK459.out)) : gb459 ≠ gb476)); have n12_ := Aside0.mk ((by rw [hg]; exact Nat.ne_of_gt (blk_lt (g := gb459) (o := .cells #[.slice A0_0 l0_0.length c0_0, .slice A0_1 l0_1.length c0_1] 25 (0, 0)) (by (with_reducible repeat (first | refine blk_drewN ?_ _ | refine blk_drew ?_ | refine blk_alloc ?_ _)); exact BK459.out)) : gb476 ≠ gb459)); have n13_ := Aside0.mk ((by rw [hg]; exact Nat.ne_of_lt (blk_lt (g := gb460) (o := .cells #[.slice none 0 0, .slice none 0 0] 25 (0, 0)) (by (with_reducible repeat (first | refine blk_drewN ?_ _ | refine blk_drew ?_ | refine blk_alloc ?_ _)); exact BK460.out)) : gb460 ≠ gb476)); have n14_ := Aside0.mk ((by rw [hg]; exact Nat.ne_of_gt (blk_lt (g := gb460) (o := .cells #[.slice none 0 0, .slice none 0 0] 25 (0, 0)) (by (with_reducible repeat (first | refine blk_drewN ?_ _ | refine blk_drew ?_ | refine blk_alloc ?_ _)); exact BK460.out)) : gb476 ≠ gb460)); have n15_ := Aside0.mk ((by rw [hg]; exact Nat.ne_of_lt (blk_lt (g := gb468) (o := .cells #[.slice Ao97 x469000_1.length co97, .slice Ao98 x469001_1.length co98] 25 (0, 0)) (by (with_reducible repeat (first | refine blk_drewN ?_ _ | refine blk_drew ?_ | refine blk_alloc ?_ _)); exact BK468.out)) : gb468 ≠ gb476)); have n16_ := Aside0.mk ((by rw [hg]; exact Nat.ne_of_gt (blk_lt (g := gb468) (o := .cells #[.slice Ao97 x469000_1.length co97, .slice Ao98 x469001_1.length co98] 25 (0, 0)) (by (with_reducible repeat (first | refine blk_drewN ?_ _ | refine blk_drew ?_ | refine blk_alloc ?_ _)); exact BK468.out)) : gb476 ≠ gb468)); clear HO_469000; clear HO_469001; clear HO471; clear HO474; clear BK459; clear BK460; clear BK468; clear HB; have HO_469000 := n0_; have HO_469001 := n1_; have HO471 := n2_; have HO474 := n3_; have BK459 := n4_; have BK460 := n5_; have BK468 := n6_; have HB := n7_; have BK476 := n8_; have GW476 := n9_; have GE476 := n10_; have NB459_476 := n11_; have NB476_459 := n12_; have NB460_476 := n13_; have NB476_460 := n14_; have NB468_476 := n15_; have NB476_468 := n16_; clear n0_ n1_ n2_ n3_ n4_ n5_ n6_ n7_ n8_ n9_ n10_ n11_ n12_ n13_ n14_ n15_ n16_; clear hb hbox hg; obtain ⟨Ao101, co101, eo101⟩ := Kd.R_slice HO471.out; subst eo101; have hnb102 := NB476_459.out; have hnc102 := NB459_476.out; have hnb103 := NB476_460.out; have hnc103 := NB460_476.out; have hnb104 := NB476_468.out; have hnc104 := NB468_476.out; have hcz105_0 : w100.cell? ⟨gb476, 0, none⟩ = some (.slice none 0 0) := (blk_cell BK476.out 0).trans rfl; have hcz105_1 : w100.cell? ⟨gb476, 1, none⟩ = some (.slice none 0 0) := (blk_cell BK476.out 1).trans rfl; have hfz105_0 := blk_frozen BK476.out 0; have hfz105_1 := blk_frozen BK476.out 1; obtain ⟨Ao106, co106, eo106⟩ := Kd.R_slice HO474.out; subst eo106; have hnb107 := NB460_459.out; have hnc107 := NB459_460.out; have hcz108_0 : w100.cell? ⟨gb460, 0, none⟩ = some (.slice none 0 0) := (blk_cell BK460.out 0).trans rfl; have hcz108_1 : w100.cell? ⟨gb460, 1, none⟩ = some (.slice none 0 0) := (blk_cell BK460.out 1).trans rfl; have hfz108_0 := blk_frozen BK460.out 0; have hfz108_1 := blk_frozen BK460.out 1))
            refine bodyPost_ret (results_ctt rfl _ _ gb460 25 #[.slice Ao101 t469.length co101, .slice Ao106 t472.length co106] (0, 0) _ rfl (by (with_reducible repeat (first | refine blk_drewN ?_ _ | refine blk_drew ?_ | refine blk_alloc ?_ _)); refine blk_put (cs := #[.slice Ao101 t469.length co101, .slice none 0 0]) ?_ 1 _ rfl; (with_reducible repeat (first | refine blk_drewN ?_ _ | refine blk_drew ?_ | refine blk_alloc ?_ _)); refine blk_put (cs := #[.slice none 0 0, .slice none 0 0]) ?_ 0 _ rfl; (with_reducible repeat (first | refine blk_drewN ?_ _ | refine blk_drew ?_ | refine blk_alloc ?_ _)); refine blk_far ?_ NB460_476.out _; (with_reducible repeat (first | refine blk_drewN ?_ _ | refine blk_drew ?_ | refine blk_alloc ?_ _)); refine blk_far ?_ NB460_476.out _; (with_reducible repeat (first | refine blk_drewN ?_ _ | refine blk_drew ?_ | refine blk_alloc ?_ _)); exact BK460.out) Try.underlying25 rfl (by kernel_rfl)) rfl ?_
            exact ⟨_, _, by first | rfl | (simp [errW_none, errW_some] <;> rfl) | (simp only [← hji10, ← hji11]; first | rfl | (simp [errW_none, errW_some] <;> rfl)) | (simp [*, errW_none, errW_some] <;> rfl), by (with_reducible repeat (first | apply Kd.R_alloc | apply Kd.R_drewN | apply Kd.R_drew)); exact Kd.R_mono (Kd.R_far (p := ⟨gb460, 1, none⟩) (Kd.R_far (p := ⟨gb460, 0, none⟩) (Kd.R_far (p := ⟨gb476, 1, none⟩) (Kd.R_far (p := ⟨gb476, 0, none⟩) (Kd.R_types (Kd.R_types HO471.out BK476.out (by decide)) BK460.out (by decide)) (fun _ hk => hk.1.2) (.slice Ao101 t469.length co101)) (fun _ hk => hk.1.2) (.slice Ao106 t472.length co106)) (fun _ hk => hk.2) (.slice Ao101 t469.length co101)) (fun _ hk => hk.2) (.slice Ao106 t472.length co106)) (fun _ hk => trivial), by (with_reducible repeat (first | apply Kd.R_alloc | apply Kd.R_drewN | apply Kd.R_drew)); exact Kd.R_mono (Kd.R_far (p := ⟨gb460, 1, none⟩) (Kd.R_far (p := ⟨gb460, 0, none⟩) (Kd.R_far (p := ⟨gb476, 1, none⟩) (Kd.R_far (p := ⟨gb476, 0, none⟩) (Kd.R_types (Kd.R_types HO474.out BK476.out (by decide)) BK460.out (by decide)) (fun _ hk => hk.1.2) (.slice Ao101 t469.length co101)) (fun _ hk => hk.1.2) (.slice Ao106 t472.length co106)) (fun _ hk => hk.2) (.slice Ao101 t469.length co101)) (fun _ hk => hk.2) (.slice Ao106 t472.length co106)) (fun _ hk => trivial), by repeat (first | (with_reducible first | exact HB.out | apply below_alloc | apply pw_below_drewN | apply below_drew1 | refine below_set ?_ GE459.out | refine below_set ?_ GE460.out | refine below_set ?_ GE468.out | refine below_set ?_ GE476.out) | exact HB.out)⟩
  · rw [if_neg c7] at H
    have c7b0 : (t461 == 0) = false := beq_eq_false_iff_ne.mpr c7
    have c7b1 : (t461 != 0) = true := bne_iff_ne.mpr c7
    simp only [Option.some.injEq, Prod.mk.injEq] at H
    obtain ⟨rfl, rfl, rfl, rfl⟩ := H
    go_enter Try.func33, Try.ntmps33
    go_wp2_with (first | ((with_reducible refine gate_dst (N := 5) rfl ?_); refine box_event ?hg (N := 5) ?hd (cs := #[.slice A0_0 l0_0.length c0_0, .slice A0_1 l0_1.length c0_1]) (t := 25) ?hr ?_; (case hd => rfl); (case hg => rfl); (case hr => first | (go_simp; done) | (go_simp; rfl)); intro gb459 hg w109 hbox hb; have n0_ := Aside0.mk (below_step (by repeat (first | (with_reducible first | exact HB.out | apply below_alloc | apply pw_below_drewN | apply below_drew1) | exact HB.out)) hb); have n1_ := Aside0.mk (hbox); have n2_ := Aside0.mk ((by rw [hg]; exact (below_size (by repeat (first | (with_reducible first | exact HB.out | apply below_alloc | apply pw_below_drewN | apply below_drew1) | exact HB.out))) : w.heap.size ≤ gb459)); have n3_ := Aside0.mk ((by rw [hg]; exact (below_size (by repeat (first | (with_reducible first | exact HB.out | apply below_alloc | apply pw_below_drewN | apply below_drew1) | exact HB.out))) : w.heap.size ≤ gb459)); clear HB; have HB := n0_; have BK459 := n1_; have GW459 := n2_; have GE459 := n3_; clear n0_ n1_ n2_ n3_; clear hb hbox hg) | ((with_reducible refine gate_dst (N := 10) rfl ?_); refine box_event ?hg (N := 10) ?hd (cs := #[.slice none 0 0, .slice none 0 0]) (t := 25) ?hr ?_; (case hd => rfl); (case hg => rfl); (case hr => first | (go_simp; done) | (go_simp; rfl)); intro gb460 hg w110 hbox hb; have n0_ := Aside0.mk (blk_below (g := gb459) (o := .cells #[.slice A0_0 l0_0.length c0_0, .slice A0_1 l0_1.length c0_1] 25 (0, 0)) (by (with_reducible repeat (first | refine blk_drewN ?_ _ | refine blk_drew ?_ | refine blk_alloc ?_ _)); exact BK459.out) hb); have n1_ := Aside0.mk (below_step (by repeat (first | (with_reducible first | exact HB.out | apply below_alloc | apply pw_below_drewN | apply below_drew1 | refine below_set ?_ GE459.out) | exact HB.out)) hb); have n2_ := Aside0.mk (hbox); have n3_ := Aside0.mk ((by rw [hg]; exact (below_size (by repeat (first | (with_reducible first | exact HB.out | apply below_alloc | apply pw_below_drewN | apply below_drew1 | refine below_set ?_ GE459.out) | exact HB.out))) : w.heap.size ≤ gb460)); have n4_ := Aside0.mk ((by rw [hg]; exact (below_size (by repeat (first | (with_reducible first | exact HB.out | apply below_alloc | apply pw_below_drewN | apply below_drew1 | refine below_set ?_ GE459.out) | exact HB.out))) : w.heap.size ≤ gb460)); have n5_ := Aside0.mk ((by rw [hg]; exact Nat.ne_of_lt (blk_lt (g := gb459) (o := .cells #[.slice A0_0 l0_0.length c0_0, .slice A0_1 l0_1.length c0_1] 25 (0, 0)) (by (with_reducible repeat (first | refine blk_drewN ?_ _ | refine blk_drew ?_ | refine blk_alloc ?_ _)); exact BK459.out)) : gb459 ≠ gb460)); have n6_ := Aside0.mk ((by rw [hg]; exact Nat.ne_of_gt (blk_lt (g := gb459) (o := .cells #[.slice A0_0 l0_0.length c0_0, .slice A0_1 l0_1.length c0_1] 25 (0, 0)) (by (with_reducible repeat (first | refine blk_drewN ?_ _ | refine blk_drew ?_ | refine blk_alloc ?_ _)); exact BK459.out)) : gb460 ≠ gb459)); clear BK459; clear HB; have BK459 := n0_; have HB := n1_; have BK460 := n2_; have GW460 := n3_; have GE460 := n4_; have NB459_460 := n5_; have NB460_459 := n6_; clear n0_ n1_ n2_ n3_ n4_ n5_ n6_; clear hb hbox hg; have hnb111 := NB459_460.out; have hnc111 := NB460_459.out; have hcz112_0 : w110.cell? ⟨gb459, 0, none⟩ = some (.slice A0_0 l0_0.length c0_0) := (blk_cell BK459.out 0).trans rfl; have hcz112_1 : w110.cell? ⟨gb459, 1, none⟩ = some (.slice A0_1 l0_1.length c0_1) := (blk_cell BK459.out 1).trans rfl; have hfz112_0 := blk_frozen BK459.out 0; have hfz112_1 := blk_frozen BK459.out 1) | ((with_reducible refine gate_callee (f := 50) rfl ?_); refine goesL_ (some 24) rfl rfl Try.func50 (by kernel_rfl) rfl #[.agg #[.slice A0_0 l0_0.length c0_0, .slice A0_1 l0_1.length c0_1], .int .i64 a1, .int .i64 a2] rfl (by (try simp only [List.map_toArray, List.map_cons, List.map_nil]); first | done | rfl | (simp only [List.length_drop, List.length_take]; rfl)) ?_; (with_reducible refine (wal_open.calls k _ _ l0_0 _ _ l0_1 a1 a2 t461 _ ?side1 ?side2 ?side3 ?side4 A6.out).mono ?_); (case side1 => repeat (first | exact (Kd.C_below HR0_0.out HB.out) | (with_reducible refine Kd.C_alloc ?_ _) | (with_reducible refine Kd.C_drewN ?_ _) | (with_reducible refine Kd.C_drew ?_))); (case side2 => exact HC0_0.out); (case side3 => repeat (first | exact (Kd.C_below HR0_1.out HB.out) | (with_reducible refine Kd.C_alloc ?_ _) | (with_reducible refine Kd.C_drewN ?_ _) | (with_reducible refine Kd.C_drew ?_))); (case side4 => exact HC0_1.out); rintro e w113 ⟨rfl, hb⟩; refine ⟨_, rfl, ?_⟩; have n0_ := Aside0.mk (blk_below (g := gb459) (o := .cells #[.slice A0_0 l0_0.length c0_0, .slice A0_1 l0_1.length c0_1] 25 (0, 0)) (by (with_reducible repeat (first | refine blk_drewN ?_ _ | refine blk_drew ?_ | refine blk_alloc ?_ _)); exact BK459.out) hb); have n1_ := Aside0.mk (blk_below (g := gb460) (o := .cells #[.slice none 0 0, .slice none 0 0] 25 (0, 0)) (by (with_reducible repeat (first | refine blk_drewN ?_ _ | refine blk_drew ?_ | refine blk_alloc ?_ _)); exact BK460.out) hb); have n2_ := Aside0.mk (below_step (by repeat (first | (with_reducible first | exact HB.out | apply below_alloc | apply pw_below_drewN | apply below_drew1 | refine below_set ?_ GE459.out | refine below_set ?_ GE460.out) | exact HB.out)) hb); clear BK459; clear BK460; clear HB; have BK459 := n0_; have BK460 := n1_; have HB := n2_; clear n0_ n1_ n2_; (try clear hb); (try clear hb2); (try clear hk); (try clear hi); have hcz114_0 : w113.cell? ⟨gb460, 0, none⟩ = some (.slice none 0 0) := (blk_cell BK460.out 0).trans rfl; have hcz114_1 : w113.cell? ⟨gb460, 1, none⟩ = some (.slice none 0 0) := (blk_cell BK460.out 1).trans rfl; have hfz114_0 := blk_frozen BK460.out 0; have hfz114_1 := blk_frozen BK460.out 1))
    refine bodyPost_ret (results_ctt rfl _ _ gb460 25 #[.slice none 0 0, .slice none 0 0] (0, 0) _ rfl (by (with_reducible repeat (first | refine blk_drewN ?_ _ | refine blk_drew ?_ | refine blk_alloc ?_ _)); refine blk_put (cs := #[.slice none 0 0, .slice none 0 0]) ?_ 1 _ rfl; (with_reducible repeat (first | refine blk_drewN ?_ _ | refine blk_drew ?_ | refine blk_alloc ?_ _)); refine blk_put (cs := #[.slice none 0 0, .slice none 0 0]) ?_ 0 _ rfl; (with_reducible repeat (first | refine blk_drewN ?_ _ | refine blk_drew ?_ | refine blk_alloc ?_ _)); exact BK460.out) Try.underlying25 rfl (by kernel_rfl)) rfl ?_
    exact ⟨_, _, by first | rfl | (simp [errW_none, errW_some] <;> rfl) | (simp [*, errW_none, errW_some] <;> rfl), by first | exact Kd.R_nil _ _ _ _ _ | exact Kd.N_nil _ _ _ _ _ | exact Kd.V_nil _ _ _ _ _ | exact Kd.Q_nil _ _ _ _ _ | exact Kd.S_nil _ _ _ _ _, by first | exact Kd.R_nil _ _ _ _ _ | exact Kd.N_nil _ _ _ _ _ | exact Kd.V_nil _ _ _ _ _ | exact Kd.Q_nil _ _ _ _ _ | exact Kd.S_nil _ _ _ _ _, by repeat (first | (with_reducible first | exact HB.out | apply below_alloc | apply pw_below_drewN | apply below_drew1 | refine below_set ?_ GE459.out | refine below_set ?_ GE460.out) | exact HB.out)⟩

end Go.Proofs.Ytoibofhmlokglaa.P
-- Written by a program of this session (xprint.py) over the kit's print.py.
namespace Go.Proofs.Ytoibofhmlokglaa.P
open Go.RowKit Go.Proofs.YtoibofhmlokglaaW.PrintWords Go.Proofs.YtoibofhmlokglaaW.PrintLast Go.Proofs.YtoibofhmlokglaaW.PrintMore
attribute [local go_sem] max2_int min2_int max_two min_two max_three min_three max_four min_four   -- for this text's walks alone
set_option linter.unusedVariables false
set_option linter.unusedSimpArgs false

/-! ### sextonref04_Big: function 40 -/
mutual
def sextonref04_Big.j1 : Nat → Int → List ByteArray → List (S40) → Option (Bool)
  | 0, _, _, _ => none
  | k + 1, x3, x102000, x102001 => sextonref04_Big.l1 k x3 0 x102000 x102001
def sextonref04_Big.l1 : Nat → Int → Int → List ByteArray → List (S40) → Option (Bool)
  | 0, _, _, _, _ => none
  | k + 1, x3, x5, x102000, x102001 => if x5 < (x102001.length : Int) then (if (x102001.length : Int) ≤ 150 then (if 0 ≤ x5 then (sextonref04_Big.l1 k (mx x3 (((rd_T40 x102001 x5).f1).size : Int)) (wrap64 (x5 + 1)) x102000 x102001) else (none)) else (if (x102000.length : Int) > 250 then (some true) else (if (x102001.length : Int) > 150 then (some true) else (some (decide (x3 > 400)))))) else (if (x102000.length : Int) > 250 then (some true) else (if (x102001.length : Int) > 150 then (some true) else (some (decide (x3 > 400)))))
def sextonref04_Big.l0 : Nat → Int → Int → List ByteArray → List (S40) → Option (Bool)
  | 0, _, _, _, _ => none
  | k + 1, x3, x4, x102000, x102001 => if x4 < (x102000.length : Int) then (if (x102000.length : Int) ≤ 250 then (if 0 ≤ x4 then (sextonref04_Big.l0 k (mx x3 ((rdOf ByteArray.empty x102000 x4).size : Int)) (wrap64 (x4 + 1)) x102000 x102001) else (none)) else (sextonref04_Big.j1 k x3 x102000 x102001)) else (sextonref04_Big.j1 k x3 x102000 x102001)
end
def sextonref04_Big.f (k : Nat) (l0_0 : List ByteArray) (l0_1 : List (S40)) : Option (Bool) := sextonref04_Big.l0 k 0 0 l0_0 l0_1
set_option maxHeartbeats 8000000 in
set_option maxRecDepth 100000 in
theorem sextonref04_Big.calls (k : Nat) (A0_0 : Option Addr) (c0_0 : Nat) (l0_0 : List ByteArray) (A0_1 : Option Addr) (c0_1 : Nat) (l0_1 : List (S40)) (r : Bool) (w : World) (hr0_0 : Kd.C Kd.string w A0_0 l0_0.length l0_0) (hc0_0 : l0_0.length ≤ c0_0) (hr0_1 : Kd.C k40 w A0_1 l0_1.length l0_1) (hc0_1 : l0_1.length ≤ c0_1) (h : sextonref04_Big.f k l0_0 l0_1 = some r) :
    Calls Try.prog 40 #[.agg #[.slice A0_0 l0_0.length c0_0, .slice A0_1 l0_1.length c0_1]] w fun e w' => e = .returned (.bool r) ∧ Below w.heap.size w w' := by
  have hu25 := Try.underlying25
  have HR0_0 := Aside0.mk hr0_0
  have HC0_0 := Aside0.mk hc0_0
  clear hr0_0 hc0_0
  have HR0_1 := Aside0.mk hr0_1
  have HC0_1 := Aside0.mk hc0_1
  clear hr0_1 hc0_1
  have HB := Aside0.mk (Below.refl w.heap.size w)
  have H : (sextonref04_Big.l0 k 0 0 l0_0 l0_1) = some r := h
  clear h
  have HC2 := Aside0.mk H
  clear H
  go_enter Try.func40, Try.ntmps40
  go_upto_block 0 with (first | ((with_reducible refine gate_dst (N := 1) rfl ?_); (try (refine gate_guard (by rfl) ?_; dsimp only)); refine box_event ?hg (N := 1) ?hd (cs := #[.slice A0_0 l0_0.length c0_0, .slice A0_1 l0_1.length c0_1]) (t := 25) ?hr ?_; (case hd => rfl); (case hg => rfl); (case hr => first | (go_simp; done) | (go_simp; rfl)); intro gb101 hg w3 hbox hb; have n0_ := Aside0.mk (below_step (by repeat (first | (with_reducible first | exact HB.out | apply below_alloc | apply pw_below_drewN | apply below_drew1) | exact HB.out)) hb); have n1_ := Aside0.mk (hbox); have n2_ := Aside0.mk ((by rw [hg]; exact (below_size (by repeat (first | (with_reducible first | exact HB.out | apply below_alloc | apply pw_below_drewN | apply below_drew1) | exact HB.out))) : w.heap.size ≤ gb101)); have n3_ := Aside0.mk ((by rw [hg]; exact (below_size (by repeat (first | (with_reducible first | exact HB.out | apply below_alloc | apply pw_below_drewN | apply below_drew1) | exact HB.out))) : w.heap.size ≤ gb101)); clear HB; have HB := n0_; have BK101 := n1_; have GW101 := n2_; have GE101 := n3_; clear n0_ n1_ n2_ n3_; clear hb hbox hg))
  (try simp only [Act.put, List.setIfInBounds_toArray, List.set_cons_zero, List.set_cons_succ])
  go_cut [3] (fun v3 wc => ∃ (kq : Nat) (x3_1 : Int), v3 = .int .i64 x3_1 ∧ Aside0 (sextonref04_Big.j1 kq x3_1 l0_0 l0_1 = some r) ∧ Aside0 (kq ≤ k) ∧ Aside0 (wc.heap[gb101]? = some (.cells #[(.slice A0_0 l0_0.length c0_0), (.slice A0_1 l0_1.length c0_1)] 25 (0, 0))) ∧ Aside0 (Below w.heap.size w wc))
  case first =>
    have H := HC2.out
    clear HC2
    have H' := Aside0.mk H
    clear H
    go_wp2
    go_loopg [3, 4] k (fun kq v3 v4 w' => ∃ (x3_1 : Int) (x4_1 : Int), v3 = .int .i64 x3_1 ∧ v4 = .int .i64 x4_1 ∧ Aside0 (sextonref04_Big.l0 kq x3_1 x4_1 l0_0 l0_1 = some r) ∧ Aside0 (kq ≤ k) ∧ Aside0 (w'.heap[gb101]? = some (.cells #[(.slice A0_0 l0_0.length c0_0), (.slice A0_1 l0_1.length c0_1)] 25 (0, 0))) ∧ Aside0 (Below w.heap.size w w'))
    case atStart => exact ⟨(0), (0), (by first | rfl | (simp; done) | (simp [*]; done)), (by first | rfl | (simp; done) | (simp [*]; done)), H', ⟨Nat.le_refl _⟩, ⟨by (with_reducible repeat (first | refine blk_drewN ?_ _ | refine blk_drew ?_ | refine blk_alloc ?_ _)); exact BK101.out⟩, ⟨by repeat (first | (with_reducible first | exact HB.out | apply below_alloc | apply pw_below_drewN | apply below_drew1 | refine below_set ?_ GE101.out) | exact HB.out)⟩⟩
    case round =>
      clear H'
      try clear p2
      obtain ⟨x3_1, x4_1, rfl, rfl, HA, HK1, BK101, HB⟩ := hrel
      cases gk with
      | zero => exact absurd HA.out (by simp [sextonref04_Big.l0])
      | succ k1 =>
        have H := HA.out
        clear HA
        simp only [sextonref04_Big.l0] at H
        by_cases c4 : x4_1 < (l0_0.length : Int)
        · rw [if_pos c4] at H
          have c4b0 : decide (x4_1 < (l0_0.length : Int)) = true := decide_eq_true c4
          clear c4
          (first | rw [c4b0] | (simp only [i64_w, i32_w]; rw [c4b0]) | skip)
          by_cases c5 : (l0_0.length : Int) ≤ 250
          · rw [if_pos c5] at H
            have c5b0 : decide ((l0_0.length : Int) ≤ 250) = true := decide_eq_true c5
            have c5b1 : decide (l0_0.length ≤ 250) = true := decide_eq_true (by omega)
            clear c5
            by_cases c6 : 0 ≤ x4_1
            · rw [if_pos c6] at H
              have c6b0 : decide (0 ≤ x4_1) = true := decide_eq_true c6
              clear c6
              obtain ⟨ji7, hji7⟩ : ∃ j_ : Int, (mx x3_1 ((rdOf ByteArray.empty l0_0 x4_1).size : Int)) = j_ := ⟨_, rfl⟩
              replace H : (sextonref04_Big.l0 k1 ji7 (wrap64 (x4_1 + 1)) l0_0 l0_1) = some r := by first | (rw [hji7] at H; exact H) | (simp only [hji7] at H ⊢; exact H)
              have hji7_ : (if x3_1 < ((rdOf ByteArray.empty l0_0 x4_1).size : Int) then ((rdOf ByteArray.empty l0_0 x4_1).size : Int) else x3_1) = ji7 := hji7
              have H' := Aside0.mk H
              clear H
              have hcz8_0 : wr.cell? ⟨gb101, 0, none⟩ = some (.slice A0_0 l0_0.length c0_0) := (blk_cell BK101.out 0).trans rfl
              have hcz8_1 : wr.cell? ⟨gb101, 1, none⟩ = some (.slice A0_1 l0_1.length c0_1) := (blk_cell BK101.out 1).trans rfl
              have hfz8_0 := blk_frozen BK101.out 0
              have hfz8_1 := blk_frozen BK101.out 1
              have p102 : 0 ≤ (x4_1 : Int) := of_decide_eq_true (by first | (with_reducible assumption) | assumption)
              have q102 : x4_1 < (l0_0.length : Int) := of_decide_eq_true (by first | (with_reducible assumption) | assumption)
              obtain ⟨ad102, e102, hx102_0⟩ := Kd.at_string HR0_0.out x4_1 p102 q102
              cases e102
              replace hx102_0 := (HB.out.cell (World.block_lt_of_cell? w _ hx102_0)).trans hx102_0
              replace p102 := eq_true p102
              replace q102 := eq_true q102
              go_wp2
              go_roundg k1
              case measure => have := HK1.out; omega
              case rel => exact ⟨(ji7), (wrap64 (x4_1 + 1)), (by first | rfl | (simp; done) | (simp only [← hji7] <;> (first | rfl | simp)) | (simp [*]; done)), (by first | rfl | (simp; done) | (simp [*]; done)), H', ⟨by have := HK1.out; omega⟩, ⟨by (with_reducible repeat (first | refine blk_drewN ?_ _ | refine blk_drew ?_ | refine blk_alloc ?_ _)); exact BK101.out⟩, ⟨by repeat (first | (with_reducible first | exact HB.out | apply below_alloc | apply pw_below_drewN | apply below_drew1 | refine below_set ?_ GE101.out) | exact HB.out)⟩⟩
            · rw [if_neg c6] at H
              exact absurd H (by simp)
          · rw [if_neg c5] at H
            have c5b0 : decide ((l0_0.length : Int) ≤ 250) = false := decide_eq_false c5
            have c5b1 : decide (l0_0.length ≤ 250) = false := decide_eq_false (by omega)
            clear c5
            have H' := Aside0.mk H
            clear H
            have hcz9_0 : wr.cell? ⟨gb101, 0, none⟩ = some (.slice A0_0 l0_0.length c0_0) := (blk_cell BK101.out 0).trans rfl
            have hcz9_1 : wr.cell? ⟨gb101, 1, none⟩ = some (.slice A0_1 l0_1.length c0_1) := (blk_cell BK101.out 1).trans rfl
            have hfz9_0 := blk_frozen BK101.out 0
            have hfz9_1 := blk_frozen BK101.out 1
            go_wp2
            go_meet
            case rel => exact ⟨_, (x3_1), (by first | rfl | (simp; done) | (simp [*]; done)), H', ⟨by have := HK1.out; first | omega | exact Nat.le_refl _⟩, ⟨by (with_reducible repeat (first | refine blk_drewN ?_ _ | refine blk_drew ?_ | refine blk_alloc ?_ _)); exact BK101.out⟩, ⟨by repeat (first | (with_reducible first | exact HB.out | apply below_alloc | apply pw_below_drewN | apply below_drew1 | refine below_set ?_ GE101.out) | exact HB.out)⟩⟩
        · rw [if_neg c4] at H
          have c4b0 : decide (x4_1 < (l0_0.length : Int)) = false := decide_eq_false c4
          clear c4
          (first | rw [c4b0] | (simp only [i64_w, i32_w]; rw [c4b0]) | skip)
          have H' := Aside0.mk H
          clear H
          have hcz10_0 : wr.cell? ⟨gb101, 0, none⟩ = some (.slice A0_0 l0_0.length c0_0) := (blk_cell BK101.out 0).trans rfl
          have hcz10_1 : wr.cell? ⟨gb101, 1, none⟩ = some (.slice A0_1 l0_1.length c0_1) := (blk_cell BK101.out 1).trans rfl
          have hfz10_0 := blk_frozen BK101.out 0
          have hfz10_1 := blk_frozen BK101.out 1
          go_wp2
          go_meet
          case rel => exact ⟨_, (x3_1), (by first | rfl | (simp; done) | (simp [*]; done)), H', ⟨by have := HK1.out; first | omega | exact Nat.le_refl _⟩, ⟨by (with_reducible repeat (first | refine blk_drewN ?_ _ | refine blk_drew ?_ | refine blk_alloc ?_ _)); exact BK101.out⟩, ⟨by repeat (first | (with_reducible first | exact HB.out | apply below_alloc | apply pw_below_drewN | apply below_drew1 | refine below_set ?_ GE101.out) | exact HB.out)⟩⟩
  case rest =>
    clear HC2
    try clear p1
    try clear q1
    try clear hx1
    try clear p2
    try clear c4
    try clear c4b0
    try clear c5
    try clear c5b0
    try clear c5b1
    try clear c6
    try clear c6b0
    try clear p6
    try clear p10
    try clear q10
    try clear hx10
    try clear hcz10_0
    try clear hcz10_1
    try clear hcz8_0
    try clear hcz8_1
    try clear hcz9_0
    try clear hcz9_1
    try clear hfz10_0
    try clear hfz10_1
    try clear hfz8_0
    try clear hfz8_1
    try clear hfz9_0
    try clear hfz9_1
    try clear hx102_0
    try clear p102
    try clear p2
    try clear q102
    obtain ⟨kq, x3_1, rfl, HA, HJ1, BK101, HB⟩ := hcut
    cases kq with
    | zero => exact absurd HA.out (by simp [sextonref04_Big.j1])
    | succ kj1 =>
      have H := HA.out
      clear HA
      simp only [sextonref04_Big.j1] at H
      have H' := Aside0.mk H
      clear H
      go_wp2
      go_loopg [3, 5] kj1 (fun kq v3 v5 w' => ∃ (x3_2 : Int) (x5_2 : Int), v3 = .int .i64 x3_2 ∧ v5 = .int .i64 x5_2 ∧ Aside0 (sextonref04_Big.l1 kq x3_2 x5_2 l0_0 l0_1 = some r) ∧ Aside0 (kq ≤ kj1) ∧ Aside0 (w'.heap[gb101]? = some (.cells #[(.slice A0_0 l0_0.length c0_0), (.slice A0_1 l0_1.length c0_1)] 25 (0, 0))) ∧ Aside0 (Below w.heap.size w w'))
      case atStart => exact ⟨(x3_1), (0), (by first | rfl | (simp; done) | (simp [*]; done)), (by first | rfl | (simp; done) | (simp [*]; done)), H', ⟨Nat.le_refl _⟩, ⟨by (with_reducible repeat (first | refine blk_drewN ?_ _ | refine blk_drew ?_ | refine blk_alloc ?_ _)); exact BK101.out⟩, ⟨by repeat (first | (with_reducible first | exact HB.out | apply below_alloc | apply pw_below_drewN | apply below_drew1 | refine below_set ?_ GE101.out) | exact HB.out)⟩⟩
      case round =>
        clear H'
        try clear p1
        try clear q1
        try clear hx1
        try clear p2
        try clear c4
        try clear c4b0
        try clear c5
        try clear c5b0
        try clear c5b1
        try clear c6
        try clear c6b0
        try clear p6
        try clear p10
        try clear q10
        try clear hx10
        try clear hcz10_0
        try clear hcz10_1
        try clear hcz8_0
        try clear hcz8_1
        try clear hcz9_0
        try clear hcz9_1
        try clear hfz10_0
        try clear hfz10_1
        try clear hfz8_0
        try clear hfz8_1
        try clear hfz9_0
        try clear hfz9_1
        try clear hx102_0
        try clear p1
        try clear p10
        try clear p102
        try clear p2
        try clear p6
        try clear q1
        try clear q10
        try clear q102
        obtain ⟨x3_2, x5_2, rfl, rfl, HA, HK2, BK101, HB⟩ := hrel
        cases gk with
        | zero => exact absurd HA.out (by simp [sextonref04_Big.l1])
        | succ k2 =>
          have H := HA.out
          clear HA
          simp only [sextonref04_Big.l1] at H
          by_cases c11 : x5_2 < (l0_1.length : Int)
          · rw [if_pos c11] at H
            have c11b0 : decide (x5_2 < (l0_1.length : Int)) = true := decide_eq_true c11
            clear c11
            by_cases c12 : (l0_1.length : Int) ≤ 150
            · rw [if_pos c12] at H
              have c12b0 : decide ((l0_1.length : Int) ≤ 150) = true := decide_eq_true c12
              have c12b1 : decide (l0_1.length ≤ 150) = true := decide_eq_true (by omega)
              clear c12
              by_cases c13 : 0 ≤ x5_2
              · rw [if_pos c13] at H
                have c13b0 : decide (0 ≤ x5_2) = true := decide_eq_true c13
                clear c13
                obtain ⟨ji14, hji14⟩ : ∃ j_ : Int, (mx x3_2 (((rd_T40 l0_1 x5_2).f1).size : Int)) = j_ := ⟨_, rfl⟩
                replace H : (sextonref04_Big.l1 k2 ji14 (wrap64 (x5_2 + 1)) l0_0 l0_1) = some r := by first | (rw [hji14] at H; exact H) | (simp only [hji14] at H ⊢; exact H)
                have hji14_ : (if x3_2 < (((rd_T40 l0_1 x5_2).f1).size : Int) then (((rd_T40 l0_1 x5_2).f1).size : Int) else x3_2) = ji14 := hji14
                have H' := Aside0.mk H
                clear H
                have hcz15_0 : wr.cell? ⟨gb101, 0, none⟩ = some (.slice A0_0 l0_0.length c0_0) := (blk_cell BK101.out 0).trans rfl
                have hcz15_1 : wr.cell? ⟨gb101, 1, none⟩ = some (.slice A0_1 l0_1.length c0_1) := (blk_cell BK101.out 1).trans rfl
                have hfz15_0 := blk_frozen BK101.out 0
                have hfz15_1 := blk_frozen BK101.out 1
                have p103 : 0 ≤ (x5_2 : Int) := of_decide_eq_true (by first | (with_reducible assumption) | assumption)
                have q103 : x5_2 < (l0_1.length : Int) := of_decide_eq_true (by first | (with_reducible assumption) | assumption)
                obtain ⟨ad103, e103, hx103_0, hx103_1⟩ := at_T40 HR0_1.out x5_2 p103 q103
                cases e103
                replace hx103_0 := (HB.out.cell (World.block_lt_of_cell? w _ hx103_0)).trans hx103_0
                replace hx103_1 := (HB.out.cell (World.block_lt_of_cell? w _ hx103_1)).trans hx103_1
                replace p103 := eq_true p103
                replace q103 := eq_true q103
                go_wp2
                go_roundg k2
                case measure => have := HJ1.out; have := HK2.out; omega
                case rel => exact ⟨(ji14), (wrap64 (x5_2 + 1)), (by first | rfl | (simp; done) | (simp only [← hji14] <;> (first | rfl | simp)) | (simp [*]; done)), (by first | rfl | (simp; done) | (simp [*]; done)), H', ⟨by have := HJ1.out; have := HK2.out; omega⟩, ⟨by (with_reducible repeat (first | refine blk_drewN ?_ _ | refine blk_drew ?_ | refine blk_alloc ?_ _)); exact BK101.out⟩, ⟨by repeat (first | (with_reducible first | exact HB.out | apply below_alloc | apply pw_below_drewN | apply below_drew1 | refine below_set ?_ GE101.out) | exact HB.out)⟩⟩
              · rw [if_neg c13] at H
                exact absurd H (by simp)
            · rw [if_neg c12] at H
              have c12b0 : decide ((l0_1.length : Int) ≤ 150) = false := decide_eq_false c12
              have c12b1 : decide (l0_1.length ≤ 150) = false := decide_eq_false (by omega)
              clear c12
              by_cases c16 : (l0_0.length : Int) > 250
              · rw [if_pos c16] at H
                have c16b0 : decide (250 < (l0_0.length : Int)) = true := decide_eq_true c16
                have c16b1 : decide (250 < l0_0.length) = true := decide_eq_true (by omega)
                clear c16
                obtain rfl := Option.some.inj H
                have hcz17_0 : wr.cell? ⟨gb101, 0, none⟩ = some (.slice A0_0 l0_0.length c0_0) := (blk_cell BK101.out 0).trans rfl
                have hcz17_1 : wr.cell? ⟨gb101, 1, none⟩ = some (.slice A0_1 l0_1.length c0_1) := (blk_cell BK101.out 1).trans rfl
                have hfz17_0 := blk_frozen BK101.out 0
                have hfz17_1 := blk_frozen BK101.out 1
                go_wp2
                go_ret
                exact ⟨by first | rfl | (simp [errW_none, errW_some] <;> rfl) | (simp [*, errW_none, errW_some] <;> rfl), by repeat (first | (with_reducible first | exact HB.out | apply below_alloc | apply pw_below_drewN | apply below_drew1 | refine below_set ?_ GE101.out) | exact HB.out)⟩
              · rw [if_neg c16] at H
                have c16b0 : decide (250 < (l0_0.length : Int)) = false := decide_eq_false c16
                have c16b1 : decide (250 < l0_0.length) = false := decide_eq_false (by omega)
                clear c16
                by_cases c18 : (l0_1.length : Int) > 150
                · rw [if_pos c18] at H
                  have c18b0 : decide (150 < (l0_1.length : Int)) = true := decide_eq_true c18
                  have c18b1 : decide (150 < l0_1.length) = true := decide_eq_true (by omega)
                  clear c18
                  obtain rfl := Option.some.inj H
                  have hcz19_0 : wr.cell? ⟨gb101, 0, none⟩ = some (.slice A0_0 l0_0.length c0_0) := (blk_cell BK101.out 0).trans rfl
                  have hcz19_1 : wr.cell? ⟨gb101, 1, none⟩ = some (.slice A0_1 l0_1.length c0_1) := (blk_cell BK101.out 1).trans rfl
                  have hfz19_0 := blk_frozen BK101.out 0
                  have hfz19_1 := blk_frozen BK101.out 1
                  go_wp2
                  go_ret
                  exact ⟨by first | rfl | (simp [errW_none, errW_some] <;> rfl) | (simp [*, errW_none, errW_some] <;> rfl), by repeat (first | (with_reducible first | exact HB.out | apply below_alloc | apply pw_below_drewN | apply below_drew1 | refine below_set ?_ GE101.out) | exact HB.out)⟩
                · rw [if_neg c18] at H
                  have c18b0 : decide (150 < (l0_1.length : Int)) = false := decide_eq_false c18
                  have c18b1 : decide (150 < l0_1.length) = false := decide_eq_false (by omega)
                  clear c18
                  obtain rfl := Option.some.inj H
                  have hcz20_0 : wr.cell? ⟨gb101, 0, none⟩ = some (.slice A0_0 l0_0.length c0_0) := (blk_cell BK101.out 0).trans rfl
                  have hcz20_1 : wr.cell? ⟨gb101, 1, none⟩ = some (.slice A0_1 l0_1.length c0_1) := (blk_cell BK101.out 1).trans rfl
                  have hfz20_0 := blk_frozen BK101.out 0
                  have hfz20_1 := blk_frozen BK101.out 1
                  go_wp2
                  go_ret
                  exact ⟨by first | rfl | (simp [errW_none, errW_some] <;> rfl) | (simp [*, errW_none, errW_some] <;> rfl), by repeat (first | (with_reducible first | exact HB.out | apply below_alloc | apply pw_below_drewN | apply below_drew1 | refine below_set ?_ GE101.out) | exact HB.out)⟩
          · rw [if_neg c11] at H
            have c11b0 : decide (x5_2 < (l0_1.length : Int)) = false := decide_eq_false c11
            clear c11
            by_cases c21 : (l0_0.length : Int) > 250
            · rw [if_pos c21] at H
              have c21b0 : decide (250 < (l0_0.length : Int)) = true := decide_eq_true c21
              have c21b1 : decide (250 < l0_0.length) = true := decide_eq_true (by omega)
              clear c21
              obtain rfl := Option.some.inj H
              have hcz22_0 : wr.cell? ⟨gb101, 0, none⟩ = some (.slice A0_0 l0_0.length c0_0) := (blk_cell BK101.out 0).trans rfl
              have hcz22_1 : wr.cell? ⟨gb101, 1, none⟩ = some (.slice A0_1 l0_1.length c0_1) := (blk_cell BK101.out 1).trans rfl
              have hfz22_0 := blk_frozen BK101.out 0
              have hfz22_1 := blk_frozen BK101.out 1
              go_wp2
              go_ret
              exact ⟨by first | rfl | (simp [errW_none, errW_some] <;> rfl) | (simp [*, errW_none, errW_some] <;> rfl), by repeat (first | (with_reducible first | exact HB.out | apply below_alloc | apply pw_below_drewN | apply below_drew1 | refine below_set ?_ GE101.out) | exact HB.out)⟩
            · rw [if_neg c21] at H
              have c21b0 : decide (250 < (l0_0.length : Int)) = false := decide_eq_false c21
              have c21b1 : decide (250 < l0_0.length) = false := decide_eq_false (by omega)
              clear c21
              by_cases c23 : (l0_1.length : Int) > 150
              · rw [if_pos c23] at H
                have c23b0 : decide (150 < (l0_1.length : Int)) = true := decide_eq_true c23
                have c23b1 : decide (150 < l0_1.length) = true := decide_eq_true (by omega)
                clear c23
                obtain rfl := Option.some.inj H
                have hcz24_0 : wr.cell? ⟨gb101, 0, none⟩ = some (.slice A0_0 l0_0.length c0_0) := (blk_cell BK101.out 0).trans rfl
                have hcz24_1 : wr.cell? ⟨gb101, 1, none⟩ = some (.slice A0_1 l0_1.length c0_1) := (blk_cell BK101.out 1).trans rfl
                have hfz24_0 := blk_frozen BK101.out 0
                have hfz24_1 := blk_frozen BK101.out 1
                go_wp2
                go_ret
                exact ⟨by first | rfl | (simp [errW_none, errW_some] <;> rfl) | (simp [*, errW_none, errW_some] <;> rfl), by repeat (first | (with_reducible first | exact HB.out | apply below_alloc | apply pw_below_drewN | apply below_drew1 | refine below_set ?_ GE101.out) | exact HB.out)⟩
              · rw [if_neg c23] at H
                have c23b0 : decide (150 < (l0_1.length : Int)) = false := decide_eq_false c23
                have c23b1 : decide (150 < l0_1.length) = false := decide_eq_false (by omega)
                clear c23
                obtain rfl := Option.some.inj H
                have hcz25_0 : wr.cell? ⟨gb101, 0, none⟩ = some (.slice A0_0 l0_0.length c0_0) := (blk_cell BK101.out 0).trans rfl
                have hcz25_1 : wr.cell? ⟨gb101, 1, none⟩ = some (.slice A0_1 l0_1.length c0_1) := (blk_cell BK101.out 1).trans rfl
                have hfz25_0 := blk_frozen BK101.out 0
                have hfz25_1 := blk_frozen BK101.out 1
                go_wp2
                go_ret
                exact ⟨by first | rfl | (simp [errW_none, errW_some] <;> rfl) | (simp [*, errW_none, errW_some] <;> rfl), by repeat (first | (with_reducible first | exact HB.out | apply below_alloc | apply pw_below_drewN | apply below_drew1 | refine below_set ?_ GE101.out) | exact HB.out)⟩

end Go.Proofs.Ytoibofhmlokglaa.P
