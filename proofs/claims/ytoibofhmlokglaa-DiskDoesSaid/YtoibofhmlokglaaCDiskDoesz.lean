/-
  The walk and the plain statement of DiskDoes, joined.
-/
import Derived.OwnWalk
import Derived.LoopTactic
import Derived.Test.YtoibofhmlokglaaCd4a
import Derived.Test.YtoibofhmlokglaaCd4b
import Derived.Test.YtoibofhmlokglaaCd4c
import Derived.Test.YtoibofhmlokglaaCd4d
set_option linter.unusedVariables false
set_option linter.unusedSimpArgs false
/-
  sextonlaw04.DiskDoes, by hand: it answers true for every input.
-/
namespace Go.Proofs.Ytoibofhmlokglaa.P
open Go.RowKit Go.Proofs Go.Shelf Go.Proofs.YtoibofhmlokglaaW.PrintWords Go.Proofs.YtoibofhmlokglaaW.PrintLast Go.Proofs.YtoibofhmlokglaaW.PrintMore Go.Proofs.Plain

def blkD (v0 v1 : Value) : Array Value := #[v0, v1]
theorem blkD_one (v0 v1 : Value) (h0 : v0.oneCell' = true) (h1 : v1.oneCell' = true) : ∀ x ∈ (blkD v0 v1).toList, x.oneCell' = true := by
  intro x hx
  simp only [blkD, List.mem_cons, List.not_mem_nil, or_false] at hx
  rcases hx with rfl | rfl
  · exact h0
  · exact h1
theorem store_disk {W : World} {g : Nat} {cur : Array Value} (hh : W.heap[g]? = some (.cells cur 25 (0, 0))) (hs : cur.size = 2) (v0 v1 : Value) (h0 : v0.oneCell' = true) (h1 : v1.oneCell' = true) :
    (Instr.storeAt 25 (.pointer (some ⟨g, 0, none⟩)) (.agg (blkD v0 v1))).run Try.prog W = .ok () (W.setCells g 0 (blkD v0 v1).toList) ∧
    (W.setCells g 0 (blkD v0 v1).toList).heap[g]? = some (.cells (blkD v0 v1) 25 (0, 0)) := by
  have hl : (blkD v0 v1).toList.length = 2 := rfl
  refine ⟨run_store_run (P := Try.prog) (o := 0) 25 _ _ hh rfl (by rw [hl]; kernel_rfl) (by omega) (blkD_one v0 v1 h0 h1), ?_⟩
  obtain ⟨cur', h1, h2, h3⟩ := setCells_row (blkD v0 v1).toList 0 W cur hh (by omega)
  rw [h1]
  have : cur' = blkD v0 v1 := by
    apply Array.toList_inj.1
    rw [h3, List.take_zero, List.nil_append, hl, List.drop_of_length_le (by rw [Array.length_toList]; omega), List.append_nil]
  rw [this]
theorem belowD_cells {B g : Nat} {w W : World} (h : Below B w W) (hg : B ≤ g) (vs : List Value) : Below B w (W.setCells g 0 vs) := by
  have hs := setCells_same g vs 0 W
  exact h.trans ⟨hs.1, hs.2.1, hs.2.2.1, Nat.le_of_eq hs.2.2.2.symm, fun k hk => setCells_far _ _ k (by omega)⟩

/-- What is told of the calls: the program and the reference answer the same. -/
structure DoesOk (k : Nat) (l0 : List ByteArray) (l1 : List S40) (at_ : Int) (s : ByteArray) (l3 : List Bool) (n : Int) (b1 : List ByteArray) (u1 : List S40) (e1 : Int) (t2 : ByteArray) (e2 : Int) (b3 : List ByteArray) (u3 : List S40) (e3 : Int) (b4 : List ByteArray) (u4 : List S40) (e4 : Int) (b5 : List ByteArray) (u5 : List S40) (e5 : Int) (ck : Bool) : Prop where
  far : sextonlaw04_far.f k l0 l1 s l3 = some false
  own : sextonref04_Own.f l0 l1 = some (l0, l1)
  w1 : disk_Write.f l0 l1 at_ s = some (b1, u1, e1)
  w2 : sextonref04_Write.f k l0 l1 at_ s = some (b1, u1, e1)
  r1 : disk_Read.f l0 l1 at_ = some (t2, e2)
  r2 : sextonref04_Read.f k l0 l1 at_ = some (t2, e2)
  s1 : disk_Sync.f l0 l1 = some (b3, u3, e3)
  s2 : sextonref04_Sync.f k l0 l1 = some (b3, u3, e3)
  c1 : disk_Crash.f l0 l1 l3 = some (b4, u4, e4)
  c2 : sextonref04_Crash.f k l0 l1 l3 = some (b4, u4, e4)
  n1 : disk_New.f n = some (b5, u5, e5)
  n2 : sextonref04_New.f n = some (b5, u5, e5)
  k1 : disk_Check.f l0 l1 = some ck
  k2 : sextonref04_Check.f k l0 l1 = some ck
  a1 : sextonref04_Same.f k b1 u1 b1 u1 = some true
  a3 : sextonref04_Same.f k b3 u3 b3 u3 = some true
  a4 : sextonref04_Same.f k b4 u4 b4 u4 = some true
  a5 : sextonref04_Same.f k b5 u5 b5 u5 = some true
  a0 : sextonref04_Same.f k l0 l1 l0 l1 = some true
  z1 : u1.length ≤ 1000
  z3 : b3.length ≤ 1000
  z4 : b4.length ≤ 1000

set_option maxHeartbeats 8000000 in
set_option maxRecDepth 100000 in
theorem does_far (k : Nat) (A0 : Option Addr) (c0 : Nat) (l0 : List ByteArray) (A1 : Option Addr) (c1 : Nat) (l1 : List S40) (at_ : Int) (s : ByteArray) (A3 : Option Addr) (c3 : Nat) (l3 : List Bool) (n : Int) (w : World) (hr0 : Kd.C Kd.string w A0 l0.length l0) (hc0 : l0.length ≤ c0) (hr1 : Kd.C k40 w A1 l1.length l1) (hc1 : l1.length ≤ c1) (hr3 : Kd.C Kd.bool w A3 l3.length l3) (hc3 : l3.length ≤ c3) (hf : sextonlaw04_far.f k l0 l1 s l3 = some true) :
    Calls Try.prog 3 #[.agg #[.slice A0 l0.length c0, .slice A1 l1.length c1], .int .i64 at_, .string s, .slice A3 l3.length c3, .int .i64 n] w fun e w' => e = .returned (.bool true) ∧ Below w.heap.size w w' := by
  have HB0 := Aside0.mk ((Below.refl w.heap.size w).alloc (Nat.le_refl _) (.cells #[.slice A0 l0.length c0, .slice A1 l1.length c1] 25))
  have HD0 := Aside0.mk (blk_new w (.cells #[.slice A0 l0.length c0, .slice A1 l1.length c1] 25))
  have Rd0_0 := Aside0.mk (Kd.C_below hr0 HB0.out)
  have Rd1_0 := Aside0.mk (Kd.C_below hr1 HB0.out)
  have Rk_0 := Aside0.mk (Kd.C_below hr3 HB0.out)
  have HFAR := Aside0.mk hf
  clear hr0 hr1 hr3 hf
  go_enter Try.func3, Try.ntmps3
  go_wp2_with (go_at_call 11; (with_reducible refine (sextonlaw04_far.calls k A0 c0 l0 A1 c1 l1 s A3 c3 l3 true _ Rd0_0.out hc0 Rd1_0.out hc1 Rk_0.out hc3 HFAR.out).mono ?_); rintro e w1 ⟨rfl, hb⟩; have HB1 := Aside0.mk (HB0.out.trans (hb.mono HB0.out.size)); clear hb)
  go_ret
  exact ⟨rfl, HB1.out⟩

set_option maxHeartbeats 16000000 in
set_option maxRecDepth 100000 in
theorem does_in (k : Nat) (A0 : Option Addr) (c0 : Nat) (l0 : List ByteArray) (A1 : Option Addr) (c1 : Nat) (l1 : List S40) (at_ : Int) (s : ByteArray) (A3 : Option Addr) (c3 : Nat) (l3 : List Bool) (n : Int) (b1 : List ByteArray) (u1 : List S40) (e1 : Int) (t2 : ByteArray) (e2 : Int) (b3 : List ByteArray) (u3 : List S40) (e3 : Int) (b4 : List ByteArray) (u4 : List S40) (e4 : Int) (b5 : List ByteArray) (u5 : List S40) (e5 : Int) (ck : Bool) (w : World) (hr0 : Kd.C Kd.string w A0 l0.length l0) (hc0 : l0.length ≤ c0) (hr1 : Kd.C k40 w A1 l1.length l1) (hc1 : l1.length ≤ c1) (hr3 : Kd.C Kd.bool w A3 l3.length l3) (hc3 : l3.length ≤ c3) (hok : DoesOk k l0 l1 at_ s l3 n b1 u1 e1 t2 e2 b3 u3 e3 b4 u4 e4 b5 u5 e5 ck) :
    Calls Try.prog 3 #[.agg #[.slice A0 l0.length c0, .slice A1 l1.length c1], .int .i64 at_, .string s, .slice A3 l3.length c3, .int .i64 n] w fun e w' => e = .returned (.bool true) ∧ Below w.heap.size w w' := by
  have HB0 := Aside0.mk ((Below.refl w.heap.size w).alloc (Nat.le_refl _) (.cells #[.slice A0 l0.length c0, .slice A1 l1.length c1] 25))
  have HD0 := Aside0.mk (blk_new w (.cells #[.slice A0 l0.length c0, .slice A1 l1.length c1] 25))
  have Rd0_0 := Aside0.mk (Kd.C_below hr0 HB0.out)
  have Rd1_0 := Aside0.mk (Kd.C_below hr1 HB0.out)
  have Rk_0 := Aside0.mk (Kd.C_below hr3 HB0.out)
  have OK := Aside0.mk hok
  have HC0 := Aside0.mk hc0
  have HC1 := Aside0.mk hc1
  have HC3 := Aside0.mk hc3
  clear hr0 hr1 hr3 hok hc0 hc1 hc3
  go_enter Try.func3, Try.ntmps3
  go_wp2_with (first | (go_at_call 11; (with_reducible refine (sextonlaw04_far.calls k A0 c0 l0 A1 c1 l1 s A3 c3 l3 false _ Rd0_0.out HC0.out Rd1_0.out HC1.out Rk_0.out HC3.out OK.out.far).mono ?_); rintro e w1 ⟨rfl, hb⟩; have Z1 := Aside0.mk hb.size; have HB1 := Aside0.mk (HB0.out.trans (hb.mono HB0.out.size)); have HD1 := Aside0.mk (blk_below HD0.out hb); have Rd0_1 := Aside0.mk (Kd.C_below Rd0_0.out hb); have Rd1_1 := Aside0.mk (Kd.C_below Rd1_0.out hb); have Rk_1 := Aside0.mk (Kd.C_below Rk_0.out hb); have qD1_0 := blk_cell HD1.out 0; have qD1_1 := blk_cell HD1.out 1; simp only [List.getElem?_toArray, List.getElem?_cons_zero, List.getElem?_cons_succ] at qD1_0 qD1_1; clear hb))
  go_wp2_with (first | (go_at_call 12; (with_reducible refine (sextonref04_Own.calls A0 c0 l0 A1 c1 l1 l0 l1 _ Rd0_1.out HC0.out Rd1_1.out HC1.out OK.out.own).mono ?_); rintro e w2 ⟨v0, v1, rfl, h0, h1, hb⟩; obtain ⟨Aown, cown, rfl⟩ := Kd.R_slice h0; obtain ⟨Bown, down, rfl⟩ := Kd.R_slice h1; have Z2 := Aside0.mk hb.size; have HB2 := Aside0.mk (HB1.out.trans (hb.mono HB1.out.size)); have HD2 := Aside0.mk (blk_below HD1.out hb); have Rd0_2 := Aside0.mk (Kd.C_below Rd0_1.out hb); have Rd1_2 := Aside0.mk (Kd.C_below Rd1_1.out hb); have Rk_2 := Aside0.mk (Kd.C_below Rk_1.out hb); have Rown0_2 := Aside0.mk (Kd.R_reads' h0).2.2; have Lown0 := Aside0.mk (Kd.R_reads' h0).2.1; have Rown1_2 := Aside0.mk (Kd.R_reads' h1).2.2; have Lown1 := Aside0.mk (Kd.R_reads' h1).2.1; clear h0 h1; clear hb) | ((with_reducible refine gate_store (t := 25) (p := 11) rfl ?_); refine store_event (t := 25) (p := 11) (w1 := (w2.alloc (.cells #[.slice none 0 0, .slice none 0 0] 25)).setCells w2.heap.size 0 (blkD (.slice Aown l0.length cown) (.slice Bown l1.length down)).toList) rfl rfl rfl ?hr ?_; (case hr => (unfold execOp; simp only [Act.eval, Sem.run_bind, Sem.run_pure, Result.andThen_ok]; show ((Sem.run Try.prog (Instr.storeAt 25 (.pointer (some ⟨w2.heap.size, 0, none⟩)) (.agg (blkD (.slice Aown l0.length cown) (.slice Bown l1.length down)))) (w2.alloc (.cells #[.slice none 0 0, .slice none 0 0] 25))).andThen _) = _; rw [(store_disk (blk_new w2 (.cells #[.slice none 0 0, .slice none 0 0] 25)) rfl (.slice Aown l0.length cown) (.slice Bown l1.length down) rfl rfl).1]; try rfl)); intro w3 hw_; have HS := Aside0.mk (show Below w2.heap.size w2 w3 by rw [hw_]; exact belowD_cells ((Below.refl _ _).alloc (Nat.le_refl _) _) (Nat.le_refl _) _); have Z3 := Aside0.mk HS.out.size; have HB3 := Aside0.mk (HB2.out.trans (HS.out.mono HB2.out.size)); have HD3 := Aside0.mk (blk_below HD2.out HS.out); have Rd0_3 := Aside0.mk (Kd.C_below Rd0_2.out HS.out); have Rd1_3 := Aside0.mk (Kd.C_below Rd1_2.out HS.out); have Rk_3 := Aside0.mk (Kd.C_below Rk_2.out HS.out); have Rown0_3 := Aside0.mk (Kd.C_below Rown0_2.out HS.out); have Rown1_3 := Aside0.mk (Kd.C_below Rown1_2.out HS.out); have Hown3 := Aside0.mk (hw_ ▸ (store_disk (blk_new w2 (.cells #[.slice none 0 0, .slice none 0 0] 25)) rfl (.slice Aown l0.length cown) (.slice Bown l1.length down) rfl rfl).2 : w3.heap[w2.heap.size]? = some (.cells (blkD (.slice Aown l0.length cown) (.slice Bown l1.length down)) 25 (0, 0))); clear hw_ HS; have qD3_0 := blk_cell HD3.out 0; have qD3_1 := blk_cell HD3.out 1; simp only [List.getElem?_toArray, List.getElem?_cons_zero, List.getElem?_cons_succ] at qD3_0 qD3_1))
  have HW3 := Aside0.mk (Below.refl w3.heap.size w3)
  go_wp2_with (first | (go_at_call 13; (with_reducible refine (disk_Write.calls A0 c0 l0 A1 c1 l1 at_ s b1 u1 e1 _ Rd0_3.out HC0.out Rd1_3.out HC1.out OK.out.w1).mono ?_); rintro e w4 ⟨v0, v1, rfl, h0, h1, hb⟩; obtain ⟨Aa, ca, rfl⟩ := Kd.R_slice h0; obtain ⟨Ba, da, rfl⟩ := Kd.R_slice h1; have Z4 := Aside0.mk hb.size; have HB4 := Aside0.mk (HB3.out.trans (hb.mono HB3.out.size)); have HD4 := Aside0.mk (blk_below HD3.out hb); have Hown4 := Aside0.mk (blk_below Hown3.out hb); have HW4 := Aside0.mk (HW3.out.trans (hb.mono HW3.out.size)); have Rd0_4 := Aside0.mk (Kd.C_below Rd0_3.out hb); have Rd1_4 := Aside0.mk (Kd.C_below Rd1_3.out hb); have Rk_4 := Aside0.mk (Kd.C_below Rk_3.out hb); have Rown0_4 := Aside0.mk (Kd.C_below Rown0_3.out hb); have Rown1_4 := Aside0.mk (Kd.C_below Rown1_3.out hb); have Ra0_4 := Aside0.mk (Kd.R_reads' h0).2.2; have La0 := Aside0.mk (Kd.R_reads' h0).2.1; have Ra1_4 := Aside0.mk (Kd.R_reads' h1).2.2; have La1 := Aside0.mk (Kd.R_reads' h1).2.1; have Oa1_4 := Aside0.mk h1; have Ia1 := Aside0.mk h1; have Ea1 := Aside0.mk hb.size; clear h0 h1; clear hb) | ((with_reducible refine gate_store (t := 25) (p := 12) rfl ?_); refine store_event (t := 25) (p := 12) (w1 := (w4.alloc (.cells #[.slice none 0 0, .slice none 0 0] 25)).setCells w4.heap.size 0 (blkD (.slice Aa b1.length ca) (.slice Ba u1.length da)).toList) rfl rfl rfl ?hr ?_; (case hr => (unfold execOp; simp only [Act.eval, Sem.run_bind, Sem.run_pure, Result.andThen_ok]; show ((Sem.run Try.prog (Instr.storeAt 25 (.pointer (some ⟨w4.heap.size, 0, none⟩)) (.agg (blkD (.slice Aa b1.length ca) (.slice Ba u1.length da)))) (w4.alloc (.cells #[.slice none 0 0, .slice none 0 0] 25))).andThen _) = _; rw [(store_disk (blk_new w4 (.cells #[.slice none 0 0, .slice none 0 0] 25)) rfl (.slice Aa b1.length ca) (.slice Ba u1.length da) rfl rfl).1]; try rfl)); intro w5 hw_; have HS := Aside0.mk (show Below w4.heap.size w4 w5 by rw [hw_]; exact belowD_cells ((Below.refl _ _).alloc (Nat.le_refl _) _) (Nat.le_refl _) _); have Z5 := Aside0.mk HS.out.size; have HB5 := Aside0.mk (HB4.out.trans (HS.out.mono HB4.out.size)); have HD5 := Aside0.mk (blk_below HD4.out HS.out); have Hown5 := Aside0.mk (blk_below Hown4.out HS.out); have HW5 := Aside0.mk (HW4.out.trans (HS.out.mono HW4.out.size)); have Rd0_5 := Aside0.mk (Kd.C_below Rd0_4.out HS.out); have Rd1_5 := Aside0.mk (Kd.C_below Rd1_4.out HS.out); have Rk_5 := Aside0.mk (Kd.C_below Rk_4.out HS.out); have Rown0_5 := Aside0.mk (Kd.C_below Rown0_4.out HS.out); have Rown1_5 := Aside0.mk (Kd.C_below Rown1_4.out HS.out); have Ra0_5 := Aside0.mk (Kd.C_below Ra0_4.out HS.out); have Ra1_5 := Aside0.mk (Kd.C_below Ra1_4.out HS.out); have Oa1_5 := Aside0.mk (Kd.R_below Oa1_4.out HS.out); have Ha5 := Aside0.mk (hw_ ▸ (store_disk (blk_new w4 (.cells #[.slice none 0 0, .slice none 0 0] 25)) rfl (.slice Aa b1.length ca) (.slice Ba u1.length da) rfl rfl).2 : w5.heap[w4.heap.size]? = some (.cells (blkD (.slice Aa b1.length ca) (.slice Ba u1.length da)) 25 (0, 0))); clear hw_ HS; have qown5_0 := blk_cell Hown5.out 0; have qown5_1 := blk_cell Hown5.out 1; simp only [blkD, List.getElem?_toArray, List.getElem?_cons_zero, List.getElem?_cons_succ] at qown5_0 qown5_1))
  go_wp2_with (first | (go_at_call 14; (with_reducible refine (sextonref04_Write.calls k Aown cown l0 Bown down l1 at_ s b1 u1 e1 _ Rown0_5.out Lown0.out Rown1_5.out Lown1.out OK.out.w2).mono ?_); rintro e w6 ⟨v0, v1, rfl, h0, h1, hb⟩; obtain ⟨Ab, cb, rfl⟩ := Kd.R_slice h0; obtain ⟨Bb, db, rfl⟩ := Kd.R_slice h1; have Z6 := Aside0.mk hb.size; have HB6 := Aside0.mk (HB5.out.trans (hb.mono HB5.out.size)); have HD6 := Aside0.mk (blk_below HD5.out hb); have Hown6 := Aside0.mk (blk_below Hown5.out hb); have Ha6 := Aside0.mk (blk_below Ha5.out hb); have HW6 := Aside0.mk (HW5.out.trans (hb.mono HW5.out.size)); have Rd0_6 := Aside0.mk (Kd.C_below Rd0_5.out hb); have Rd1_6 := Aside0.mk (Kd.C_below Rd1_5.out hb); have Rk_6 := Aside0.mk (Kd.C_below Rk_5.out hb); have Rown0_6 := Aside0.mk (Kd.C_below Rown0_5.out hb); have Rown1_6 := Aside0.mk (Kd.C_below Rown1_5.out hb); have Ra0_6 := Aside0.mk (Kd.C_below Ra0_5.out hb); have Ra1_6 := Aside0.mk (Kd.C_below Ra1_5.out hb); have Oa1_6 := Aside0.mk (Kd.R_below Oa1_5.out hb); have Rb0_6 := Aside0.mk (Kd.R_reads' h0).2.2; have Lb0 := Aside0.mk (Kd.R_reads' h0).2.1; have Rb1_6 := Aside0.mk (Kd.R_reads' h1).2.2; have Lb1 := Aside0.mk (Kd.R_reads' h1).2.1; clear h0 h1; clear hb) | ((with_reducible refine gate_store (t := 25) (p := 14) rfl ?_); refine store_event (t := 25) (p := 14) (w1 := (w6.alloc (.cells #[.slice none 0 0, .slice none 0 0] 25)).setCells w6.heap.size 0 (blkD (.slice Ab b1.length cb) (.slice Bb u1.length db)).toList) rfl rfl rfl ?hr ?_; (case hr => (unfold execOp; simp only [Act.eval, Sem.run_bind, Sem.run_pure, Result.andThen_ok]; show ((Sem.run Try.prog (Instr.storeAt 25 (.pointer (some ⟨w6.heap.size, 0, none⟩)) (.agg (blkD (.slice Ab b1.length cb) (.slice Bb u1.length db)))) (w6.alloc (.cells #[.slice none 0 0, .slice none 0 0] 25))).andThen _) = _; rw [(store_disk (blk_new w6 (.cells #[.slice none 0 0, .slice none 0 0] 25)) rfl (.slice Ab b1.length cb) (.slice Bb u1.length db) rfl rfl).1]; try rfl)); intro w7 hw_; have HS := Aside0.mk (show Below w6.heap.size w6 w7 by rw [hw_]; exact belowD_cells ((Below.refl _ _).alloc (Nat.le_refl _) _) (Nat.le_refl _) _); have Z7 := Aside0.mk HS.out.size; have HB7 := Aside0.mk (HB6.out.trans (HS.out.mono HB6.out.size)); have HD7 := Aside0.mk (blk_below HD6.out HS.out); have Hown7 := Aside0.mk (blk_below Hown6.out HS.out); have Ha7 := Aside0.mk (blk_below Ha6.out HS.out); have HW7 := Aside0.mk (HW6.out.trans (HS.out.mono HW6.out.size)); have Rd0_7 := Aside0.mk (Kd.C_below Rd0_6.out HS.out); have Rd1_7 := Aside0.mk (Kd.C_below Rd1_6.out HS.out); have Rk_7 := Aside0.mk (Kd.C_below Rk_6.out HS.out); have Rown0_7 := Aside0.mk (Kd.C_below Rown0_6.out HS.out); have Rown1_7 := Aside0.mk (Kd.C_below Rown1_6.out HS.out); have Ra0_7 := Aside0.mk (Kd.C_below Ra0_6.out HS.out); have Ra1_7 := Aside0.mk (Kd.C_below Ra1_6.out HS.out); have Rb0_7 := Aside0.mk (Kd.C_below Rb0_6.out HS.out); have Rb1_7 := Aside0.mk (Kd.C_below Rb1_6.out HS.out); have Oa1_7 := Aside0.mk (Kd.R_below Oa1_6.out HS.out); have Hb7 := Aside0.mk (hw_ ▸ (store_disk (blk_new w6 (.cells #[.slice none 0 0, .slice none 0 0] 25)) rfl (.slice Ab b1.length cb) (.slice Bb u1.length db) rfl rfl).2 : w7.heap[w6.heap.size]? = some (.cells (blkD (.slice Ab b1.length cb) (.slice Bb u1.length db)) 25 (0, 0))); clear hw_ HS; have qD7_0 := blk_cell HD7.out 0; have qD7_1 := blk_cell HD7.out 1; simp only [List.getElem?_toArray, List.getElem?_cons_zero, List.getElem?_cons_succ] at qD7_0 qD7_1))
  go_wp2_with (first | (go_at_call 15; (with_reducible refine (disk_Read.calls A0 c0 l0 A1 c1 l1 at_ t2 e2 _ Rd0_7.out HC0.out Rd1_7.out HC1.out OK.out.r1).mono ?_); rintro e w8 ⟨rfl, hb⟩; have Z8 := Aside0.mk hb.size; have HB8 := Aside0.mk (HB7.out.trans (hb.mono HB7.out.size)); have HD8 := Aside0.mk (blk_below HD7.out hb); have Hown8 := Aside0.mk (blk_below Hown7.out hb); have Ha8 := Aside0.mk (blk_below Ha7.out hb); have Hb8 := Aside0.mk (blk_below Hb7.out hb); have HW8 := Aside0.mk (HW7.out.trans (hb.mono HW7.out.size)); have Rd0_8 := Aside0.mk (Kd.C_below Rd0_7.out hb); have Rd1_8 := Aside0.mk (Kd.C_below Rd1_7.out hb); have Rk_8 := Aside0.mk (Kd.C_below Rk_7.out hb); have Rown0_8 := Aside0.mk (Kd.C_below Rown0_7.out hb); have Rown1_8 := Aside0.mk (Kd.C_below Rown1_7.out hb); have Ra0_8 := Aside0.mk (Kd.C_below Ra0_7.out hb); have Ra1_8 := Aside0.mk (Kd.C_below Ra1_7.out hb); have Rb0_8 := Aside0.mk (Kd.C_below Rb0_7.out hb); have Rb1_8 := Aside0.mk (Kd.C_below Rb1_7.out hb); have Oa1_8 := Aside0.mk (Kd.R_below Oa1_7.out hb); have qown8_0 := blk_cell Hown8.out 0; have qown8_1 := blk_cell Hown8.out 1; simp only [blkD, List.getElem?_toArray, List.getElem?_cons_zero, List.getElem?_cons_succ] at qown8_0 qown8_1; clear hb))
  go_wp2_with (first | (go_at_call 16; (with_reducible refine (sextonref04_Read.calls k Aown cown l0 Bown down l1 at_ t2 e2 _ Rown0_8.out Lown0.out Rown1_8.out Lown1.out OK.out.r2).mono ?_); rintro e w9 ⟨rfl, hb⟩; have Z9 := Aside0.mk hb.size; have HB9 := Aside0.mk (HB8.out.trans (hb.mono HB8.out.size)); have HD9 := Aside0.mk (blk_below HD8.out hb); have Hown9 := Aside0.mk (blk_below Hown8.out hb); have Ha9 := Aside0.mk (blk_below Ha8.out hb); have Hb9 := Aside0.mk (blk_below Hb8.out hb); have HW9 := Aside0.mk (HW8.out.trans (hb.mono HW8.out.size)); have Rd0_9 := Aside0.mk (Kd.C_below Rd0_8.out hb); have Rd1_9 := Aside0.mk (Kd.C_below Rd1_8.out hb); have Rk_9 := Aside0.mk (Kd.C_below Rk_8.out hb); have Rown0_9 := Aside0.mk (Kd.C_below Rown0_8.out hb); have Rown1_9 := Aside0.mk (Kd.C_below Rown1_8.out hb); have Ra0_9 := Aside0.mk (Kd.C_below Ra0_8.out hb); have Ra1_9 := Aside0.mk (Kd.C_below Ra1_8.out hb); have Rb0_9 := Aside0.mk (Kd.C_below Rb0_8.out hb); have Rb1_9 := Aside0.mk (Kd.C_below Rb1_8.out hb); have Oa1_9 := Aside0.mk (Kd.R_below Oa1_8.out hb); have qD9_0 := blk_cell HD9.out 0; have qD9_1 := blk_cell HD9.out 1; simp only [List.getElem?_toArray, List.getElem?_cons_zero, List.getElem?_cons_succ] at qD9_0 qD9_1; clear hb))
  go_wp2_with (first | (go_at_call 17; (with_reducible refine (disk_Sync.calls A0 c0 l0 A1 c1 l1 b3 u3 e3 _ Rd0_9.out HC0.out Rd1_9.out HC1.out OK.out.s1).mono ?_); rintro e w10 ⟨v0, v1, rfl, h0, h1, hb⟩; obtain ⟨Ax, cx, rfl⟩ := Kd.R_slice h0; obtain ⟨Bx, dx, rfl⟩ := Kd.R_slice h1; have Z10 := Aside0.mk hb.size; have HB10 := Aside0.mk (HB9.out.trans (hb.mono HB9.out.size)); have HD10 := Aside0.mk (blk_below HD9.out hb); have Hown10 := Aside0.mk (blk_below Hown9.out hb); have Ha10 := Aside0.mk (blk_below Ha9.out hb); have Hb10 := Aside0.mk (blk_below Hb9.out hb); have HW10 := Aside0.mk (HW9.out.trans (hb.mono HW9.out.size)); have Rd0_10 := Aside0.mk (Kd.C_below Rd0_9.out hb); have Rd1_10 := Aside0.mk (Kd.C_below Rd1_9.out hb); have Rk_10 := Aside0.mk (Kd.C_below Rk_9.out hb); have Rown0_10 := Aside0.mk (Kd.C_below Rown0_9.out hb); have Rown1_10 := Aside0.mk (Kd.C_below Rown1_9.out hb); have Ra0_10 := Aside0.mk (Kd.C_below Ra0_9.out hb); have Ra1_10 := Aside0.mk (Kd.C_below Ra1_9.out hb); have Rb0_10 := Aside0.mk (Kd.C_below Rb0_9.out hb); have Rb1_10 := Aside0.mk (Kd.C_below Rb1_9.out hb); have Oa1_10 := Aside0.mk (Kd.R_below Oa1_9.out hb); have Rx0_10 := Aside0.mk (Kd.R_reads' h0).2.2; have Lx0 := Aside0.mk (Kd.R_reads' h0).2.1; have Rx1_10 := Aside0.mk (Kd.R_reads' h1).2.2; have Lx1 := Aside0.mk (Kd.R_reads' h1).2.1; have Ox0_10 := Aside0.mk h0; have Ix0 := Aside0.mk h0; have Ex0 := Aside0.mk hb.size; clear h0 h1; clear hb) | ((with_reducible refine gate_store (t := 25) (p := 20) rfl ?_); refine store_event (t := 25) (p := 20) (w1 := (w10.alloc (.cells #[.slice none 0 0, .slice none 0 0] 25)).setCells w10.heap.size 0 (blkD (.slice Ax b3.length cx) (.slice Bx u3.length dx)).toList) rfl rfl rfl ?hr ?_; (case hr => (unfold execOp; simp only [Act.eval, Sem.run_bind, Sem.run_pure, Result.andThen_ok]; show ((Sem.run Try.prog (Instr.storeAt 25 (.pointer (some ⟨w10.heap.size, 0, none⟩)) (.agg (blkD (.slice Ax b3.length cx) (.slice Bx u3.length dx)))) (w10.alloc (.cells #[.slice none 0 0, .slice none 0 0] 25))).andThen _) = _; rw [(store_disk (blk_new w10 (.cells #[.slice none 0 0, .slice none 0 0] 25)) rfl (.slice Ax b3.length cx) (.slice Bx u3.length dx) rfl rfl).1]; try rfl)); intro w11 hw_; have HS := Aside0.mk (show Below w10.heap.size w10 w11 by rw [hw_]; exact belowD_cells ((Below.refl _ _).alloc (Nat.le_refl _) _) (Nat.le_refl _) _); have Z11 := Aside0.mk HS.out.size; have HB11 := Aside0.mk (HB10.out.trans (HS.out.mono HB10.out.size)); have HD11 := Aside0.mk (blk_below HD10.out HS.out); have Hown11 := Aside0.mk (blk_below Hown10.out HS.out); have Ha11 := Aside0.mk (blk_below Ha10.out HS.out); have Hb11 := Aside0.mk (blk_below Hb10.out HS.out); have HW11 := Aside0.mk (HW10.out.trans (HS.out.mono HW10.out.size)); have Rd0_11 := Aside0.mk (Kd.C_below Rd0_10.out HS.out); have Rd1_11 := Aside0.mk (Kd.C_below Rd1_10.out HS.out); have Rk_11 := Aside0.mk (Kd.C_below Rk_10.out HS.out); have Rown0_11 := Aside0.mk (Kd.C_below Rown0_10.out HS.out); have Rown1_11 := Aside0.mk (Kd.C_below Rown1_10.out HS.out); have Ra0_11 := Aside0.mk (Kd.C_below Ra0_10.out HS.out); have Ra1_11 := Aside0.mk (Kd.C_below Ra1_10.out HS.out); have Rb0_11 := Aside0.mk (Kd.C_below Rb0_10.out HS.out); have Rb1_11 := Aside0.mk (Kd.C_below Rb1_10.out HS.out); have Rx0_11 := Aside0.mk (Kd.C_below Rx0_10.out HS.out); have Rx1_11 := Aside0.mk (Kd.C_below Rx1_10.out HS.out); have Oa1_11 := Aside0.mk (Kd.R_below Oa1_10.out HS.out); have Ox0_11 := Aside0.mk (Kd.R_below Ox0_10.out HS.out); have Hx11 := Aside0.mk (hw_ ▸ (store_disk (blk_new w10 (.cells #[.slice none 0 0, .slice none 0 0] 25)) rfl (.slice Ax b3.length cx) (.slice Bx u3.length dx) rfl rfl).2 : w11.heap[w10.heap.size]? = some (.cells (blkD (.slice Ax b3.length cx) (.slice Bx u3.length dx)) 25 (0, 0))); clear hw_ HS; have qown11_0 := blk_cell Hown11.out 0; have qown11_1 := blk_cell Hown11.out 1; simp only [blkD, List.getElem?_toArray, List.getElem?_cons_zero, List.getElem?_cons_succ] at qown11_0 qown11_1))
  go_wp2_with (first | (go_at_call 18; (with_reducible refine (sextonref04_Sync.calls k Aown cown l0 Bown down l1 b3 u3 e3 _ Rown0_11.out Lown0.out Rown1_11.out Lown1.out OK.out.s2).mono ?_); rintro e w12 ⟨v0, v1, rfl, h0, h1, hb⟩; obtain ⟨Ay, cy, rfl⟩ := Kd.R_slice h0; obtain ⟨By, dy, rfl⟩ := Kd.R_slice h1; have Z12 := Aside0.mk hb.size; have HB12 := Aside0.mk (HB11.out.trans (hb.mono HB11.out.size)); have HD12 := Aside0.mk (blk_below HD11.out hb); have Hown12 := Aside0.mk (blk_below Hown11.out hb); have Ha12 := Aside0.mk (blk_below Ha11.out hb); have Hb12 := Aside0.mk (blk_below Hb11.out hb); have Hx12 := Aside0.mk (blk_below Hx11.out hb); have HW12 := Aside0.mk (HW11.out.trans (hb.mono HW11.out.size)); have Rd0_12 := Aside0.mk (Kd.C_below Rd0_11.out hb); have Rd1_12 := Aside0.mk (Kd.C_below Rd1_11.out hb); have Rk_12 := Aside0.mk (Kd.C_below Rk_11.out hb); have Rown0_12 := Aside0.mk (Kd.C_below Rown0_11.out hb); have Rown1_12 := Aside0.mk (Kd.C_below Rown1_11.out hb); have Ra0_12 := Aside0.mk (Kd.C_below Ra0_11.out hb); have Ra1_12 := Aside0.mk (Kd.C_below Ra1_11.out hb); have Rb0_12 := Aside0.mk (Kd.C_below Rb0_11.out hb); have Rb1_12 := Aside0.mk (Kd.C_below Rb1_11.out hb); have Rx0_12 := Aside0.mk (Kd.C_below Rx0_11.out hb); have Rx1_12 := Aside0.mk (Kd.C_below Rx1_11.out hb); have Oa1_12 := Aside0.mk (Kd.R_below Oa1_11.out hb); have Ox0_12 := Aside0.mk (Kd.R_below Ox0_11.out hb); have Ry0_12 := Aside0.mk (Kd.R_reads' h0).2.2; have Ly0 := Aside0.mk (Kd.R_reads' h0).2.1; have Ry1_12 := Aside0.mk (Kd.R_reads' h1).2.2; have Ly1 := Aside0.mk (Kd.R_reads' h1).2.1; clear h0 h1; clear hb) | ((with_reducible refine gate_store (t := 25) (p := 22) rfl ?_); refine store_event (t := 25) (p := 22) (w1 := (w12.alloc (.cells #[.slice none 0 0, .slice none 0 0] 25)).setCells w12.heap.size 0 (blkD (.slice Ay b3.length cy) (.slice By u3.length dy)).toList) rfl rfl rfl ?hr ?_; (case hr => (unfold execOp; simp only [Act.eval, Sem.run_bind, Sem.run_pure, Result.andThen_ok]; show ((Sem.run Try.prog (Instr.storeAt 25 (.pointer (some ⟨w12.heap.size, 0, none⟩)) (.agg (blkD (.slice Ay b3.length cy) (.slice By u3.length dy)))) (w12.alloc (.cells #[.slice none 0 0, .slice none 0 0] 25))).andThen _) = _; rw [(store_disk (blk_new w12 (.cells #[.slice none 0 0, .slice none 0 0] 25)) rfl (.slice Ay b3.length cy) (.slice By u3.length dy) rfl rfl).1]; try rfl)); intro w13 hw_; have HS := Aside0.mk (show Below w12.heap.size w12 w13 by rw [hw_]; exact belowD_cells ((Below.refl _ _).alloc (Nat.le_refl _) _) (Nat.le_refl _) _); have Z13 := Aside0.mk HS.out.size; have HB13 := Aside0.mk (HB12.out.trans (HS.out.mono HB12.out.size)); have HD13 := Aside0.mk (blk_below HD12.out HS.out); have Hown13 := Aside0.mk (blk_below Hown12.out HS.out); have Ha13 := Aside0.mk (blk_below Ha12.out HS.out); have Hb13 := Aside0.mk (blk_below Hb12.out HS.out); have Hx13 := Aside0.mk (blk_below Hx12.out HS.out); have HW13 := Aside0.mk (HW12.out.trans (HS.out.mono HW12.out.size)); have Rd0_13 := Aside0.mk (Kd.C_below Rd0_12.out HS.out); have Rd1_13 := Aside0.mk (Kd.C_below Rd1_12.out HS.out); have Rk_13 := Aside0.mk (Kd.C_below Rk_12.out HS.out); have Rown0_13 := Aside0.mk (Kd.C_below Rown0_12.out HS.out); have Rown1_13 := Aside0.mk (Kd.C_below Rown1_12.out HS.out); have Ra0_13 := Aside0.mk (Kd.C_below Ra0_12.out HS.out); have Ra1_13 := Aside0.mk (Kd.C_below Ra1_12.out HS.out); have Rb0_13 := Aside0.mk (Kd.C_below Rb0_12.out HS.out); have Rb1_13 := Aside0.mk (Kd.C_below Rb1_12.out HS.out); have Rx0_13 := Aside0.mk (Kd.C_below Rx0_12.out HS.out); have Rx1_13 := Aside0.mk (Kd.C_below Rx1_12.out HS.out); have Ry0_13 := Aside0.mk (Kd.C_below Ry0_12.out HS.out); have Ry1_13 := Aside0.mk (Kd.C_below Ry1_12.out HS.out); have Oa1_13 := Aside0.mk (Kd.R_below Oa1_12.out HS.out); have Ox0_13 := Aside0.mk (Kd.R_below Ox0_12.out HS.out); have Hy13 := Aside0.mk (hw_ ▸ (store_disk (blk_new w12 (.cells #[.slice none 0 0, .slice none 0 0] 25)) rfl (.slice Ay b3.length cy) (.slice By u3.length dy) rfl rfl).2 : w13.heap[w12.heap.size]? = some (.cells (blkD (.slice Ay b3.length cy) (.slice By u3.length dy)) 25 (0, 0))); clear hw_ HS; have qD13_0 := blk_cell HD13.out 0; have qD13_1 := blk_cell HD13.out 1; simp only [List.getElem?_toArray, List.getElem?_cons_zero, List.getElem?_cons_succ] at qD13_0 qD13_1))
  go_wp2_with (first | (go_at_call 19; (with_reducible refine (disk_Crash.calls A0 c0 l0 A1 c1 l1 A3 c3 l3 b4 u4 e4 _ Rd0_13.out HC0.out Rd1_13.out HC1.out Rk_13.out HC3.out OK.out.c1).mono ?_); rintro e w14 ⟨v0, v1, rfl, h0, h1, hb⟩; obtain ⟨Au, cu, rfl⟩ := Kd.R_slice h0; obtain ⟨Bu, du, rfl⟩ := Kd.R_slice h1; have Z14 := Aside0.mk hb.size; have HB14 := Aside0.mk (HB13.out.trans (hb.mono HB13.out.size)); have HD14 := Aside0.mk (blk_below HD13.out hb); have Hown14 := Aside0.mk (blk_below Hown13.out hb); have Ha14 := Aside0.mk (blk_below Ha13.out hb); have Hb14 := Aside0.mk (blk_below Hb13.out hb); have Hx14 := Aside0.mk (blk_below Hx13.out hb); have Hy14 := Aside0.mk (blk_below Hy13.out hb); have HW14 := Aside0.mk (HW13.out.trans (hb.mono HW13.out.size)); have Rd0_14 := Aside0.mk (Kd.C_below Rd0_13.out hb); have Rd1_14 := Aside0.mk (Kd.C_below Rd1_13.out hb); have Rk_14 := Aside0.mk (Kd.C_below Rk_13.out hb); have Rown0_14 := Aside0.mk (Kd.C_below Rown0_13.out hb); have Rown1_14 := Aside0.mk (Kd.C_below Rown1_13.out hb); have Ra0_14 := Aside0.mk (Kd.C_below Ra0_13.out hb); have Ra1_14 := Aside0.mk (Kd.C_below Ra1_13.out hb); have Rb0_14 := Aside0.mk (Kd.C_below Rb0_13.out hb); have Rb1_14 := Aside0.mk (Kd.C_below Rb1_13.out hb); have Rx0_14 := Aside0.mk (Kd.C_below Rx0_13.out hb); have Rx1_14 := Aside0.mk (Kd.C_below Rx1_13.out hb); have Ry0_14 := Aside0.mk (Kd.C_below Ry0_13.out hb); have Ry1_14 := Aside0.mk (Kd.C_below Ry1_13.out hb); have Oa1_14 := Aside0.mk (Kd.R_below Oa1_13.out hb); have Ox0_14 := Aside0.mk (Kd.R_below Ox0_13.out hb); have Ru0_14 := Aside0.mk (Kd.R_reads' h0).2.2; have Lu0 := Aside0.mk (Kd.R_reads' h0).2.1; have Ru1_14 := Aside0.mk (Kd.R_reads' h1).2.2; have Lu1 := Aside0.mk (Kd.R_reads' h1).2.1; have Ou0_14 := Aside0.mk h0; have Iu0 := Aside0.mk h0; have Eu0 := Aside0.mk hb.size; clear h0 h1; clear hb) | ((with_reducible refine gate_store (t := 25) (p := 24) rfl ?_); refine store_event (t := 25) (p := 24) (w1 := (w14.alloc (.cells #[.slice none 0 0, .slice none 0 0] 25)).setCells w14.heap.size 0 (blkD (.slice Au b4.length cu) (.slice Bu u4.length du)).toList) rfl rfl rfl ?hr ?_; (case hr => (unfold execOp; simp only [Act.eval, Sem.run_bind, Sem.run_pure, Result.andThen_ok]; show ((Sem.run Try.prog (Instr.storeAt 25 (.pointer (some ⟨w14.heap.size, 0, none⟩)) (.agg (blkD (.slice Au b4.length cu) (.slice Bu u4.length du)))) (w14.alloc (.cells #[.slice none 0 0, .slice none 0 0] 25))).andThen _) = _; rw [(store_disk (blk_new w14 (.cells #[.slice none 0 0, .slice none 0 0] 25)) rfl (.slice Au b4.length cu) (.slice Bu u4.length du) rfl rfl).1]; try rfl)); intro w15 hw_; have HS := Aside0.mk (show Below w14.heap.size w14 w15 by rw [hw_]; exact belowD_cells ((Below.refl _ _).alloc (Nat.le_refl _) _) (Nat.le_refl _) _); have Z15 := Aside0.mk HS.out.size; have HB15 := Aside0.mk (HB14.out.trans (HS.out.mono HB14.out.size)); have HD15 := Aside0.mk (blk_below HD14.out HS.out); have Hown15 := Aside0.mk (blk_below Hown14.out HS.out); have Ha15 := Aside0.mk (blk_below Ha14.out HS.out); have Hb15 := Aside0.mk (blk_below Hb14.out HS.out); have Hx15 := Aside0.mk (blk_below Hx14.out HS.out); have Hy15 := Aside0.mk (blk_below Hy14.out HS.out); have HW15 := Aside0.mk (HW14.out.trans (HS.out.mono HW14.out.size)); have Rd0_15 := Aside0.mk (Kd.C_below Rd0_14.out HS.out); have Rd1_15 := Aside0.mk (Kd.C_below Rd1_14.out HS.out); have Rk_15 := Aside0.mk (Kd.C_below Rk_14.out HS.out); have Rown0_15 := Aside0.mk (Kd.C_below Rown0_14.out HS.out); have Rown1_15 := Aside0.mk (Kd.C_below Rown1_14.out HS.out); have Ra0_15 := Aside0.mk (Kd.C_below Ra0_14.out HS.out); have Ra1_15 := Aside0.mk (Kd.C_below Ra1_14.out HS.out); have Rb0_15 := Aside0.mk (Kd.C_below Rb0_14.out HS.out); have Rb1_15 := Aside0.mk (Kd.C_below Rb1_14.out HS.out); have Rx0_15 := Aside0.mk (Kd.C_below Rx0_14.out HS.out); have Rx1_15 := Aside0.mk (Kd.C_below Rx1_14.out HS.out); have Ry0_15 := Aside0.mk (Kd.C_below Ry0_14.out HS.out); have Ry1_15 := Aside0.mk (Kd.C_below Ry1_14.out HS.out); have Ru0_15 := Aside0.mk (Kd.C_below Ru0_14.out HS.out); have Ru1_15 := Aside0.mk (Kd.C_below Ru1_14.out HS.out); have Oa1_15 := Aside0.mk (Kd.R_below Oa1_14.out HS.out); have Ox0_15 := Aside0.mk (Kd.R_below Ox0_14.out HS.out); have Ou0_15 := Aside0.mk (Kd.R_below Ou0_14.out HS.out); have Hu15 := Aside0.mk (hw_ ▸ (store_disk (blk_new w14 (.cells #[.slice none 0 0, .slice none 0 0] 25)) rfl (.slice Au b4.length cu) (.slice Bu u4.length du) rfl rfl).2 : w15.heap[w14.heap.size]? = some (.cells (blkD (.slice Au b4.length cu) (.slice Bu u4.length du)) 25 (0, 0))); clear hw_ HS; have qown15_0 := blk_cell Hown15.out 0; have qown15_1 := blk_cell Hown15.out 1; simp only [blkD, List.getElem?_toArray, List.getElem?_cons_zero, List.getElem?_cons_succ] at qown15_0 qown15_1))
  go_wp2_with (first | (go_at_call 20; (with_reducible refine (sextonref04_Crash.calls k Aown cown l0 Bown down l1 A3 c3 l3 b4 u4 e4 _ Rown0_15.out Lown0.out Rown1_15.out Lown1.out Rk_15.out HC3.out OK.out.c2).mono ?_); rintro e w16 ⟨v0, v1, rfl, h0, h1, hb⟩; obtain ⟨Av, cv, rfl⟩ := Kd.R_slice h0; obtain ⟨Bv, dv, rfl⟩ := Kd.R_slice h1; have Z16 := Aside0.mk hb.size; have HB16 := Aside0.mk (HB15.out.trans (hb.mono HB15.out.size)); have HD16 := Aside0.mk (blk_below HD15.out hb); have Hown16 := Aside0.mk (blk_below Hown15.out hb); have Ha16 := Aside0.mk (blk_below Ha15.out hb); have Hb16 := Aside0.mk (blk_below Hb15.out hb); have Hx16 := Aside0.mk (blk_below Hx15.out hb); have Hy16 := Aside0.mk (blk_below Hy15.out hb); have Hu16 := Aside0.mk (blk_below Hu15.out hb); have HW16 := Aside0.mk (HW15.out.trans (hb.mono HW15.out.size)); have Rd0_16 := Aside0.mk (Kd.C_below Rd0_15.out hb); have Rd1_16 := Aside0.mk (Kd.C_below Rd1_15.out hb); have Rk_16 := Aside0.mk (Kd.C_below Rk_15.out hb); have Rown0_16 := Aside0.mk (Kd.C_below Rown0_15.out hb); have Rown1_16 := Aside0.mk (Kd.C_below Rown1_15.out hb); have Ra0_16 := Aside0.mk (Kd.C_below Ra0_15.out hb); have Ra1_16 := Aside0.mk (Kd.C_below Ra1_15.out hb); have Rb0_16 := Aside0.mk (Kd.C_below Rb0_15.out hb); have Rb1_16 := Aside0.mk (Kd.C_below Rb1_15.out hb); have Rx0_16 := Aside0.mk (Kd.C_below Rx0_15.out hb); have Rx1_16 := Aside0.mk (Kd.C_below Rx1_15.out hb); have Ry0_16 := Aside0.mk (Kd.C_below Ry0_15.out hb); have Ry1_16 := Aside0.mk (Kd.C_below Ry1_15.out hb); have Ru0_16 := Aside0.mk (Kd.C_below Ru0_15.out hb); have Ru1_16 := Aside0.mk (Kd.C_below Ru1_15.out hb); have Oa1_16 := Aside0.mk (Kd.R_below Oa1_15.out hb); have Ox0_16 := Aside0.mk (Kd.R_below Ox0_15.out hb); have Ou0_16 := Aside0.mk (Kd.R_below Ou0_15.out hb); have Rv0_16 := Aside0.mk (Kd.R_reads' h0).2.2; have Lv0 := Aside0.mk (Kd.R_reads' h0).2.1; have Rv1_16 := Aside0.mk (Kd.R_reads' h1).2.2; have Lv1 := Aside0.mk (Kd.R_reads' h1).2.1; clear h0 h1; clear hb) | ((with_reducible refine gate_store (t := 25) (p := 26) rfl ?_); refine store_event (t := 25) (p := 26) (w1 := (w16.alloc (.cells #[.slice none 0 0, .slice none 0 0] 25)).setCells w16.heap.size 0 (blkD (.slice Av b4.length cv) (.slice Bv u4.length dv)).toList) rfl rfl rfl ?hr ?_; (case hr => (unfold execOp; simp only [Act.eval, Sem.run_bind, Sem.run_pure, Result.andThen_ok]; show ((Sem.run Try.prog (Instr.storeAt 25 (.pointer (some ⟨w16.heap.size, 0, none⟩)) (.agg (blkD (.slice Av b4.length cv) (.slice Bv u4.length dv)))) (w16.alloc (.cells #[.slice none 0 0, .slice none 0 0] 25))).andThen _) = _; rw [(store_disk (blk_new w16 (.cells #[.slice none 0 0, .slice none 0 0] 25)) rfl (.slice Av b4.length cv) (.slice Bv u4.length dv) rfl rfl).1]; try rfl)); intro w17 hw_; have HS := Aside0.mk (show Below w16.heap.size w16 w17 by rw [hw_]; exact belowD_cells ((Below.refl _ _).alloc (Nat.le_refl _) _) (Nat.le_refl _) _); have Z17 := Aside0.mk HS.out.size; have HB17 := Aside0.mk (HB16.out.trans (HS.out.mono HB16.out.size)); have HD17 := Aside0.mk (blk_below HD16.out HS.out); have Hown17 := Aside0.mk (blk_below Hown16.out HS.out); have Ha17 := Aside0.mk (blk_below Ha16.out HS.out); have Hb17 := Aside0.mk (blk_below Hb16.out HS.out); have Hx17 := Aside0.mk (blk_below Hx16.out HS.out); have Hy17 := Aside0.mk (blk_below Hy16.out HS.out); have Hu17 := Aside0.mk (blk_below Hu16.out HS.out); have HW17 := Aside0.mk (HW16.out.trans (HS.out.mono HW16.out.size)); have Rd0_17 := Aside0.mk (Kd.C_below Rd0_16.out HS.out); have Rd1_17 := Aside0.mk (Kd.C_below Rd1_16.out HS.out); have Rk_17 := Aside0.mk (Kd.C_below Rk_16.out HS.out); have Rown0_17 := Aside0.mk (Kd.C_below Rown0_16.out HS.out); have Rown1_17 := Aside0.mk (Kd.C_below Rown1_16.out HS.out); have Ra0_17 := Aside0.mk (Kd.C_below Ra0_16.out HS.out); have Ra1_17 := Aside0.mk (Kd.C_below Ra1_16.out HS.out); have Rb0_17 := Aside0.mk (Kd.C_below Rb0_16.out HS.out); have Rb1_17 := Aside0.mk (Kd.C_below Rb1_16.out HS.out); have Rx0_17 := Aside0.mk (Kd.C_below Rx0_16.out HS.out); have Rx1_17 := Aside0.mk (Kd.C_below Rx1_16.out HS.out); have Ry0_17 := Aside0.mk (Kd.C_below Ry0_16.out HS.out); have Ry1_17 := Aside0.mk (Kd.C_below Ry1_16.out HS.out); have Ru0_17 := Aside0.mk (Kd.C_below Ru0_16.out HS.out); have Ru1_17 := Aside0.mk (Kd.C_below Ru1_16.out HS.out); have Rv0_17 := Aside0.mk (Kd.C_below Rv0_16.out HS.out); have Rv1_17 := Aside0.mk (Kd.C_below Rv1_16.out HS.out); have Oa1_17 := Aside0.mk (Kd.R_below Oa1_16.out HS.out); have Ox0_17 := Aside0.mk (Kd.R_below Ox0_16.out HS.out); have Ou0_17 := Aside0.mk (Kd.R_below Ou0_16.out HS.out); have Hv17 := Aside0.mk (hw_ ▸ (store_disk (blk_new w16 (.cells #[.slice none 0 0, .slice none 0 0] 25)) rfl (.slice Av b4.length cv) (.slice Bv u4.length dv) rfl rfl).2 : w17.heap[w16.heap.size]? = some (.cells (blkD (.slice Av b4.length cv) (.slice Bv u4.length dv)) 25 (0, 0))); clear hw_ HS; have qD17_0 := blk_cell HD17.out 0; have qD17_1 := blk_cell HD17.out 1; simp only [List.getElem?_toArray, List.getElem?_cons_zero, List.getElem?_cons_succ] at qD17_0 qD17_1))
  go_wp2_with (first | (go_at_call 21; (with_reducible refine (disk_New.calls n b5 u5 e5 _ OK.out.n1).mono ?_); rintro e w18 ⟨v0, v1, rfl, h0, h1, hb⟩; obtain ⟨Aw, cw, rfl⟩ := Kd.R_slice h0; obtain ⟨Bw, dw, rfl⟩ := Kd.R_slice h1; have Z18 := Aside0.mk hb.size; have HB18 := Aside0.mk (HB17.out.trans (hb.mono HB17.out.size)); have HD18 := Aside0.mk (blk_below HD17.out hb); have Hown18 := Aside0.mk (blk_below Hown17.out hb); have Ha18 := Aside0.mk (blk_below Ha17.out hb); have Hb18 := Aside0.mk (blk_below Hb17.out hb); have Hx18 := Aside0.mk (blk_below Hx17.out hb); have Hy18 := Aside0.mk (blk_below Hy17.out hb); have Hu18 := Aside0.mk (blk_below Hu17.out hb); have Hv18 := Aside0.mk (blk_below Hv17.out hb); have HW18 := Aside0.mk (HW17.out.trans (hb.mono HW17.out.size)); have Rd0_18 := Aside0.mk (Kd.C_below Rd0_17.out hb); have Rd1_18 := Aside0.mk (Kd.C_below Rd1_17.out hb); have Rk_18 := Aside0.mk (Kd.C_below Rk_17.out hb); have Rown0_18 := Aside0.mk (Kd.C_below Rown0_17.out hb); have Rown1_18 := Aside0.mk (Kd.C_below Rown1_17.out hb); have Ra0_18 := Aside0.mk (Kd.C_below Ra0_17.out hb); have Ra1_18 := Aside0.mk (Kd.C_below Ra1_17.out hb); have Rb0_18 := Aside0.mk (Kd.C_below Rb0_17.out hb); have Rb1_18 := Aside0.mk (Kd.C_below Rb1_17.out hb); have Rx0_18 := Aside0.mk (Kd.C_below Rx0_17.out hb); have Rx1_18 := Aside0.mk (Kd.C_below Rx1_17.out hb); have Ry0_18 := Aside0.mk (Kd.C_below Ry0_17.out hb); have Ry1_18 := Aside0.mk (Kd.C_below Ry1_17.out hb); have Ru0_18 := Aside0.mk (Kd.C_below Ru0_17.out hb); have Ru1_18 := Aside0.mk (Kd.C_below Ru1_17.out hb); have Rv0_18 := Aside0.mk (Kd.C_below Rv0_17.out hb); have Rv1_18 := Aside0.mk (Kd.C_below Rv1_17.out hb); have Oa1_18 := Aside0.mk (Kd.R_below Oa1_17.out hb); have Ox0_18 := Aside0.mk (Kd.R_below Ox0_17.out hb); have Ou0_18 := Aside0.mk (Kd.R_below Ou0_17.out hb); have Rw0_18 := Aside0.mk (Kd.R_reads' h0).2.2; have Lw0 := Aside0.mk (Kd.R_reads' h0).2.1; have Rw1_18 := Aside0.mk (Kd.R_reads' h1).2.2; have Lw1 := Aside0.mk (Kd.R_reads' h1).2.1; clear h0 h1; clear hb) | ((with_reducible refine gate_store (t := 25) (p := 28) rfl ?_); refine store_event (t := 25) (p := 28) (w1 := (w18.alloc (.cells #[.slice none 0 0, .slice none 0 0] 25)).setCells w18.heap.size 0 (blkD (.slice Aw b5.length cw) (.slice Bw u5.length dw)).toList) rfl rfl rfl ?hr ?_; (case hr => (unfold execOp; simp only [Act.eval, Sem.run_bind, Sem.run_pure, Result.andThen_ok]; show ((Sem.run Try.prog (Instr.storeAt 25 (.pointer (some ⟨w18.heap.size, 0, none⟩)) (.agg (blkD (.slice Aw b5.length cw) (.slice Bw u5.length dw)))) (w18.alloc (.cells #[.slice none 0 0, .slice none 0 0] 25))).andThen _) = _; rw [(store_disk (blk_new w18 (.cells #[.slice none 0 0, .slice none 0 0] 25)) rfl (.slice Aw b5.length cw) (.slice Bw u5.length dw) rfl rfl).1]; try rfl)); intro w19 hw_; have HS := Aside0.mk (show Below w18.heap.size w18 w19 by rw [hw_]; exact belowD_cells ((Below.refl _ _).alloc (Nat.le_refl _) _) (Nat.le_refl _) _); have Z19 := Aside0.mk HS.out.size; have HB19 := Aside0.mk (HB18.out.trans (HS.out.mono HB18.out.size)); have HD19 := Aside0.mk (blk_below HD18.out HS.out); have Hown19 := Aside0.mk (blk_below Hown18.out HS.out); have Ha19 := Aside0.mk (blk_below Ha18.out HS.out); have Hb19 := Aside0.mk (blk_below Hb18.out HS.out); have Hx19 := Aside0.mk (blk_below Hx18.out HS.out); have Hy19 := Aside0.mk (blk_below Hy18.out HS.out); have Hu19 := Aside0.mk (blk_below Hu18.out HS.out); have Hv19 := Aside0.mk (blk_below Hv18.out HS.out); have HW19 := Aside0.mk (HW18.out.trans (HS.out.mono HW18.out.size)); have Rd0_19 := Aside0.mk (Kd.C_below Rd0_18.out HS.out); have Rd1_19 := Aside0.mk (Kd.C_below Rd1_18.out HS.out); have Rk_19 := Aside0.mk (Kd.C_below Rk_18.out HS.out); have Rown0_19 := Aside0.mk (Kd.C_below Rown0_18.out HS.out); have Rown1_19 := Aside0.mk (Kd.C_below Rown1_18.out HS.out); have Ra0_19 := Aside0.mk (Kd.C_below Ra0_18.out HS.out); have Ra1_19 := Aside0.mk (Kd.C_below Ra1_18.out HS.out); have Rb0_19 := Aside0.mk (Kd.C_below Rb0_18.out HS.out); have Rb1_19 := Aside0.mk (Kd.C_below Rb1_18.out HS.out); have Rx0_19 := Aside0.mk (Kd.C_below Rx0_18.out HS.out); have Rx1_19 := Aside0.mk (Kd.C_below Rx1_18.out HS.out); have Ry0_19 := Aside0.mk (Kd.C_below Ry0_18.out HS.out); have Ry1_19 := Aside0.mk (Kd.C_below Ry1_18.out HS.out); have Ru0_19 := Aside0.mk (Kd.C_below Ru0_18.out HS.out); have Ru1_19 := Aside0.mk (Kd.C_below Ru1_18.out HS.out); have Rv0_19 := Aside0.mk (Kd.C_below Rv0_18.out HS.out); have Rv1_19 := Aside0.mk (Kd.C_below Rv1_18.out HS.out); have Rw0_19 := Aside0.mk (Kd.C_below Rw0_18.out HS.out); have Rw1_19 := Aside0.mk (Kd.C_below Rw1_18.out HS.out); have Oa1_19 := Aside0.mk (Kd.R_below Oa1_18.out HS.out); have Ox0_19 := Aside0.mk (Kd.R_below Ox0_18.out HS.out); have Ou0_19 := Aside0.mk (Kd.R_below Ou0_18.out HS.out); have Hw19 := Aside0.mk (hw_ ▸ (store_disk (blk_new w18 (.cells #[.slice none 0 0, .slice none 0 0] 25)) rfl (.slice Aw b5.length cw) (.slice Bw u5.length dw) rfl rfl).2 : w19.heap[w18.heap.size]? = some (.cells (blkD (.slice Aw b5.length cw) (.slice Bw u5.length dw)) 25 (0, 0))); clear hw_ HS))
  go_wp2_with (first | (go_at_call 22; (with_reducible refine (sextonref04_New.calls n b5 u5 e5 _ OK.out.n2).mono ?_); rintro e w20 ⟨v0, v1, rfl, h0, h1, hb⟩; obtain ⟨Az, cz, rfl⟩ := Kd.R_slice h0; obtain ⟨Bz, dz, rfl⟩ := Kd.R_slice h1; have Z20 := Aside0.mk hb.size; have HB20 := Aside0.mk (HB19.out.trans (hb.mono HB19.out.size)); have HD20 := Aside0.mk (blk_below HD19.out hb); have Hown20 := Aside0.mk (blk_below Hown19.out hb); have Ha20 := Aside0.mk (blk_below Ha19.out hb); have Hb20 := Aside0.mk (blk_below Hb19.out hb); have Hx20 := Aside0.mk (blk_below Hx19.out hb); have Hy20 := Aside0.mk (blk_below Hy19.out hb); have Hu20 := Aside0.mk (blk_below Hu19.out hb); have Hv20 := Aside0.mk (blk_below Hv19.out hb); have Hw20 := Aside0.mk (blk_below Hw19.out hb); have HW20 := Aside0.mk (HW19.out.trans (hb.mono HW19.out.size)); have Rd0_20 := Aside0.mk (Kd.C_below Rd0_19.out hb); have Rd1_20 := Aside0.mk (Kd.C_below Rd1_19.out hb); have Rk_20 := Aside0.mk (Kd.C_below Rk_19.out hb); have Rown0_20 := Aside0.mk (Kd.C_below Rown0_19.out hb); have Rown1_20 := Aside0.mk (Kd.C_below Rown1_19.out hb); have Ra0_20 := Aside0.mk (Kd.C_below Ra0_19.out hb); have Ra1_20 := Aside0.mk (Kd.C_below Ra1_19.out hb); have Rb0_20 := Aside0.mk (Kd.C_below Rb0_19.out hb); have Rb1_20 := Aside0.mk (Kd.C_below Rb1_19.out hb); have Rx0_20 := Aside0.mk (Kd.C_below Rx0_19.out hb); have Rx1_20 := Aside0.mk (Kd.C_below Rx1_19.out hb); have Ry0_20 := Aside0.mk (Kd.C_below Ry0_19.out hb); have Ry1_20 := Aside0.mk (Kd.C_below Ry1_19.out hb); have Ru0_20 := Aside0.mk (Kd.C_below Ru0_19.out hb); have Ru1_20 := Aside0.mk (Kd.C_below Ru1_19.out hb); have Rv0_20 := Aside0.mk (Kd.C_below Rv0_19.out hb); have Rv1_20 := Aside0.mk (Kd.C_below Rv1_19.out hb); have Rw0_20 := Aside0.mk (Kd.C_below Rw0_19.out hb); have Rw1_20 := Aside0.mk (Kd.C_below Rw1_19.out hb); have Oa1_20 := Aside0.mk (Kd.R_below Oa1_19.out hb); have Ox0_20 := Aside0.mk (Kd.R_below Ox0_19.out hb); have Ou0_20 := Aside0.mk (Kd.R_below Ou0_19.out hb); have Rz0_20 := Aside0.mk (Kd.R_reads' h0).2.2; have Lz0 := Aside0.mk (Kd.R_reads' h0).2.1; have Rz1_20 := Aside0.mk (Kd.R_reads' h1).2.2; have Lz1 := Aside0.mk (Kd.R_reads' h1).2.1; clear h0 h1; clear hb) | ((with_reducible refine gate_store (t := 25) (p := 30) rfl ?_); refine store_event (t := 25) (p := 30) (w1 := (w20.alloc (.cells #[.slice none 0 0, .slice none 0 0] 25)).setCells w20.heap.size 0 (blkD (.slice Az b5.length cz) (.slice Bz u5.length dz)).toList) rfl rfl rfl ?hr ?_; (case hr => (unfold execOp; simp only [Act.eval, Sem.run_bind, Sem.run_pure, Result.andThen_ok]; show ((Sem.run Try.prog (Instr.storeAt 25 (.pointer (some ⟨w20.heap.size, 0, none⟩)) (.agg (blkD (.slice Az b5.length cz) (.slice Bz u5.length dz)))) (w20.alloc (.cells #[.slice none 0 0, .slice none 0 0] 25))).andThen _) = _; rw [(store_disk (blk_new w20 (.cells #[.slice none 0 0, .slice none 0 0] 25)) rfl (.slice Az b5.length cz) (.slice Bz u5.length dz) rfl rfl).1]; try rfl)); intro w21 hw_; have HS := Aside0.mk (show Below w20.heap.size w20 w21 by rw [hw_]; exact belowD_cells ((Below.refl _ _).alloc (Nat.le_refl _) _) (Nat.le_refl _) _); have Z21 := Aside0.mk HS.out.size; have HB21 := Aside0.mk (HB20.out.trans (HS.out.mono HB20.out.size)); have HD21 := Aside0.mk (blk_below HD20.out HS.out); have Hown21 := Aside0.mk (blk_below Hown20.out HS.out); have Ha21 := Aside0.mk (blk_below Ha20.out HS.out); have Hb21 := Aside0.mk (blk_below Hb20.out HS.out); have Hx21 := Aside0.mk (blk_below Hx20.out HS.out); have Hy21 := Aside0.mk (blk_below Hy20.out HS.out); have Hu21 := Aside0.mk (blk_below Hu20.out HS.out); have Hv21 := Aside0.mk (blk_below Hv20.out HS.out); have Hw21 := Aside0.mk (blk_below Hw20.out HS.out); have HW21 := Aside0.mk (HW20.out.trans (HS.out.mono HW20.out.size)); have Rd0_21 := Aside0.mk (Kd.C_below Rd0_20.out HS.out); have Rd1_21 := Aside0.mk (Kd.C_below Rd1_20.out HS.out); have Rk_21 := Aside0.mk (Kd.C_below Rk_20.out HS.out); have Rown0_21 := Aside0.mk (Kd.C_below Rown0_20.out HS.out); have Rown1_21 := Aside0.mk (Kd.C_below Rown1_20.out HS.out); have Ra0_21 := Aside0.mk (Kd.C_below Ra0_20.out HS.out); have Ra1_21 := Aside0.mk (Kd.C_below Ra1_20.out HS.out); have Rb0_21 := Aside0.mk (Kd.C_below Rb0_20.out HS.out); have Rb1_21 := Aside0.mk (Kd.C_below Rb1_20.out HS.out); have Rx0_21 := Aside0.mk (Kd.C_below Rx0_20.out HS.out); have Rx1_21 := Aside0.mk (Kd.C_below Rx1_20.out HS.out); have Ry0_21 := Aside0.mk (Kd.C_below Ry0_20.out HS.out); have Ry1_21 := Aside0.mk (Kd.C_below Ry1_20.out HS.out); have Ru0_21 := Aside0.mk (Kd.C_below Ru0_20.out HS.out); have Ru1_21 := Aside0.mk (Kd.C_below Ru1_20.out HS.out); have Rv0_21 := Aside0.mk (Kd.C_below Rv0_20.out HS.out); have Rv1_21 := Aside0.mk (Kd.C_below Rv1_20.out HS.out); have Rw0_21 := Aside0.mk (Kd.C_below Rw0_20.out HS.out); have Rw1_21 := Aside0.mk (Kd.C_below Rw1_20.out HS.out); have Rz0_21 := Aside0.mk (Kd.C_below Rz0_20.out HS.out); have Rz1_21 := Aside0.mk (Kd.C_below Rz1_20.out HS.out); have Oa1_21 := Aside0.mk (Kd.R_below Oa1_20.out HS.out); have Ox0_21 := Aside0.mk (Kd.R_below Ox0_20.out HS.out); have Ou0_21 := Aside0.mk (Kd.R_below Ou0_20.out HS.out); have Hz21 := Aside0.mk (hw_ ▸ (store_disk (blk_new w20 (.cells #[.slice none 0 0, .slice none 0 0] 25)) rfl (.slice Az b5.length cz) (.slice Bz u5.length dz) rfl rfl).2 : w21.heap[w20.heap.size]? = some (.cells (blkD (.slice Az b5.length cz) (.slice Bz u5.length dz)) 25 (0, 0))); clear hw_ HS))
  have HS := Aside0.mk (below_drew1 (Below.refl w21.heap.size w21))
  refine start_ (n := 56) (S := fun w' => w'.cell? ⟨w.heap.size, 0, none⟩ = some (.slice A0 l0.length c0) ∧ w'.cell? ⟨w.heap.size, 1, none⟩ = some (.slice A1 l1.length c1) ∧ w'.cell? ⟨w2.heap.size, 0, none⟩ = some (.slice Aown l0.length cown) ∧ w'.cell? ⟨w2.heap.size, 1, none⟩ = some (.slice Bown l1.length down) ∧ w'.cell? ⟨w4.heap.size, 0, none⟩ = some (.slice Aa b1.length ca) ∧ w'.cell? ⟨w4.heap.size, 1, none⟩ = some (.slice Ba u1.length da) ∧ w'.cell? ⟨w6.heap.size, 0, none⟩ = some (.slice Ab b1.length cb) ∧ w'.cell? ⟨w6.heap.size, 1, none⟩ = some (.slice Bb u1.length db) ∧ w'.cell? ⟨w10.heap.size, 0, none⟩ = some (.slice Ax b3.length cx) ∧ w'.cell? ⟨w10.heap.size, 1, none⟩ = some (.slice Bx u3.length dx) ∧ w'.cell? ⟨w12.heap.size, 0, none⟩ = some (.slice Ay b3.length cy) ∧ w'.cell? ⟨w12.heap.size, 1, none⟩ = some (.slice By u3.length dy) ∧ w'.cell? ⟨w14.heap.size, 0, none⟩ = some (.slice Au b4.length cu) ∧ w'.cell? ⟨w14.heap.size, 1, none⟩ = some (.slice Bu u4.length du) ∧ w'.cell? ⟨w16.heap.size, 0, none⟩ = some (.slice Av b4.length cv) ∧ w'.cell? ⟨w16.heap.size, 1, none⟩ = some (.slice Bv u4.length dv) ∧ w'.cell? ⟨w18.heap.size, 0, none⟩ = some (.slice Aw b5.length cw) ∧ w'.cell? ⟨w18.heap.size, 1, none⟩ = some (.slice Bw u5.length dw) ∧ w'.cell? ⟨w20.heap.size, 0, none⟩ = some (.slice Az b5.length cz) ∧ w'.cell? ⟨w20.heap.size, 1, none⟩ = some (.slice Bz u5.length dz)) (ds := []) #[false, false, false, false, false, false, false, false, false, false, false, false, false, false, false, false, false, false, false, false, false, false, false, false, false, false, false, false, false, false, false, false, false, false, false, false, false, false, false, false, false, false, false, false, false, false, false, false, false, false, false, false, false, false, false, false] (by kernel_rfl) rfl rfl ⟨(blk_cell (blk_drew HD21.out) 0).trans rfl, (blk_cell (blk_drew HD21.out) 1).trans rfl, (blk_cell (blk_drew Hown21.out) 0).trans rfl, (blk_cell (blk_drew Hown21.out) 1).trans rfl, (blk_cell (blk_drew Ha21.out) 0).trans rfl, (blk_cell (blk_drew Ha21.out) 1).trans rfl, (blk_cell (blk_drew Hb21.out) 0).trans rfl, (blk_cell (blk_drew Hb21.out) 1).trans rfl, (blk_cell (blk_drew Hx21.out) 0).trans rfl, (blk_cell (blk_drew Hx21.out) 1).trans rfl, (blk_cell (blk_drew Hy21.out) 0).trans rfl, (blk_cell (blk_drew Hy21.out) 1).trans rfl, (blk_cell (blk_drew Hu21.out) 0).trans rfl, (blk_cell (blk_drew Hu21.out) 1).trans rfl, (blk_cell (blk_drew Hv21.out) 0).trans rfl, (blk_cell (blk_drew Hv21.out) 1).trans rfl, (blk_cell (blk_drew Hw21.out) 0).trans rfl, (blk_cell (blk_drew Hw21.out) 1).trans rfl, (blk_cell (blk_drew Hz21.out) 0).trans rfl, (blk_cell (blk_drew Hz21.out) 1).trans rfl⟩ (fun hHeld => ?_)
  generalize w21.drew = w22 at HS hHeld ⊢
  have Z22 := Aside0.mk HS.out.size
  have HB22 := Aside0.mk (HB21.out.trans (HS.out.mono HB21.out.size))
  have HD22 := Aside0.mk (blk_below HD21.out HS.out)
  have Hown22 := Aside0.mk (blk_below Hown21.out HS.out)
  have Ha22 := Aside0.mk (blk_below Ha21.out HS.out)
  have Hb22 := Aside0.mk (blk_below Hb21.out HS.out)
  have Hx22 := Aside0.mk (blk_below Hx21.out HS.out)
  have Hy22 := Aside0.mk (blk_below Hy21.out HS.out)
  have Hu22 := Aside0.mk (blk_below Hu21.out HS.out)
  have Hv22 := Aside0.mk (blk_below Hv21.out HS.out)
  have Hw22 := Aside0.mk (blk_below Hw21.out HS.out)
  have Hz22 := Aside0.mk (blk_below Hz21.out HS.out)
  have HW22 := Aside0.mk (HW21.out.trans (HS.out.mono HW21.out.size))
  have Rd0_22 := Aside0.mk (Kd.C_below Rd0_21.out HS.out)
  have Rd1_22 := Aside0.mk (Kd.C_below Rd1_21.out HS.out)
  have Rk_22 := Aside0.mk (Kd.C_below Rk_21.out HS.out)
  have Rown0_22 := Aside0.mk (Kd.C_below Rown0_21.out HS.out)
  have Rown1_22 := Aside0.mk (Kd.C_below Rown1_21.out HS.out)
  have Ra0_22 := Aside0.mk (Kd.C_below Ra0_21.out HS.out)
  have Ra1_22 := Aside0.mk (Kd.C_below Ra1_21.out HS.out)
  have Rb0_22 := Aside0.mk (Kd.C_below Rb0_21.out HS.out)
  have Rb1_22 := Aside0.mk (Kd.C_below Rb1_21.out HS.out)
  have Rx0_22 := Aside0.mk (Kd.C_below Rx0_21.out HS.out)
  have Rx1_22 := Aside0.mk (Kd.C_below Rx1_21.out HS.out)
  have Ry0_22 := Aside0.mk (Kd.C_below Ry0_21.out HS.out)
  have Ry1_22 := Aside0.mk (Kd.C_below Ry1_21.out HS.out)
  have Ru0_22 := Aside0.mk (Kd.C_below Ru0_21.out HS.out)
  have Ru1_22 := Aside0.mk (Kd.C_below Ru1_21.out HS.out)
  have Rv0_22 := Aside0.mk (Kd.C_below Rv0_21.out HS.out)
  have Rv1_22 := Aside0.mk (Kd.C_below Rv1_21.out HS.out)
  have Rw0_22 := Aside0.mk (Kd.C_below Rw0_21.out HS.out)
  have Rw1_22 := Aside0.mk (Kd.C_below Rw1_21.out HS.out)
  have Rz0_22 := Aside0.mk (Kd.C_below Rz0_21.out HS.out)
  have Rz1_22 := Aside0.mk (Kd.C_below Rz1_21.out HS.out)
  have Oa1_22 := Aside0.mk (Kd.R_below Oa1_21.out HS.out)
  have Ox0_22 := Aside0.mk (Kd.R_below Ox0_21.out HS.out)
  have Ou0_22 := Aside0.mk (Kd.R_below Ou0_21.out HS.out)
  clear HS
  refine take_ (i := 0) (N := some 100) (v := ?_) (a' := ?_) #[true, false, false, false, false, false, false, false, false, false, false, false, false, false, false, false, false, false, false, false, false, false, false, false, false, false, false, false, false, false, false, false, false, false, false, false, false, false, false, false, false, false, false, false, false, false, false, false, false, false, false, false, false, false, false, false] rfl rfl (by kernel_rfl) (fun _ _ _ h => h) (Or.inl ⟨by rfl, ?_⟩) hHeld ?_ ?_
  rotate_left
  · rintro w' ⟨s0, s1, s2, s3, s4, s5, s6, s7, s8, s9, s10, s11, s12, s13, s14, s15, s16, s17, s18, s19⟩
    go_simp
    with_reducible rfl
  rotate_left
  · simp only [Act.put, List.setIfInBounds_toArray, List.set_cons_zero, List.set_cons_succ, i64_w, i32_w]
    rfl
  refine take_ (i := 1) (N := some 101) (v := ?_) (a' := ?_) #[true, true, false, false, false, false, false, false, false, false, false, false, false, false, false, false, false, false, false, false, false, false, false, false, false, false, false, false, false, false, false, false, false, false, false, false, false, false, false, false, false, false, false, false, false, false, false, false, false, false, false, false, false, false, false, false] rfl rfl (by kernel_rfl) (fun _ _ _ h => h) (Or.inl ⟨by rfl, ?_⟩) hHeld ?_ ?_
  rotate_left
  · rintro w' ⟨s0, s1, s2, s3, s4, s5, s6, s7, s8, s9, s10, s11, s12, s13, s14, s15, s16, s17, s18, s19⟩
    go_simp
    with_reducible rfl
  rotate_left
  · simp only [Act.put, List.setIfInBounds_toArray, List.set_cons_zero, List.set_cons_succ, i64_w, i32_w]
    rfl
  refine one_ (i := 2) (N := some 102) #[true, true, true, false, false, false, false, false, false, false, false, false, false, false, false, false, false, false, false, false, false, false, false, false, false, false, false, false, false, false, false, false, false, false, false, false, false, false, false, false, false, false, false, false, false, false, false, false, false, false, false, false, false, false, false, false] rfl rfl (by kernel_rfl) (by decide) (fun K hK => ?_)
  refine goes_ Try.func23 (by kernel_rfl) rfl #[.agg #[.slice Aa b1.length ca, .slice Ba u1.length da], .agg #[.slice Ab b1.length cb, .slice Bb u1.length db]] (by rfl) rfl rfl (by (try simp only [List.map_toArray, List.map_cons, List.map_nil]); first | done | rfl) ?_
  refine (sextonref04_Same.calls k Aa ca b1 Ba da u1 Ab cb b1 Bb db u1 true _ Ra0_22.out La0.out Ra1_22.out La1.out Rb0_22.out Lb0.out Rb1_22.out Lb1.out OK.out.a1).mono ?_
  rintro e w23 ⟨rfl, hb⟩
  refine ⟨_, rfl, ?_⟩
  have Z23 := Aside0.mk hb.size
  have HB23 := Aside0.mk (HB22.out.trans (hb.mono HB22.out.size))
  have HD23 := Aside0.mk (blk_below HD22.out hb)
  have Hown23 := Aside0.mk (blk_below Hown22.out hb)
  have Ha23 := Aside0.mk (blk_below Ha22.out hb)
  have Hb23 := Aside0.mk (blk_below Hb22.out hb)
  have Hx23 := Aside0.mk (blk_below Hx22.out hb)
  have Hy23 := Aside0.mk (blk_below Hy22.out hb)
  have Hu23 := Aside0.mk (blk_below Hu22.out hb)
  have Hv23 := Aside0.mk (blk_below Hv22.out hb)
  have Hw23 := Aside0.mk (blk_below Hw22.out hb)
  have Hz23 := Aside0.mk (blk_below Hz22.out hb)
  have HW23 := Aside0.mk (HW22.out.trans (hb.mono HW22.out.size))
  have Rd0_23 := Aside0.mk (Kd.C_below Rd0_22.out hb)
  have Rd1_23 := Aside0.mk (Kd.C_below Rd1_22.out hb)
  have Rk_23 := Aside0.mk (Kd.C_below Rk_22.out hb)
  have Rown0_23 := Aside0.mk (Kd.C_below Rown0_22.out hb)
  have Rown1_23 := Aside0.mk (Kd.C_below Rown1_22.out hb)
  have Ra0_23 := Aside0.mk (Kd.C_below Ra0_22.out hb)
  have Ra1_23 := Aside0.mk (Kd.C_below Ra1_22.out hb)
  have Rb0_23 := Aside0.mk (Kd.C_below Rb0_22.out hb)
  have Rb1_23 := Aside0.mk (Kd.C_below Rb1_22.out hb)
  have Rx0_23 := Aside0.mk (Kd.C_below Rx0_22.out hb)
  have Rx1_23 := Aside0.mk (Kd.C_below Rx1_22.out hb)
  have Ry0_23 := Aside0.mk (Kd.C_below Ry0_22.out hb)
  have Ry1_23 := Aside0.mk (Kd.C_below Ry1_22.out hb)
  have Ru0_23 := Aside0.mk (Kd.C_below Ru0_22.out hb)
  have Ru1_23 := Aside0.mk (Kd.C_below Ru1_22.out hb)
  have Rv0_23 := Aside0.mk (Kd.C_below Rv0_22.out hb)
  have Rv1_23 := Aside0.mk (Kd.C_below Rv1_22.out hb)
  have Rw0_23 := Aside0.mk (Kd.C_below Rw0_22.out hb)
  have Rw1_23 := Aside0.mk (Kd.C_below Rw1_22.out hb)
  have Rz0_23 := Aside0.mk (Kd.C_below Rz0_22.out hb)
  have Rz1_23 := Aside0.mk (Kd.C_below Rz1_22.out hb)
  have Oa1_23 := Aside0.mk (Kd.R_below Oa1_22.out hb)
  have Ox0_23 := Aside0.mk (Kd.R_below Ox0_22.out hb)
  have Ou0_23 := Aside0.mk (Kd.R_below Ou0_22.out hb)
  clear hb
  refine hK.out _ _ ⟨(blk_cell HD23.out 0).trans rfl, (blk_cell HD23.out 1).trans rfl, (blk_cell Hown23.out 0).trans rfl, (blk_cell Hown23.out 1).trans rfl, (blk_cell Ha23.out 0).trans rfl, (blk_cell Ha23.out 1).trans rfl, (blk_cell Hb23.out 0).trans rfl, (blk_cell Hb23.out 1).trans rfl, (blk_cell Hx23.out 0).trans rfl, (blk_cell Hx23.out 1).trans rfl, (blk_cell Hy23.out 0).trans rfl, (blk_cell Hy23.out 1).trans rfl, (blk_cell Hu23.out 0).trans rfl, (blk_cell Hu23.out 1).trans rfl, (blk_cell Hv23.out 0).trans rfl, (blk_cell Hv23.out 1).trans rfl, (blk_cell Hw23.out 0).trans rfl, (blk_cell Hw23.out 1).trans rfl, (blk_cell Hz23.out 0).trans rfl, (blk_cell Hz23.out 1).trans rfl⟩ (fun hHeld => ?_)
  clear hK K
  refine norm_ (a' := ?_) ?_ ?_
  rotate_left
  · show Act.put _ (some 102) _ = _
    simp only [Act.put, List.setIfInBounds_toArray, List.set_cons_zero, List.set_cons_succ, i64_w, i32_w]
    rfl
  refine pure_ (i := 3) (N := some 103) (v := ?_) (a' := ?_) #[true, true, true, true, false, false, false, false, false, false, false, false, false, false, false, false, false, false, false, false, false, false, false, false, false, false, false, false, false, false, false, false, false, false, false, false, false, false, false, false, false, false, false, false, false, false, false, false, false, false, false, false, false, false, false, false] rfl rfl (by kernel_rfl) (fun _ _ _ h => h) (Or.inl ⟨by rfl, ?_⟩) ?_ ?_
  rotate_left
  · intro w'
    go_simp
    with_reducible rfl
  rotate_left
  · simp only [Act.put, List.setIfInBounds_toArray, List.set_cons_zero, List.set_cons_succ, i64_w, i32_w]
    rfl
  refine pure_ (i := 4) (N := some 104) (v := ?_) (a' := ?_) #[true, true, true, true, true, false, false, false, false, false, false, false, false, false, false, false, false, false, false, false, false, false, false, false, false, false, false, false, false, false, false, false, false, false, false, false, false, false, false, false, false, false, false, false, false, false, false, false, false, false, false, false, false, false, false, false] rfl rfl (by kernel_rfl) (fun _ _ _ h => h) (Or.inl ⟨by rfl, ?_⟩) ?_ ?_
  rotate_left
  · intro w'
    go_simp
    with_reducible rfl
  rotate_left
  · simp only [Act.put, List.setIfInBounds_toArray, List.set_cons_zero, List.set_cons_succ, i64_w, i32_w]
    rfl
  refine pure_ (i := 5) (N := some 105) (v := ?_) (a' := ?_) #[true, true, true, true, true, true, false, false, false, false, false, false, false, false, false, false, false, false, false, false, false, false, false, false, false, false, false, false, false, false, false, false, false, false, false, false, false, false, false, false, false, false, false, false, false, false, false, false, false, false, false, false, false, false, false, false] rfl rfl (by kernel_rfl) (fun _ _ _ h => h) (Or.inl ⟨by rfl, ?_⟩) ?_ ?_
  rotate_left
  · intro w'
    go_simp
    with_reducible rfl
  rotate_left
  · simp only [Act.put, List.setIfInBounds_toArray, List.set_cons_zero, List.set_cons_succ, i64_w, i32_w]
    rfl
  refine pure_ (i := 6) (N := some 106) (v := ?_) (a' := ?_) #[true, true, true, true, true, true, true, false, false, false, false, false, false, false, false, false, false, false, false, false, false, false, false, false, false, false, false, false, false, false, false, false, false, false, false, false, false, false, false, false, false, false, false, false, false, false, false, false, false, false, false, false, false, false, false, false] rfl rfl (by kernel_rfl) (fun _ _ _ h => h) (Or.inl ⟨by rfl, ?_⟩) ?_ ?_
  rotate_left
  · intro w'
    go_simp
    with_reducible rfl
  rotate_left
  · simp only [Act.put, List.setIfInBounds_toArray, List.set_cons_zero, List.set_cons_succ, i64_w, i32_w]
    rfl
  refine pure_ (i := 7) (N := some 107) (v := ?_) (a' := ?_) #[true, true, true, true, true, true, true, true, false, false, false, false, false, false, false, false, false, false, false, false, false, false, false, false, false, false, false, false, false, false, false, false, false, false, false, false, false, false, false, false, false, false, false, false, false, false, false, false, false, false, false, false, false, false, false, false] rfl rfl (by kernel_rfl) (fun _ _ _ h => h) (Or.inl ⟨by rfl, ?_⟩) ?_ ?_
  rotate_left
  · intro w'
    go_simp
    with_reducible rfl
  rotate_left
  · simp only [Act.put, List.setIfInBounds_toArray, List.set_cons_zero, List.set_cons_succ, i64_w, i32_w]
    rfl
  refine pure_ (i := 8) (N := some 108) (v := ?_) (a' := ?_) #[true, true, true, true, true, true, true, true, true, false, false, false, false, false, false, false, false, false, false, false, false, false, false, false, false, false, false, false, false, false, false, false, false, false, false, false, false, false, false, false, false, false, false, false, false, false, false, false, false, false, false, false, false, false, false, false] rfl rfl (by kernel_rfl) (fun _ _ _ h => h) (Or.inl ⟨by rfl, ?_⟩) ?_ ?_
  rotate_left
  · intro w'
    go_simp
    with_reducible rfl
  rotate_left
  · simp only [Act.put, List.setIfInBounds_toArray, List.set_cons_zero, List.set_cons_succ, i64_w, i32_w]
    rfl
  refine pure_ (i := 9) (N := some 109) (v := ?_) (a' := ?_) #[true, true, true, true, true, true, true, true, true, true, false, false, false, false, false, false, false, false, false, false, false, false, false, false, false, false, false, false, false, false, false, false, false, false, false, false, false, false, false, false, false, false, false, false, false, false, false, false, false, false, false, false, false, false, false, false] rfl rfl (by kernel_rfl) (fun _ _ _ h => h) (Or.inl ⟨by rfl, ?_⟩) ?_ ?_
  rotate_left
  · intro w'
    go_simp
    with_reducible rfl
  rotate_left
  · simp only [Act.put, List.setIfInBounds_toArray, List.set_cons_zero, List.set_cons_succ, i64_w, i32_w]
    rfl
  refine pure_ (i := 10) (N := some 110) (v := ?_) (a' := ?_) #[true, true, true, true, true, true, true, true, true, true, true, false, false, false, false, false, false, false, false, false, false, false, false, false, false, false, false, false, false, false, false, false, false, false, false, false, false, false, false, false, false, false, false, false, false, false, false, false, false, false, false, false, false, false, false, false] rfl rfl (by kernel_rfl) (fun _ _ _ h => h) (Or.inl ⟨by rfl, ?_⟩) ?_ ?_
  rotate_left
  · intro w'
    go_simp
    with_reducible rfl
  rotate_left
  · simp only [Act.put, List.setIfInBounds_toArray, List.set_cons_zero, List.set_cons_succ, i64_w, i32_w]
    rfl
  refine pure_ (i := 11) (N := some 111) (v := ?_) (a' := ?_) #[true, true, true, true, true, true, true, true, true, true, true, true, false, false, false, false, false, false, false, false, false, false, false, false, false, false, false, false, false, false, false, false, false, false, false, false, false, false, false, false, false, false, false, false, false, false, false, false, false, false, false, false, false, false, false, false] rfl rfl (by kernel_rfl) (fun _ _ _ h => h) (Or.inl ⟨by rfl, ?_⟩) ?_ ?_
  rotate_left
  · intro w'
    go_simp
    with_reducible rfl
  rotate_left
  · simp only [Act.put, List.setIfInBounds_toArray, List.set_cons_zero, List.set_cons_succ, i64_w, i32_w]
    rfl
  refine pure_ (i := 12) (N := some 112) (v := ?_) (a' := ?_) #[true, true, true, true, true, true, true, true, true, true, true, true, true, false, false, false, false, false, false, false, false, false, false, false, false, false, false, false, false, false, false, false, false, false, false, false, false, false, false, false, false, false, false, false, false, false, false, false, false, false, false, false, false, false, false, false] rfl rfl (by kernel_rfl) (fun _ _ _ h => h) (Or.inl ⟨by rfl, ?_⟩) ?_ ?_
  rotate_left
  · intro w'
    go_simp
    with_reducible rfl
  rotate_left
  · simp only [Act.put, List.setIfInBounds_toArray, List.set_cons_zero, List.set_cons_succ, i64_w, i32_w]
    rfl
  refine pure_ (i := 13) (N := some 113) (v := ?_) (a' := ?_) #[true, true, true, true, true, true, true, true, true, true, true, true, true, true, false, false, false, false, false, false, false, false, false, false, false, false, false, false, false, false, false, false, false, false, false, false, false, false, false, false, false, false, false, false, false, false, false, false, false, false, false, false, false, false, false, false] rfl rfl (by kernel_rfl) (fun _ _ _ h => h) (Or.inl ⟨by rfl, ?_⟩) ?_ ?_
  rotate_left
  · intro w'
    go_simp
    with_reducible rfl
  rotate_left
  · simp only [Act.put, List.setIfInBounds_toArray, List.set_cons_zero, List.set_cons_succ, i64_w, i32_w]
    rfl
  refine pure_ (i := 14) (N := some 114) (v := ?_) (a' := ?_) #[true, true, true, true, true, true, true, true, true, true, true, true, true, true, true, false, false, false, false, false, false, false, false, false, false, false, false, false, false, false, false, false, false, false, false, false, false, false, false, false, false, false, false, false, false, false, false, false, false, false, false, false, false, false, false, false] rfl rfl (by kernel_rfl) (fun _ _ _ h => h) (Or.inl ⟨by rfl, ?_⟩) ?_ ?_
  rotate_left
  · intro w'
    go_simp
    with_reducible rfl
  rotate_left
  · simp only [Act.put, List.setIfInBounds_toArray, List.set_cons_zero, List.set_cons_succ, i64_w, i32_w]
    rfl
  refine pure_ (i := 15) (N := some 115) (v := ?_) (a' := ?_) #[true, true, true, true, true, true, true, true, true, true, true, true, true, true, true, true, false, false, false, false, false, false, false, false, false, false, false, false, false, false, false, false, false, false, false, false, false, false, false, false, false, false, false, false, false, false, false, false, false, false, false, false, false, false, false, false] rfl rfl (by kernel_rfl) (fun _ _ _ h => h) (Or.inl ⟨by rfl, ?_⟩) ?_ ?_
  rotate_left
  · intro w'
    go_simp
    with_reducible rfl
  rotate_left
  · simp only [Act.put, List.setIfInBounds_toArray, List.set_cons_zero, List.set_cons_succ, i64_w, i32_w]
    rfl
  refine pure_ (i := 16) (N := some 116) (v := ?_) (a' := ?_) #[true, true, true, true, true, true, true, true, true, true, true, true, true, true, true, true, true, false, false, false, false, false, false, false, false, false, false, false, false, false, false, false, false, false, false, false, false, false, false, false, false, false, false, false, false, false, false, false, false, false, false, false, false, false, false, false] rfl rfl (by kernel_rfl) (fun _ _ _ h => h) (Or.inl ⟨by rfl, ?_⟩) ?_ ?_
  rotate_left
  · intro w'
    go_simp
    with_reducible rfl
  rotate_left
  · simp only [Act.put, List.setIfInBounds_toArray, List.set_cons_zero, List.set_cons_succ, i64_w, i32_w]
    rfl
  refine pure_ (i := 17) (N := some 117) (v := ?_) (a' := ?_) #[true, true, true, true, true, true, true, true, true, true, true, true, true, true, true, true, true, true, false, false, false, false, false, false, false, false, false, false, false, false, false, false, false, false, false, false, false, false, false, false, false, false, false, false, false, false, false, false, false, false, false, false, false, false, false, false] rfl rfl (by kernel_rfl) (fun _ _ _ h => h) (Or.inl ⟨by rfl, ?_⟩) ?_ ?_
  rotate_left
  · intro w'
    go_simp
    with_reducible rfl
  rotate_left
  · simp only [Act.put, List.setIfInBounds_toArray, List.set_cons_zero, List.set_cons_succ, i64_w, i32_w]
    rfl
  refine pure_ (i := 18) (N := some 118) (v := ?_) (a' := ?_) #[true, true, true, true, true, true, true, true, true, true, true, true, true, true, true, true, true, true, true, false, false, false, false, false, false, false, false, false, false, false, false, false, false, false, false, false, false, false, false, false, false, false, false, false, false, false, false, false, false, false, false, false, false, false, false, false] rfl rfl (by kernel_rfl) (fun _ _ _ h => h) (Or.inl ⟨by rfl, ?_⟩) ?_ ?_
  rotate_left
  · intro w'
    go_simp
    with_reducible rfl
  rotate_left
  · simp only [Act.put, List.setIfInBounds_toArray, List.set_cons_zero, List.set_cons_succ, i64_w, i32_w]
    rfl
  refine take_ (i := 19) (N := some 119) (v := ?_) (a' := ?_) #[true, true, true, true, true, true, true, true, true, true, true, true, true, true, true, true, true, true, true, true, false, false, false, false, false, false, false, false, false, false, false, false, false, false, false, false, false, false, false, false, false, false, false, false, false, false, false, false, false, false, false, false, false, false, false, false] rfl rfl (by kernel_rfl) (fun _ _ _ h => h) (Or.inl ⟨by rfl, ?_⟩) hHeld ?_ ?_
  rotate_left
  · rintro w' ⟨s0, s1, s2, s3, s4, s5, s6, s7, s8, s9, s10, s11, s12, s13, s14, s15, s16, s17, s18, s19⟩
    go_simp
    with_reducible rfl
  rotate_left
  · simp only [Act.put, List.setIfInBounds_toArray, List.set_cons_zero, List.set_cons_succ, i64_w, i32_w]
    rfl
  refine take_ (i := 20) (N := some 120) (v := ?_) (a' := ?_) #[true, true, true, true, true, true, true, true, true, true, true, true, true, true, true, true, true, true, true, true, true, false, false, false, false, false, false, false, false, false, false, false, false, false, false, false, false, false, false, false, false, false, false, false, false, false, false, false, false, false, false, false, false, false, false, false] rfl rfl (by kernel_rfl) (fun _ _ _ h => h) (Or.inl ⟨by rfl, ?_⟩) hHeld ?_ ?_
  rotate_left
  · rintro w' ⟨s0, s1, s2, s3, s4, s5, s6, s7, s8, s9, s10, s11, s12, s13, s14, s15, s16, s17, s18, s19⟩
    go_simp
    with_reducible rfl
  rotate_left
  · simp only [Act.put, List.setIfInBounds_toArray, List.set_cons_zero, List.set_cons_succ, i64_w, i32_w]
    rfl
  refine one_ (i := 21) (N := some 121) #[true, true, true, true, true, true, true, true, true, true, true, true, true, true, true, true, true, true, true, true, true, true, false, false, false, false, false, false, false, false, false, false, false, false, false, false, false, false, false, false, false, false, false, false, false, false, false, false, false, false, false, false, false, false, false, false] rfl rfl (by kernel_rfl) (by decide) (fun K hK => ?_)
  refine goes_ Try.func23 (by kernel_rfl) rfl #[.agg #[.slice Ax b3.length cx, .slice Bx u3.length dx], .agg #[.slice Ay b3.length cy, .slice By u3.length dy]] (by rfl) rfl rfl (by (try simp only [List.map_toArray, List.map_cons, List.map_nil]); first | done | rfl) ?_
  refine (sextonref04_Same.calls k Ax cx b3 Bx dx u3 Ay cy b3 By dy u3 true _ Rx0_23.out Lx0.out Rx1_23.out Lx1.out Ry0_23.out Ly0.out Ry1_23.out Ly1.out OK.out.a3).mono ?_
  rintro e w24 ⟨rfl, hb⟩
  refine ⟨_, rfl, ?_⟩
  have Z24 := Aside0.mk hb.size
  have HB24 := Aside0.mk (HB23.out.trans (hb.mono HB23.out.size))
  have HD24 := Aside0.mk (blk_below HD23.out hb)
  have Hown24 := Aside0.mk (blk_below Hown23.out hb)
  have Ha24 := Aside0.mk (blk_below Ha23.out hb)
  have Hb24 := Aside0.mk (blk_below Hb23.out hb)
  have Hx24 := Aside0.mk (blk_below Hx23.out hb)
  have Hy24 := Aside0.mk (blk_below Hy23.out hb)
  have Hu24 := Aside0.mk (blk_below Hu23.out hb)
  have Hv24 := Aside0.mk (blk_below Hv23.out hb)
  have Hw24 := Aside0.mk (blk_below Hw23.out hb)
  have Hz24 := Aside0.mk (blk_below Hz23.out hb)
  have HW24 := Aside0.mk (HW23.out.trans (hb.mono HW23.out.size))
  have Rd0_24 := Aside0.mk (Kd.C_below Rd0_23.out hb)
  have Rd1_24 := Aside0.mk (Kd.C_below Rd1_23.out hb)
  have Rk_24 := Aside0.mk (Kd.C_below Rk_23.out hb)
  have Rown0_24 := Aside0.mk (Kd.C_below Rown0_23.out hb)
  have Rown1_24 := Aside0.mk (Kd.C_below Rown1_23.out hb)
  have Ra0_24 := Aside0.mk (Kd.C_below Ra0_23.out hb)
  have Ra1_24 := Aside0.mk (Kd.C_below Ra1_23.out hb)
  have Rb0_24 := Aside0.mk (Kd.C_below Rb0_23.out hb)
  have Rb1_24 := Aside0.mk (Kd.C_below Rb1_23.out hb)
  have Rx0_24 := Aside0.mk (Kd.C_below Rx0_23.out hb)
  have Rx1_24 := Aside0.mk (Kd.C_below Rx1_23.out hb)
  have Ry0_24 := Aside0.mk (Kd.C_below Ry0_23.out hb)
  have Ry1_24 := Aside0.mk (Kd.C_below Ry1_23.out hb)
  have Ru0_24 := Aside0.mk (Kd.C_below Ru0_23.out hb)
  have Ru1_24 := Aside0.mk (Kd.C_below Ru1_23.out hb)
  have Rv0_24 := Aside0.mk (Kd.C_below Rv0_23.out hb)
  have Rv1_24 := Aside0.mk (Kd.C_below Rv1_23.out hb)
  have Rw0_24 := Aside0.mk (Kd.C_below Rw0_23.out hb)
  have Rw1_24 := Aside0.mk (Kd.C_below Rw1_23.out hb)
  have Rz0_24 := Aside0.mk (Kd.C_below Rz0_23.out hb)
  have Rz1_24 := Aside0.mk (Kd.C_below Rz1_23.out hb)
  have Oa1_24 := Aside0.mk (Kd.R_below Oa1_23.out hb)
  have Ox0_24 := Aside0.mk (Kd.R_below Ox0_23.out hb)
  have Ou0_24 := Aside0.mk (Kd.R_below Ou0_23.out hb)
  clear hb
  refine hK.out _ _ ⟨(blk_cell HD24.out 0).trans rfl, (blk_cell HD24.out 1).trans rfl, (blk_cell Hown24.out 0).trans rfl, (blk_cell Hown24.out 1).trans rfl, (blk_cell Ha24.out 0).trans rfl, (blk_cell Ha24.out 1).trans rfl, (blk_cell Hb24.out 0).trans rfl, (blk_cell Hb24.out 1).trans rfl, (blk_cell Hx24.out 0).trans rfl, (blk_cell Hx24.out 1).trans rfl, (blk_cell Hy24.out 0).trans rfl, (blk_cell Hy24.out 1).trans rfl, (blk_cell Hu24.out 0).trans rfl, (blk_cell Hu24.out 1).trans rfl, (blk_cell Hv24.out 0).trans rfl, (blk_cell Hv24.out 1).trans rfl, (blk_cell Hw24.out 0).trans rfl, (blk_cell Hw24.out 1).trans rfl, (blk_cell Hz24.out 0).trans rfl, (blk_cell Hz24.out 1).trans rfl⟩ (fun hHeld => ?_)
  clear hK K
  refine norm_ (a' := ?_) ?_ ?_
  rotate_left
  · show Act.put _ (some 121) _ = _
    simp only [Act.put, List.setIfInBounds_toArray, List.set_cons_zero, List.set_cons_succ, i64_w, i32_w]
    rfl
  refine pure_ (i := 22) (N := some 122) (v := ?_) (a' := ?_) #[true, true, true, true, true, true, true, true, true, true, true, true, true, true, true, true, true, true, true, true, true, true, true, false, false, false, false, false, false, false, false, false, false, false, false, false, false, false, false, false, false, false, false, false, false, false, false, false, false, false, false, false, false, false, false, false] rfl rfl (by kernel_rfl) (fun _ _ _ h => h) (Or.inl ⟨by rfl, ?_⟩) ?_ ?_
  rotate_left
  · intro w'
    go_simp
    with_reducible rfl
  rotate_left
  · simp only [Act.put, List.setIfInBounds_toArray, List.set_cons_zero, List.set_cons_succ, i64_w, i32_w]
    rfl
  refine pure_ (i := 23) (N := some 123) (v := ?_) (a' := ?_) #[true, true, true, true, true, true, true, true, true, true, true, true, true, true, true, true, true, true, true, true, true, true, true, true, false, false, false, false, false, false, false, false, false, false, false, false, false, false, false, false, false, false, false, false, false, false, false, false, false, false, false, false, false, false, false, false] rfl rfl (by kernel_rfl) (fun _ _ _ h => h) (Or.inl ⟨by rfl, ?_⟩) ?_ ?_
  rotate_left
  · intro w'
    go_simp
    with_reducible rfl
  rotate_left
  · simp only [Act.put, List.setIfInBounds_toArray, List.set_cons_zero, List.set_cons_succ, i64_w, i32_w]
    rfl
  refine pure_ (i := 24) (N := some 124) (v := ?_) (a' := ?_) #[true, true, true, true, true, true, true, true, true, true, true, true, true, true, true, true, true, true, true, true, true, true, true, true, true, false, false, false, false, false, false, false, false, false, false, false, false, false, false, false, false, false, false, false, false, false, false, false, false, false, false, false, false, false, false, false] rfl rfl (by kernel_rfl) (fun _ _ _ h => h) (Or.inl ⟨by rfl, ?_⟩) ?_ ?_
  rotate_left
  · intro w'
    go_simp
    with_reducible rfl
  rotate_left
  · simp only [Act.put, List.setIfInBounds_toArray, List.set_cons_zero, List.set_cons_succ, i64_w, i32_w]
    rfl
  refine pure_ (i := 25) (N := some 125) (v := ?_) (a' := ?_) #[true, true, true, true, true, true, true, true, true, true, true, true, true, true, true, true, true, true, true, true, true, true, true, true, true, true, false, false, false, false, false, false, false, false, false, false, false, false, false, false, false, false, false, false, false, false, false, false, false, false, false, false, false, false, false, false] rfl rfl (by kernel_rfl) (fun _ _ _ h => h) (Or.inl ⟨by rfl, ?_⟩) ?_ ?_
  rotate_left
  · intro w'
    go_simp
    with_reducible rfl
  rotate_left
  · simp only [Act.put, List.setIfInBounds_toArray, List.set_cons_zero, List.set_cons_succ, i64_w, i32_w]
    rfl
  refine pure_ (i := 26) (N := some 126) (v := ?_) (a' := ?_) #[true, true, true, true, true, true, true, true, true, true, true, true, true, true, true, true, true, true, true, true, true, true, true, true, true, true, true, false, false, false, false, false, false, false, false, false, false, false, false, false, false, false, false, false, false, false, false, false, false, false, false, false, false, false, false, false] rfl rfl (by kernel_rfl) (fun _ _ _ h => h) (Or.inl ⟨by rfl, ?_⟩) ?_ ?_
  rotate_left
  · intro w'
    go_simp
    with_reducible rfl
  rotate_left
  · simp only [Act.put, List.setIfInBounds_toArray, List.set_cons_zero, List.set_cons_succ, i64_w, i32_w]
    rfl
  refine pure_ (i := 27) (N := some 127) (v := ?_) (a' := ?_) #[true, true, true, true, true, true, true, true, true, true, true, true, true, true, true, true, true, true, true, true, true, true, true, true, true, true, true, true, false, false, false, false, false, false, false, false, false, false, false, false, false, false, false, false, false, false, false, false, false, false, false, false, false, false, false, false] rfl rfl (by kernel_rfl) (fun _ _ _ h => h) (Or.inl ⟨by rfl, ?_⟩) ?_ ?_
  rotate_left
  · intro w'
    go_simp
    with_reducible rfl
  rotate_left
  · simp only [Act.put, List.setIfInBounds_toArray, List.set_cons_zero, List.set_cons_succ, i64_w, i32_w]
    rfl
  refine pure_ (i := 28) (N := some 128) (v := ?_) (a' := ?_) #[true, true, true, true, true, true, true, true, true, true, true, true, true, true, true, true, true, true, true, true, true, true, true, true, true, true, true, true, true, false, false, false, false, false, false, false, false, false, false, false, false, false, false, false, false, false, false, false, false, false, false, false, false, false, false, false] rfl rfl (by kernel_rfl) (fun _ _ _ h => h) (Or.inl ⟨by rfl, ?_⟩) ?_ ?_
  rotate_left
  · intro w'
    go_simp
    with_reducible rfl
  rotate_left
  · simp only [Act.put, List.setIfInBounds_toArray, List.set_cons_zero, List.set_cons_succ, i64_w, i32_w]
    rfl
  refine take_ (i := 29) (N := some 129) (v := ?_) (a' := ?_) #[true, true, true, true, true, true, true, true, true, true, true, true, true, true, true, true, true, true, true, true, true, true, true, true, true, true, true, true, true, true, false, false, false, false, false, false, false, false, false, false, false, false, false, false, false, false, false, false, false, false, false, false, false, false, false, false] rfl rfl (by kernel_rfl) (fun _ _ _ h => h) (Or.inl ⟨by rfl, ?_⟩) hHeld ?_ ?_
  rotate_left
  · rintro w' ⟨s0, s1, s2, s3, s4, s5, s6, s7, s8, s9, s10, s11, s12, s13, s14, s15, s16, s17, s18, s19⟩
    go_simp
    with_reducible rfl
  rotate_left
  · simp only [Act.put, List.setIfInBounds_toArray, List.set_cons_zero, List.set_cons_succ, i64_w, i32_w]
    rfl
  refine take_ (i := 30) (N := some 130) (v := ?_) (a' := ?_) #[true, true, true, true, true, true, true, true, true, true, true, true, true, true, true, true, true, true, true, true, true, true, true, true, true, true, true, true, true, true, true, false, false, false, false, false, false, false, false, false, false, false, false, false, false, false, false, false, false, false, false, false, false, false, false, false] rfl rfl (by kernel_rfl) (fun _ _ _ h => h) (Or.inl ⟨by rfl, ?_⟩) hHeld ?_ ?_
  rotate_left
  · rintro w' ⟨s0, s1, s2, s3, s4, s5, s6, s7, s8, s9, s10, s11, s12, s13, s14, s15, s16, s17, s18, s19⟩
    go_simp
    with_reducible rfl
  rotate_left
  · simp only [Act.put, List.setIfInBounds_toArray, List.set_cons_zero, List.set_cons_succ, i64_w, i32_w]
    rfl
  refine one_ (i := 31) (N := some 131) #[true, true, true, true, true, true, true, true, true, true, true, true, true, true, true, true, true, true, true, true, true, true, true, true, true, true, true, true, true, true, true, true, false, false, false, false, false, false, false, false, false, false, false, false, false, false, false, false, false, false, false, false, false, false, false, false] rfl rfl (by kernel_rfl) (by decide) (fun K hK => ?_)
  refine goes_ Try.func23 (by kernel_rfl) rfl #[.agg #[.slice Au b4.length cu, .slice Bu u4.length du], .agg #[.slice Av b4.length cv, .slice Bv u4.length dv]] (by rfl) rfl rfl (by (try simp only [List.map_toArray, List.map_cons, List.map_nil]); first | done | rfl) ?_
  refine (sextonref04_Same.calls k Au cu b4 Bu du u4 Av cv b4 Bv dv u4 true _ Ru0_24.out Lu0.out Ru1_24.out Lu1.out Rv0_24.out Lv0.out Rv1_24.out Lv1.out OK.out.a4).mono ?_
  rintro e w25 ⟨rfl, hb⟩
  refine ⟨_, rfl, ?_⟩
  have Z25 := Aside0.mk hb.size
  have HB25 := Aside0.mk (HB24.out.trans (hb.mono HB24.out.size))
  have HD25 := Aside0.mk (blk_below HD24.out hb)
  have Hown25 := Aside0.mk (blk_below Hown24.out hb)
  have Ha25 := Aside0.mk (blk_below Ha24.out hb)
  have Hb25 := Aside0.mk (blk_below Hb24.out hb)
  have Hx25 := Aside0.mk (blk_below Hx24.out hb)
  have Hy25 := Aside0.mk (blk_below Hy24.out hb)
  have Hu25 := Aside0.mk (blk_below Hu24.out hb)
  have Hv25 := Aside0.mk (blk_below Hv24.out hb)
  have Hw25 := Aside0.mk (blk_below Hw24.out hb)
  have Hz25 := Aside0.mk (blk_below Hz24.out hb)
  have HW25 := Aside0.mk (HW24.out.trans (hb.mono HW24.out.size))
  have Rd0_25 := Aside0.mk (Kd.C_below Rd0_24.out hb)
  have Rd1_25 := Aside0.mk (Kd.C_below Rd1_24.out hb)
  have Rk_25 := Aside0.mk (Kd.C_below Rk_24.out hb)
  have Rown0_25 := Aside0.mk (Kd.C_below Rown0_24.out hb)
  have Rown1_25 := Aside0.mk (Kd.C_below Rown1_24.out hb)
  have Ra0_25 := Aside0.mk (Kd.C_below Ra0_24.out hb)
  have Ra1_25 := Aside0.mk (Kd.C_below Ra1_24.out hb)
  have Rb0_25 := Aside0.mk (Kd.C_below Rb0_24.out hb)
  have Rb1_25 := Aside0.mk (Kd.C_below Rb1_24.out hb)
  have Rx0_25 := Aside0.mk (Kd.C_below Rx0_24.out hb)
  have Rx1_25 := Aside0.mk (Kd.C_below Rx1_24.out hb)
  have Ry0_25 := Aside0.mk (Kd.C_below Ry0_24.out hb)
  have Ry1_25 := Aside0.mk (Kd.C_below Ry1_24.out hb)
  have Ru0_25 := Aside0.mk (Kd.C_below Ru0_24.out hb)
  have Ru1_25 := Aside0.mk (Kd.C_below Ru1_24.out hb)
  have Rv0_25 := Aside0.mk (Kd.C_below Rv0_24.out hb)
  have Rv1_25 := Aside0.mk (Kd.C_below Rv1_24.out hb)
  have Rw0_25 := Aside0.mk (Kd.C_below Rw0_24.out hb)
  have Rw1_25 := Aside0.mk (Kd.C_below Rw1_24.out hb)
  have Rz0_25 := Aside0.mk (Kd.C_below Rz0_24.out hb)
  have Rz1_25 := Aside0.mk (Kd.C_below Rz1_24.out hb)
  have Oa1_25 := Aside0.mk (Kd.R_below Oa1_24.out hb)
  have Ox0_25 := Aside0.mk (Kd.R_below Ox0_24.out hb)
  have Ou0_25 := Aside0.mk (Kd.R_below Ou0_24.out hb)
  clear hb
  refine hK.out _ _ ⟨(blk_cell HD25.out 0).trans rfl, (blk_cell HD25.out 1).trans rfl, (blk_cell Hown25.out 0).trans rfl, (blk_cell Hown25.out 1).trans rfl, (blk_cell Ha25.out 0).trans rfl, (blk_cell Ha25.out 1).trans rfl, (blk_cell Hb25.out 0).trans rfl, (blk_cell Hb25.out 1).trans rfl, (blk_cell Hx25.out 0).trans rfl, (blk_cell Hx25.out 1).trans rfl, (blk_cell Hy25.out 0).trans rfl, (blk_cell Hy25.out 1).trans rfl, (blk_cell Hu25.out 0).trans rfl, (blk_cell Hu25.out 1).trans rfl, (blk_cell Hv25.out 0).trans rfl, (blk_cell Hv25.out 1).trans rfl, (blk_cell Hw25.out 0).trans rfl, (blk_cell Hw25.out 1).trans rfl, (blk_cell Hz25.out 0).trans rfl, (blk_cell Hz25.out 1).trans rfl⟩ (fun hHeld => ?_)
  clear hK K
  refine norm_ (a' := ?_) ?_ ?_
  rotate_left
  · show Act.put _ (some 131) _ = _
    simp only [Act.put, List.setIfInBounds_toArray, List.set_cons_zero, List.set_cons_succ, i64_w, i32_w]
    rfl
  refine pure_ (i := 32) (N := some 132) (v := ?_) (a' := ?_) #[true, true, true, true, true, true, true, true, true, true, true, true, true, true, true, true, true, true, true, true, true, true, true, true, true, true, true, true, true, true, true, true, true, false, false, false, false, false, false, false, false, false, false, false, false, false, false, false, false, false, false, false, false, false, false, false] rfl rfl (by kernel_rfl) (fun _ _ _ h => h) (Or.inl ⟨by rfl, ?_⟩) ?_ ?_
  rotate_left
  · intro w'
    go_simp
    with_reducible rfl
  rotate_left
  · simp only [Act.put, List.setIfInBounds_toArray, List.set_cons_zero, List.set_cons_succ, i64_w, i32_w]
    rfl
  refine pure_ (i := 33) (N := some 133) (v := ?_) (a' := ?_) #[true, true, true, true, true, true, true, true, true, true, true, true, true, true, true, true, true, true, true, true, true, true, true, true, true, true, true, true, true, true, true, true, true, true, false, false, false, false, false, false, false, false, false, false, false, false, false, false, false, false, false, false, false, false, false, false] rfl rfl (by kernel_rfl) (fun _ _ _ h => h) (Or.inl ⟨by rfl, ?_⟩) ?_ ?_
  rotate_left
  · intro w'
    go_simp
    with_reducible rfl
  rotate_left
  · simp only [Act.put, List.setIfInBounds_toArray, List.set_cons_zero, List.set_cons_succ, i64_w, i32_w]
    rfl
  refine pure_ (i := 34) (N := some 134) (v := ?_) (a' := ?_) #[true, true, true, true, true, true, true, true, true, true, true, true, true, true, true, true, true, true, true, true, true, true, true, true, true, true, true, true, true, true, true, true, true, true, true, false, false, false, false, false, false, false, false, false, false, false, false, false, false, false, false, false, false, false, false, false] rfl rfl (by kernel_rfl) (fun _ _ _ h => h) (Or.inl ⟨by rfl, ?_⟩) ?_ ?_
  rotate_left
  · intro w'
    go_simp
    with_reducible rfl
  rotate_left
  · simp only [Act.put, List.setIfInBounds_toArray, List.set_cons_zero, List.set_cons_succ, i64_w, i32_w]
    rfl
  refine pure_ (i := 35) (N := some 135) (v := ?_) (a' := ?_) #[true, true, true, true, true, true, true, true, true, true, true, true, true, true, true, true, true, true, true, true, true, true, true, true, true, true, true, true, true, true, true, true, true, true, true, true, false, false, false, false, false, false, false, false, false, false, false, false, false, false, false, false, false, false, false, false] rfl rfl (by kernel_rfl) (fun _ _ _ h => h) (Or.inl ⟨by rfl, ?_⟩) ?_ ?_
  rotate_left
  · intro w'
    go_simp
    with_reducible rfl
  rotate_left
  · simp only [Act.put, List.setIfInBounds_toArray, List.set_cons_zero, List.set_cons_succ, i64_w, i32_w]
    rfl
  refine pure_ (i := 36) (N := some 136) (v := ?_) (a' := ?_) #[true, true, true, true, true, true, true, true, true, true, true, true, true, true, true, true, true, true, true, true, true, true, true, true, true, true, true, true, true, true, true, true, true, true, true, true, true, false, false, false, false, false, false, false, false, false, false, false, false, false, false, false, false, false, false, false] rfl rfl (by kernel_rfl) (fun _ _ _ h => h) (Or.inl ⟨by rfl, ?_⟩) ?_ ?_
  rotate_left
  · intro w'
    go_simp
    with_reducible rfl
  rotate_left
  · simp only [Act.put, List.setIfInBounds_toArray, List.set_cons_zero, List.set_cons_succ, i64_w, i32_w]
    rfl
  refine pure_ (i := 37) (N := some 137) (v := ?_) (a' := ?_) #[true, true, true, true, true, true, true, true, true, true, true, true, true, true, true, true, true, true, true, true, true, true, true, true, true, true, true, true, true, true, true, true, true, true, true, true, true, true, false, false, false, false, false, false, false, false, false, false, false, false, false, false, false, false, false, false] rfl rfl (by kernel_rfl) (fun _ _ _ h => h) (Or.inl ⟨by rfl, ?_⟩) ?_ ?_
  rotate_left
  · intro w'
    go_simp
    with_reducible rfl
  rotate_left
  · simp only [Act.put, List.setIfInBounds_toArray, List.set_cons_zero, List.set_cons_succ, i64_w, i32_w]
    rfl
  refine pure_ (i := 38) (N := some 138) (v := ?_) (a' := ?_) #[true, true, true, true, true, true, true, true, true, true, true, true, true, true, true, true, true, true, true, true, true, true, true, true, true, true, true, true, true, true, true, true, true, true, true, true, true, true, true, false, false, false, false, false, false, false, false, false, false, false, false, false, false, false, false, false] rfl rfl (by kernel_rfl) (fun _ _ _ h => h) (Or.inl ⟨by rfl, ?_⟩) ?_ ?_
  rotate_left
  · intro w'
    go_simp
    with_reducible rfl
  rotate_left
  · simp only [Act.put, List.setIfInBounds_toArray, List.set_cons_zero, List.set_cons_succ, i64_w, i32_w]
    rfl
  refine take_ (i := 39) (N := some 139) (v := ?_) (a' := ?_) #[true, true, true, true, true, true, true, true, true, true, true, true, true, true, true, true, true, true, true, true, true, true, true, true, true, true, true, true, true, true, true, true, true, true, true, true, true, true, true, true, false, false, false, false, false, false, false, false, false, false, false, false, false, false, false, false] rfl rfl (by kernel_rfl) (fun _ _ _ h => h) (Or.inl ⟨by rfl, ?_⟩) hHeld ?_ ?_
  rotate_left
  · rintro w' ⟨s0, s1, s2, s3, s4, s5, s6, s7, s8, s9, s10, s11, s12, s13, s14, s15, s16, s17, s18, s19⟩
    go_simp
    with_reducible rfl
  rotate_left
  · simp only [Act.put, List.setIfInBounds_toArray, List.set_cons_zero, List.set_cons_succ, i64_w, i32_w]
    rfl
  refine take_ (i := 40) (N := some 140) (v := ?_) (a' := ?_) #[true, true, true, true, true, true, true, true, true, true, true, true, true, true, true, true, true, true, true, true, true, true, true, true, true, true, true, true, true, true, true, true, true, true, true, true, true, true, true, true, true, false, false, false, false, false, false, false, false, false, false, false, false, false, false, false] rfl rfl (by kernel_rfl) (fun _ _ _ h => h) (Or.inl ⟨by rfl, ?_⟩) hHeld ?_ ?_
  rotate_left
  · rintro w' ⟨s0, s1, s2, s3, s4, s5, s6, s7, s8, s9, s10, s11, s12, s13, s14, s15, s16, s17, s18, s19⟩
    go_simp
    with_reducible rfl
  rotate_left
  · simp only [Act.put, List.setIfInBounds_toArray, List.set_cons_zero, List.set_cons_succ, i64_w, i32_w]
    rfl
  refine one_ (i := 41) (N := some 141) #[true, true, true, true, true, true, true, true, true, true, true, true, true, true, true, true, true, true, true, true, true, true, true, true, true, true, true, true, true, true, true, true, true, true, true, true, true, true, true, true, true, true, false, false, false, false, false, false, false, false, false, false, false, false, false, false] rfl rfl (by kernel_rfl) (by decide) (fun K hK => ?_)
  refine goes_ Try.func23 (by kernel_rfl) rfl #[.agg #[.slice Aw b5.length cw, .slice Bw u5.length dw], .agg #[.slice Az b5.length cz, .slice Bz u5.length dz]] (by rfl) rfl rfl (by (try simp only [List.map_toArray, List.map_cons, List.map_nil]); first | done | rfl) ?_
  refine (sextonref04_Same.calls k Aw cw b5 Bw dw u5 Az cz b5 Bz dz u5 true _ Rw0_25.out Lw0.out Rw1_25.out Lw1.out Rz0_25.out Lz0.out Rz1_25.out Lz1.out OK.out.a5).mono ?_
  rintro e w26 ⟨rfl, hb⟩
  refine ⟨_, rfl, ?_⟩
  have Z26 := Aside0.mk hb.size
  have HB26 := Aside0.mk (HB25.out.trans (hb.mono HB25.out.size))
  have HD26 := Aside0.mk (blk_below HD25.out hb)
  have Hown26 := Aside0.mk (blk_below Hown25.out hb)
  have Ha26 := Aside0.mk (blk_below Ha25.out hb)
  have Hb26 := Aside0.mk (blk_below Hb25.out hb)
  have Hx26 := Aside0.mk (blk_below Hx25.out hb)
  have Hy26 := Aside0.mk (blk_below Hy25.out hb)
  have Hu26 := Aside0.mk (blk_below Hu25.out hb)
  have Hv26 := Aside0.mk (blk_below Hv25.out hb)
  have Hw26 := Aside0.mk (blk_below Hw25.out hb)
  have Hz26 := Aside0.mk (blk_below Hz25.out hb)
  have HW26 := Aside0.mk (HW25.out.trans (hb.mono HW25.out.size))
  have Rd0_26 := Aside0.mk (Kd.C_below Rd0_25.out hb)
  have Rd1_26 := Aside0.mk (Kd.C_below Rd1_25.out hb)
  have Rk_26 := Aside0.mk (Kd.C_below Rk_25.out hb)
  have Rown0_26 := Aside0.mk (Kd.C_below Rown0_25.out hb)
  have Rown1_26 := Aside0.mk (Kd.C_below Rown1_25.out hb)
  have Ra0_26 := Aside0.mk (Kd.C_below Ra0_25.out hb)
  have Ra1_26 := Aside0.mk (Kd.C_below Ra1_25.out hb)
  have Rb0_26 := Aside0.mk (Kd.C_below Rb0_25.out hb)
  have Rb1_26 := Aside0.mk (Kd.C_below Rb1_25.out hb)
  have Rx0_26 := Aside0.mk (Kd.C_below Rx0_25.out hb)
  have Rx1_26 := Aside0.mk (Kd.C_below Rx1_25.out hb)
  have Ry0_26 := Aside0.mk (Kd.C_below Ry0_25.out hb)
  have Ry1_26 := Aside0.mk (Kd.C_below Ry1_25.out hb)
  have Ru0_26 := Aside0.mk (Kd.C_below Ru0_25.out hb)
  have Ru1_26 := Aside0.mk (Kd.C_below Ru1_25.out hb)
  have Rv0_26 := Aside0.mk (Kd.C_below Rv0_25.out hb)
  have Rv1_26 := Aside0.mk (Kd.C_below Rv1_25.out hb)
  have Rw0_26 := Aside0.mk (Kd.C_below Rw0_25.out hb)
  have Rw1_26 := Aside0.mk (Kd.C_below Rw1_25.out hb)
  have Rz0_26 := Aside0.mk (Kd.C_below Rz0_25.out hb)
  have Rz1_26 := Aside0.mk (Kd.C_below Rz1_25.out hb)
  have Oa1_26 := Aside0.mk (Kd.R_below Oa1_25.out hb)
  have Ox0_26 := Aside0.mk (Kd.R_below Ox0_25.out hb)
  have Ou0_26 := Aside0.mk (Kd.R_below Ou0_25.out hb)
  clear hb
  refine hK.out _ _ ⟨(blk_cell HD26.out 0).trans rfl, (blk_cell HD26.out 1).trans rfl, (blk_cell Hown26.out 0).trans rfl, (blk_cell Hown26.out 1).trans rfl, (blk_cell Ha26.out 0).trans rfl, (blk_cell Ha26.out 1).trans rfl, (blk_cell Hb26.out 0).trans rfl, (blk_cell Hb26.out 1).trans rfl, (blk_cell Hx26.out 0).trans rfl, (blk_cell Hx26.out 1).trans rfl, (blk_cell Hy26.out 0).trans rfl, (blk_cell Hy26.out 1).trans rfl, (blk_cell Hu26.out 0).trans rfl, (blk_cell Hu26.out 1).trans rfl, (blk_cell Hv26.out 0).trans rfl, (blk_cell Hv26.out 1).trans rfl, (blk_cell Hw26.out 0).trans rfl, (blk_cell Hw26.out 1).trans rfl, (blk_cell Hz26.out 0).trans rfl, (blk_cell Hz26.out 1).trans rfl⟩ (fun hHeld => ?_)
  clear hK K
  refine norm_ (a' := ?_) ?_ ?_
  rotate_left
  · show Act.put _ (some 141) _ = _
    simp only [Act.put, List.setIfInBounds_toArray, List.set_cons_zero, List.set_cons_succ, i64_w, i32_w]
    rfl
  refine pure_ (i := 42) (N := some 142) (v := ?_) (a' := ?_) #[true, true, true, true, true, true, true, true, true, true, true, true, true, true, true, true, true, true, true, true, true, true, true, true, true, true, true, true, true, true, true, true, true, true, true, true, true, true, true, true, true, true, true, false, false, false, false, false, false, false, false, false, false, false, false, false] rfl rfl (by kernel_rfl) (fun _ _ _ h => h) (Or.inl ⟨by rfl, ?_⟩) ?_ ?_
  rotate_left
  · intro w'
    go_simp
    with_reducible rfl
  rotate_left
  · simp only [Act.put, List.setIfInBounds_toArray, List.set_cons_zero, List.set_cons_succ, i64_w, i32_w]
    rfl
  refine pure_ (i := 43) (N := some 143) (v := ?_) (a' := ?_) #[true, true, true, true, true, true, true, true, true, true, true, true, true, true, true, true, true, true, true, true, true, true, true, true, true, true, true, true, true, true, true, true, true, true, true, true, true, true, true, true, true, true, true, true, false, false, false, false, false, false, false, false, false, false, false, false] rfl rfl (by kernel_rfl) (fun _ _ _ h => h) (Or.inl ⟨by rfl, ?_⟩) ?_ ?_
  rotate_left
  · intro w'
    go_simp
    with_reducible rfl
  rotate_left
  · simp only [Act.put, List.setIfInBounds_toArray, List.set_cons_zero, List.set_cons_succ, i64_w, i32_w]
    rfl
  refine pure_ (i := 44) (N := some 144) (v := ?_) (a' := ?_) #[true, true, true, true, true, true, true, true, true, true, true, true, true, true, true, true, true, true, true, true, true, true, true, true, true, true, true, true, true, true, true, true, true, true, true, true, true, true, true, true, true, true, true, true, true, false, false, false, false, false, false, false, false, false, false, false] rfl rfl (by kernel_rfl) (fun _ _ _ h => h) (Or.inl ⟨by rfl, ?_⟩) ?_ ?_
  rotate_left
  · intro w'
    go_simp
    with_reducible rfl
  rotate_left
  · simp only [Act.put, List.setIfInBounds_toArray, List.set_cons_zero, List.set_cons_succ, i64_w, i32_w]
    rfl
  refine pure_ (i := 45) (N := some 145) (v := ?_) (a' := ?_) #[true, true, true, true, true, true, true, true, true, true, true, true, true, true, true, true, true, true, true, true, true, true, true, true, true, true, true, true, true, true, true, true, true, true, true, true, true, true, true, true, true, true, true, true, true, true, false, false, false, false, false, false, false, false, false, false] rfl rfl (by kernel_rfl) (fun _ _ _ h => h) (Or.inl ⟨by rfl, ?_⟩) ?_ ?_
  rotate_left
  · intro w'
    go_simp
    with_reducible rfl
  rotate_left
  · simp only [Act.put, List.setIfInBounds_toArray, List.set_cons_zero, List.set_cons_succ, i64_w, i32_w]
    rfl
  refine pure_ (i := 46) (N := some 146) (v := ?_) (a' := ?_) #[true, true, true, true, true, true, true, true, true, true, true, true, true, true, true, true, true, true, true, true, true, true, true, true, true, true, true, true, true, true, true, true, true, true, true, true, true, true, true, true, true, true, true, true, true, true, true, false, false, false, false, false, false, false, false, false] rfl rfl (by kernel_rfl) (fun _ _ _ h => h) (Or.inl ⟨by rfl, ?_⟩) ?_ ?_
  rotate_left
  · intro w'
    go_simp
    with_reducible rfl
  rotate_left
  · simp only [Act.put, List.setIfInBounds_toArray, List.set_cons_zero, List.set_cons_succ, i64_w, i32_w]
    rfl
  refine pure_ (i := 47) (N := some 147) (v := ?_) (a' := ?_) #[true, true, true, true, true, true, true, true, true, true, true, true, true, true, true, true, true, true, true, true, true, true, true, true, true, true, true, true, true, true, true, true, true, true, true, true, true, true, true, true, true, true, true, true, true, true, true, true, false, false, false, false, false, false, false, false] rfl rfl (by kernel_rfl) (fun _ _ _ h => h) (Or.inl ⟨by rfl, ?_⟩) ?_ ?_
  rotate_left
  · intro w'
    go_simp
    with_reducible rfl
  rotate_left
  · simp only [Act.put, List.setIfInBounds_toArray, List.set_cons_zero, List.set_cons_succ, i64_w, i32_w]
    rfl
  refine pure_ (i := 48) (N := some 148) (v := ?_) (a' := ?_) #[true, true, true, true, true, true, true, true, true, true, true, true, true, true, true, true, true, true, true, true, true, true, true, true, true, true, true, true, true, true, true, true, true, true, true, true, true, true, true, true, true, true, true, true, true, true, true, true, true, false, false, false, false, false, false, false] rfl rfl (by kernel_rfl) (fun _ _ _ h => h) (Or.inl ⟨by rfl, ?_⟩) ?_ ?_
  rotate_left
  · intro w'
    go_simp
    with_reducible rfl
  rotate_left
  · simp only [Act.put, List.setIfInBounds_toArray, List.set_cons_zero, List.set_cons_succ, i64_w, i32_w]
    rfl
  refine take_ (i := 49) (N := some 149) (v := ?_) (a' := ?_) #[true, true, true, true, true, true, true, true, true, true, true, true, true, true, true, true, true, true, true, true, true, true, true, true, true, true, true, true, true, true, true, true, true, true, true, true, true, true, true, true, true, true, true, true, true, true, true, true, true, true, false, false, false, false, false, false] rfl rfl (by kernel_rfl) (fun _ _ _ h => h) (Or.inl ⟨by rfl, ?_⟩) hHeld ?_ ?_
  rotate_left
  · rintro w' ⟨s0, s1, s2, s3, s4, s5, s6, s7, s8, s9, s10, s11, s12, s13, s14, s15, s16, s17, s18, s19⟩
    go_simp
    with_reducible rfl
  rotate_left
  · simp only [Act.put, List.setIfInBounds_toArray, List.set_cons_zero, List.set_cons_succ, i64_w, i32_w]
    rfl
  refine take_ (i := 51) (N := some 151) (v := ?_) (a' := ?_) #[true, true, true, true, true, true, true, true, true, true, true, true, true, true, true, true, true, true, true, true, true, true, true, true, true, true, true, true, true, true, true, true, true, true, true, true, true, true, true, true, true, true, true, true, true, true, true, true, true, true, false, true, false, false, false, false] rfl rfl (by kernel_rfl) (fun _ _ _ h => h) (Or.inl ⟨by rfl, ?_⟩) hHeld ?_ ?_
  rotate_left
  · rintro w' ⟨s0, s1, s2, s3, s4, s5, s6, s7, s8, s9, s10, s11, s12, s13, s14, s15, s16, s17, s18, s19⟩
    go_simp
    with_reducible rfl
  rotate_left
  · simp only [Act.put, List.setIfInBounds_toArray, List.set_cons_zero, List.set_cons_succ, i64_w, i32_w]
    rfl
  refine one_ (i := 50) (N := some 150) #[true, true, true, true, true, true, true, true, true, true, true, true, true, true, true, true, true, true, true, true, true, true, true, true, true, true, true, true, true, true, true, true, true, true, true, true, true, true, true, true, true, true, true, true, true, true, true, true, true, true, true, true, false, false, false, false] rfl rfl (by kernel_rfl) (by decide) (fun K hK => ?_)
  refine goes_ Try.func24 (by kernel_rfl) rfl #[.agg #[.slice A0 l0.length c0, .slice A1 l1.length c1]] (by rfl) rfl rfl (by (try simp only [List.map_toArray, List.map_cons, List.map_nil]); first | done | rfl) ?_
  refine (disk_Check.calls A0 c0 l0 A1 c1 l1 ck _ Rd0_26.out HC0.out Rd1_26.out HC1.out OK.out.k1).mono ?_
  rintro e w27 ⟨rfl, hb⟩
  refine ⟨_, rfl, ?_⟩
  have Z27 := Aside0.mk hb.size
  have HB27 := Aside0.mk (HB26.out.trans (hb.mono HB26.out.size))
  have HD27 := Aside0.mk (blk_below HD26.out hb)
  have Hown27 := Aside0.mk (blk_below Hown26.out hb)
  have Ha27 := Aside0.mk (blk_below Ha26.out hb)
  have Hb27 := Aside0.mk (blk_below Hb26.out hb)
  have Hx27 := Aside0.mk (blk_below Hx26.out hb)
  have Hy27 := Aside0.mk (blk_below Hy26.out hb)
  have Hu27 := Aside0.mk (blk_below Hu26.out hb)
  have Hv27 := Aside0.mk (blk_below Hv26.out hb)
  have Hw27 := Aside0.mk (blk_below Hw26.out hb)
  have Hz27 := Aside0.mk (blk_below Hz26.out hb)
  have HW27 := Aside0.mk (HW26.out.trans (hb.mono HW26.out.size))
  have Rd0_27 := Aside0.mk (Kd.C_below Rd0_26.out hb)
  have Rd1_27 := Aside0.mk (Kd.C_below Rd1_26.out hb)
  have Rk_27 := Aside0.mk (Kd.C_below Rk_26.out hb)
  have Rown0_27 := Aside0.mk (Kd.C_below Rown0_26.out hb)
  have Rown1_27 := Aside0.mk (Kd.C_below Rown1_26.out hb)
  have Ra0_27 := Aside0.mk (Kd.C_below Ra0_26.out hb)
  have Ra1_27 := Aside0.mk (Kd.C_below Ra1_26.out hb)
  have Rb0_27 := Aside0.mk (Kd.C_below Rb0_26.out hb)
  have Rb1_27 := Aside0.mk (Kd.C_below Rb1_26.out hb)
  have Rx0_27 := Aside0.mk (Kd.C_below Rx0_26.out hb)
  have Rx1_27 := Aside0.mk (Kd.C_below Rx1_26.out hb)
  have Ry0_27 := Aside0.mk (Kd.C_below Ry0_26.out hb)
  have Ry1_27 := Aside0.mk (Kd.C_below Ry1_26.out hb)
  have Ru0_27 := Aside0.mk (Kd.C_below Ru0_26.out hb)
  have Ru1_27 := Aside0.mk (Kd.C_below Ru1_26.out hb)
  have Rv0_27 := Aside0.mk (Kd.C_below Rv0_26.out hb)
  have Rv1_27 := Aside0.mk (Kd.C_below Rv1_26.out hb)
  have Rw0_27 := Aside0.mk (Kd.C_below Rw0_26.out hb)
  have Rw1_27 := Aside0.mk (Kd.C_below Rw1_26.out hb)
  have Rz0_27 := Aside0.mk (Kd.C_below Rz0_26.out hb)
  have Rz1_27 := Aside0.mk (Kd.C_below Rz1_26.out hb)
  have Oa1_27 := Aside0.mk (Kd.R_below Oa1_26.out hb)
  have Ox0_27 := Aside0.mk (Kd.R_below Ox0_26.out hb)
  have Ou0_27 := Aside0.mk (Kd.R_below Ou0_26.out hb)
  clear hb
  refine hK.out _ _ ⟨(blk_cell HD27.out 0).trans rfl, (blk_cell HD27.out 1).trans rfl, (blk_cell Hown27.out 0).trans rfl, (blk_cell Hown27.out 1).trans rfl, (blk_cell Ha27.out 0).trans rfl, (blk_cell Ha27.out 1).trans rfl, (blk_cell Hb27.out 0).trans rfl, (blk_cell Hb27.out 1).trans rfl, (blk_cell Hx27.out 0).trans rfl, (blk_cell Hx27.out 1).trans rfl, (blk_cell Hy27.out 0).trans rfl, (blk_cell Hy27.out 1).trans rfl, (blk_cell Hu27.out 0).trans rfl, (blk_cell Hu27.out 1).trans rfl, (blk_cell Hv27.out 0).trans rfl, (blk_cell Hv27.out 1).trans rfl, (blk_cell Hw27.out 0).trans rfl, (blk_cell Hw27.out 1).trans rfl, (blk_cell Hz27.out 0).trans rfl, (blk_cell Hz27.out 1).trans rfl⟩ (fun hHeld => ?_)
  clear hK K
  refine norm_ (a' := ?_) ?_ ?_
  rotate_left
  · show Act.put _ (some 150) _ = _
    simp only [Act.put, List.setIfInBounds_toArray, List.set_cons_zero, List.set_cons_succ, i64_w, i32_w]
    rfl
  refine one_ (i := 52) (N := some 152) #[true, true, true, true, true, true, true, true, true, true, true, true, true, true, true, true, true, true, true, true, true, true, true, true, true, true, true, true, true, true, true, true, true, true, true, true, true, true, true, true, true, true, true, true, true, true, true, true, true, true, true, true, true, false, false, false] rfl rfl (by kernel_rfl) (by decide) (fun K hK => ?_)
  refine goes_ Try.func25 (by kernel_rfl) rfl #[.agg #[.slice Aown l0.length cown, .slice Bown l1.length down]] (by rfl) rfl rfl (by (try simp only [List.map_toArray, List.map_cons, List.map_nil]); first | done | rfl) ?_
  refine (sextonref04_Check.calls k Aown cown l0 Bown down l1 ck _ Rown0_27.out Lown0.out Rown1_27.out Lown1.out OK.out.k2).mono ?_
  rintro e w28 ⟨rfl, hb⟩
  refine ⟨_, rfl, ?_⟩
  have Z28 := Aside0.mk hb.size
  have HB28 := Aside0.mk (HB27.out.trans (hb.mono HB27.out.size))
  have HD28 := Aside0.mk (blk_below HD27.out hb)
  have Hown28 := Aside0.mk (blk_below Hown27.out hb)
  have Ha28 := Aside0.mk (blk_below Ha27.out hb)
  have Hb28 := Aside0.mk (blk_below Hb27.out hb)
  have Hx28 := Aside0.mk (blk_below Hx27.out hb)
  have Hy28 := Aside0.mk (blk_below Hy27.out hb)
  have Hu28 := Aside0.mk (blk_below Hu27.out hb)
  have Hv28 := Aside0.mk (blk_below Hv27.out hb)
  have Hw28 := Aside0.mk (blk_below Hw27.out hb)
  have Hz28 := Aside0.mk (blk_below Hz27.out hb)
  have HW28 := Aside0.mk (HW27.out.trans (hb.mono HW27.out.size))
  have Rd0_28 := Aside0.mk (Kd.C_below Rd0_27.out hb)
  have Rd1_28 := Aside0.mk (Kd.C_below Rd1_27.out hb)
  have Rk_28 := Aside0.mk (Kd.C_below Rk_27.out hb)
  have Rown0_28 := Aside0.mk (Kd.C_below Rown0_27.out hb)
  have Rown1_28 := Aside0.mk (Kd.C_below Rown1_27.out hb)
  have Ra0_28 := Aside0.mk (Kd.C_below Ra0_27.out hb)
  have Ra1_28 := Aside0.mk (Kd.C_below Ra1_27.out hb)
  have Rb0_28 := Aside0.mk (Kd.C_below Rb0_27.out hb)
  have Rb1_28 := Aside0.mk (Kd.C_below Rb1_27.out hb)
  have Rx0_28 := Aside0.mk (Kd.C_below Rx0_27.out hb)
  have Rx1_28 := Aside0.mk (Kd.C_below Rx1_27.out hb)
  have Ry0_28 := Aside0.mk (Kd.C_below Ry0_27.out hb)
  have Ry1_28 := Aside0.mk (Kd.C_below Ry1_27.out hb)
  have Ru0_28 := Aside0.mk (Kd.C_below Ru0_27.out hb)
  have Ru1_28 := Aside0.mk (Kd.C_below Ru1_27.out hb)
  have Rv0_28 := Aside0.mk (Kd.C_below Rv0_27.out hb)
  have Rv1_28 := Aside0.mk (Kd.C_below Rv1_27.out hb)
  have Rw0_28 := Aside0.mk (Kd.C_below Rw0_27.out hb)
  have Rw1_28 := Aside0.mk (Kd.C_below Rw1_27.out hb)
  have Rz0_28 := Aside0.mk (Kd.C_below Rz0_27.out hb)
  have Rz1_28 := Aside0.mk (Kd.C_below Rz1_27.out hb)
  have Oa1_28 := Aside0.mk (Kd.R_below Oa1_27.out hb)
  have Ox0_28 := Aside0.mk (Kd.R_below Ox0_27.out hb)
  have Ou0_28 := Aside0.mk (Kd.R_below Ou0_27.out hb)
  clear hb
  refine hK.out _ _ ⟨(blk_cell HD28.out 0).trans rfl, (blk_cell HD28.out 1).trans rfl, (blk_cell Hown28.out 0).trans rfl, (blk_cell Hown28.out 1).trans rfl, (blk_cell Ha28.out 0).trans rfl, (blk_cell Ha28.out 1).trans rfl, (blk_cell Hb28.out 0).trans rfl, (blk_cell Hb28.out 1).trans rfl, (blk_cell Hx28.out 0).trans rfl, (blk_cell Hx28.out 1).trans rfl, (blk_cell Hy28.out 0).trans rfl, (blk_cell Hy28.out 1).trans rfl, (blk_cell Hu28.out 0).trans rfl, (blk_cell Hu28.out 1).trans rfl, (blk_cell Hv28.out 0).trans rfl, (blk_cell Hv28.out 1).trans rfl, (blk_cell Hw28.out 0).trans rfl, (blk_cell Hw28.out 1).trans rfl, (blk_cell Hz28.out 0).trans rfl, (blk_cell Hz28.out 1).trans rfl⟩ (fun hHeld => ?_)
  clear hK K
  refine norm_ (a' := ?_) ?_ ?_
  rotate_left
  · show Act.put _ (some 152) _ = _
    simp only [Act.put, List.setIfInBounds_toArray, List.set_cons_zero, List.set_cons_succ, i64_w, i32_w]
    rfl
  refine pure_ (i := 53) (N := some 153) (v := ?_) (a' := ?_) #[true, true, true, true, true, true, true, true, true, true, true, true, true, true, true, true, true, true, true, true, true, true, true, true, true, true, true, true, true, true, true, true, true, true, true, true, true, true, true, true, true, true, true, true, true, true, true, true, true, true, true, true, true, true, false, false] rfl rfl (by kernel_rfl) (fun _ _ _ h => h) (Or.inl ⟨by rfl, ?_⟩) ?_ ?_
  rotate_left
  · intro w'
    go_simp
    with_reducible rfl
  rotate_left
  · simp only [Act.put, List.setIfInBounds_toArray, List.set_cons_zero, List.set_cons_succ, i64_w, i32_w]
    rfl
  refine pure_ (i := 54) (N := some 154) (v := ?_) (a' := ?_) #[true, true, true, true, true, true, true, true, true, true, true, true, true, true, true, true, true, true, true, true, true, true, true, true, true, true, true, true, true, true, true, true, true, true, true, true, true, true, true, true, true, true, true, true, true, true, true, true, true, true, true, true, true, true, true, false] rfl rfl (by kernel_rfl) (fun _ _ _ h => h) (Or.inl ⟨by rfl, ?_⟩) ?_ ?_
  rotate_left
  · intro w'
    go_simp
    with_reducible rfl
  rotate_left
  · simp only [Act.put, List.setIfInBounds_toArray, List.set_cons_zero, List.set_cons_succ, i64_w, i32_w]
    rfl
  refine pure_ (i := 55) (N := some 32) (v := ?_) (a' := ?_) #[true, true, true, true, true, true, true, true, true, true, true, true, true, true, true, true, true, true, true, true, true, true, true, true, true, true, true, true, true, true, true, true, true, true, true, true, true, true, true, true, true, true, true, true, true, true, true, true, true, true, true, true, true, true, true, true] rfl rfl (by kernel_rfl) (fun _ _ _ h => h) (Or.inl ⟨by rfl, ?_⟩) ?_ ?_
  rotate_left
  · intro w'
    go_simp
    with_reducible rfl
  rotate_left
  · simp only [Act.put, List.setIfInBounds_toArray, List.set_cons_zero, List.set_cons_succ, i64_w, i32_w]
    rfl
  refine done_ (by kernel_rfl) ?_
  have HGx : Aside0 (∀ g : Nat, Ax = some ⟨g, 0, none⟩ → w9.heap.size ≤ g ∧ g < w10.heap.size) := ⟨fun g e => by
    obtain ⟨inner, ho⟩ := Kd.R_own Ix0.out
    rcases ho.2 with ⟨he, h0⟩ | ⟨g', cap, cu, he, hb, hh, _⟩
    · rw [e] at he; injection he with ha _ _; cases ha
    · rw [e] at he; injection he with ha _ _; injection ha with ha; injection ha with ha _ _; subst ha; exact ⟨hb, blk_lt hh⟩⟩
  have HEx : Aside0 (0 < b3.length → ∃ g : Nat, Ax = some ⟨g, 0, none⟩) := ⟨fun h => by
    obtain ⟨inner, ho⟩ := Kd.R_own Ix0.out
    rcases ho.2 with ⟨he, h0⟩ | ⟨g, cap, cu, he, hb, hh, _⟩
    · omega
    · injection he with ha _ _; exact ⟨g, ha⟩⟩
  have HIx : Aside0 (∀ g : Nat, Ax = some ⟨g, 0, none⟩ → ∃ cp : Array Value, w28.heap[g]? = some (.cells cp 9 (0, 0)) ∧ 1 * b3.length ≤ cp.size) := ⟨fun g e => by
    obtain ⟨inner, ho⟩ := Kd.R_own Ox0_28.out
    rcases ho.2 with ⟨he, h0⟩ | ⟨g', cap, cu, he, hb, hh, h1, h2, h3, _⟩
    · rw [e] at he; injection he with ha _ _; cases ha
    · rw [e] at he; injection he with ha _ _; injection ha with ha; injection ha with ha _ _; subst ha; rw [show Kd.string.sz = 1 from rfl] at h3; exact ⟨cu, hh, by omega⟩⟩
  have HGu : Aside0 (∀ g : Nat, Au = some ⟨g, 0, none⟩ → w13.heap.size ≤ g ∧ g < w14.heap.size) := ⟨fun g e => by
    obtain ⟨inner, ho⟩ := Kd.R_own Iu0.out
    rcases ho.2 with ⟨he, h0⟩ | ⟨g', cap, cu, he, hb, hh, _⟩
    · rw [e] at he; injection he with ha _ _; cases ha
    · rw [e] at he; injection he with ha _ _; injection ha with ha; injection ha with ha _ _; subst ha; exact ⟨hb, blk_lt hh⟩⟩
  have HEu : Aside0 (0 < b4.length → ∃ g : Nat, Au = some ⟨g, 0, none⟩) := ⟨fun h => by
    obtain ⟨inner, ho⟩ := Kd.R_own Iu0.out
    rcases ho.2 with ⟨he, h0⟩ | ⟨g, cap, cu, he, hb, hh, _⟩
    · omega
    · injection he with ha _ _; exact ⟨g, ha⟩⟩
  have HIu : Aside0 (∀ g : Nat, Au = some ⟨g, 0, none⟩ → ∃ cp : Array Value, w28.heap[g]? = some (.cells cp 9 (0, 0)) ∧ 1 * b4.length ≤ cp.size) := ⟨fun g e => by
    obtain ⟨inner, ho⟩ := Kd.R_own Ou0_28.out
    rcases ho.2 with ⟨he, h0⟩ | ⟨g', cap, cu, he, hb, hh, h1, h2, h3, _⟩
    · rw [e] at he; injection he with ha _ _; cases ha
    · rw [e] at he; injection he with ha _ _; injection ha with ha; injection ha with ha _ _; subst ha; rw [show Kd.string.sz = 1 from rfl] at h3; exact ⟨cu, hh, by omega⟩⟩
  have HGa : Aside0 (∀ g : Nat, Ba = some ⟨g, 0, none⟩ → w3.heap.size ≤ g ∧ g < w4.heap.size) := ⟨fun g e => by
    obtain ⟨inner, ho⟩ := Kd.R_own Ia1.out
    rcases ho.2 with ⟨he, h0⟩ | ⟨g', cap, cu, he, hb, hh, _⟩
    · rw [e] at he; injection he with ha _ _; cases ha
    · rw [e] at he; injection he with ha _ _; injection ha with ha; injection ha with ha _ _; subst ha; exact ⟨hb, blk_lt hh⟩⟩
  have HEa : Aside0 (0 < u1.length → ∃ g : Nat, Ba = some ⟨g, 0, none⟩) := ⟨fun h => by
    obtain ⟨inner, ho⟩ := Kd.R_own Ia1.out
    rcases ho.2 with ⟨he, h0⟩ | ⟨g, cap, cu, he, hb, hh, _⟩
    · omega
    · injection he with ha _ _; exact ⟨g, ha⟩⟩
  have HIa : Aside0 (∀ g : Nat, Ba = some ⟨g, 0, none⟩ → ∃ cp : Array Value, w28.heap[g]? = some (.cells cp 40 (0, 0)) ∧ 2 * u1.length ≤ cp.size) := ⟨fun g e => by
    obtain ⟨inner, ho⟩ := Kd.R_own Oa1_28.out
    rcases ho.2 with ⟨he, h0⟩ | ⟨g', cap, cu, he, hb, hh, h1, h2, h3, _⟩
    · rw [e] at he; injection he with ha _ _; cases ha
    · rw [e] at he; injection he with ha _ _; injection ha with ha; injection ha with ha _ _; subst ha; rw [show k40.sz = 2 from rfl] at h3; exact ⟨cu, hh, by omega⟩⟩
  have HZ : Aside0 (w3.heap.size ≤ w4.heap.size ∧ w4.heap.size < w9.heap.size ∧ w9.heap.size ≤ w10.heap.size ∧ w10.heap.size < w13.heap.size ∧ w13.heap.size ≤ w14.heap.size) := ⟨by
    have b1 := blk_lt Ha5.out; have b2 := blk_lt Hx11.out
    have z4 := Z4.out; have z5 := Z5.out; have z6 := Z6.out; have z7 := Z7.out; have z8 := Z8.out; have z9 := Z9.out; have z10 := Z10.out; have z11 := Z11.out; have z12 := Z12.out; have z13 := Z13.out; have z14 := Z14.out
    omega⟩
  have HL := Aside0.mk (And.intro OK.out.z3 (And.intro OK.out.z4 OK.out.z1))
  clear Z1 Z2 Z3 Z4 Z5 Z6 Z7 Z8 Z9 Z10 Z11 Z12 Z13 Z14 Z15 Z16 Z17 Z18 Z19 Z20 Z21 Z22 Z23 Z24 Z25 Z26 Z27 Z28 Ix0 Iu0 Ia1
  try go_wp2
  go_loopw [33] (fun i wr => ∃ k : Nat, k ≤ b3.length ∧ i = .int .i64 k ∧ Aside0 (∀ g : Nat, Ax = some ⟨g, 0, none⟩ → ∃ cp : Array Value, wr.heap[g]? = some (.cells cp 9 (0, 0)) ∧ 1 * b3.length ≤ cp.size) ∧ Aside0 (∀ g : Nat, Au = some ⟨g, 0, none⟩ → ∃ cp : Array Value, wr.heap[g]? = some (.cells cp 9 (0, 0)) ∧ 1 * b4.length ≤ cp.size) ∧ Aside0 (∀ g : Nat, Ba = some ⟨g, 0, none⟩ → ∃ cp : Array Value, wr.heap[g]? = some (.cells cp 40 (0, 0)) ∧ 2 * u1.length ≤ cp.size) ∧ Aside0 (Below w3.heap.size w3 wr) ∧ Aside0 (wr.heap[w10.heap.size]? = some (.cells (blkD (.slice Ax b3.length cx) (.slice Bx u3.length dx)) 25 (0, 0))) ∧ Aside0 (wr.heap[w14.heap.size]? = some (.cells (blkD (.slice Au b4.length cu) (.slice Bu u4.length du)) 25 (0, 0))) ∧ Aside0 (wr.heap[w4.heap.size]? = some (.cells (blkD (.slice Aa b1.length ca) (.slice Ba u1.length da)) 25 (0, 0))))
    (fun i _ => b3.length - (intOf i).toNat)
  case atStart => exact ⟨0, Nat.zero_le _, rfl, HIx, HIu, HIa, HW28, Hx28, Hu28, Ha28⟩
  case round =>
    obtain ⟨k, hk, rfl, Ix0, Iu0, Ia0, HWr0, Kx0, Ku0, Ka0⟩ := hrel
    have p0 := blk_cell Kx0.out 0
    simp only [blkD, List.getElem?_toArray, List.getElem?_cons_zero, List.getElem?_cons_succ] at p0
    by_cases hlt : k < b3.length
    · obtain ⟨g, ep⟩ := HEx.out (by omega)
      obtain ⟨g1, g2⟩ := HGx.out g ep
      obtain ⟨z1, z2, z3, z4, z5⟩ := HZ.out
      obtain ⟨l1_, l2_, l3_⟩ := HL.out
      obtain ⟨cp, hcp, scp⟩ := Ix0.out g ep
      have x1 := blk_cell hcp k
      rw [Array.getElem?_eq_getElem (by omega)] at x1
      have f1 := blk_frozen hcp k
      have n1 := Aside0.mk (blk_set hcp k (.string ⟨#[115, 109, 117, 100, 103, 101]⟩))
      have nx := Aside0.mk (blk_far Kx0.out (p := ⟨g, k, none⟩) (show w10.heap.size ≠ g by omega) (.string ⟨#[115, 109, 117, 100, 103, 101]⟩))
      have nu := Aside0.mk (blk_far Ku0.out (p := ⟨g, k, none⟩) (show w14.heap.size ≠ g by omega) (.string ⟨#[115, 109, 117, 100, 103, 101]⟩))
      have na := Aside0.mk (blk_far Ka0.out (p := ⟨g, k, none⟩) (show w4.heap.size ≠ g by omega) (.string ⟨#[115, 109, 117, 100, 103, 101]⟩))
      have nW := Aside0.mk (HWr0.out.setCell (p := ⟨g, k, none⟩) (show w3.heap.size ≤ g by omega) (.string ⟨#[115, 109, 117, 100, 103, 101]⟩))
      have mu := Aside0.mk (fun (gg : Nat) (e : Au = some ⟨gg, 0, none⟩) => show ∃ cp_ : Array Value, _ ∧ _ from by obtain ⟨cq, h1, h2⟩ := Iu0.out gg e; have bb := HGu.out gg e; exact ⟨cq, blk_far h1 (p := ⟨g, k, none⟩) (show gg ≠ g by omega) (.string ⟨#[115, 109, 117, 100, 103, 101]⟩), h2⟩)
      have ma := Aside0.mk (fun (gg : Nat) (e : Ba = some ⟨gg, 0, none⟩) => show ∃ cp_ : Array Value, _ ∧ _ from by obtain ⟨cq, h1, h2⟩ := Ia0.out gg e; have bb := HGa.out gg e; exact ⟨cq, blk_far h1 (p := ⟨g, k, none⟩) (show gg ≠ g by omega) (.string ⟨#[115, 109, 117, 100, 103, 101]⟩), h2⟩)
      have S1 := Aside0.mk scp
      generalize cp[k] = vp at x1
      subst ep
      clear hcp scp z1 z2 z3 z4 z5 g1 g2 Ix0 Iu0 Ia0 HWr0 Kx0 Ku0 Ka0
      go_wp2
      go_roundw
      case rel => exact ⟨k + 1, by omega, by go_num, ⟨fun gg e => by injection e with e; injection e with e _ _; subst e; exact ⟨_, n1.out, by rw [Array.size_setIfInBounds]; exact S1.out⟩⟩, mu, ma, nW, nx, nu, na⟩
      case measure => simp [intOf]; omega
    · obtain rfl : k = b3.length := by omega
      clear hlt hk
      try go_wp2
      go_loopw [34] (fun i wr => ∃ k : Nat, k ≤ b4.length ∧ i = .int .i64 k ∧ Aside0 (∀ g : Nat, Ax = some ⟨g, 0, none⟩ → ∃ cp : Array Value, wr.heap[g]? = some (.cells cp 9 (0, 0)) ∧ 1 * b3.length ≤ cp.size) ∧ Aside0 (∀ g : Nat, Au = some ⟨g, 0, none⟩ → ∃ cp : Array Value, wr.heap[g]? = some (.cells cp 9 (0, 0)) ∧ 1 * b4.length ≤ cp.size) ∧ Aside0 (∀ g : Nat, Ba = some ⟨g, 0, none⟩ → ∃ cp : Array Value, wr.heap[g]? = some (.cells cp 40 (0, 0)) ∧ 2 * u1.length ≤ cp.size) ∧ Aside0 (Below w3.heap.size w3 wr) ∧ Aside0 (wr.heap[w10.heap.size]? = some (.cells (blkD (.slice Ax b3.length cx) (.slice Bx u3.length dx)) 25 (0, 0))) ∧ Aside0 (wr.heap[w14.heap.size]? = some (.cells (blkD (.slice Au b4.length cu) (.slice Bu u4.length du)) 25 (0, 0))) ∧ Aside0 (wr.heap[w4.heap.size]? = some (.cells (blkD (.slice Aa b1.length ca) (.slice Ba u1.length da)) 25 (0, 0))))
        (fun i _ => b4.length - (intOf i).toNat)
      case atStart => exact ⟨0, Nat.zero_le _, rfl, Ix0, Iu0, Ia0, HWr0, Kx0, Ku0, Ka0⟩
      case round =>
        obtain ⟨k, hk, rfl, Ix1, Iu1, Ia1, HWr1, Kx1, Ku1, Ka1⟩ := hrel
        have p0 := blk_cell Ku1.out 0
        simp only [blkD, List.getElem?_toArray, List.getElem?_cons_zero, List.getElem?_cons_succ] at p0
        by_cases hlt : k < b4.length
        · obtain ⟨g, ep⟩ := HEu.out (by omega)
          obtain ⟨g1, g2⟩ := HGu.out g ep
          obtain ⟨z1, z2, z3, z4, z5⟩ := HZ.out
          obtain ⟨l1_, l2_, l3_⟩ := HL.out
          obtain ⟨cp, hcp, scp⟩ := Iu1.out g ep
          have x1 := blk_cell hcp k
          rw [Array.getElem?_eq_getElem (by omega)] at x1
          have f1 := blk_frozen hcp k
          have n1 := Aside0.mk (blk_set hcp k (.string ⟨#[115, 109, 117, 100, 103, 101]⟩))
          have nx := Aside0.mk (blk_far Kx1.out (p := ⟨g, k, none⟩) (show w10.heap.size ≠ g by omega) (.string ⟨#[115, 109, 117, 100, 103, 101]⟩))
          have nu := Aside0.mk (blk_far Ku1.out (p := ⟨g, k, none⟩) (show w14.heap.size ≠ g by omega) (.string ⟨#[115, 109, 117, 100, 103, 101]⟩))
          have na := Aside0.mk (blk_far Ka1.out (p := ⟨g, k, none⟩) (show w4.heap.size ≠ g by omega) (.string ⟨#[115, 109, 117, 100, 103, 101]⟩))
          have nW := Aside0.mk (HWr1.out.setCell (p := ⟨g, k, none⟩) (show w3.heap.size ≤ g by omega) (.string ⟨#[115, 109, 117, 100, 103, 101]⟩))
          have mx := Aside0.mk (fun (gg : Nat) (e : Ax = some ⟨gg, 0, none⟩) => show ∃ cp_ : Array Value, _ ∧ _ from by obtain ⟨cq, h1, h2⟩ := Ix1.out gg e; have bb := HGx.out gg e; exact ⟨cq, blk_far h1 (p := ⟨g, k, none⟩) (show gg ≠ g by omega) (.string ⟨#[115, 109, 117, 100, 103, 101]⟩), h2⟩)
          have ma := Aside0.mk (fun (gg : Nat) (e : Ba = some ⟨gg, 0, none⟩) => show ∃ cp_ : Array Value, _ ∧ _ from by obtain ⟨cq, h1, h2⟩ := Ia1.out gg e; have bb := HGa.out gg e; exact ⟨cq, blk_far h1 (p := ⟨g, k, none⟩) (show gg ≠ g by omega) (.string ⟨#[115, 109, 117, 100, 103, 101]⟩), h2⟩)
          have S1 := Aside0.mk scp
          generalize cp[k] = vp at x1
          subst ep
          clear hcp scp z1 z2 z3 z4 z5 g1 g2 Ix1 Iu1 Ia1 HWr1 Kx1 Ku1 Ka1
          go_wp2
          go_roundw
          case rel => exact ⟨k + 1, by omega, by go_num, mx, ⟨fun gg e => by injection e with e; injection e with e _ _; subst e; exact ⟨_, n1.out, by rw [Array.size_setIfInBounds]; exact S1.out⟩⟩, ma, nW, nx, nu, na⟩
          case measure => simp [intOf]; omega
        · obtain rfl : k = b4.length := by omega
          clear hlt hk
          try go_wp2
          go_loopw [35] (fun i wr => ∃ k : Nat, k ≤ u1.length ∧ i = .int .i64 k ∧ Aside0 (∀ g : Nat, Ax = some ⟨g, 0, none⟩ → ∃ cp : Array Value, wr.heap[g]? = some (.cells cp 9 (0, 0)) ∧ 1 * b3.length ≤ cp.size) ∧ Aside0 (∀ g : Nat, Au = some ⟨g, 0, none⟩ → ∃ cp : Array Value, wr.heap[g]? = some (.cells cp 9 (0, 0)) ∧ 1 * b4.length ≤ cp.size) ∧ Aside0 (∀ g : Nat, Ba = some ⟨g, 0, none⟩ → ∃ cp : Array Value, wr.heap[g]? = some (.cells cp 40 (0, 0)) ∧ 2 * u1.length ≤ cp.size) ∧ Aside0 (Below w3.heap.size w3 wr) ∧ Aside0 (wr.heap[w10.heap.size]? = some (.cells (blkD (.slice Ax b3.length cx) (.slice Bx u3.length dx)) 25 (0, 0))) ∧ Aside0 (wr.heap[w14.heap.size]? = some (.cells (blkD (.slice Au b4.length cu) (.slice Bu u4.length du)) 25 (0, 0))) ∧ Aside0 (wr.heap[w4.heap.size]? = some (.cells (blkD (.slice Aa b1.length ca) (.slice Ba u1.length da)) 25 (0, 0))))
            (fun i _ => u1.length - (intOf i).toNat)
          case atStart => exact ⟨0, Nat.zero_le _, rfl, Ix1, Iu1, Ia1, HWr1, Kx1, Ku1, Ka1⟩
          case round =>
            obtain ⟨k, hk, rfl, Ix2, Iu2, Ia2, HWr2, Kx2, Ku2, Ka2⟩ := hrel
            have p0 := blk_cell Ka2.out 1
            simp only [blkD, List.getElem?_toArray, List.getElem?_cons_zero, List.getElem?_cons_succ] at p0
            by_cases hlt : k < u1.length
            · obtain ⟨g, ep⟩ := HEa.out (by omega)
              obtain ⟨g1, g2⟩ := HGa.out g ep
              obtain ⟨z1, z2, z3, z4, z5⟩ := HZ.out
              obtain ⟨l1_, l2_, l3_⟩ := HL.out
              obtain ⟨cp, hcp, scp⟩ := Ia2.out g ep
              have x1 := blk_cell hcp (k * 2 + 1)
              rw [Array.getElem?_eq_getElem (by omega)] at x1
              have f1 := blk_frozen hcp (k * 2 + 1)
              have n1 := Aside0.mk (blk_set hcp (k * 2 + 1) (.string ⟨#[115, 109, 117, 100, 103, 101]⟩))
              have nx := Aside0.mk (blk_far Kx2.out (p := ⟨g, (k * 2 + 1), none⟩) (show w10.heap.size ≠ g by omega) (.string ⟨#[115, 109, 117, 100, 103, 101]⟩))
              have nu := Aside0.mk (blk_far Ku2.out (p := ⟨g, (k * 2 + 1), none⟩) (show w14.heap.size ≠ g by omega) (.string ⟨#[115, 109, 117, 100, 103, 101]⟩))
              have na := Aside0.mk (blk_far Ka2.out (p := ⟨g, (k * 2 + 1), none⟩) (show w4.heap.size ≠ g by omega) (.string ⟨#[115, 109, 117, 100, 103, 101]⟩))
              have nW := Aside0.mk (HWr2.out.setCell (p := ⟨g, (k * 2 + 1), none⟩) (show w3.heap.size ≤ g by omega) (.string ⟨#[115, 109, 117, 100, 103, 101]⟩))
              have mx := Aside0.mk (fun (gg : Nat) (e : Ax = some ⟨gg, 0, none⟩) => show ∃ cp_ : Array Value, _ ∧ _ from by obtain ⟨cq, h1, h2⟩ := Ix2.out gg e; have bb := HGx.out gg e; exact ⟨cq, blk_far h1 (p := ⟨g, (k * 2 + 1), none⟩) (show gg ≠ g by omega) (.string ⟨#[115, 109, 117, 100, 103, 101]⟩), h2⟩)
              have mu := Aside0.mk (fun (gg : Nat) (e : Au = some ⟨gg, 0, none⟩) => show ∃ cp_ : Array Value, _ ∧ _ from by obtain ⟨cq, h1, h2⟩ := Iu2.out gg e; have bb := HGu.out gg e; exact ⟨cq, blk_far h1 (p := ⟨g, (k * 2 + 1), none⟩) (show gg ≠ g by omega) (.string ⟨#[115, 109, 117, 100, 103, 101]⟩), h2⟩)
              have S1 := Aside0.mk scp
              generalize cp[(k * 2 + 1)] = vp at x1
              subst ep
              clear hcp scp z1 z2 z3 z4 z5 g1 g2 Ix2 Iu2 Ia2 HWr2 Kx2 Ku2 Ka2
              go_wp2
              go_roundw
              case rel => exact ⟨k + 1, by omega, by go_num, mx, mu, ⟨fun gg e => by injection e with e; injection e with e _ _; subst e; exact ⟨_, n1.out, by rw [Array.size_setIfInBounds]; exact S1.out⟩⟩, nW, nx, nu, na⟩
              case measure => simp [intOf]; omega
            · obtain rfl : k = u1.length := by omega
              clear hlt hk
              have HBr := Aside0.mk (HB3.out.trans (HWr2.out.mono HB3.out.size))
              have HDr := Aside0.mk (blk_below HD3.out HWr2.out)
              have HOr := Aside0.mk (blk_below Hown3.out HWr2.out)
              have Rd0_r := Aside0.mk (Kd.C_below Rd0_3.out HWr2.out)
              have Rd1_r := Aside0.mk (Kd.C_below Rd1_3.out HWr2.out)
              have Rown0_r := Aside0.mk (Kd.C_below Rown0_3.out HWr2.out)
              have Rown1_r := Aside0.mk (Kd.C_below Rown1_3.out HWr2.out)
              go_wp2_with (first | (go_at_call 26; (with_reducible refine (sextonlaw04_spun.calls true _ sextonlaw04_spun_true).mono ?_); rintro e ws ⟨rfl, hb⟩; have HBs := Aside0.mk (HBr.out.trans (hb.mono HBr.out.size)); have hD := blk_below HDr.out hb; have hO := blk_below HOr.out hb; have d0_ := blk_cell hD 0; have d1_ := blk_cell hD 1; have o0_ := blk_cell hO 0; have o1_ := blk_cell hO 1; simp only [blkD, List.getElem?_toArray, List.getElem?_cons_zero, List.getElem?_cons_succ] at d0_ d1_ o0_ o1_; have Rd0_s := Aside0.mk (Kd.C_below Rd0_r.out hb); have Rd1_s := Aside0.mk (Kd.C_below Rd1_r.out hb); have Rown0_s := Aside0.mk (Kd.C_below Rown0_r.out hb); have Rown1_s := Aside0.mk (Kd.C_below Rown1_r.out hb); clear hb hD hO) | (go_at_call 23; (with_reducible refine (sextonref04_Same.calls k A0 c0 l0 A1 c1 l1 Aown cown l0 Bown down l1 true _ Rd0_s.out HC0.out Rd1_s.out HC1.out Rown0_s.out Lown0.out Rown1_s.out Lown1.out OK.out.a0).mono ?_); rintro e wt ⟨rfl, hb⟩; have HBt := Aside0.mk (HBs.out.trans (hb.mono HBs.out.size)); clear hb))
              go_ret
              exact ⟨rfl, HBt.out⟩

/-- What DiskDoes answers: true, where the program and the reference answer the same (YDiskDoes says: everywhere). -/
noncomputable def sextonlaw04_DiskDoes.f (k : Nat) (l0 : List ByteArray) (l1 : List S40) (at_ : Int) (s : ByteArray) (l3 : List Bool) (n : Int) : Option Bool :=
  @ite _ (sextonlaw04_far.f k l0 l1 s l3 = some true ∨ ∃ b1 u1 e1 t2 e2 b3 u3 e3 b4 u4 e4 b5 u5 e5 ck, DoesOk k l0 l1 at_ s l3 n b1 u1 e1 t2 e2 b3 u3 e3 b4 u4 e4 b5 u5 e5 ck) (Classical.propDecidable _) (some true) none
theorem sextonlaw04_DiskDoes.calls (k : Nat) (A0_0 : Option Addr) (c0_0 : Nat) (l0_0 : List ByteArray) (A0_1 : Option Addr) (c0_1 : Nat) (l0_1 : List S40) (a1 : Int) (a2 : ByteArray) (A3 : Option Addr) (c3 : Nat) (l3 : List Bool) (a4 : Int) (r : Bool) (w : World) (hr0_0 : Kd.C Kd.string w A0_0 l0_0.length l0_0) (hc0_0 : l0_0.length ≤ c0_0) (hr0_1 : Kd.C k40 w A0_1 l0_1.length l0_1) (hc0_1 : l0_1.length ≤ c0_1) (hr3 : Kd.C Kd.bool w A3 l3.length l3) (hc3 : l3.length ≤ c3) (h : sextonlaw04_DiskDoes.f k l0_0 l0_1 a1 a2 l3 a4 = some r) :
    Calls Try.prog 3 #[.agg #[.slice A0_0 l0_0.length c0_0, .slice A0_1 l0_1.length c0_1], .int .i64 a1, .string a2, .slice A3 l3.length c3, .int .i64 a4] w fun e w' => e = .returned (.bool r) ∧ Below w.heap.size w w' := by
  unfold sextonlaw04_DiskDoes.f at h
  split at h
  · rename_i hd
    cases h
    rcases hd with hd | ⟨b1, u1, e1, t2, e2, b3, u3, e3, b4, u4, e4, b5, u5, e5, ck, hd⟩
    · exact does_far k A0_0 c0_0 l0_0 A0_1 c0_1 l0_1 a1 a2 A3 c3 l3 a4 w hr0_0 hc0_0 hr0_1 hc0_1 hr3 hc3 hd
    · exact does_in k A0_0 c0_0 l0_0 A0_1 c0_1 l0_1 a1 a2 A3 c3 l3 a4 b1 u1 e1 t2 e2 b3 u3 e3 b4 u4 e4 b5 u5 e5 ck w hr0_0 hc0_0 hr0_1 hc0_1 hr3 hc3 hd
  · cases h
end Go.Proofs.Ytoibofhmlokglaa.P
/-
  The plain statement of DiskDoes: a disk is right, or not; each call makes just this of it, or is refused.
-/
namespace Go.Proofs.Ytoibofhmlokglaa.Pure
open Go.RowKit Go.Proofs Go.Proofs.CodecPlain Go.Proofs.YtoibofhmlokglaaW.PrintWords Go.Proofs.YtoibofhmlokglaaW.PrintLast Go.Proofs.Plain Go.Proofs.Ytoibofhmlokglaa.P Go.Proofs.Ytoibofhmlokglaa.Opens

theorem rd_bool (l : List Bool) (k : Nat) (h : k < l.length) : rdOf false l (k : Int) = l[k] := by
  simp [rdOf, List.getD_eq_getElem?_getD, h]
theorem crash_l0 {l0 : List ByteArray} {l1 : List S40} (h : checkB l0 l1 = true) (keep : List Bool) (d : Nat) : ∀ (k : Nat) (b : List ByteArray), k + d = l1.length → b.length = l0.length → Ev (fun r => sextonref04_Crash.l0 r keep (k : Int) l0 l1 b) (applyW (keepB keep) k (l1.drop k) b, ([] : List S40), 0) := by
  obtain ⟨_, c2, c3, _, c5⟩ := check_len h
  have out : ∀ (p : Int → Bool) (m : Nat) (l : List S40) (b : List ByteArray), (∀ i : Nat, m ≤ i → p (i : Int) = false) → applyW p m l b = b := by
    intro p m l
    induction l generalizing m with
    | nil => intro b _; rfl
    | cons x l ih =>
      intro b hp
      simp only [applyW]
      rw [hp m (Nat.le_refl _), if_neg (by decide)]
      exact ih (m + 1) b (fun i hi => hp i (by omega))
  induction d with
  | zero =>
    intro k b hk hb
    rw [List.drop_of_length_le (by omega)]
    refine Ev.step (f := fun r => sextonref04_Crash.j1 r keep (k : Int) false l0 l1 b) (fun r => by simp only [sextonref04_Crash.l0]; rw [if_neg (by omega)]) ?_
    exact Ev.step (f := fun _ => some (b, [], 0)) (fun r => by simp only [sextonref04_Crash.j1]; rw [if_neg (by decide)]) (Ev.now _)
  | succ d ih =>
    intro k b hk hb
    have hlt : k < l1.length := by omega
    have hx := c5 _ (List.getElem_mem hlt)
    by_cases hkp : k < keep.length
    rotate_left
    · rw [out (keepB keep) k _ b (fun i hi => by unfold keepB; rw [decide_eq_false (by omega)]; rfl)]
      refine Ev.step (f := fun r => sextonref04_Crash.j1 r keep (k : Int) false l0 l1 b) (fun r => by simp only [sextonref04_Crash.l0]; rw [if_pos (by omega), decide_eq_false (by omega)]) ?_
      exact Ev.step (f := fun _ => some (b, [], 0)) (fun r => by simp only [sextonref04_Crash.j1]; rw [if_neg (by decide)]) (Ev.now _)
    · refine Ev.step (f := fun r => sextonref04_Crash.j1 r keep (k : Int) true l0 l1 b) (fun r => by simp only [sextonref04_Crash.l0]; rw [if_pos (by omega), decide_eq_true (by omega)]) ?_
      rw [List.drop_eq_getElem_cons hlt]
      simp only [applyW]
      have hkb : keepB keep (k : Int) = keep[k] := by unfold keepB; rw [decide_eq_true (by omega), Bool.true_and, rd_bool _ _ hkp]
      rw [hkb]
      have hw : wrap64 ((k : Int) + 1) = ((k + 1 : Nat) : Int) := wrap_at (by omega) (by omega)
      by_cases hq : keep[k] = true
      · rw [if_pos hq]
        refine Ev.step (f := fun r => sextonref04_Crash.l0 r keep ((k + 1 : Nat) : Int) l0 l1 (b.set l1[k].f0.toNat l1[k].f1)) (fun r => ?_) (ih (k + 1) (b.set l1[k].f0.toNat l1[k].f1) (by omega) (by rw [List.length_set]; exact hb))
        simp only [sextonref04_Crash.j1]
        rw [if_pos trivial, if_pos (by omega), if_pos (by omega), rd_bool _ _ hkp, if_pos hq, if_pos (by omega), rd_W l1 k hlt, if_pos hx.1, if_pos (by omega), hw]
      · rw [if_neg hq]
        refine Ev.step (f := fun r => sextonref04_Crash.l0 r keep ((k + 1 : Nat) : Int) l0 l1 b) (fun r => ?_) (ih (k + 1) _ (by omega) hb)
        simp only [sextonref04_Crash.j1]
        rw [if_pos trivial, if_pos (by omega), if_pos (by omega), rd_bool _ _ hkp, if_neg hq, hw]
theorem refCrash (l0 : List ByteArray) (l1 : List S40) (keep : List Bool) : Ev (fun k => sextonref04_Crash.f k l0 l1 keep) (doneV (keepB keep) l0 l1) := by
  refine Ev.bind (refCheck l0 l1) ?_
  unfold doneV
  by_cases h1 : checkB l0 l1 = true
  · rw [if_pos h1]
    simp only [if_pos h1]
    obtain ⟨_, c2, _⟩ := check_len h1
    rw [refOwn l0 (by omega)]
    have := crash_l0 h1 keep l1.length 0 l0 (by omega) rfl
    rw [List.drop_zero] at this
    exact this
  · rw [if_neg h1]
    simp only [if_neg h1]
    exact Ev.now _
theorem done_small (p : Int → Bool) (l0 : List ByteArray) (l1 : List S40) : (doneV p l0 l1).1.length ≤ 200 ∧ (doneV p l0 l1).2.1.length ≤ 200 := by
  unfold doneV
  split
  · rename_i h
    obtain ⟨_, c2, _⟩ := check_len h
    exact ⟨by simp only; rw [applyW_length]; exact c2, by simp⟩
  · exact ⟨by simp, by simp⟩
theorem write_small (l0 : List ByteArray) (l1 : List S40) (a : Int) (s : ByteArray) : (writeV l0 l1 a s).1.length ≤ 200 ∧ (writeV l0 l1 a s).2.1.length ≤ 200 := by
  unfold writeV
  split
  · exact ⟨by simp, by simp⟩
  split
  · exact ⟨by simp, by simp⟩
  split
  · exact ⟨by simp, by simp⟩
  split
  · exact ⟨by simp, by simp⟩
  rename_i h _ _ _
  obtain ⟨_, c2, c3, _⟩ := check_len (l0 := l0) (l1 := l1) (by simpa using h)
  exact ⟨c2, by simp; omega⟩
/-- What New answers. -/
def freshV (n : Int) : List ByteArray × List S40 × Int := if n < 1 ∨ 200 < n then ([], [], 1) else (List.replicate n.toNat ⟨#[]⟩, [], 0)
theorem new_f (n : Int) : disk_New.f n = some (freshV n) ∧ sextonref04_New.f n = some (freshV n) := by
  unfold disk_New.f sextonref04_New.f freshV
  by_cases h1 : n < 1
  · simp only [if_pos h1, if_pos (show n < 1 ∨ 200 < n from .inl h1)]
    exact ⟨trivial, trivial⟩
  by_cases h2 : n > 200
  · simp only [if_neg h1, if_pos h2, if_pos (show n < 1 ∨ 200 < n from .inr h2)]
    exact ⟨trivial, trivial⟩
  simp only [if_neg h1, if_neg h2, if_neg (show ¬ (n < 1 ∨ 200 < n) by omega), if_pos (show 0 ≤ n by omega), if_pos (show n.toNat ≤ 17592186044416 by omega)]
  exact ⟨trivial, trivial⟩
theorem fresh_small (n : Int) : (freshV n).1.length ≤ 200 ∧ (freshV n).2.1.length ≤ 200 := by
  unfold freshV
  split
  · exact ⟨by simp, by simp⟩
  · exact ⟨by simp only [List.length_replicate]; omega, by simp⟩
theorem far4_ends (l0 : List ByteArray) (l1 : List S40) (s : ByteArray) (l : List Bool) : ∃ b, Ev (fun k => sextonlaw04_far.f k l0 l1 s l) b ∧ (b = false → Ev (fun k => sextonref04_Big.f k l0 l1) false) := by
  obtain ⟨g, hg⟩ := big_ends l0 l1
  unfold sextonlaw04_far.f
  cases g
  · refine ⟨if (s.size : Int) > 400 then true else decide ((l.length : Int) > 200), Ev.bind hg (Ev.congr (f := fun _ => some (if (s.size : Int) > 400 then true else decide ((l.length : Int) > 200))) (fun k => ?_) (Ev.now _)), fun _ => hg⟩
    rw [if_neg (by decide)]
    split <;> rfl
  · exact ⟨true, Ev.bind hg (Ev.congr (f := fun _ => some true) (fun k => by rw [if_pos rfl]) (Ev.now _)), fun h => by cases h⟩

theorem DiskDoes (l0_0 : (List ByteArray)) (l0_1 : (List S40)) (a1 : Int) (a2 : ByteArray) (l3 : (List Bool)) (a4 : Int) {ok0 : Prop} (h0 : ok0) {ok1 : Prop} (h1 : ok1) {ok2 : Prop} (h2 : ok2) {ok3 : Prop} (h3 : ok3) {ok4 : Prop} (h4 : ok4) :
    ∃ k, sextonlaw04_DiskDoes.f k l0_0 l0_1 a1 a2 l3 a4 = some true := by
  obtain ⟨far, ⟨K, e⟩, hfar⟩ := far4_ends l0_0 l0_1 a2 l3
  simp only at e
  unfold sextonlaw04_DiskDoes.f
  cases far
  rotate_left
  · exact ⟨K, by rw [if_pos (.inl (e K (Nat.le_refl _)))]⟩
  obtain ⟨hb, hu⟩ := big_small (hfar rfl)
  have s1 := write_small l0_0 l0_1 a1 a2
  have s3 := done_small (fun _ => true) l0_0 l0_1
  have s4 := done_small (keepB l3) l0_0 l0_1
  have s5 := fresh_small a4
  obtain ⟨k1, e1⟩ := refWrite l0_0 l0_1 a1 a2
  obtain ⟨k2, e2⟩ := refRead l0_0 l0_1 a1
  obtain ⟨k3, e3⟩ := refSync l0_0 l0_1
  obtain ⟨k4, e4⟩ := refCrash l0_0 l0_1 l3
  obtain ⟨k5, e5⟩ := refCheck l0_0 l0_1
  obtain ⟨k6, e6⟩ := same_yes (writeV l0_0 l0_1 a1 a2).1 (writeV l0_0 l0_1 a1 a2).2.1 (by omega) (by omega)
  obtain ⟨k7, e7⟩ := same_yes (doneV (fun _ => true) l0_0 l0_1).1 (doneV (fun _ => true) l0_0 l0_1).2.1 (by omega) (by omega)
  obtain ⟨k8, e8⟩ := same_yes (doneV (keepB l3) l0_0 l0_1).1 (doneV (keepB l3) l0_0 l0_1).2.1 (by omega) (by omega)
  obtain ⟨k9, e9⟩ := same_yes (freshV a4).1 (freshV a4).2.1 (by omega) (by omega)
  obtain ⟨k10, e10⟩ := same_yes l0_0 l0_1 (by omega) (by omega)
  simp only at e1 e2 e3 e4 e5 e6 e7 e8 e9 e10
  refine ⟨K + k1 + k2 + k3 + k4 + k5 + k6 + k7 + k8 + k9 + k10, ?_⟩
  rw [if_pos (.inr ⟨(writeV l0_0 l0_1 a1 a2).1, (writeV l0_0 l0_1 a1 a2).2.1, (writeV l0_0 l0_1 a1 a2).2.2, (readV l0_0 l0_1 a1).1, (readV l0_0 l0_1 a1).2, (doneV (fun _ => true) l0_0 l0_1).1, (doneV (fun _ => true) l0_0 l0_1).2.1, (doneV (fun _ => true) l0_0 l0_1).2.2, (doneV (keepB l3) l0_0 l0_1).1, (doneV (keepB l3) l0_0 l0_1).2.1, (doneV (keepB l3) l0_0 l0_1).2.2, (freshV a4).1, (freshV a4).2.1, (freshV a4).2.2, checkB l0_0 l0_1, { far := e _ (by omega), own := refOwnD _ _ (by omega) (by omega), w1 := rfl, w2 := e1 _ (by omega), r1 := read_f _ _ _, r2 := e2 _ (by omega), s1 := rfl, s2 := e3 _ (by omega), c1 := rfl, c2 := e4 _ (by omega), n1 := (new_f a4).1, n2 := (new_f a4).2, k1 := rfl, k2 := e5 _ (by omega), a1 := e6 _ (by omega), a3 := e7 _ (by omega), a4 := e8 _ (by omega), a5 := e9 _ (by omega), a0 := e10 _ (by omega), z1 := by omega, z3 := by omega, z4 := by omega }⟩)]
end Go.Proofs.Ytoibofhmlokglaa.Pure
