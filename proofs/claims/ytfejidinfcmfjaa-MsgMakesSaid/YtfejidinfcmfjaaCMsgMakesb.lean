/-
  Texts of the claim MsgMakes, joined.
-/
import Derived.Maps.AppendAt
import Derived.OwnWalk
import Derived.LoopTactic
import Derived.Test.YtfejidinfcmfjaaCMsgMakesa
import Derived.Test.YtfejidinfcmfjaaPx0
import Derived.WalkSpells
import Derived.Test.YtfejidinfcmfjaaWMore
import Derived.Test.YtfejidinfcmfjaaProg
/-
  msg.Get, by hand.
-/
namespace Go.Proofs.Ytfejidinfcmfjaa.P
open Go.RowKit Go.Shelf Go.Proofs Go.Proofs.CodecPlain Go.Proofs.YtfejidinfcmfjaaW.PrintWords Go.Proofs.YtfejidinfcmfjaaW.PrintLast

/-- Numbers, one behind the other. -/
def getNs : Nat → ByteArray → List Int × ByteArray × Bool
  | 0, s => ([], s, true)
  | n + 1, s => if (getNum s).2.2 = true then ((getNum s).1 :: (getNs n (getNum s).2.1).1, (getNs n (getNum s).2.1).2.1, (getNs n (getNum s).2.1).2.2) else ([], ⟨#[]⟩, false)
def withN (a : List Int) (r : List Int × ByteArray × Bool) : List Int × ByteArray × Bool := (a ++ r.1, r.2.1, r.2.2)
theorem getNs_step (a : List Int) (n : Nat) (s : ByteArray) (h : (getNum s).2.2 = true) : withN a (getNs (n + 1) s) = withN (a ++ [(getNum s).1]) (getNs n (getNum s).2.1) := by
  unfold withN
  simp only [getNs]
  rw [if_pos h]
  simp
theorem getNs_stop (a : List Int) (n : Nat) (s : ByteArray) (h : (getNum s).2.2 = false) : (withN a (getNs (n + 1) s)).2.2 = false := by
  unfold withN
  simp only [getNs]
  rw [if_neg (by rw [h]; decide)]
/-- What msg.Get makes of numbers and what stands behind. -/
def getM (r : List Int × ByteArray × Bool) : Int × Int × Int × Int × Int × Int × Int × List ByteArray × Int :=
  match r with
  | ([n0, n1, n2, n3, n4, n5, n6], rest, true) => if (getRow rest).2.2 = true ∧ (getRow rest).2.1 = ⟨#[]⟩ ∧ isB n0 n1 n2 n3 n4 n5 n6 (getRow rest).1 = true then (n0, n1, n2, n3, n4, n5, n6, (getRow rest).1, 0) else (0, 0, 0, 0, 0, 0, 0, [], 30)
  | _ => (0, 0, 0, 0, 0, 0, 0, [], 30)
theorem getM_no {r : List Int × ByteArray × Bool} (h : r.2.2 = false) : getM r = (0, 0, 0, 0, 0, 0, 0, [], 30) := by
  obtain ⟨l, s, b⟩ := r
  simp only at h
  subst h
  unfold getM
  split
  · rename_i e; injection e with _ e; injection e with _ e; cases e
  · rfl
def msg_Get.f (a0 : ByteArray) : Option (Int × Int × Int × Int × Int × Int × Int × List ByteArray × Int) := some (getM (getNs 7 a0))
theorem zero_msg (w : World) : Sem.run Try.prog (zeroValue 29) w = .ok (.agg #[.int .i64 0, .int .i64 0, .int .i64 0, .int .i64 0, .int .i64 0, .int .i64 0, .int .i64 0, .slice none 0 0]) w := by kernel_rfl
attribute [local go_sem] zero_msg
/-- A message's block. -/
def blkM (n0 n1 n2 n3 n4 n5 n6 : Int) (v : Value) : Array Value := #[.int .i64 n0, .int .i64 n1, .int .i64 n2, .int .i64 n3, .int .i64 n4, .int .i64 n5, .int .i64 n6, v]
theorem blkM_one (n0 n1 n2 n3 n4 n5 n6 : Int) (v : Value) (hv : v.oneCell' = true) : ∀ q ∈ (blkM n0 n1 n2 n3 n4 n5 n6 v).toList, q.oneCell' = true := by
  intro q hq
  simp only [blkM, List.mem_cons, List.not_mem_nil, or_false] at hq
  rcases hq with rfl | rfl | rfl | rfl | rfl | rfl | rfl | rfl <;> first | rfl | exact hv
/-- A whole message stored into a message's block. -/
theorem store_msg {W : World} {g : Nat} {cur : Array Value} (hh : W.heap[g]? = some (.cells cur 29 (0, 0))) (hs : cur.size = 8) (n0 n1 n2 n3 n4 n5 n6 : Int) (v : Value) (hv : v.oneCell' = true) :
    (Instr.storeAt 29 (.pointer (some ⟨g, 0, none⟩)) (.agg (blkM n0 n1 n2 n3 n4 n5 n6 v))).run Try.prog W = .ok () (W.setCells g 0 (blkM n0 n1 n2 n3 n4 n5 n6 v).toList) ∧
    (W.setCells g 0 (blkM n0 n1 n2 n3 n4 n5 n6 v).toList).heap[g]? = some (.cells (blkM n0 n1 n2 n3 n4 n5 n6 v) 29 (0, 0)) := by
  have hl : (blkM n0 n1 n2 n3 n4 n5 n6 v).toList.length = 8 := rfl
  refine ⟨run_store_run (P := Try.prog) (o := 0) 29 _ _ hh rfl (by rw [hl]; kernel_rfl) (by omega) (blkM_one n0 n1 n2 n3 n4 n5 n6 v hv), ?_⟩
  obtain ⟨cur', h1, h2, h3⟩ := setCells_row (blkM n0 n1 n2 n3 n4 n5 n6 v).toList 0 W cur hh (by omega)
  rw [h1]
  have : cur' = blkM n0 n1 n2 n3 n4 n5 n6 v := by
    apply Array.toList_inj.1
    rw [h3, List.take_zero, List.nil_append, hl, List.drop_of_length_le (by rw [Array.length_toList]; omega), List.append_nil]
  rw [this]
theorem below_cells {B g : Nat} {w W : World} (h : Below B w W) (hg : B ≤ g) (vs : List Value) : Below B w (W.setCells g 0 vs) := by
  have hs := setCells_same g vs 0 W
  exact h.trans ⟨hs.1, hs.2.1, hs.2.2.1, Nat.le_of_eq hs.2.2.2.symm, fun k hk => setCells_far _ _ k (by omega)⟩
theorem R_cells {α : Type} {d : Kd α} {e : Nat} {W : World} {base : Nat} {v : Value} {xs : List α} (h : d.R e W base (fun _ => True) v xs) {g t : Nat} {cells : Array Value} (hb : W.heap[g]? = some (.cells cells t (0, 0))) (ht : ∀ q, q ∈ e :: d.E → q ≠ t) (vs : List Value) : d.R e (W.setCells g 0 vs) base (fun _ => True) v xs :=
  Kd.R_mono (Kd.R_step (Kd.R_types h hb ht) (fun k hk _ => setCells_far _ _ k hk.2)) (fun _ _ => trivial)


set_option maxHeartbeats 32000000 in
set_option maxRecDepth 100000 in
theorem msg_Get_any (s : ByteArray) (w : World) :
    Calls Try.prog 33 #[.string s] w fun e w' => ∃ r1 r2 r3 r4 r5 r6 r7 r8 r9, Aside0 (getM (getNs 7 s) = (r1, r2, r3, r4, r5, r6, r7, r8, r9)) ∧ ∃ v7_ : Value, e = .returned (.tuple #[.agg #[.int .i64 r1, .int .i64 r2, .int .i64 r3, .int .i64 r4, .int .i64 r5, .int .i64 r6, .int .i64 r7, v7_], .int .i64 r9]) ∧ Kd.R Kd.string 9 w' w.heap.size (fun _ => True) v7_ r8 ∧ Below w.heap.size w w' := by
  have HB0 := Aside0.mk (((Below.refl w.heap.size w).alloc (Nat.le_refl _) (.cells (blkM 0 0 0 0 0 0 0 (.slice none 0 0)) 29)).alloc (by simp) (.cells (blkM 0 0 0 0 0 0 0 (.slice none 0 0)) 29))
  have HE1 := Aside0.mk (blk_alloc (blk_new w (.cells (blkM 0 0 0 0 0 0 0 (.slice none 0 0)) 29)) (.cells (blkM 0 0 0 0 0 0 0 (.slice none 0 0)) 29))
  have hE2 := blk_new (w.alloc (.cells (blkM 0 0 0 0 0 0 0 (.slice none 0 0)) 29)) (.cells (blkM 0 0 0 0 0 0 0 (.slice none 0 0)) 29)
  rw [World.size_alloc] at hE2
  have HE2 := Aside0.mk hE2
  clear hE2
  go_enter Try.func33, Try.ntmps33
  go_wp2_with (first | (go_at_call 57; (with_reducible refine (msg_fields_calls (w.heap.size + 1) _).mono ?_); rintro e w2 ⟨rfl, hb2⟩; have HB2 := Aside0.mk (HB0.out.trans (hb2.mono HB0.out.size)); have HF1 := Aside0.mk (blk_below HE1.out hb2); have HF2 := Aside0.mk (blk_below HE2.out hb2); clear hb2))
  simp only [ptrs]
  clear HB0 HE1 HE2
  go_loopw [0, 6, 7, 8, 9, 14] (fun cur _ _ _ _ i wr => ∃ (k : Nat) (a : List Int) (sk : ByteArray) (n0 n1 n2 n3 n4 n5 n6 : Int), k ≤ 7 ∧ i = .int .i64 k ∧ cur = .string sk ∧ Aside0 (getNs 7 s = withN a (getNs (7 - k) sk)) ∧ Aside0 (a = [n0, n1, n2, n3, n4, n5, n6].take k) ∧ Aside0 (wr.heap[w.heap.size + 1]? = some (.cells (blkM n0 n1 n2 n3 n4 n5 n6 (.slice none 0 0)) 29 (0, 0))) ∧ Aside0 (wr.heap[w.heap.size]? = some (.cells (blkM 0 0 0 0 0 0 0 (.slice none 0 0)) 29 (0, 0))) ∧ Aside0 (Below w.heap.size w wr))
    (fun _ _ _ _ _ i _ => 7 - (intOf i).toNat)
  case atStart => exact ⟨0, [], s, 0, 0, 0, 0, 0, 0, 0, Nat.zero_le _, rfl, rfl, ⟨by simp [withN]⟩, ⟨rfl⟩, HF2, HF1, HB2⟩
  case round =>
    clear HF1 HF2 HB2
    obtain ⟨k, a, sk, n0, n1, n2, n3, n4, n5, n6, hk, rfl, rfl, HG, HA, HC2, HC1, HB⟩ := hrel
    have hks : k = 0 ∨ k = 1 ∨ k = 2 ∨ k = 3 ∨ k = 4 ∨ k = 5 ∨ k = 6 ∨ k = 7 := by omega
    rcases hks with rfl | rfl | rfl | rfl | rfl | rfl | rfl | rfl
    · obtain ⟨x, sn, ok, hgn⟩ : ∃ x sn ok, getNum sk = (x, sn, ok) := ⟨_, _, _, rfl⟩
      have HN := Aside0.mk (fun W => codec_GetNumber.calls sk x sn ok W (by unfold codec_GetNumber.f; rw [hgn]))
      cases ok
      · have hst := Aside0.mk (getM_no (getNs_stop a 6 sk (by rw [hgn])))
        obtain ⟨hrun, hblk⟩ := store_msg HC1.out rfl 0 0 0 0 0 0 0 (.slice none 0 0) rfl
        have HRun := Aside0.mk (fun n => (store_msg (W := wr.drewN n) (blk_drewN HC1.out n) rfl 0 0 0 0 0 0 0 (.slice none 0 0) rfl))
        clear hgn hrun hblk
        go_wp2_with (first | ((with_reducible refine gate_dst (N := 16) rfl ?_); refine Kd.event_run (v := .pointer (some ⟨w.heap.size + 1, 0, none⟩)) (w1 := wr) rfl ?hx ?_; (case hx => kernel_rfl)) | (go_at_call 64; (with_reducible refine (HN.out _).mono ?_); rintro e w4 ⟨rfl, ⟨nd, rfl⟩⟩) | ((with_reducible refine gate_store (t := 29) (p := 2) rfl ?_); refine store_event (t := 29) (p := 2) (w1 := (wr.drewN nd).setCells w.heap.size 0 (blkM 0 0 0 0 0 0 0 (.slice none 0 0)).toList) rfl rfl rfl ?hr ?_; (case hr => (unfold execOp; simp only [Act.eval, Sem.run_bind, Sem.run_pure, Result.andThen_ok]; show ((Sem.run Try.prog (Instr.storeAt 29 (.pointer (some ⟨w.heap.size, 0, none⟩)) (.agg (blkM 0 0 0 0 0 0 0 (.slice none 0 0)))) (wr.drewN nd)).andThen _) = _; rw [(HRun.out nd).1]; try rfl)); intro w5 hw5; have HC5 := Aside0.mk (hw5 ▸ (HRun.out nd).2 : w5.heap[w.heap.size]? = some (.cells (blkM 0 0 0 0 0 0 0 (.slice none 0 0)) 29 (0, 0))); have HB5 := Aside0.mk (show Below w.heap.size w w5 by rw [hw5]; exact below_cells (pw_below_drewN HB.out nd) (Nat.le_refl _) _); clear hw5))
        have d0 := blk_cell HC5.out 0
        have d1 := blk_cell HC5.out 1
        have d2 := blk_cell HC5.out 2
        have d3 := blk_cell HC5.out 3
        have d4 := blk_cell HC5.out 4
        have d5 := blk_cell HC5.out 5
        have d6 := blk_cell HC5.out 6
        have d7 := blk_cell HC5.out 7
        simp only [blkM, List.getElem?_toArray, List.getElem?_cons_zero, List.getElem?_cons_succ] at d0 d1 d2 d3 d4 d5 d6 d7
        refine bodyPost_ret (v := .tuple #[.agg (blkM 0 0 0 0 0 0 0 (.slice none 0 0)), .int .i64 30]) ?_ rfl ⟨0, 0, 0, 0, 0, 0, 0, [], 30, ⟨by rw [HG.out]; exact hst.out⟩, _, rfl, Kd.R_nil _ _ _ _ _, HB5.out⟩
        simp [results, Try.results33, go_sem, blkM, d0, d1, d2, d3, d4, d5, d6, d7]
      · have hStep := Aside0.mk (show withN a (getNs (6 + 1) sk) = withN (a ++ [x]) (getNs 6 sn) by
          have := getNs_step a 6 sk (by rw [hgn])
          rw [hgn] at this
          exact this)
        have c2 := blk_cell HC2.out 0
        have f2 := blk_frozen HC2.out 0
        simp only [blkM, List.getElem?_toArray, List.getElem?_cons_zero, List.getElem?_cons_succ] at c2
        clear hgn
        go_wp2_with (first | ((with_reducible refine gate_dst (N := 16) rfl ?_); refine Kd.event_run (v := .pointer (some ⟨w.heap.size + 1, 0, none⟩)) (w1 := wr) rfl ?hx ?_; (case hx => kernel_rfl)) | (go_at_call 64; (with_reducible refine (HN.out _).mono ?_); rintro e w4 ⟨rfl, ⟨nd, rfl⟩⟩))
        go_roundw
        case measure => simp [intOf]
        case rel =>
        refine ⟨1, a ++ [x], sn, x, n1, n2, n3, n4, n5, n6, by omega, by go_num, rfl, ⟨by rw [HG.out]; exact hStep.out⟩, ⟨by rw [HA.out]; rfl⟩, ⟨blk_set (blk_drewN HC2.out nd) 0 (.int .i64 x)⟩, ⟨blk_far (blk_drewN HC1.out nd) (by show w.heap.size ≠ w.heap.size + 1; omega) _⟩, ⟨(pw_below_drewN HB.out nd).setCell (p := ⟨w.heap.size + 1, 0, none⟩) (by show w.heap.size ≤ w.heap.size + 1; omega) _⟩⟩
    · obtain ⟨x, sn, ok, hgn⟩ : ∃ x sn ok, getNum sk = (x, sn, ok) := ⟨_, _, _, rfl⟩
      have HN := Aside0.mk (fun W => codec_GetNumber.calls sk x sn ok W (by unfold codec_GetNumber.f; rw [hgn]))
      cases ok
      · have hst := Aside0.mk (getM_no (getNs_stop a 5 sk (by rw [hgn])))
        obtain ⟨hrun, hblk⟩ := store_msg HC1.out rfl 0 0 0 0 0 0 0 (.slice none 0 0) rfl
        have HRun := Aside0.mk (fun n => (store_msg (W := wr.drewN n) (blk_drewN HC1.out n) rfl 0 0 0 0 0 0 0 (.slice none 0 0) rfl))
        clear hgn hrun hblk
        go_wp2_with (first | ((with_reducible refine gate_dst (N := 16) rfl ?_); refine Kd.event_run (v := .pointer (some ⟨w.heap.size + 1, 1, none⟩)) (w1 := wr) rfl ?hx ?_; (case hx => kernel_rfl)) | (go_at_call 64; (with_reducible refine (HN.out _).mono ?_); rintro e w4 ⟨rfl, ⟨nd, rfl⟩⟩) | ((with_reducible refine gate_store (t := 29) (p := 2) rfl ?_); refine store_event (t := 29) (p := 2) (w1 := (wr.drewN nd).setCells w.heap.size 0 (blkM 0 0 0 0 0 0 0 (.slice none 0 0)).toList) rfl rfl rfl ?hr ?_; (case hr => (unfold execOp; simp only [Act.eval, Sem.run_bind, Sem.run_pure, Result.andThen_ok]; show ((Sem.run Try.prog (Instr.storeAt 29 (.pointer (some ⟨w.heap.size, 0, none⟩)) (.agg (blkM 0 0 0 0 0 0 0 (.slice none 0 0)))) (wr.drewN nd)).andThen _) = _; rw [(HRun.out nd).1]; try rfl)); intro w5 hw5; have HC5 := Aside0.mk (hw5 ▸ (HRun.out nd).2 : w5.heap[w.heap.size]? = some (.cells (blkM 0 0 0 0 0 0 0 (.slice none 0 0)) 29 (0, 0))); have HB5 := Aside0.mk (show Below w.heap.size w w5 by rw [hw5]; exact below_cells (pw_below_drewN HB.out nd) (Nat.le_refl _) _); clear hw5))
        have d0 := blk_cell HC5.out 0
        have d1 := blk_cell HC5.out 1
        have d2 := blk_cell HC5.out 2
        have d3 := blk_cell HC5.out 3
        have d4 := blk_cell HC5.out 4
        have d5 := blk_cell HC5.out 5
        have d6 := blk_cell HC5.out 6
        have d7 := blk_cell HC5.out 7
        simp only [blkM, List.getElem?_toArray, List.getElem?_cons_zero, List.getElem?_cons_succ] at d0 d1 d2 d3 d4 d5 d6 d7
        refine bodyPost_ret (v := .tuple #[.agg (blkM 0 0 0 0 0 0 0 (.slice none 0 0)), .int .i64 30]) ?_ rfl ⟨0, 0, 0, 0, 0, 0, 0, [], 30, ⟨by rw [HG.out]; exact hst.out⟩, _, rfl, Kd.R_nil _ _ _ _ _, HB5.out⟩
        simp [results, Try.results33, go_sem, blkM, d0, d1, d2, d3, d4, d5, d6, d7]
      · have hStep := Aside0.mk (show withN a (getNs (5 + 1) sk) = withN (a ++ [x]) (getNs 5 sn) by
          have := getNs_step a 5 sk (by rw [hgn])
          rw [hgn] at this
          exact this)
        have c2 := blk_cell HC2.out 1
        have f2 := blk_frozen HC2.out 1
        simp only [blkM, List.getElem?_toArray, List.getElem?_cons_zero, List.getElem?_cons_succ] at c2
        clear hgn
        go_wp2_with (first | ((with_reducible refine gate_dst (N := 16) rfl ?_); refine Kd.event_run (v := .pointer (some ⟨w.heap.size + 1, 1, none⟩)) (w1 := wr) rfl ?hx ?_; (case hx => kernel_rfl)) | (go_at_call 64; (with_reducible refine (HN.out _).mono ?_); rintro e w4 ⟨rfl, ⟨nd, rfl⟩⟩))
        go_roundw
        case measure => simp [intOf]
        case rel =>
        refine ⟨2, a ++ [x], sn, n0, x, n2, n3, n4, n5, n6, by omega, by go_num, rfl, ⟨by rw [HG.out]; exact hStep.out⟩, ⟨by rw [HA.out]; rfl⟩, ⟨blk_set (blk_drewN HC2.out nd) 1 (.int .i64 x)⟩, ⟨blk_far (blk_drewN HC1.out nd) (by show w.heap.size ≠ w.heap.size + 1; omega) _⟩, ⟨(pw_below_drewN HB.out nd).setCell (p := ⟨w.heap.size + 1, 1, none⟩) (by show w.heap.size ≤ w.heap.size + 1; omega) _⟩⟩
    · obtain ⟨x, sn, ok, hgn⟩ : ∃ x sn ok, getNum sk = (x, sn, ok) := ⟨_, _, _, rfl⟩
      have HN := Aside0.mk (fun W => codec_GetNumber.calls sk x sn ok W (by unfold codec_GetNumber.f; rw [hgn]))
      cases ok
      · have hst := Aside0.mk (getM_no (getNs_stop a 4 sk (by rw [hgn])))
        obtain ⟨hrun, hblk⟩ := store_msg HC1.out rfl 0 0 0 0 0 0 0 (.slice none 0 0) rfl
        have HRun := Aside0.mk (fun n => (store_msg (W := wr.drewN n) (blk_drewN HC1.out n) rfl 0 0 0 0 0 0 0 (.slice none 0 0) rfl))
        clear hgn hrun hblk
        go_wp2_with (first | ((with_reducible refine gate_dst (N := 16) rfl ?_); refine Kd.event_run (v := .pointer (some ⟨w.heap.size + 1, 2, none⟩)) (w1 := wr) rfl ?hx ?_; (case hx => kernel_rfl)) | (go_at_call 64; (with_reducible refine (HN.out _).mono ?_); rintro e w4 ⟨rfl, ⟨nd, rfl⟩⟩) | ((with_reducible refine gate_store (t := 29) (p := 2) rfl ?_); refine store_event (t := 29) (p := 2) (w1 := (wr.drewN nd).setCells w.heap.size 0 (blkM 0 0 0 0 0 0 0 (.slice none 0 0)).toList) rfl rfl rfl ?hr ?_; (case hr => (unfold execOp; simp only [Act.eval, Sem.run_bind, Sem.run_pure, Result.andThen_ok]; show ((Sem.run Try.prog (Instr.storeAt 29 (.pointer (some ⟨w.heap.size, 0, none⟩)) (.agg (blkM 0 0 0 0 0 0 0 (.slice none 0 0)))) (wr.drewN nd)).andThen _) = _; rw [(HRun.out nd).1]; try rfl)); intro w5 hw5; have HC5 := Aside0.mk (hw5 ▸ (HRun.out nd).2 : w5.heap[w.heap.size]? = some (.cells (blkM 0 0 0 0 0 0 0 (.slice none 0 0)) 29 (0, 0))); have HB5 := Aside0.mk (show Below w.heap.size w w5 by rw [hw5]; exact below_cells (pw_below_drewN HB.out nd) (Nat.le_refl _) _); clear hw5))
        have d0 := blk_cell HC5.out 0
        have d1 := blk_cell HC5.out 1
        have d2 := blk_cell HC5.out 2
        have d3 := blk_cell HC5.out 3
        have d4 := blk_cell HC5.out 4
        have d5 := blk_cell HC5.out 5
        have d6 := blk_cell HC5.out 6
        have d7 := blk_cell HC5.out 7
        simp only [blkM, List.getElem?_toArray, List.getElem?_cons_zero, List.getElem?_cons_succ] at d0 d1 d2 d3 d4 d5 d6 d7
        refine bodyPost_ret (v := .tuple #[.agg (blkM 0 0 0 0 0 0 0 (.slice none 0 0)), .int .i64 30]) ?_ rfl ⟨0, 0, 0, 0, 0, 0, 0, [], 30, ⟨by rw [HG.out]; exact hst.out⟩, _, rfl, Kd.R_nil _ _ _ _ _, HB5.out⟩
        simp [results, Try.results33, go_sem, blkM, d0, d1, d2, d3, d4, d5, d6, d7]
      · have hStep := Aside0.mk (show withN a (getNs (4 + 1) sk) = withN (a ++ [x]) (getNs 4 sn) by
          have := getNs_step a 4 sk (by rw [hgn])
          rw [hgn] at this
          exact this)
        have c2 := blk_cell HC2.out 2
        have f2 := blk_frozen HC2.out 2
        simp only [blkM, List.getElem?_toArray, List.getElem?_cons_zero, List.getElem?_cons_succ] at c2
        clear hgn
        go_wp2_with (first | ((with_reducible refine gate_dst (N := 16) rfl ?_); refine Kd.event_run (v := .pointer (some ⟨w.heap.size + 1, 2, none⟩)) (w1 := wr) rfl ?hx ?_; (case hx => kernel_rfl)) | (go_at_call 64; (with_reducible refine (HN.out _).mono ?_); rintro e w4 ⟨rfl, ⟨nd, rfl⟩⟩))
        go_roundw
        case measure => simp [intOf]
        case rel =>
        refine ⟨3, a ++ [x], sn, n0, n1, x, n3, n4, n5, n6, by omega, by go_num, rfl, ⟨by rw [HG.out]; exact hStep.out⟩, ⟨by rw [HA.out]; rfl⟩, ⟨blk_set (blk_drewN HC2.out nd) 2 (.int .i64 x)⟩, ⟨blk_far (blk_drewN HC1.out nd) (by show w.heap.size ≠ w.heap.size + 1; omega) _⟩, ⟨(pw_below_drewN HB.out nd).setCell (p := ⟨w.heap.size + 1, 2, none⟩) (by show w.heap.size ≤ w.heap.size + 1; omega) _⟩⟩
    · obtain ⟨x, sn, ok, hgn⟩ : ∃ x sn ok, getNum sk = (x, sn, ok) := ⟨_, _, _, rfl⟩
      have HN := Aside0.mk (fun W => codec_GetNumber.calls sk x sn ok W (by unfold codec_GetNumber.f; rw [hgn]))
      cases ok
      · have hst := Aside0.mk (getM_no (getNs_stop a 3 sk (by rw [hgn])))
        obtain ⟨hrun, hblk⟩ := store_msg HC1.out rfl 0 0 0 0 0 0 0 (.slice none 0 0) rfl
        have HRun := Aside0.mk (fun n => (store_msg (W := wr.drewN n) (blk_drewN HC1.out n) rfl 0 0 0 0 0 0 0 (.slice none 0 0) rfl))
        clear hgn hrun hblk
        go_wp2_with (first | ((with_reducible refine gate_dst (N := 16) rfl ?_); refine Kd.event_run (v := .pointer (some ⟨w.heap.size + 1, 3, none⟩)) (w1 := wr) rfl ?hx ?_; (case hx => kernel_rfl)) | (go_at_call 64; (with_reducible refine (HN.out _).mono ?_); rintro e w4 ⟨rfl, ⟨nd, rfl⟩⟩) | ((with_reducible refine gate_store (t := 29) (p := 2) rfl ?_); refine store_event (t := 29) (p := 2) (w1 := (wr.drewN nd).setCells w.heap.size 0 (blkM 0 0 0 0 0 0 0 (.slice none 0 0)).toList) rfl rfl rfl ?hr ?_; (case hr => (unfold execOp; simp only [Act.eval, Sem.run_bind, Sem.run_pure, Result.andThen_ok]; show ((Sem.run Try.prog (Instr.storeAt 29 (.pointer (some ⟨w.heap.size, 0, none⟩)) (.agg (blkM 0 0 0 0 0 0 0 (.slice none 0 0)))) (wr.drewN nd)).andThen _) = _; rw [(HRun.out nd).1]; try rfl)); intro w5 hw5; have HC5 := Aside0.mk (hw5 ▸ (HRun.out nd).2 : w5.heap[w.heap.size]? = some (.cells (blkM 0 0 0 0 0 0 0 (.slice none 0 0)) 29 (0, 0))); have HB5 := Aside0.mk (show Below w.heap.size w w5 by rw [hw5]; exact below_cells (pw_below_drewN HB.out nd) (Nat.le_refl _) _); clear hw5))
        have d0 := blk_cell HC5.out 0
        have d1 := blk_cell HC5.out 1
        have d2 := blk_cell HC5.out 2
        have d3 := blk_cell HC5.out 3
        have d4 := blk_cell HC5.out 4
        have d5 := blk_cell HC5.out 5
        have d6 := blk_cell HC5.out 6
        have d7 := blk_cell HC5.out 7
        simp only [blkM, List.getElem?_toArray, List.getElem?_cons_zero, List.getElem?_cons_succ] at d0 d1 d2 d3 d4 d5 d6 d7
        refine bodyPost_ret (v := .tuple #[.agg (blkM 0 0 0 0 0 0 0 (.slice none 0 0)), .int .i64 30]) ?_ rfl ⟨0, 0, 0, 0, 0, 0, 0, [], 30, ⟨by rw [HG.out]; exact hst.out⟩, _, rfl, Kd.R_nil _ _ _ _ _, HB5.out⟩
        simp [results, Try.results33, go_sem, blkM, d0, d1, d2, d3, d4, d5, d6, d7]
      · have hStep := Aside0.mk (show withN a (getNs (3 + 1) sk) = withN (a ++ [x]) (getNs 3 sn) by
          have := getNs_step a 3 sk (by rw [hgn])
          rw [hgn] at this
          exact this)
        have c2 := blk_cell HC2.out 3
        have f2 := blk_frozen HC2.out 3
        simp only [blkM, List.getElem?_toArray, List.getElem?_cons_zero, List.getElem?_cons_succ] at c2
        clear hgn
        go_wp2_with (first | ((with_reducible refine gate_dst (N := 16) rfl ?_); refine Kd.event_run (v := .pointer (some ⟨w.heap.size + 1, 3, none⟩)) (w1 := wr) rfl ?hx ?_; (case hx => kernel_rfl)) | (go_at_call 64; (with_reducible refine (HN.out _).mono ?_); rintro e w4 ⟨rfl, ⟨nd, rfl⟩⟩))
        go_roundw
        case measure => simp [intOf]
        case rel =>
        refine ⟨4, a ++ [x], sn, n0, n1, n2, x, n4, n5, n6, by omega, by go_num, rfl, ⟨by rw [HG.out]; exact hStep.out⟩, ⟨by rw [HA.out]; rfl⟩, ⟨blk_set (blk_drewN HC2.out nd) 3 (.int .i64 x)⟩, ⟨blk_far (blk_drewN HC1.out nd) (by show w.heap.size ≠ w.heap.size + 1; omega) _⟩, ⟨(pw_below_drewN HB.out nd).setCell (p := ⟨w.heap.size + 1, 3, none⟩) (by show w.heap.size ≤ w.heap.size + 1; omega) _⟩⟩
    · obtain ⟨x, sn, ok, hgn⟩ : ∃ x sn ok, getNum sk = (x, sn, ok) := ⟨_, _, _, rfl⟩
      have HN := Aside0.mk (fun W => codec_GetNumber.calls sk x sn ok W (by unfold codec_GetNumber.f; rw [hgn]))
      cases ok
      · have hst := Aside0.mk (getM_no (getNs_stop a 2 sk (by rw [hgn])))
        obtain ⟨hrun, hblk⟩ := store_msg HC1.out rfl 0 0 0 0 0 0 0 (.slice none 0 0) rfl
        have HRun := Aside0.mk (fun n => (store_msg (W := wr.drewN n) (blk_drewN HC1.out n) rfl 0 0 0 0 0 0 0 (.slice none 0 0) rfl))
        clear hgn hrun hblk
        go_wp2_with (first | ((with_reducible refine gate_dst (N := 16) rfl ?_); refine Kd.event_run (v := .pointer (some ⟨w.heap.size + 1, 4, none⟩)) (w1 := wr) rfl ?hx ?_; (case hx => kernel_rfl)) | (go_at_call 64; (with_reducible refine (HN.out _).mono ?_); rintro e w4 ⟨rfl, ⟨nd, rfl⟩⟩) | ((with_reducible refine gate_store (t := 29) (p := 2) rfl ?_); refine store_event (t := 29) (p := 2) (w1 := (wr.drewN nd).setCells w.heap.size 0 (blkM 0 0 0 0 0 0 0 (.slice none 0 0)).toList) rfl rfl rfl ?hr ?_; (case hr => (unfold execOp; simp only [Act.eval, Sem.run_bind, Sem.run_pure, Result.andThen_ok]; show ((Sem.run Try.prog (Instr.storeAt 29 (.pointer (some ⟨w.heap.size, 0, none⟩)) (.agg (blkM 0 0 0 0 0 0 0 (.slice none 0 0)))) (wr.drewN nd)).andThen _) = _; rw [(HRun.out nd).1]; try rfl)); intro w5 hw5; have HC5 := Aside0.mk (hw5 ▸ (HRun.out nd).2 : w5.heap[w.heap.size]? = some (.cells (blkM 0 0 0 0 0 0 0 (.slice none 0 0)) 29 (0, 0))); have HB5 := Aside0.mk (show Below w.heap.size w w5 by rw [hw5]; exact below_cells (pw_below_drewN HB.out nd) (Nat.le_refl _) _); clear hw5))
        have d0 := blk_cell HC5.out 0
        have d1 := blk_cell HC5.out 1
        have d2 := blk_cell HC5.out 2
        have d3 := blk_cell HC5.out 3
        have d4 := blk_cell HC5.out 4
        have d5 := blk_cell HC5.out 5
        have d6 := blk_cell HC5.out 6
        have d7 := blk_cell HC5.out 7
        simp only [blkM, List.getElem?_toArray, List.getElem?_cons_zero, List.getElem?_cons_succ] at d0 d1 d2 d3 d4 d5 d6 d7
        refine bodyPost_ret (v := .tuple #[.agg (blkM 0 0 0 0 0 0 0 (.slice none 0 0)), .int .i64 30]) ?_ rfl ⟨0, 0, 0, 0, 0, 0, 0, [], 30, ⟨by rw [HG.out]; exact hst.out⟩, _, rfl, Kd.R_nil _ _ _ _ _, HB5.out⟩
        simp [results, Try.results33, go_sem, blkM, d0, d1, d2, d3, d4, d5, d6, d7]
      · have hStep := Aside0.mk (show withN a (getNs (2 + 1) sk) = withN (a ++ [x]) (getNs 2 sn) by
          have := getNs_step a 2 sk (by rw [hgn])
          rw [hgn] at this
          exact this)
        have c2 := blk_cell HC2.out 4
        have f2 := blk_frozen HC2.out 4
        simp only [blkM, List.getElem?_toArray, List.getElem?_cons_zero, List.getElem?_cons_succ] at c2
        clear hgn
        go_wp2_with (first | ((with_reducible refine gate_dst (N := 16) rfl ?_); refine Kd.event_run (v := .pointer (some ⟨w.heap.size + 1, 4, none⟩)) (w1 := wr) rfl ?hx ?_; (case hx => kernel_rfl)) | (go_at_call 64; (with_reducible refine (HN.out _).mono ?_); rintro e w4 ⟨rfl, ⟨nd, rfl⟩⟩))
        go_roundw
        case measure => simp [intOf]
        case rel =>
        refine ⟨5, a ++ [x], sn, n0, n1, n2, n3, x, n5, n6, by omega, by go_num, rfl, ⟨by rw [HG.out]; exact hStep.out⟩, ⟨by rw [HA.out]; rfl⟩, ⟨blk_set (blk_drewN HC2.out nd) 4 (.int .i64 x)⟩, ⟨blk_far (blk_drewN HC1.out nd) (by show w.heap.size ≠ w.heap.size + 1; omega) _⟩, ⟨(pw_below_drewN HB.out nd).setCell (p := ⟨w.heap.size + 1, 4, none⟩) (by show w.heap.size ≤ w.heap.size + 1; omega) _⟩⟩
    · obtain ⟨x, sn, ok, hgn⟩ : ∃ x sn ok, getNum sk = (x, sn, ok) := ⟨_, _, _, rfl⟩
      have HN := Aside0.mk (fun W => codec_GetNumber.calls sk x sn ok W (by unfold codec_GetNumber.f; rw [hgn]))
      cases ok
      · have hst := Aside0.mk (getM_no (getNs_stop a 1 sk (by rw [hgn])))
        obtain ⟨hrun, hblk⟩ := store_msg HC1.out rfl 0 0 0 0 0 0 0 (.slice none 0 0) rfl
        have HRun := Aside0.mk (fun n => (store_msg (W := wr.drewN n) (blk_drewN HC1.out n) rfl 0 0 0 0 0 0 0 (.slice none 0 0) rfl))
        clear hgn hrun hblk
        go_wp2_with (first | ((with_reducible refine gate_dst (N := 16) rfl ?_); refine Kd.event_run (v := .pointer (some ⟨w.heap.size + 1, 5, none⟩)) (w1 := wr) rfl ?hx ?_; (case hx => kernel_rfl)) | (go_at_call 64; (with_reducible refine (HN.out _).mono ?_); rintro e w4 ⟨rfl, ⟨nd, rfl⟩⟩) | ((with_reducible refine gate_store (t := 29) (p := 2) rfl ?_); refine store_event (t := 29) (p := 2) (w1 := (wr.drewN nd).setCells w.heap.size 0 (blkM 0 0 0 0 0 0 0 (.slice none 0 0)).toList) rfl rfl rfl ?hr ?_; (case hr => (unfold execOp; simp only [Act.eval, Sem.run_bind, Sem.run_pure, Result.andThen_ok]; show ((Sem.run Try.prog (Instr.storeAt 29 (.pointer (some ⟨w.heap.size, 0, none⟩)) (.agg (blkM 0 0 0 0 0 0 0 (.slice none 0 0)))) (wr.drewN nd)).andThen _) = _; rw [(HRun.out nd).1]; try rfl)); intro w5 hw5; have HC5 := Aside0.mk (hw5 ▸ (HRun.out nd).2 : w5.heap[w.heap.size]? = some (.cells (blkM 0 0 0 0 0 0 0 (.slice none 0 0)) 29 (0, 0))); have HB5 := Aside0.mk (show Below w.heap.size w w5 by rw [hw5]; exact below_cells (pw_below_drewN HB.out nd) (Nat.le_refl _) _); clear hw5))
        have d0 := blk_cell HC5.out 0
        have d1 := blk_cell HC5.out 1
        have d2 := blk_cell HC5.out 2
        have d3 := blk_cell HC5.out 3
        have d4 := blk_cell HC5.out 4
        have d5 := blk_cell HC5.out 5
        have d6 := blk_cell HC5.out 6
        have d7 := blk_cell HC5.out 7
        simp only [blkM, List.getElem?_toArray, List.getElem?_cons_zero, List.getElem?_cons_succ] at d0 d1 d2 d3 d4 d5 d6 d7
        refine bodyPost_ret (v := .tuple #[.agg (blkM 0 0 0 0 0 0 0 (.slice none 0 0)), .int .i64 30]) ?_ rfl ⟨0, 0, 0, 0, 0, 0, 0, [], 30, ⟨by rw [HG.out]; exact hst.out⟩, _, rfl, Kd.R_nil _ _ _ _ _, HB5.out⟩
        simp [results, Try.results33, go_sem, blkM, d0, d1, d2, d3, d4, d5, d6, d7]
      · have hStep := Aside0.mk (show withN a (getNs (1 + 1) sk) = withN (a ++ [x]) (getNs 1 sn) by
          have := getNs_step a 1 sk (by rw [hgn])
          rw [hgn] at this
          exact this)
        have c2 := blk_cell HC2.out 5
        have f2 := blk_frozen HC2.out 5
        simp only [blkM, List.getElem?_toArray, List.getElem?_cons_zero, List.getElem?_cons_succ] at c2
        clear hgn
        go_wp2_with (first | ((with_reducible refine gate_dst (N := 16) rfl ?_); refine Kd.event_run (v := .pointer (some ⟨w.heap.size + 1, 5, none⟩)) (w1 := wr) rfl ?hx ?_; (case hx => kernel_rfl)) | (go_at_call 64; (with_reducible refine (HN.out _).mono ?_); rintro e w4 ⟨rfl, ⟨nd, rfl⟩⟩))
        go_roundw
        case measure => simp [intOf]
        case rel =>
        refine ⟨6, a ++ [x], sn, n0, n1, n2, n3, n4, x, n6, by omega, by go_num, rfl, ⟨by rw [HG.out]; exact hStep.out⟩, ⟨by rw [HA.out]; rfl⟩, ⟨blk_set (blk_drewN HC2.out nd) 5 (.int .i64 x)⟩, ⟨blk_far (blk_drewN HC1.out nd) (by show w.heap.size ≠ w.heap.size + 1; omega) _⟩, ⟨(pw_below_drewN HB.out nd).setCell (p := ⟨w.heap.size + 1, 5, none⟩) (by show w.heap.size ≤ w.heap.size + 1; omega) _⟩⟩
    · obtain ⟨x, sn, ok, hgn⟩ : ∃ x sn ok, getNum sk = (x, sn, ok) := ⟨_, _, _, rfl⟩
      have HN := Aside0.mk (fun W => codec_GetNumber.calls sk x sn ok W (by unfold codec_GetNumber.f; rw [hgn]))
      cases ok
      · have hst := Aside0.mk (getM_no (getNs_stop a 0 sk (by rw [hgn])))
        obtain ⟨hrun, hblk⟩ := store_msg HC1.out rfl 0 0 0 0 0 0 0 (.slice none 0 0) rfl
        have HRun := Aside0.mk (fun n => (store_msg (W := wr.drewN n) (blk_drewN HC1.out n) rfl 0 0 0 0 0 0 0 (.slice none 0 0) rfl))
        clear hgn hrun hblk
        go_wp2_with (first | ((with_reducible refine gate_dst (N := 16) rfl ?_); refine Kd.event_run (v := .pointer (some ⟨w.heap.size + 1, 6, none⟩)) (w1 := wr) rfl ?hx ?_; (case hx => kernel_rfl)) | (go_at_call 64; (with_reducible refine (HN.out _).mono ?_); rintro e w4 ⟨rfl, ⟨nd, rfl⟩⟩) | ((with_reducible refine gate_store (t := 29) (p := 2) rfl ?_); refine store_event (t := 29) (p := 2) (w1 := (wr.drewN nd).setCells w.heap.size 0 (blkM 0 0 0 0 0 0 0 (.slice none 0 0)).toList) rfl rfl rfl ?hr ?_; (case hr => (unfold execOp; simp only [Act.eval, Sem.run_bind, Sem.run_pure, Result.andThen_ok]; show ((Sem.run Try.prog (Instr.storeAt 29 (.pointer (some ⟨w.heap.size, 0, none⟩)) (.agg (blkM 0 0 0 0 0 0 0 (.slice none 0 0)))) (wr.drewN nd)).andThen _) = _; rw [(HRun.out nd).1]; try rfl)); intro w5 hw5; have HC5 := Aside0.mk (hw5 ▸ (HRun.out nd).2 : w5.heap[w.heap.size]? = some (.cells (blkM 0 0 0 0 0 0 0 (.slice none 0 0)) 29 (0, 0))); have HB5 := Aside0.mk (show Below w.heap.size w w5 by rw [hw5]; exact below_cells (pw_below_drewN HB.out nd) (Nat.le_refl _) _); clear hw5))
        have d0 := blk_cell HC5.out 0
        have d1 := blk_cell HC5.out 1
        have d2 := blk_cell HC5.out 2
        have d3 := blk_cell HC5.out 3
        have d4 := blk_cell HC5.out 4
        have d5 := blk_cell HC5.out 5
        have d6 := blk_cell HC5.out 6
        have d7 := blk_cell HC5.out 7
        simp only [blkM, List.getElem?_toArray, List.getElem?_cons_zero, List.getElem?_cons_succ] at d0 d1 d2 d3 d4 d5 d6 d7
        refine bodyPost_ret (v := .tuple #[.agg (blkM 0 0 0 0 0 0 0 (.slice none 0 0)), .int .i64 30]) ?_ rfl ⟨0, 0, 0, 0, 0, 0, 0, [], 30, ⟨by rw [HG.out]; exact hst.out⟩, _, rfl, Kd.R_nil _ _ _ _ _, HB5.out⟩
        simp [results, Try.results33, go_sem, blkM, d0, d1, d2, d3, d4, d5, d6, d7]
      · have hStep := Aside0.mk (show withN a (getNs (0 + 1) sk) = withN (a ++ [x]) (getNs 0 sn) by
          have := getNs_step a 0 sk (by rw [hgn])
          rw [hgn] at this
          exact this)
        have c2 := blk_cell HC2.out 6
        have f2 := blk_frozen HC2.out 6
        simp only [blkM, List.getElem?_toArray, List.getElem?_cons_zero, List.getElem?_cons_succ] at c2
        clear hgn
        go_wp2_with (first | ((with_reducible refine gate_dst (N := 16) rfl ?_); refine Kd.event_run (v := .pointer (some ⟨w.heap.size + 1, 6, none⟩)) (w1 := wr) rfl ?hx ?_; (case hx => kernel_rfl)) | (go_at_call 64; (with_reducible refine (HN.out _).mono ?_); rintro e w4 ⟨rfl, ⟨nd, rfl⟩⟩))
        go_roundw
        case measure => simp [intOf]
        case rel =>
        refine ⟨7, a ++ [x], sn, n0, n1, n2, n3, n4, n5, x, by omega, by go_num, rfl, ⟨by rw [HG.out]; exact hStep.out⟩, ⟨by rw [HA.out]; rfl⟩, ⟨blk_set (blk_drewN HC2.out nd) 6 (.int .i64 x)⟩, ⟨blk_far (blk_drewN HC1.out nd) (by show w.heap.size ≠ w.heap.size + 1; omega) _⟩, ⟨(pw_below_drewN HB.out nd).setCell (p := ⟨w.heap.size + 1, 6, none⟩) (by show w.heap.size ≤ w.heap.size + 1; omega) _⟩⟩
    · obtain ⟨l, rest, ok, hgr⟩ : ∃ l rest ok, getRow sk = (l, rest, ok) := ⟨_, _, _, rfl⟩
      have HGR := Aside0.mk (fun W => codec_GetRow.calls sk l rest ok W (by unfold codec_GetRow.f; rw [hgr]))
      have HM := Aside0.mk (show getM (getNs 7 s) = (if ok = true ∧ rest = ⟨#[]⟩ ∧ isB n0 n1 n2 n3 n4 n5 n6 l = true then (n0, n1, n2, n3, n4, n5, n6, l, 0) else (0, 0, 0, 0, 0, 0, 0, [], 30)) by
        rw [HG.out, HA.out]
        show getM ([n0, n1, n2, n3, n4, n5, n6] ++ [], sk, true) = _
        rw [List.append_nil]
        unfold getM
        simp only [hgr])
      clear hgr HG HA
      cases ok
      · have HRes := Aside0.mk (show getM (getNs 7 s) = (0, 0, 0, 0, 0, 0, 0, [], 30) by rw [HM.out, if_neg (by simp)])
        clear HM
        go_wp2_with (first | (go_at_call 65; (with_reducible refine (HGR.out _).mono ?_); rintro e w4 ⟨v0, rfl, hR4, hb4⟩; obtain ⟨A8, c8, rfl⟩ := Kd.R_slice hR4; have HR4 := Aside0.mk (Kd.R_lower hR4 HB.out.size); have HB4 := Aside0.mk (HB.out.trans (hb4.mono HB.out.size)); have HC14 := Aside0.mk (blk_below HC1.out hb4); have HC24 := Aside0.mk (blk_below HC2.out hb4); clear hR4 hb4; have c7 := blk_cell HC24.out 7; have f7 := blk_frozen HC24.out 7; simp only [blkM, List.getElem?_toArray, List.getElem?_cons_zero, List.getElem?_cons_succ] at c7; have HC15 := Aside0.mk (blk_far HC14.out (p := ⟨w.heap.size + 1, 7, none⟩) (by show w.heap.size ≠ w.heap.size + 1; omega) (.slice A8 l.length c8)); have HC25 := Aside0.mk (show (w4.setCell ⟨w.heap.size + 1, 7, none⟩ (.slice A8 l.length c8)).heap[w.heap.size + 1]? = some (.cells (blkM n0 n1 n2 n3 n4 n5 n6 (.slice A8 l.length c8)) 29 (0, 0)) from blk_set HC24.out 7 (.slice A8 l.length c8)); have HB5 := Aside0.mk (HB4.out.setCell (p := ⟨w.heap.size + 1, 7, none⟩) (by show w.heap.size ≤ w.heap.size + 1; omega) (.slice A8 l.length c8)); have HR5 := Aside0.mk (Kd.R_set HR4.out HC24.out (by intro q hq; simp [Kd.string, Kd.scalar] at hq; subst hq; decide) 7 (.slice A8 l.length c8)); clear HR4 HC14) | ((with_reducible refine gate_store (t := 29) (p := 2) rfl ?_); refine store_event (t := 29) (p := 2) (w1 := (w4.setCell ⟨w.heap.size + 1, 7, none⟩ (.slice A8 l.length c8)).setCells w.heap.size 0 (blkM 0 0 0 0 0 0 0 (.slice none 0 0)).toList) rfl rfl rfl ?hr ?_; (case hr => (unfold execOp; simp only [Act.eval, Sem.run_bind, Sem.run_pure, Result.andThen_ok]; show ((Sem.run Try.prog (Instr.storeAt 29 (.pointer (some ⟨w.heap.size, 0, none⟩)) (.agg (blkM 0 0 0 0 0 0 0 (.slice none 0 0)))) (w4.setCell ⟨w.heap.size + 1, 7, none⟩ (.slice A8 l.length c8))).andThen _) = _; rw [(store_msg HC15.out rfl 0 0 0 0 0 0 0 (.slice none 0 0) rfl).1]; try rfl)); intro w9 hw9; have HC9 := Aside0.mk (hw9 ▸ (store_msg HC15.out rfl 0 0 0 0 0 0 0 (.slice none 0 0) rfl).2 : w9.heap[w.heap.size]? = some (.cells (blkM 0 0 0 0 0 0 0 (.slice none 0 0)) 29 (0, 0))); have HB9 := Aside0.mk (show Below w.heap.size w w9 by rw [hw9]; exact below_cells HB5.out (Nat.le_refl _) _); clear hw9))
        have d0 := blk_cell HC9.out 0
        have d1 := blk_cell HC9.out 1
        have d2 := blk_cell HC9.out 2
        have d3 := blk_cell HC9.out 3
        have d4 := blk_cell HC9.out 4
        have d5 := blk_cell HC9.out 5
        have d6 := blk_cell HC9.out 6
        have d7 := blk_cell HC9.out 7
        simp only [blkM, List.getElem?_toArray, List.getElem?_cons_zero, List.getElem?_cons_succ] at d0 d1 d2 d3 d4 d5 d6 d7
        refine bodyPost_ret (v := .tuple #[.agg (blkM 0 0 0 0 0 0 0 (.slice none 0 0)), .int .i64 30]) ?_ rfl ⟨0, 0, 0, 0, 0, 0, 0, [], 30, ⟨HRes.out⟩, _, rfl, Kd.R_nil _ _ _ _ _, HB9.out⟩
        simp [results, Try.results33, go_sem, blkM, d0, d1, d2, d3, d4, d5, d6, d7]
      · by_cases hre : rest = ⟨#[]⟩
        · subst hre
          cases hib : isB n0 n1 n2 n3 n4 n5 n6 l
          · have HRes := Aside0.mk (show getM (getNs 7 s) = (0, 0, 0, 0, 0, 0, 0, [], 30) by rw [HM.out, if_neg (by rw [hib]; simp)])
            have HIB := Aside0.mk hib
            clear HM hib
            go_wp2_with (first | (go_at_call 65; (with_reducible refine (HGR.out _).mono ?_); rintro e w4 ⟨v0, rfl, hR4, hb4⟩; obtain ⟨A8, c8, rfl⟩ := Kd.R_slice hR4; have HR4 := Aside0.mk (Kd.R_lower hR4 HB.out.size); have HB4 := Aside0.mk (HB.out.trans (hb4.mono HB.out.size)); have HC14 := Aside0.mk (blk_below HC1.out hb4); have HC24 := Aside0.mk (blk_below HC2.out hb4); clear hR4 hb4; have c7 := blk_cell HC24.out 7; have f7 := blk_frozen HC24.out 7; simp only [blkM, List.getElem?_toArray, List.getElem?_cons_zero, List.getElem?_cons_succ] at c7; have HC15 := Aside0.mk (blk_far HC14.out (p := ⟨w.heap.size + 1, 7, none⟩) (by show w.heap.size ≠ w.heap.size + 1; omega) (.slice A8 l.length c8)); have HC25 := Aside0.mk (show (w4.setCell ⟨w.heap.size + 1, 7, none⟩ (.slice A8 l.length c8)).heap[w.heap.size + 1]? = some (.cells (blkM n0 n1 n2 n3 n4 n5 n6 (.slice A8 l.length c8)) 29 (0, 0)) from blk_set HC24.out 7 (.slice A8 l.length c8)); have HB5 := Aside0.mk (HB4.out.setCell (p := ⟨w.heap.size + 1, 7, none⟩) (by show w.heap.size ≤ w.heap.size + 1; omega) (.slice A8 l.length c8)); have HR5 := Aside0.mk (Kd.R_set HR4.out HC24.out (by intro q hq; simp [Kd.string, Kd.scalar] at hq; subst hq; decide) 7 (.slice A8 l.length c8)); clear HR4 HC14; have g0 := blk_cell HC25.out 0; have g1 := blk_cell HC25.out 1; have g2 := blk_cell HC25.out 2; have g3 := blk_cell HC25.out 3; have g4 := blk_cell HC25.out 4; have g5 := blk_cell HC25.out 5; have g6 := blk_cell HC25.out 6; have g7 := blk_cell HC25.out 7; simp only [blkM, List.getElem?_toArray, List.getElem?_cons_zero, List.getElem?_cons_succ] at g0 g1 g2 g3 g4 g5 g6 g7) | (go_at_call 36; (with_reducible refine (msg_Is.calls 1 n0 n1 n2 n3 n4 n5 n6 A8 c8 l false _ (Kd.R_reads' HR5.out).2.2 (Kd.R_reads' HR5.out).2.1 (by rw [msg_is_f 0, HIB.out])).mono ?_); rintro e w6 ⟨rfl, hb6⟩; have HC16 := Aside0.mk (blk_below HC15.out hb6); have HC26 := Aside0.mk (blk_below HC25.out hb6); have HB6 := Aside0.mk (HB5.out.trans (hb6.mono HB5.out.size)); have HR6 := Aside0.mk (Kd.R_below HR5.out hb6); clear hb6 g0 g1 g2 g3 g4 g5 g6 g7; have g0 := blk_cell HC26.out 0; have g1 := blk_cell HC26.out 1; have g2 := blk_cell HC26.out 2; have g3 := blk_cell HC26.out 3; have g4 := blk_cell HC26.out 4; have g5 := blk_cell HC26.out 5; have g6 := blk_cell HC26.out 6; have g7 := blk_cell HC26.out 7; simp only [blkM, List.getElem?_toArray, List.getElem?_cons_zero, List.getElem?_cons_succ] at g0 g1 g2 g3 g4 g5 g6 g7) | ((with_reducible refine gate_store (t := 29) (p := 2) rfl ?_); refine store_event (t := 29) (p := 2) (w1 := w6.setCells w.heap.size 0 (blkM 0 0 0 0 0 0 0 (.slice none 0 0)).toList) rfl rfl rfl ?hr ?_; (case hr => (unfold execOp; simp only [Act.eval, Sem.run_bind, Sem.run_pure, Result.andThen_ok]; show ((Sem.run Try.prog (Instr.storeAt 29 (.pointer (some ⟨w.heap.size, 0, none⟩)) (.agg (blkM 0 0 0 0 0 0 0 (.slice none 0 0)))) w6).andThen _) = _; rw [(store_msg HC16.out rfl 0 0 0 0 0 0 0 (.slice none 0 0) rfl).1]; try rfl)); intro w9 hw9; have HC9 := Aside0.mk (hw9 ▸ (store_msg HC16.out rfl 0 0 0 0 0 0 0 (.slice none 0 0) rfl).2 : w9.heap[w.heap.size]? = some (.cells (blkM 0 0 0 0 0 0 0 (.slice none 0 0)) 29 (0, 0))); have HB9 := Aside0.mk (show Below w.heap.size w w9 by rw [hw9]; exact below_cells HB6.out (Nat.le_refl _) _); clear hw9))
            have d0 := blk_cell HC9.out 0
            have d1 := blk_cell HC9.out 1
            have d2 := blk_cell HC9.out 2
            have d3 := blk_cell HC9.out 3
            have d4 := blk_cell HC9.out 4
            have d5 := blk_cell HC9.out 5
            have d6 := blk_cell HC9.out 6
            have d7 := blk_cell HC9.out 7
            simp only [blkM, List.getElem?_toArray, List.getElem?_cons_zero, List.getElem?_cons_succ] at d0 d1 d2 d3 d4 d5 d6 d7
            refine bodyPost_ret (v := .tuple #[.agg (blkM 0 0 0 0 0 0 0 (.slice none 0 0)), .int .i64 30]) ?_ rfl ⟨0, 0, 0, 0, 0, 0, 0, [], 30, ⟨HRes.out⟩, _, rfl, Kd.R_nil _ _ _ _ _, HB9.out⟩
            simp [results, Try.results33, go_sem, blkM, d0, d1, d2, d3, d4, d5, d6, d7]
          · have HRes := Aside0.mk (show getM (getNs 7 s) = (n0, n1, n2, n3, n4, n5, n6, l, 0) by rw [HM.out, if_pos ⟨rfl, rfl, hib⟩])
            have HIB := Aside0.mk hib
            clear HM hib
            go_wp2_with (first | (go_at_call 65; (with_reducible refine (HGR.out _).mono ?_); rintro e w4 ⟨v0, rfl, hR4, hb4⟩; obtain ⟨A8, c8, rfl⟩ := Kd.R_slice hR4; have HR4 := Aside0.mk (Kd.R_lower hR4 HB.out.size); have HB4 := Aside0.mk (HB.out.trans (hb4.mono HB.out.size)); have HC14 := Aside0.mk (blk_below HC1.out hb4); have HC24 := Aside0.mk (blk_below HC2.out hb4); clear hR4 hb4; have c7 := blk_cell HC24.out 7; have f7 := blk_frozen HC24.out 7; simp only [blkM, List.getElem?_toArray, List.getElem?_cons_zero, List.getElem?_cons_succ] at c7; have HC15 := Aside0.mk (blk_far HC14.out (p := ⟨w.heap.size + 1, 7, none⟩) (by show w.heap.size ≠ w.heap.size + 1; omega) (.slice A8 l.length c8)); have HC25 := Aside0.mk (show (w4.setCell ⟨w.heap.size + 1, 7, none⟩ (.slice A8 l.length c8)).heap[w.heap.size + 1]? = some (.cells (blkM n0 n1 n2 n3 n4 n5 n6 (.slice A8 l.length c8)) 29 (0, 0)) from blk_set HC24.out 7 (.slice A8 l.length c8)); have HB5 := Aside0.mk (HB4.out.setCell (p := ⟨w.heap.size + 1, 7, none⟩) (by show w.heap.size ≤ w.heap.size + 1; omega) (.slice A8 l.length c8)); have HR5 := Aside0.mk (Kd.R_set HR4.out HC24.out (by intro q hq; simp [Kd.string, Kd.scalar] at hq; subst hq; decide) 7 (.slice A8 l.length c8)); clear HR4 HC14; have g0 := blk_cell HC25.out 0; have g1 := blk_cell HC25.out 1; have g2 := blk_cell HC25.out 2; have g3 := blk_cell HC25.out 3; have g4 := blk_cell HC25.out 4; have g5 := blk_cell HC25.out 5; have g6 := blk_cell HC25.out 6; have g7 := blk_cell HC25.out 7; simp only [blkM, List.getElem?_toArray, List.getElem?_cons_zero, List.getElem?_cons_succ] at g0 g1 g2 g3 g4 g5 g6 g7) | (go_at_call 36; (with_reducible refine (msg_Is.calls 1 n0 n1 n2 n3 n4 n5 n6 A8 c8 l true _ (Kd.R_reads' HR5.out).2.2 (Kd.R_reads' HR5.out).2.1 (by rw [msg_is_f 0, HIB.out])).mono ?_); rintro e w6 ⟨rfl, hb6⟩; have HC16 := Aside0.mk (blk_below HC15.out hb6); have HC26 := Aside0.mk (blk_below HC25.out hb6); have HB6 := Aside0.mk (HB5.out.trans (hb6.mono HB5.out.size)); have HR6 := Aside0.mk (Kd.R_below HR5.out hb6); clear hb6 g0 g1 g2 g3 g4 g5 g6 g7; have g0 := blk_cell HC26.out 0; have g1 := blk_cell HC26.out 1; have g2 := blk_cell HC26.out 2; have g3 := blk_cell HC26.out 3; have g4 := blk_cell HC26.out 4; have g5 := blk_cell HC26.out 5; have g6 := blk_cell HC26.out 6; have g7 := blk_cell HC26.out 7; simp only [blkM, List.getElem?_toArray, List.getElem?_cons_zero, List.getElem?_cons_succ] at g0 g1 g2 g3 g4 g5 g6 g7) | ((with_reducible refine gate_store (t := 29) (p := 2) rfl ?_); refine store_event (t := 29) (p := 2) (w1 := w6.setCells w.heap.size 0 (blkM n0 n1 n2 n3 n4 n5 n6 (.slice A8 l.length c8)).toList) rfl rfl rfl ?hr ?_; (case hr => (unfold execOp; simp only [Act.eval, Sem.run_bind, Sem.run_pure, Result.andThen_ok]; show ((Sem.run Try.prog (Instr.storeAt 29 (.pointer (some ⟨w.heap.size, 0, none⟩)) (.agg (blkM n0 n1 n2 n3 n4 n5 n6 (.slice A8 l.length c8)))) w6).andThen _) = _; rw [(store_msg HC16.out rfl n0 n1 n2 n3 n4 n5 n6 (.slice A8 l.length c8) rfl).1]; try rfl)); intro w9 hw9; have HC9 := Aside0.mk (hw9 ▸ (store_msg HC16.out rfl n0 n1 n2 n3 n4 n5 n6 (.slice A8 l.length c8) rfl).2 : w9.heap[w.heap.size]? = some (.cells (blkM n0 n1 n2 n3 n4 n5 n6 (.slice A8 l.length c8)) 29 (0, 0))); have HB9 := Aside0.mk (show Below w.heap.size w w9 by rw [hw9]; exact below_cells HB6.out (Nat.le_refl _) _); have HR9 := Aside0.mk (show Kd.R Kd.string 9 w9 w.heap.size (fun _ => True) (.slice A8 l.length c8) l by rw [hw9]; exact R_cells HR6.out HC16.out (by intro q hq; simp [Kd.string, Kd.scalar] at hq; subst hq; decide) _); clear hw9))
            have d0 := blk_cell HC9.out 0
            have d1 := blk_cell HC9.out 1
            have d2 := blk_cell HC9.out 2
            have d3 := blk_cell HC9.out 3
            have d4 := blk_cell HC9.out 4
            have d5 := blk_cell HC9.out 5
            have d6 := blk_cell HC9.out 6
            have d7 := blk_cell HC9.out 7
            simp only [blkM, List.getElem?_toArray, List.getElem?_cons_zero, List.getElem?_cons_succ] at d0 d1 d2 d3 d4 d5 d6 d7
            refine bodyPost_ret (v := .tuple #[.agg (blkM n0 n1 n2 n3 n4 n5 n6 (.slice A8 l.length c8)), .int .i64 0]) ?_ rfl ⟨n0, n1, n2, n3, n4, n5, n6, l, 0, ⟨HRes.out⟩, _, rfl, HR9.out, HB9.out⟩
            simp [results, Try.results33, go_sem, blkM, d0, d1, d2, d3, d4, d5, d6, d7]
        · have HRes := Aside0.mk (show getM (getNs 7 s) = (0, 0, 0, 0, 0, 0, 0, [], 30) by rw [HM.out, if_neg (by intro h; exact hre h.2.1)])
          have hr1 : rest.toList.isEmpty = false := by
            rw [List.isEmpty_eq_false_iff]; intro h; apply hre; rw [ByteArray.toList_eq] at h; exact ByteArray.ext (Array.toList_inj.1 h)
          have hr2 : (rest.toList == []) = false := by
            rw [beq_eq_false_iff_ne]; intro h; rw [h] at hr1; cases hr1
          clear HM hre
          go_wp2_with (first | (go_at_call 65; (with_reducible refine (HGR.out _).mono ?_); rintro e w4 ⟨v0, rfl, hR4, hb4⟩; obtain ⟨A8, c8, rfl⟩ := Kd.R_slice hR4; have HR4 := Aside0.mk (Kd.R_lower hR4 HB.out.size); have HB4 := Aside0.mk (HB.out.trans (hb4.mono HB.out.size)); have HC14 := Aside0.mk (blk_below HC1.out hb4); have HC24 := Aside0.mk (blk_below HC2.out hb4); clear hR4 hb4; have c7 := blk_cell HC24.out 7; have f7 := blk_frozen HC24.out 7; simp only [blkM, List.getElem?_toArray, List.getElem?_cons_zero, List.getElem?_cons_succ] at c7; have HC15 := Aside0.mk (blk_far HC14.out (p := ⟨w.heap.size + 1, 7, none⟩) (by show w.heap.size ≠ w.heap.size + 1; omega) (.slice A8 l.length c8)); have HC25 := Aside0.mk (show (w4.setCell ⟨w.heap.size + 1, 7, none⟩ (.slice A8 l.length c8)).heap[w.heap.size + 1]? = some (.cells (blkM n0 n1 n2 n3 n4 n5 n6 (.slice A8 l.length c8)) 29 (0, 0)) from blk_set HC24.out 7 (.slice A8 l.length c8)); have HB5 := Aside0.mk (HB4.out.setCell (p := ⟨w.heap.size + 1, 7, none⟩) (by show w.heap.size ≤ w.heap.size + 1; omega) (.slice A8 l.length c8)); have HR5 := Aside0.mk (Kd.R_set HR4.out HC24.out (by intro q hq; simp [Kd.string, Kd.scalar] at hq; subst hq; decide) 7 (.slice A8 l.length c8)); clear HR4 HC14) | ((with_reducible refine gate_store (t := 29) (p := 2) rfl ?_); refine store_event (t := 29) (p := 2) (w1 := (w4.setCell ⟨w.heap.size + 1, 7, none⟩ (.slice A8 l.length c8)).setCells w.heap.size 0 (blkM 0 0 0 0 0 0 0 (.slice none 0 0)).toList) rfl rfl rfl ?hr ?_; (case hr => (unfold execOp; simp only [Act.eval, Sem.run_bind, Sem.run_pure, Result.andThen_ok]; show ((Sem.run Try.prog (Instr.storeAt 29 (.pointer (some ⟨w.heap.size, 0, none⟩)) (.agg (blkM 0 0 0 0 0 0 0 (.slice none 0 0)))) (w4.setCell ⟨w.heap.size + 1, 7, none⟩ (.slice A8 l.length c8))).andThen _) = _; rw [(store_msg HC15.out rfl 0 0 0 0 0 0 0 (.slice none 0 0) rfl).1]; try rfl)); intro w9 hw9; have HC9 := Aside0.mk (hw9 ▸ (store_msg HC15.out rfl 0 0 0 0 0 0 0 (.slice none 0 0) rfl).2 : w9.heap[w.heap.size]? = some (.cells (blkM 0 0 0 0 0 0 0 (.slice none 0 0)) 29 (0, 0))); have HB9 := Aside0.mk (show Below w.heap.size w w9 by rw [hw9]; exact below_cells HB5.out (Nat.le_refl _) _); clear hw9))
          have d0 := blk_cell HC9.out 0
          have d1 := blk_cell HC9.out 1
          have d2 := blk_cell HC9.out 2
          have d3 := blk_cell HC9.out 3
          have d4 := blk_cell HC9.out 4
          have d5 := blk_cell HC9.out 5
          have d6 := blk_cell HC9.out 6
          have d7 := blk_cell HC9.out 7
          simp only [blkM, List.getElem?_toArray, List.getElem?_cons_zero, List.getElem?_cons_succ] at d0 d1 d2 d3 d4 d5 d6 d7
          refine bodyPost_ret (v := .tuple #[.agg (blkM 0 0 0 0 0 0 0 (.slice none 0 0)), .int .i64 30]) ?_ rfl ⟨0, 0, 0, 0, 0, 0, 0, [], 30, ⟨HRes.out⟩, _, rfl, Kd.R_nil _ _ _ _ _, HB9.out⟩
          simp [results, Try.results33, go_sem, blkM, d0, d1, d2, d3, d4, d5, d6, d7]
theorem msg_Get.calls (a0 : ByteArray) (r1 r2 r3 r4 r5 r6 r7 : Int) (r8 : List ByteArray) (r9 : Int) (w : World) (h : msg_Get.f a0 = some (r1, r2, r3, r4, r5, r6, r7, r8, r9)) :
    Calls Try.prog 33 #[.string a0] w fun e w' => ∃ v7_ : Value, e = .returned (.tuple #[.agg #[.int .i64 r1, .int .i64 r2, .int .i64 r3, .int .i64 r4, .int .i64 r5, .int .i64 r6, .int .i64 r7, v7_], .int .i64 r9]) ∧ Kd.R Kd.string 9 w' w.heap.size (fun _ => True) v7_ r8 ∧ Below w.heap.size w w' := by
  have hg := Option.some.inj h
  refine (msg_Get_any a0 w).mono ?_
  rintro e w' ⟨s1, s2, s3, s4, s5, s6, s7, s8, s9, hs, v, rfl, hR, hB⟩
  have := hs.out.symm.trans hg
  simp only [Prod.mk.injEq] at this
  obtain ⟨rfl, rfl, rfl, rfl, rfl, rfl, rfl, rfl, rfl⟩ := this
  exact ⟨v, rfl, hR, hB⟩
end Go.Proofs.Ytfejidinfcmfjaa.P
-- Written by a program of this session (xprint.py) over the kit's print.py.
namespace Go.Proofs.Ytfejidinfcmfjaa.P
open Go.RowKit Go.Proofs.YtfejidinfcmfjaaW.PrintWords Go.Proofs.YtfejidinfcmfjaaW.PrintLast Go.Proofs.YtfejidinfcmfjaaW.PrintMore
attribute [local go_sem] max2_int min2_int max_two min_two max_three min_three max_four min_four   -- for this text's walks alone
set_option linter.unusedVariables false
set_option linter.unusedSimpArgs false

/-! ### sextonref01_Number: function 62 -/
mutual
def sextonref01_Number.j0 : Nat → Int → Bool → Option (ByteArray × Int)
  | 0, _, _ => none
  | k + 1, x0, x11 => if x11 = true then (some ((⟨#[]⟩ : ByteArray), 1)) else (sextonref01_Number.l0 k x0 (⟨#[]⟩ : ByteArray) 0)
def sextonref01_Number.l0 : Nat → Int → ByteArray → Int → Option (ByteArray × Int)
  | 0, _, _, _ => none
  | k + 1, x0, x4, x5 => if x0 > 0 then ((some (([(Int.tmod x0 256) % 256] : List Int) : List Int)).bind fun y333 => (if (strOfNums y333).size + x4.size ≤ 9223372036854775807 then (sextonref01_Number.l0 k (wrap64 (Int.tdiv x0 256)) ((strOfNums y333) ++ x4) (wrap64 (x5 + 1))) else (none))) else ((some (([(x5) % 256] : List Int) : List Int)).bind fun y336 => (if (strOfNums y336).size + x4.size ≤ 9223372036854775807 then (some ((strOfNums y336) ++ x4, 0)) else (none)))
end
def sextonref01_Number.f (k : Nat) (a0 : Int) : Option (ByteArray × Int) := if a0 < 0 then (sextonref01_Number.j0 k a0 true) else (sextonref01_Number.j0 k a0 (decide (a0 > 4294967295)))
theorem sextonref01_Number.mono_l : ∀ k, (∀ y0 y1, LeO (sextonref01_Number.j0 k y0 y1) (sextonref01_Number.j0 (k + 1) y0 y1)) ∧ (∀ y0 y1 y2, LeO (sextonref01_Number.l0 k y0 y1 y2) (sextonref01_Number.l0 (k + 1) y0 y1 y2))
  | 0 => ⟨fun _ _ r h => by simp [sextonref01_Number.j0] at h, fun _ _ _ r h => by simp [sextonref01_Number.l0] at h⟩
  | k + 1 => by
    obtain ⟨ih0, ih1⟩ := sextonref01_Number.mono_l k
    refine ⟨?_, ?_⟩
    · intro y0 y1
      unfold sextonref01_Number.j0
      repeat' first
      | (with_reducible exact ih0 _ _)
      | (with_reducible exact ih1 _ _ _)
      | (with_reducible exact LeO.refl _)
      | (with_reducible exact LeO.none _)
      | (with_reducible refine LeO.ite ?_ ?_)
      | (with_reducible refine LeO.bind ?_ (fun _ => ?_))
      | exact ih0 _ _
      | exact ih1 _ _ _
      | exact LeO.none _
      | refine LeO.ite ?_ ?_
      | refine LeO.bind ?_ (fun _ => ?_)
    · intro y0 y1 y2
      unfold sextonref01_Number.l0
      repeat' first
      | (with_reducible exact ih0 _ _)
      | (with_reducible exact ih1 _ _ _)
      | (with_reducible exact LeO.refl _)
      | (with_reducible exact LeO.none _)
      | (with_reducible refine LeO.ite ?_ ?_)
      | (with_reducible refine LeO.bind ?_ (fun _ => ?_))
      | exact ih0 _ _
      | exact ih1 _ _ _
      | exact LeO.none _
      | refine LeO.ite ?_ ?_
      | refine LeO.bind ?_ (fun _ => ?_)
theorem sextonref01_Number.mono : ∀ a0 k, LeO (sextonref01_Number.f k a0) (sextonref01_Number.f (k + 1) a0) := by
  intro a0 k
  obtain ⟨ih0, ih1⟩ := sextonref01_Number.mono_l k
  unfold sextonref01_Number.f
  repeat' first
      | (with_reducible exact ih0 _ _)
      | (with_reducible exact ih1 _ _ _)
      | (with_reducible exact LeO.refl _)
      | (with_reducible exact LeO.none _)
      | (with_reducible refine LeO.ite ?_ ?_)
      | (with_reducible refine LeO.bind ?_ (fun _ => ?_))
      | exact ih0 _ _
      | exact ih1 _ _ _
      | exact LeO.none _
      | refine LeO.ite ?_ ?_
      | refine LeO.bind ?_ (fun _ => ?_)
set_option maxHeartbeats 8000000 in
set_option maxRecDepth 100000 in
theorem sextonref01_Number.calls (k : Nat) (a0 : Int) (r1 : ByteArray) (r2 : Int) (w : World) (h : sextonref01_Number.f k a0 = some (r1, r2)) :
    Calls Try.prog 62 #[.int .i64 a0] w fun e w' => e = .returned (.tuple #[.string r1, .int .i64 r2]) ∧ Below w.heap.size w w' := by
  have HB := Aside0.mk (Below.refl w.heap.size w)
  have H : (if a0 < 0 then (sextonref01_Number.j0 k a0 true) else (sextonref01_Number.j0 k a0 (decide (a0 > 4294967295)))) = some (r1, r2) := h
  clear h
  have HC2 := Aside0.mk H
  clear H
  go_enter Try.func62, Try.ntmps62
  go_upto_region 1 with (fail)
  go_cut [11] (fun v11 wc => ∃ (kq : Nat) (x11_1 : Bool), v11 = .bool x11_1 ∧ Aside0 (sextonref01_Number.j0 kq a0 x11_1 = some (r1, r2)) ∧ Aside0 (kq ≤ k) ∧ Aside0 (Below w.heap.size w wc))
  case first =>
    have H := HC2.out
    clear HC2
    by_cases c3 : a0 < 0
    · rw [if_pos c3] at H
      have c3b0 : decide (a0 < 0) = true := decide_eq_true c3
      clear c3
      (first | rw [c3b0] | (simp only [i64_w, i32_w]; rw [c3b0]) | skip)
      have H' := Aside0.mk H
      clear H
      go_wp2
      go_meet
      case rel => exact ⟨_, (true), (by first | rfl | (simp; done) | (simp [*]; done)), H', ⟨by first | omega | exact Nat.le_refl _⟩, ⟨by repeat (first | (with_reducible first | exact HB.out | apply below_alloc | apply pw_below_drewN | apply below_drew1) | exact HB.out)⟩⟩
    · rw [if_neg c3] at H
      have c3b0 : decide (a0 < 0) = false := decide_eq_false c3
      clear c3
      (first | rw [c3b0] | (simp only [i64_w, i32_w]; rw [c3b0]) | skip)
      have H' := Aside0.mk H
      clear H
      go_wp2
      go_meet
      case rel => exact ⟨_, (decide (a0 > 4294967295)), (by first | rfl | (simp; done) | (simp [*]; done)), H', ⟨by first | omega | exact Nat.le_refl _⟩, ⟨by repeat (first | (with_reducible first | exact HB.out | apply below_alloc | apply pw_below_drewN | apply below_drew1) | exact HB.out)⟩⟩
  case rest =>
    clear HC2
    try clear p2
    try clear c3
    try clear c3b0
    obtain ⟨kq, x11_1, rfl, HA, HJ1, HB⟩ := hcut
    cases kq with
    | zero => exact absurd HA.out (by simp [sextonref01_Number.j0])
    | succ kj1 =>
      have H := HA.out
      clear HA
      simp only [sextonref01_Number.j0] at H
      by_cases c4 : x11_1 = true
      · subst c4
        have H1 : (some ((⟨#[]⟩ : ByteArray), 1)) = some (r1, r2) := by rw [if_pos rfl] at H; exact H
        clear H
        have H := H1
        clear H1
        simp only [Option.some.injEq, Prod.mk.injEq] at H
        obtain ⟨rfl, rfl⟩ := H
        go_wp2
        go_ret2
        exact ⟨by first | rfl | (simp [errW_none, errW_some] <;> rfl) | (simp [*, errW_none, errW_some] <;> rfl), by repeat (first | (with_reducible first | exact HB.out | apply below_alloc | apply pw_below_drewN | apply below_drew1) | exact HB.out)⟩
      · replace c4 := Bool.eq_false_iff.mpr c4
        subst c4
        have H1 : (sextonref01_Number.l0 kj1 a0 (⟨#[]⟩ : ByteArray) 0) = some (r1, r2) := by rw [if_neg (show ¬ (false = true) by decide)] at H; exact H
        clear H
        have H := H1
        clear H1
        have H' := Aside0.mk H
        clear H
        go_wp2
        go_loopg [0, 4, 5] kj1 (fun kq v0 v4 v5 w' => ∃ (x0_2 : Int) (x4_2 : ByteArray) (x5_2 : Int), v0 = .int .i64 x0_2 ∧ v4 = .string x4_2 ∧ v5 = .int .i64 x5_2 ∧ Aside0 (sextonref01_Number.l0 kq x0_2 x4_2 x5_2 = some (r1, r2)) ∧ Aside0 (kq ≤ kj1) ∧ Aside0 (Below w.heap.size w w'))
        case atStart => exact ⟨(a0), ((⟨#[]⟩ : ByteArray)), (0), (by first | rfl | (simp; done) | (simp [*]; done)), (by first | rfl | (simp; done) | (simp [*]; done)), (by first | rfl | (simp; done) | (simp [*]; done)), H', ⟨Nat.le_refl _⟩, ⟨by repeat (first | (with_reducible first | exact HB.out | apply below_alloc | apply pw_below_drewN | apply below_drew1) | exact HB.out)⟩⟩
        case round =>
          clear H'
          try clear p2
          try clear c3
          try clear c3b0
          try clear c4
          try clear p2
          obtain ⟨x0_2, x4_2, x5_2, rfl, rfl, rfl, HA, HK2, HB⟩ := hrel
          cases gk with
          | zero => exact absurd HA.out (by simp [sextonref01_Number.l0])
          | succ k2 =>
            have H := HA.out
            clear HA
            simp only [sextonref01_Number.l0] at H
            by_cases c5 : x0_2 > 0
            · rw [if_pos c5] at H
              have c5b0 : decide (0 < x0_2) = true := decide_eq_true c5
              clear c5
              obtain ⟨y333, hy333⟩ : ∃ y_ : List Int, y_ = (([(Int.tmod x0_2 256) % 256] : List Int)) := ⟨_, rfl⟩
              replace H : (if (strOfNums y333).size + x4_2.size ≤ 9223372036854775807 then (sextonref01_Number.l0 k2 (wrap64 (Int.tdiv x0_2 256)) ((strOfNums y333) ++ x4_2) (wrap64 (x5_2 + 1))) else (none)) = some (r1, r2) := by first | (rw [hy333]; with_reducible exact H) | (have H2_ := (Option.bind_some _ _).symm.trans H; rw [hy333]; with_reducible exact H2_) | (have H2_ := (Option.bind_some _ _).symm.trans H; with_reducible exact H2_) | with_reducible exact H | (rw [hy333]; exact H) | exact H
              have Ny333 := Aside0.mk hy333
              clear hy333
              by_cases c6 : (strOfNums y333).size + x4_2.size ≤ 9223372036854775807
              · rw [if_pos c6] at H
                have c6b0 := eq_true c6
                have c6b1 : decide ((strOfNums y333).size + x4_2.size ≤ 9223372036854775807) = true := decide_eq_true c6
                try have c6b2 : (9223372036854775807 < (strOfNums y333).size + x4_2.size) = False := eq_false (Nat.not_lt.2 c6)
                have H' := Aside0.mk H
                clear H
                go_wp2_with (first | ((with_reducible refine gate_dst (N := 17) rfl ?_); refine Kd.R_lit (Kd.int .u8) _ 5 ?hg (N := 17) ?hd (xs := ([(Int.tmod x0_2 256) % 256] : List Int)) (inner := [.int .u8 ((Int.tmod x0_2 256) % 256)]) (ok := fun _ => True) (okp := fun _ => True) ?hr ?hp (fun _ hk => hk) trivial (Below.refl _ _) (Nat.le_refl _) (by simp) ?_; (case hd => rfl); (case hg => rfl); (case hr => first | (go_simp; done) | (go_simp; rfl)); (case hp => exact (Reps.one (show Kd.M (Kd.int .u8) _ _ _ ((Int.tmod x0_2 256) % 256) [.int .u8 ((Int.tmod x0_2 256) % 256)] from rfl) (Reps.none _ _))); intro v334 w7 ho8 hb hg_ hnew_; clear hg_ hnew_; (first | rw [← Ny333.out] at ho8 | (simp only [Int.reduceToNat] at ho8; rw [← Ny333.out] at ho8)); have n0_ := Aside0.mk (Kd.R_lower ho8 (below_size (by repeat (first | (with_reducible first | exact HB.out | apply below_alloc | apply pw_below_drewN | apply below_drew1) | exact HB.out)))); have n1_ := Aside0.mk (below_step (by repeat (first | (with_reducible first | exact HB.out | apply below_alloc | apply pw_below_drewN | apply below_drew1) | exact HB.out)) hb); clear HB; have HO335 := n0_; have HB := n1_; clear n0_ n1_; clear hb ho8; have hcv9 := own_string (P := Try.prog) Try.underlying74 Try.underlying5 Try.underlying9 (Kd.own_of_R HO335.out)))
                go_roundg k2
                case measure => have := HJ1.out; have := HK2.out; omega
                case rel => exact ⟨(wrap64 (Int.tdiv x0_2 256)), ((strOfNums y333) ++ x4_2), (wrap64 (x5_2 + 1)), (by first | rfl | (simp; done) | (simp [*]; done)), (by first | rfl | (simp; done) | (simp [*]; done)), (by first | rfl | (simp; done) | (simp [*]; done)), H', ⟨by have := HJ1.out; have := HK2.out; omega⟩, ⟨by repeat (first | (with_reducible first | exact HB.out | apply below_alloc | apply pw_below_drewN | apply below_drew1) | exact HB.out)⟩⟩
              · rw [if_neg c6] at H
                exact absurd H (by simp)
            · rw [if_neg c5] at H
              have c5b0 : decide (0 < x0_2) = false := decide_eq_false c5
              clear c5
              obtain ⟨y336, hy336⟩ : ∃ y_ : List Int, y_ = (([(x5_2) % 256] : List Int)) := ⟨_, rfl⟩
              replace H : (if (strOfNums y336).size + x4_2.size ≤ 9223372036854775807 then (some ((strOfNums y336) ++ x4_2, 0)) else (none)) = some (r1, r2) := by first | (rw [hy336]; with_reducible exact H) | (have H2_ := (Option.bind_some _ _).symm.trans H; rw [hy336]; with_reducible exact H2_) | (have H2_ := (Option.bind_some _ _).symm.trans H; with_reducible exact H2_) | with_reducible exact H | (rw [hy336]; exact H) | exact H
              have Ny336 := Aside0.mk hy336
              clear hy336
              by_cases c10 : (strOfNums y336).size + x4_2.size ≤ 9223372036854775807
              · rw [if_pos c10] at H
                have c10b0 := eq_true c10
                have c10b1 : decide ((strOfNums y336).size + x4_2.size ≤ 9223372036854775807) = true := decide_eq_true c10
                try have c10b2 : (9223372036854775807 < (strOfNums y336).size + x4_2.size) = False := eq_false (Nat.not_lt.2 c10)
                simp only [Option.some.injEq, Prod.mk.injEq] at H
                obtain ⟨rfl, rfl⟩ := H
                go_wp2_with (first | ((with_reducible refine gate_dst (N := 27) rfl ?_); refine Kd.R_lit (Kd.int .u8) _ 5 ?hg (N := 27) ?hd (xs := ([(x5_2) % 256] : List Int)) (inner := [.int .u8 ((x5_2) % 256)]) (ok := fun _ => True) (okp := fun _ => True) ?hr ?hp (fun _ hk => hk) trivial (Below.refl _ _) (Nat.le_refl _) (by simp) ?_; (case hd => rfl); (case hg => rfl); (case hr => first | (go_simp; done) | (go_simp; rfl)); (case hp => exact (Reps.one (show Kd.M (Kd.int .u8) _ _ _ ((x5_2) % 256) [.int .u8 ((x5_2) % 256)] from rfl) (Reps.none _ _))); intro v337 w11 ho12 hb hg_ hnew_; clear hg_ hnew_; (first | rw [← Ny336.out] at ho12 | (simp only [Int.reduceToNat] at ho12; rw [← Ny336.out] at ho12)); have n0_ := Aside0.mk (Kd.R_lower ho12 (below_size (by repeat (first | (with_reducible first | exact HB.out | apply below_alloc | apply pw_below_drewN | apply below_drew1) | exact HB.out)))); have n1_ := Aside0.mk (below_step (by repeat (first | (with_reducible first | exact HB.out | apply below_alloc | apply pw_below_drewN | apply below_drew1) | exact HB.out)) hb); clear HB; have HO338 := n0_; have HB := n1_; clear n0_ n1_; clear hb ho12; have hcv13 := own_string (P := Try.prog) Try.underlying74 Try.underlying5 Try.underlying9 (Kd.own_of_R HO338.out)))
                go_ret2
                exact ⟨by first | rfl | (simp [errW_none, errW_some] <;> rfl) | (simp [*, errW_none, errW_some] <;> rfl), by repeat (first | (with_reducible first | exact HB.out | apply below_alloc | apply pw_below_drewN | apply below_drew1) | exact HB.out)⟩
              · rw [if_neg c10] at H
                exact absurd H (by simp)

end Go.Proofs.Ytfejidinfcmfjaa.P
-- Written by a program of this session (xprint.py) over the kit's print.py.
namespace Go.Proofs.Ytfejidinfcmfjaa.P
open Go.RowKit Go.Proofs.YtfejidinfcmfjaaW.PrintWords Go.Proofs.YtfejidinfcmfjaaW.PrintLast Go.Proofs.YtfejidinfcmfjaaW.PrintMore
attribute [local go_sem] max2_int min2_int max_two min_two max_three min_three max_four min_four   -- for this text's walks alone
set_option linter.unusedVariables false
set_option linter.unusedSimpArgs false

/-! ### sextonref01_Text: function 80 -/
def sextonref01_Text.f (k : Nat) (a0 : ByteArray) : Option (ByteArray × Int) := if (a0.size : Int) > 4000 then (some ((⟨#[]⟩ : ByteArray), 2)) else ((sextonref01_Number.f k (a0.size : Int)).bind fun bt339 => (if bt339.1.size + a0.size ≤ 9223372036854775807 then (some (bt339.1 ++ a0, 0)) else (none)))
theorem sextonref01_Text.mono : ∀ a0 k, LeO (sextonref01_Text.f k a0) (sextonref01_Text.f (k + 1) a0) := by
  intro a0 k
  unfold sextonref01_Text.f
  repeat' first
      | (with_reducible exact sextonref01_Number.mono _ _)
      | (with_reducible exact LeO.refl _)
      | (with_reducible exact LeO.none _)
      | (with_reducible refine LeO.ite ?_ ?_)
      | (with_reducible refine LeO.bind ?_ (fun _ => ?_))
      | exact sextonref01_Number.mono _ _
      | exact LeO.none _
      | refine LeO.ite ?_ ?_
      | refine LeO.bind ?_ (fun _ => ?_)
set_option maxHeartbeats 8000000 in
set_option maxRecDepth 100000 in
theorem sextonref01_Text.calls (k : Nat) (a0 : ByteArray) (r1 : ByteArray) (r2 : Int) (w : World) (h : sextonref01_Text.f k a0 = some (r1, r2)) :
    Calls Try.prog 80 #[.string a0] w fun e w' => e = .returned (.tuple #[.string r1, .int .i64 r2]) ∧ Below w.heap.size w w' := by
  have HB := Aside0.mk (Below.refl w.heap.size w)
  have H : (if (a0.size : Int) > 4000 then (some ((⟨#[]⟩ : ByteArray), 2)) else ((sextonref01_Number.f k (a0.size : Int)).bind fun bt339 => (if bt339.1.size + a0.size ≤ 9223372036854775807 then (some (bt339.1 ++ a0, 0)) else (none)))) = some (r1, r2) := h
  clear h
  by_cases c2 : (a0.size : Int) > 4000
  · rw [if_pos c2] at H
    have c2b0 : decide (4000 < (a0.size : Int)) = true := decide_eq_true c2
    have c2b1 : decide (4000 < a0.size) = true := decide_eq_true (by omega)
    clear c2
    simp only [Option.some.injEq, Prod.mk.injEq] at H
    obtain ⟨rfl, rfl⟩ := H
    go_enter Try.func80, Try.ntmps80
    go_wp2
    go_ret2
    exact ⟨by first | rfl | (simp [errW_none, errW_some] <;> rfl) | (simp [*, errW_none, errW_some] <;> rfl), by repeat (first | (with_reducible first | exact HB.out | apply below_alloc | apply pw_below_drewN | apply below_drew1) | exact HB.out)⟩
  · rw [if_neg c2] at H
    have c2b0 : decide (4000 < (a0.size : Int)) = false := decide_eq_false c2
    have c2b1 : decide (4000 < a0.size) = false := decide_eq_false (by omega)
    clear c2
    replace H := Option.bind_eq_some_iff.mp H
    obtain ⟨⟨t339, t340⟩, A30, H⟩ := H
    replace H : (if t339.size + a0.size ≤ 9223372036854775807 then (some (t339 ++ a0, 0)) else (none)) = some (r1, r2) := H
    have A3 := Aside0.mk A30
    clear A30
    by_cases c4 : t339.size + a0.size ≤ 9223372036854775807
    · rw [if_pos c4] at H
      have c4b0 := eq_true c4
      have c4b1 : decide (t339.size + a0.size ≤ 9223372036854775807) = true := decide_eq_true c4
      try have c4b2 : (9223372036854775807 < t339.size + a0.size) = False := eq_false (Nat.not_lt.2 c4)
      simp only [Option.some.injEq, Prod.mk.injEq] at H
      obtain ⟨rfl, rfl⟩ := H
      go_enter Try.func80, Try.ntmps80
      go_wp2_with (first | ((with_reducible refine gate_callee (f := 62) rfl ?_); refine goesL_ (some 12) rfl rfl Try.func62 (by kernel_rfl) rfl #[.int .i64 (a0.size : Int)] rfl (by (try simp only [List.map_toArray, List.map_cons, List.map_nil]); first | done | rfl | (simp only [List.length_drop, List.length_take]; rfl)) ?_; (with_reducible refine (sextonref01_Number.calls k (a0.size : Int) t339 t340 _ A3.out).mono ?_); rintro e w5 ⟨rfl, hb⟩; refine ⟨_, rfl, ?_⟩; have n0_ := Aside0.mk (below_step (by repeat (first | (with_reducible first | exact HB.out | apply below_alloc | apply pw_below_drewN | apply below_drew1) | exact HB.out)) hb); clear HB; have HB := n0_; clear n0_; (try clear hb); (try clear hb2); (try clear hk); (try clear hi)))
      go_ret2
      exact ⟨by first | rfl | (simp [errW_none, errW_some] <;> rfl) | (simp [*, errW_none, errW_some] <;> rfl), by repeat (first | (with_reducible first | exact HB.out | apply below_alloc | apply pw_below_drewN | apply below_drew1) | exact HB.out)⟩
    · rw [if_neg c4] at H
      exact absurd H (by simp)

end Go.Proofs.Ytfejidinfcmfjaa.P
-- Written by a program of this session (xprint.py) over the kit's print.py.
namespace Go.Proofs.Ytfejidinfcmfjaa.P
open Go.RowKit Go.Proofs.YtfejidinfcmfjaaW.PrintWords Go.Proofs.YtfejidinfcmfjaaW.PrintLast Go.Proofs.YtfejidinfcmfjaaW.PrintMore
attribute [local go_sem] max2_int min2_int max_two min_two max_three min_three max_four min_four   -- for this text's walks alone
set_option linter.unusedVariables false
set_option linter.unusedSimpArgs false

/-! ### sextonref01_Row: function 63 -/
def sextonref01_Row.l0 : Nat → List ByteArray → ByteArray → Int → Option (ByteArray × Int)
  | 0, _, _, _ => none
  | k + 1, x0, x4, x6 => if x6 < (x0.length : Int) then (if 0 ≤ x6 then ((sextonref01_Text.f k (rdOf ByteArray.empty x0 x6)).bind fun bt344 => (if bt344.2 = 0 then (if x4.size + bt344.1.size ≤ 9223372036854775807 then (sextonref01_Row.l0 k x0 (x4 ++ bt344.1) (wrap64 (x6 + 1))) else (none)) else (some ((⟨#[]⟩ : ByteArray), bt344.2)))) else (none)) else (some (x4, 0))
def sextonref01_Row.f (k : Nat) (l0 : List ByteArray) : Option (ByteArray × Int) := if (l0.length : Int) > 1000 then (some ((⟨#[]⟩ : ByteArray), 2)) else ((sextonref01_Number.f k (l0.length : Int)).bind fun bt341 => (sextonref01_Row.l0 k l0 bt341.1 0))
theorem sextonref01_Row.mono_l : ∀ k, (∀ y0 y1 y2, LeO (sextonref01_Row.l0 k y0 y1 y2) (sextonref01_Row.l0 (k + 1) y0 y1 y2))
  | 0 => fun _ _ _ r h => by simp [sextonref01_Row.l0] at h
  | k + 1 => by
    have ih0 := sextonref01_Row.mono_l k
    · intro y0 y1 y2
      unfold sextonref01_Row.l0
      repeat' first
      | (with_reducible exact ih0 _ _ _)
      | (with_reducible exact sextonref01_Number.mono _ _)
      | (with_reducible exact sextonref01_Text.mono _ _)
      | (with_reducible exact LeO.refl _)
      | (with_reducible exact LeO.none _)
      | (with_reducible refine LeO.ite ?_ ?_)
      | (with_reducible refine LeO.bind ?_ (fun _ => ?_))
      | exact ih0 _ _ _
      | exact sextonref01_Number.mono _ _
      | exact sextonref01_Text.mono _ _
      | exact LeO.none _
      | refine LeO.ite ?_ ?_
      | refine LeO.bind ?_ (fun _ => ?_)
theorem sextonref01_Row.mono : ∀ a0 k, LeO (sextonref01_Row.f k a0) (sextonref01_Row.f (k + 1) a0) := by
  intro a0 k
  have ih0 := sextonref01_Row.mono_l k
  unfold sextonref01_Row.f
  repeat' first
      | (with_reducible exact ih0 _ _ _)
      | (with_reducible exact sextonref01_Number.mono _ _)
      | (with_reducible exact sextonref01_Text.mono _ _)
      | (with_reducible exact LeO.refl _)
      | (with_reducible exact LeO.none _)
      | (with_reducible refine LeO.ite ?_ ?_)
      | (with_reducible refine LeO.bind ?_ (fun _ => ?_))
      | exact ih0 _ _ _
      | exact sextonref01_Number.mono _ _
      | exact sextonref01_Text.mono _ _
      | exact LeO.none _
      | refine LeO.ite ?_ ?_
      | refine LeO.bind ?_ (fun _ => ?_)
set_option maxHeartbeats 8000000 in
set_option maxRecDepth 100000 in
theorem sextonref01_Row.calls (k : Nat) (A0 : Option Addr) (c0 : Nat) (l0 : List ByteArray) (r1 : ByteArray) (r2 : Int) (w : World) (hr0 : Kd.C Kd.string w A0 l0.length l0) (hc0 : l0.length ≤ c0) (h : sextonref01_Row.f k l0 = some (r1, r2)) :
    Calls Try.prog 63 #[.slice A0 l0.length c0] w fun e w' => e = .returned (.tuple #[.string r1, .int .i64 r2]) ∧ Below w.heap.size w w' := by
  have HR0 := Aside0.mk hr0
  have HC0 := Aside0.mk hc0
  clear hr0 hc0
  have HB := Aside0.mk (Below.refl w.heap.size w)
  have H : (if (l0.length : Int) > 1000 then (some ((⟨#[]⟩ : ByteArray), 2)) else ((sextonref01_Number.f k (l0.length : Int)).bind fun bt341 => (sextonref01_Row.l0 k l0 bt341.1 0))) = some (r1, r2) := h
  clear h
  by_cases c2 : (l0.length : Int) > 1000
  · rw [if_pos c2] at H
    have c2b0 : decide (1000 < (l0.length : Int)) = true := decide_eq_true c2
    have c2b1 : decide (1000 < l0.length) = true := decide_eq_true (by omega)
    clear c2
    simp only [Option.some.injEq, Prod.mk.injEq] at H
    obtain ⟨rfl, rfl⟩ := H
    go_enter Try.func63, Try.ntmps63
    go_wp2
    go_ret2
    exact ⟨by first | rfl | (simp [errW_none, errW_some] <;> rfl) | (simp [*, errW_none, errW_some] <;> rfl), by repeat (first | (with_reducible first | exact HB.out | apply below_alloc | apply pw_below_drewN | apply below_drew1) | exact HB.out)⟩
  · rw [if_neg c2] at H
    have c2b0 : decide (1000 < (l0.length : Int)) = false := decide_eq_false c2
    have c2b1 : decide (1000 < l0.length) = false := decide_eq_false (by omega)
    clear c2
    replace H := Option.bind_eq_some_iff.mp H
    obtain ⟨⟨t341, t342⟩, A30, H⟩ := H
    replace H : (sextonref01_Row.l0 k l0 t341 0) = some (r1, r2) := H
    have A3 := Aside0.mk A30
    clear A30
    have H' := Aside0.mk H
    clear H
    go_enter Try.func63, Try.ntmps63
    go_wp2_with (first | ((with_reducible refine gate_callee (f := 62) rfl ?_); refine goesL_ (some 15) rfl rfl Try.func62 (by kernel_rfl) rfl #[.int .i64 (l0.length : Int)] rfl (by (try simp only [List.map_toArray, List.map_cons, List.map_nil]); first | done | rfl | (simp only [List.length_drop, List.length_take]; rfl)) ?_; (with_reducible refine (sextonref01_Number.calls k (l0.length : Int) t341 t342 _ A3.out).mono ?_); rintro e w4 ⟨rfl, hb⟩; refine ⟨_, rfl, ?_⟩; have n0_ := Aside0.mk (below_step (by repeat (first | (with_reducible first | exact HB.out | apply below_alloc | apply pw_below_drewN | apply below_drew1) | exact HB.out)) hb); clear HB; have HB := n0_; clear n0_; (try clear hb); (try clear hb2); (try clear hk); (try clear hi)))
    go_loopg [4, 6] k (fun kq v4 v6 w' => ∃ (x4_1 : ByteArray) (x6_1 : Int), v4 = .string x4_1 ∧ v6 = .int .i64 x6_1 ∧ Aside0 (sextonref01_Row.l0 kq l0 x4_1 x6_1 = some (r1, r2)) ∧ Aside0 (kq ≤ k) ∧ Aside0 (Below w.heap.size w w'))
    case atStart => exact ⟨(t341), (0), (by first | rfl | (simp; done) | (simp [*]; done)), (by first | rfl | (simp; done) | (simp [*]; done)), H', ⟨Nat.le_refl _⟩, ⟨by repeat (first | (with_reducible first | exact HB.out | apply below_alloc | apply pw_below_drewN | apply below_drew1) | exact HB.out)⟩⟩
    case round =>
      clear H'
      try clear c2
      try clear c2b0
      try clear c2b1
      try clear p2
      obtain ⟨x4_1, x6_1, rfl, rfl, HA, HK1, HB⟩ := hrel
      cases gk with
      | zero => exact absurd HA.out (by simp [sextonref01_Row.l0])
      | succ k1 =>
        have H := HA.out
        clear HA
        simp only [sextonref01_Row.l0] at H
        by_cases c5 : x6_1 < (l0.length : Int)
        · rw [if_pos c5] at H
          have c5b0 : decide (x6_1 < (l0.length : Int)) = true := decide_eq_true c5
          clear c5
          by_cases c6 : 0 ≤ x6_1
          · rw [if_pos c6] at H
            have c6b0 : decide (0 ≤ x6_1) = true := decide_eq_true c6
            clear c6
            replace H := Option.bind_eq_some_iff.mp H
            obtain ⟨⟨t344, t345⟩, A70, H⟩ := H
            replace H : (if t345 = 0 then (if x4_1.size + t344.size ≤ 9223372036854775807 then (sextonref01_Row.l0 k1 l0 (x4_1 ++ t344) (wrap64 (x6_1 + 1))) else (none)) else (some ((⟨#[]⟩ : ByteArray), t345))) = some (r1, r2) := H
            have A7 := Aside0.mk A70
            clear A70
            by_cases c8 : t345 = 0
            · rw [if_pos c8] at H
              have c8b0 : (t345 == 0) = true := beq_iff_eq.mpr c8
              have c8b1 : (t345 != 0) = false := bne_eq_false_iff_eq.mpr c8
              clear c8
              by_cases c9 : x4_1.size + t344.size ≤ 9223372036854775807
              · rw [if_pos c9] at H
                have c9b0 := eq_true c9
                have c9b1 : decide (x4_1.size + t344.size ≤ 9223372036854775807) = true := decide_eq_true c9
                try have c9b2 : (9223372036854775807 < x4_1.size + t344.size) = False := eq_false (Nat.not_lt.2 c9)
                have H' := Aside0.mk H
                clear H
                have p343 : 0 ≤ (x6_1 : Int) := of_decide_eq_true (by first | (with_reducible assumption) | assumption)
                have q343 : x6_1 < (l0.length : Int) := of_decide_eq_true (by first | (with_reducible assumption) | assumption)
                obtain ⟨ad343, e343, hx343_0⟩ := Kd.at_string HR0.out x6_1 p343 q343
                cases e343
                replace hx343_0 := (HB.out.cell (World.block_lt_of_cell? w _ hx343_0)).trans hx343_0
                replace p343 := eq_true p343
                replace q343 := eq_true q343
                go_wp2_with (first | ((with_reducible refine gate_callee (f := 80) rfl ?_); refine goesL_ (some 29) rfl rfl Try.func80 (by kernel_rfl) rfl #[.string (rdOf ByteArray.empty l0 x6_1)] rfl (by (try simp only [List.map_toArray, List.map_cons, List.map_nil]); first | done | rfl | (simp only [List.length_drop, List.length_take]; rfl)) ?_; (with_reducible refine (sextonref01_Text.calls k1 (rdOf ByteArray.empty l0 x6_1) t344 t345 _ A7.out).mono ?_); rintro e w10 ⟨rfl, hb⟩; refine ⟨_, rfl, ?_⟩; have n0_ := Aside0.mk (below_step (by repeat (first | (with_reducible first | exact HB.out | apply below_alloc | apply pw_below_drewN | apply below_drew1) | exact HB.out)) hb); clear HB; have HB := n0_; clear n0_; (try clear hb); (try clear hb2); (try clear hk); (try clear hi)))
                go_roundg k1
                case measure => have := HK1.out; omega
                case rel => exact ⟨(x4_1 ++ t344), (wrap64 (x6_1 + 1)), (by first | rfl | (simp; done) | (simp [*]; done)), (by first | rfl | (simp; done) | (simp [*]; done)), H', ⟨by have := HK1.out; omega⟩, ⟨by repeat (first | (with_reducible first | exact HB.out | apply below_alloc | apply pw_below_drewN | apply below_drew1) | exact HB.out)⟩⟩
              · rw [if_neg c9] at H
                exact absurd H (by simp)
            · rw [if_neg c8] at H
              have c8b0 : (t345 == 0) = false := beq_eq_false_iff_ne.mpr c8
              have c8b1 : (t345 != 0) = true := bne_iff_ne.mpr c8
              simp only [Option.some.injEq, Prod.mk.injEq] at H
              obtain ⟨rfl, rfl⟩ := H
              have p343 : 0 ≤ (x6_1 : Int) := of_decide_eq_true (by first | (with_reducible assumption) | assumption)
              have q343 : x6_1 < (l0.length : Int) := of_decide_eq_true (by first | (with_reducible assumption) | assumption)
              obtain ⟨ad343, e343, hx343_0⟩ := Kd.at_string HR0.out x6_1 p343 q343
              cases e343
              replace hx343_0 := (HB.out.cell (World.block_lt_of_cell? w _ hx343_0)).trans hx343_0
              replace p343 := eq_true p343
              replace q343 := eq_true q343
              go_wp2_with (first | ((with_reducible refine gate_callee (f := 80) rfl ?_); refine goesL_ (some 29) rfl rfl Try.func80 (by kernel_rfl) rfl #[.string (rdOf ByteArray.empty l0 x6_1)] rfl (by (try simp only [List.map_toArray, List.map_cons, List.map_nil]); first | done | rfl | (simp only [List.length_drop, List.length_take]; rfl)) ?_; (with_reducible refine (sextonref01_Text.calls k1 (rdOf ByteArray.empty l0 x6_1) t344 t345 _ A7.out).mono ?_); rintro e w11 ⟨rfl, hb⟩; refine ⟨_, rfl, ?_⟩; have n0_ := Aside0.mk (below_step (by repeat (first | (with_reducible first | exact HB.out | apply below_alloc | apply pw_below_drewN | apply below_drew1) | exact HB.out)) hb); clear HB; have HB := n0_; clear n0_; (try clear hb); (try clear hb2); (try clear hk); (try clear hi)))
              go_ret2
              exact ⟨by first | rfl | (simp [errW_none, errW_some] <;> rfl) | (simp [*, errW_none, errW_some] <;> rfl), by repeat (first | (with_reducible first | exact HB.out | apply below_alloc | apply pw_below_drewN | apply below_drew1) | exact HB.out)⟩
          · rw [if_neg c6] at H
            exact absurd H (by simp)
        · rw [if_neg c5] at H
          have c5b0 : decide (x6_1 < (l0.length : Int)) = false := decide_eq_false c5
          clear c5
          simp only [Option.some.injEq, Prod.mk.injEq] at H
          obtain ⟨rfl, rfl⟩ := H
          go_wp2
          go_ret2
          exact ⟨by first | rfl | (simp [errW_none, errW_some] <;> rfl) | (simp [*, errW_none, errW_some] <;> rfl), by repeat (first | (with_reducible first | exact HB.out | apply below_alloc | apply pw_below_drewN | apply below_drew1) | exact HB.out)⟩

end Go.Proofs.Ytfejidinfcmfjaa.P
-- Written by a program of this session (xprint.py) over the kit's print.py.
namespace Go.Proofs.Ytfejidinfcmfjaa.P
open Go.RowKit Go.Proofs.YtfejidinfcmfjaaW.PrintWords Go.Proofs.YtfejidinfcmfjaaW.PrintLast Go.Proofs.YtfejidinfcmfjaaW.PrintMore
attribute [local go_sem] max2_int min2_int max_two min_two max_three min_three max_four min_four   -- for this text's walks alone
set_option linter.unusedVariables false
set_option linter.unusedSimpArgs false

/-! ### sextonref01_Own: function 73 -/
def sextonref01_Own.f (l0 : List ByteArray) : Option (List ByteArray) := if ([] : List ByteArray).length + l0.length < 8796093022208 then (some (([] : List ByteArray) ++ l0)) else (none)
set_option maxHeartbeats 8000000 in
set_option maxRecDepth 100000 in
theorem sextonref01_Own.calls (A0 : Option Addr) (c0 : Nat) (l0 : List ByteArray) (r : List ByteArray) (w : World) (hr0 : Kd.C Kd.string w A0 l0.length l0) (hc0 : l0.length ≤ c0) (h : sextonref01_Own.f l0 = some r) :
    Calls Try.prog 73 #[.slice A0 l0.length c0] w fun e w' => ∃ v0_ : Value, e = .returned (v0_) ∧ Kd.R Kd.string 9 w' w.heap.size (fun _ => True) v0_ r ∧ Below w.heap.size w w' := by
  have HR0 := Aside0.mk hr0
  have HC0 := Aside0.mk hc0
  clear hr0 hc0
  have HB := Aside0.mk (Below.refl w.heap.size w)
  have H : (if ([] : List ByteArray).length + l0.length < 8796093022208 then (some (([] : List ByteArray) ++ l0)) else (none)) = some r := h
  clear h
  by_cases c2 : ([] : List ByteArray).length + l0.length < 8796093022208
  · rw [if_pos c2] at H
    have LMc2 := Aside0.mk c2
    clear c2
    obtain ⟨y105, hy105⟩ : ∃ y_ : List ByteArray, y_ = (([] : List ByteArray) ++ l0) := ⟨_, rfl⟩
    replace H : (some y105) = some r := by first | (rw [hy105]; with_reducible exact H) | (have H2_ := (Option.bind_some _ _).symm.trans H; rw [hy105]; with_reducible exact H2_) | (have H2_ := (Option.bind_some _ _).symm.trans H; with_reducible exact H2_) | with_reducible exact H | (rw [hy105]; exact H) | exact H
    have Ny105 := Aside0.mk hy105
    clear hy105
    obtain rfl := Option.some.inj H
    go_enter Try.func73, Try.ntmps73
    go_wp2_with (first | ((with_reducible refine gate_builtin (b := .append) (xs := #[.tmp 4, .tmp 5]) rfl ?_); at_builtin; refine Kd.R_append_rows Kd.string (w0 := w) w.heap.size rfl (.tmp 4) (.tmp 5) 27 9 (.string ⟨#[]⟩) 16 rfl Try.underlying27 info9 rfl (by decide) (by omega) (.slice none 0 0) ([] : List ByteArray) l0 _ _ _ (fun _ => True) (fun _ => False) rfl rfl ?aO ?aR (fun _ _ h => h) (fun _ h => h.elim) ?aF ?aB ?aS ?aL ?_; (case aR => repeat (first | exact HR0.out | (with_reducible refine Kd.C_alloc ?_ _) | (with_reducible refine Kd.C_drewN ?_ _) | (with_reducible refine Kd.C_drew ?_))); (case aB => exact (by repeat (first | (with_reducible first | exact HB.out | apply below_alloc | apply pw_below_drewN | apply below_drew1) | exact HB.out))); (case aF => exact (fun _ _ => trivial)); (case aO => exact ((Kd.R_nil _ _ _ _ (fun _ => True)))); (case aS => exact (below_size (by repeat (first | (with_reducible first | exact HB.out | apply below_alloc | apply pw_below_drewN | apply below_drew1) | exact HB.out)))); (case aL => have := LMc2.out; omega); intro v106 w3 ho hb hg hat; rw [← Ny105.out] at ho; have n0_ := Aside0.mk (hb); have n1_ := Aside0.mk (ho); clear HB; have HB := n0_; have HO107 := n1_; clear n0_ n1_; clear ho hb hg hat))
    go_ret
    exact ⟨_, by first | rfl | (simp [errW_none, errW_some] <;> rfl) | (simp [*, errW_none, errW_some] <;> rfl), by (with_reducible repeat (first | apply Kd.R_alloc | apply Kd.R_drewN | apply Kd.R_drew)); exact HO107.out, by repeat (first | (with_reducible first | exact HB.out | apply below_alloc | apply pw_below_drewN | apply below_drew1) | exact HB.out)⟩
  · rw [if_neg c2] at H
    exact absurd H (by simp)

end Go.Proofs.Ytfejidinfcmfjaa.P
-- Written by a program of this session (xprint.py) over the kit's print.py.
namespace Go.Proofs.Ytfejidinfcmfjaa.P
open Go.RowKit Go.Proofs.YtfejidinfcmfjaaW.PrintWords Go.Proofs.YtfejidinfcmfjaaW.PrintLast Go.Proofs.YtfejidinfcmfjaaW.PrintMore
attribute [local go_sem] max2_int min2_int max_two min_two max_three min_three max_four min_four   -- for this text's walks alone
set_option linter.unusedVariables false
set_option linter.unusedSimpArgs false

/-! ### sextonref01_Texts: function 56 -/
def sextonref01_Texts.l0 : Nat → List ByteArray → List ByteArray → Int → Option (Bool)
  | 0, _, _, _ => none
  | k + 1, x0, x1, x5 => if x5 < (x0.length : Int) then (if 0 ≤ x5 then (if x5 < (x1.length : Int) then (if (rdOf ByteArray.empty x0 x5).toList = (rdOf ByteArray.empty x1 x5).toList then (sextonref01_Texts.l0 k x0 x1 (wrap64 (x5 + 1))) else (some false)) else (none)) else (none)) else (some true)
def sextonref01_Texts.f (k : Nat) (l0 : List ByteArray) (l1 : List ByteArray) : Option (Bool) := if (l0.length : Int) = (l1.length : Int) then (sextonref01_Texts.l0 k l0 l1 0) else (some false)
theorem sextonref01_Texts.mono_l : ∀ k, (∀ y0 y1 y2, LeO (sextonref01_Texts.l0 k y0 y1 y2) (sextonref01_Texts.l0 (k + 1) y0 y1 y2))
  | 0 => fun _ _ _ r h => by simp [sextonref01_Texts.l0] at h
  | k + 1 => by
    have ih0 := sextonref01_Texts.mono_l k
    · intro y0 y1 y2
      unfold sextonref01_Texts.l0
      repeat' first
      | (with_reducible exact ih0 _ _ _)
      | (with_reducible exact LeO.refl _)
      | (with_reducible exact LeO.none _)
      | (with_reducible refine LeO.ite ?_ ?_)
      | (with_reducible refine LeO.bind ?_ (fun _ => ?_))
      | exact ih0 _ _ _
      | exact LeO.none _
      | refine LeO.ite ?_ ?_
      | refine LeO.bind ?_ (fun _ => ?_)
theorem sextonref01_Texts.mono : ∀ a0 a1 k, LeO (sextonref01_Texts.f k a0 a1) (sextonref01_Texts.f (k + 1) a0 a1) := by
  intro a0 a1 k
  have ih0 := sextonref01_Texts.mono_l k
  unfold sextonref01_Texts.f
  repeat' first
      | (with_reducible exact ih0 _ _ _)
      | (with_reducible exact LeO.refl _)
      | (with_reducible exact LeO.none _)
      | (with_reducible refine LeO.ite ?_ ?_)
      | (with_reducible refine LeO.bind ?_ (fun _ => ?_))
      | exact ih0 _ _ _
      | exact LeO.none _
      | refine LeO.ite ?_ ?_
      | refine LeO.bind ?_ (fun _ => ?_)
set_option maxHeartbeats 8000000 in
set_option maxRecDepth 100000 in
theorem sextonref01_Texts.calls (k : Nat) (A0 : Option Addr) (c0 : Nat) (l0 : List ByteArray) (A1 : Option Addr) (c1 : Nat) (l1 : List ByteArray) (r : Bool) (w : World) (hr0 : Kd.C Kd.string w A0 l0.length l0) (hc0 : l0.length ≤ c0) (hr1 : Kd.C Kd.string w A1 l1.length l1) (hc1 : l1.length ≤ c1) (h : sextonref01_Texts.f k l0 l1 = some r) :
    Calls Try.prog 56 #[.slice A0 l0.length c0, .slice A1 l1.length c1] w fun e w' => e = .returned (.bool r) ∧ Drawn0 w w' := by
  have HR0 := Aside0.mk hr0
  have HC0 := Aside0.mk hc0
  clear hr0 hc0
  have HR1 := Aside0.mk hr1
  have HC1 := Aside0.mk hc1
  clear hr1 hc1
  have H : (if (l0.length : Int) = (l1.length : Int) then (sextonref01_Texts.l0 k l0 l1 0) else (some false)) = some r := h
  clear h
  by_cases c3 : (l0.length : Int) = (l1.length : Int)
  · rw [if_pos c3] at H
    have c3b0 : ((l0.length : Int) == (l1.length : Int)) = true := beq_iff_eq.mpr c3
    have c3b1 : ((l0.length : Int) != (l1.length : Int)) = false := bne_eq_false_iff_eq.mpr c3
    have c3b2 : (l0.length == l1.length) = true := by first | simpa using c3 | (simp at c3 ⊢; omega)
    clear c3
    have H' := Aside0.mk H
    clear H
    go_enter Try.func56, Try.ntmps56
    go_wp2
    repeat (go_quiet (fail); try go_wp2)
    go_loopg [5] k (fun kq v5 w' => ∃ (x5_1 : Int), v5 = .int .i64 x5_1 ∧ Aside0 (sextonref01_Texts.l0 kq l0 l1 x5_1 = some r) ∧ Aside0 (kq ≤ k) ∧ Drawn0 w w')
    case atStart => exact ⟨(0), (by first | rfl | (simp; done) | (simp [*]; done)), H', ⟨Nat.le_refl _⟩, by repeat (first | exact Drawn0.refl _ | apply Drawn0.step)⟩
    case round =>
      clear H'
      try clear c1
      try clear p2
      try clear c3
      try clear c3b0
      try clear c3b1
      try clear c3b2
      obtain ⟨x5_1, rfl, HA, HK1, ⟨m1, rfl⟩⟩ := hrel
      cases gk with
      | zero => exact absurd HA.out (by simp [sextonref01_Texts.l0])
      | succ k1 =>
        have H := HA.out
        clear HA
        simp only [sextonref01_Texts.l0] at H
        by_cases c4 : x5_1 < (l0.length : Int)
        · rw [if_pos c4] at H
          have c4b0 : decide (x5_1 < (l0.length : Int)) = true := decide_eq_true c4
          clear c4
          by_cases c5 : 0 ≤ x5_1
          · rw [if_pos c5] at H
            have c5b0 : decide (0 ≤ x5_1) = true := decide_eq_true c5
            clear c5
            by_cases c6 : x5_1 < (l1.length : Int)
            · rw [if_pos c6] at H
              have c6b0 : decide (x5_1 < (l1.length : Int)) = true := decide_eq_true c6
              clear c6
              by_cases c7 : (rdOf ByteArray.empty l0 x5_1).toList = (rdOf ByteArray.empty l1 x5_1).toList
              · rw [if_pos c7] at H
                have c7b0 : ((rdOf ByteArray.empty l0 x5_1).toList == (rdOf ByteArray.empty l1 x5_1).toList) = true := beq_iff_eq.mpr c7
                have c7b1 : ((rdOf ByteArray.empty l0 x5_1).toList != (rdOf ByteArray.empty l1 x5_1).toList) = false := bne_eq_false_iff_eq.mpr c7
                clear c7
                have H' := Aside0.mk H
                clear H
                have p286 : 0 ≤ (x5_1 : Int) := of_decide_eq_true (by first | (with_reducible assumption) | assumption)
                have q286 : x5_1 < (l0.length : Int) := of_decide_eq_true (by first | (with_reducible assumption) | assumption)
                obtain ⟨ad286, e286, hx286_0⟩ := Kd.at_string HR0.out x5_1 p286 q286
                cases e286
                replace p286 := eq_true p286
                replace q286 := eq_true q286
                have p287 : 0 ≤ (x5_1 : Int) := of_decide_eq_true (by first | (with_reducible assumption) | assumption)
                have q287 : x5_1 < (l1.length : Int) := of_decide_eq_true (by first | (with_reducible assumption) | assumption)
                obtain ⟨ad287, e287, hx287_0⟩ := Kd.at_string HR1.out x5_1 p287 q287
                cases e287
                replace p287 := eq_true p287
                replace q287 := eq_true q287
                go_wp2
                repeat (go_quiet (fail); try go_wp2)
                go_roundg k1
                case measure => have := HK1.out; omega
                case rel => exact ⟨(wrap64 (x5_1 + 1)), (by first | rfl | (simp; done) | (simp [*]; done)), H', ⟨by have := HK1.out; omega⟩, by repeat (first | exact Drawn0.refl _ | apply Drawn0.step)⟩
              · rw [if_neg c7] at H
                have c7b0 : ((rdOf ByteArray.empty l0 x5_1).toList == (rdOf ByteArray.empty l1 x5_1).toList) = false := beq_eq_false_iff_ne.mpr c7
                have c7b1 : ((rdOf ByteArray.empty l0 x5_1).toList != (rdOf ByteArray.empty l1 x5_1).toList) = true := bne_iff_ne.mpr c7
                obtain rfl := Option.some.inj H
                have p286 : 0 ≤ (x5_1 : Int) := of_decide_eq_true (by first | (with_reducible assumption) | assumption)
                have q286 : x5_1 < (l0.length : Int) := of_decide_eq_true (by first | (with_reducible assumption) | assumption)
                obtain ⟨ad286, e286, hx286_0⟩ := Kd.at_string HR0.out x5_1 p286 q286
                cases e286
                replace p286 := eq_true p286
                replace q286 := eq_true q286
                have p287 : 0 ≤ (x5_1 : Int) := of_decide_eq_true (by first | (with_reducible assumption) | assumption)
                have q287 : x5_1 < (l1.length : Int) := of_decide_eq_true (by first | (with_reducible assumption) | assumption)
                obtain ⟨ad287, e287, hx287_0⟩ := Kd.at_string HR1.out x5_1 p287 q287
                cases e287
                replace p287 := eq_true p287
                replace q287 := eq_true q287
                go_wp2
                repeat (go_quiet (fail); try go_wp2)
                go_ret
                exact ⟨by first | rfl | (simp; done) | (simp [*]; done), by repeat (first | exact Drawn0.refl _ | apply Drawn0.step)⟩
            · rw [if_neg c6] at H
              exact absurd H (by simp)
          · rw [if_neg c5] at H
            exact absurd H (by simp)
        · rw [if_neg c4] at H
          have c4b0 : decide (x5_1 < (l0.length : Int)) = false := decide_eq_false c4
          clear c4
          obtain rfl := Option.some.inj H
          go_wp2
          repeat (go_quiet (fail); try go_wp2)
          go_ret
          exact ⟨by first | rfl | (simp; done) | (simp [*]; done), by repeat (first | exact Drawn0.refl _ | apply Drawn0.step)⟩
  · rw [if_neg c3] at H
    have c3b0 : ((l0.length : Int) == (l1.length : Int)) = false := beq_eq_false_iff_ne.mpr c3
    have c3b1 : ((l0.length : Int) != (l1.length : Int)) = true := bne_iff_ne.mpr c3
    have c3b2 : (l0.length == l1.length) = false := by first | simpa using c3 | (simp at c3 ⊢; omega)
    obtain rfl := Option.some.inj H
    go_enter Try.func56, Try.ntmps56
    go_wp2
    repeat (go_quiet (fail); try go_wp2)
    go_ret
    exact ⟨by first | rfl | (simp; done) | (simp [*]; done), by repeat (first | exact Drawn0.refl _ | apply Drawn0.step)⟩

end Go.Proofs.Ytfejidinfcmfjaa.P
/-
  What the references of chapter 1 answer, told plainly.
-/
namespace Go.Proofs.Ytfejidinfcmfjaa.P
open Go.RowKit Go.Proofs.CodecPlain Go.Proofs.YtfejidinfcmfjaaW.PrintWords Go.Proofs.YtfejidinfcmfjaaW.PrintLast

theorem ev_if_pos {α : Type} {p : Nat → Prop} [∀ k, Decidable (p k)] {a b : Nat → Option α} {r : α} (h : ∀ k, p k) (k : Ev a r) : Ev (fun n => if p n then a n else b n) r :=
  k.congr (fun n => if_pos (h n))
theorem toList_inj {a b : ByteArray} (h : a.toList = b.toList) : a = b := by
  rw [ByteArray.toList_eq, ByteArray.toList_eq] at h; exact ba_ext h
theorem wrap_id {x : Int} (h0 : -9223372036854775808 ≤ x) (h1 : x ≤ 9223372036854775807) : wrap64 x = x := by unfold wrap64; omega

theorem strOfNums_size (l : List Int) : (strOfNums l).size = l.length := by simp [strOfNums, ByteArray.size]
theorem strOfNums_list (l : List Int) : (strOfNums l).data.toList = l.map u8 := by simp [strOfNums, u8]

theorem refNumber_l0 : ∀ x : Int, 0 ≤ x → x < 4294967296 → ∀ (acc : ByteArray) (c : Int), acc.size + (nbytes x).length ≤ 1000 → 0 ≤ c → c + ((nbytes x).length : Int) ≤ 1000 →
    Ev (fun k => sextonref01_Number.l0 k x acc c) (strOfNums [(c + ((nbytes x).length : Int)) % 256] ++ (strOfNums (nbytes x) ++ acc), 0) := by
  apply nat_ind
  intro x h0 ih h1 acc c ha hc0 hc1
  by_cases hz : x = 0
  · subst hz
    refine Ev.step (f := fun _ => some (strOfNums [c % 256] ++ acc, 0)) (fun k => ?_) ?_
    · simp only [sextonref01_Number.l0]
      rw [if_neg (by omega)]
      simp only [Option.bind_some]
      rw [if_pos (by rw [strOfNums_size]; simp; omega)]
    · rw [nbytes_zero]
      have : strOfNums [] ++ acc = acc := ba_ext (by rw [app_list, strOfNums_list]; rfl)
      simp only [List.length_nil, Int.natCast_zero, Int.add_zero, this]
      exact Ev.now _
  · refine Ev.step (f := fun k => sextonref01_Number.l0 k (x / 256) (strOfNums [x % 256] ++ acc) (c + 1)) (fun k => ?_) ?_
    · simp only [sextonref01_Number.l0]
      rw [if_pos (by omega)]
      simp only [Option.bind_some]
      rw [if_pos (by rw [strOfNums_size]; simp; omega), Int.tdiv_eq_ediv_of_nonneg h0, wrap_id (x := x / 256) (by omega) (by omega), wrap_id (x := c + 1) (by omega) (by omega), Int.tmod_eq_emod_of_nonneg h0]
      congr 4
      omega
    · have hlen : (nbytes x).length = (nbytes (x / 256)).length + 1 := by rw [nbytes_rec x (by omega) h1]; simp
      have := ih (x / 256) (by omega) (by omega) (by omega) (strOfNums [x % 256] ++ acc) (c + 1) (by
        rw [CodecPlain.size_append, strOfNums_size]; simp; rw [hlen] at ha; omega) (by omega) (by omega)
      rw [nbytes_rec x (by omega) h1]
      have e1 : strOfNums (nbytes (x / 256)) ++ (strOfNums [x % 256] ++ acc) = strOfNums (nbytes (x / 256) ++ [x % 256]) ++ acc := ba_ext (by simp only [app_list, strOfNums_list]; simp)
      rw [e1] at this
      have e2 : c + 1 + ((nbytes (x / 256)).length : Int) = c + ((nbytes (x / 256) ++ [x % 256]).length : Int) := by simp; omega
      rw [e2] at this
      exact this

theorem refNumber (n : Int) : Ev (fun k => sextonref01_Number.f k n) (if 0 ≤ n ∧ n ≤ 4294967295 then (numStr n, 0) else (⟨#[]⟩, 1)) := by
  by_cases h0 : n < 0
  · rw [if_neg (by omega)]
    refine Ev.congr (f := fun k => sextonref01_Number.j0 k n true) (fun k => by unfold sextonref01_Number.f; rw [if_pos h0]) ?_
    exact Ev.step (f := fun _ => some (⟨#[]⟩, 1)) (fun k => by simp [sextonref01_Number.j0]) (Ev.now _)
  · refine Ev.congr (f := fun k => sextonref01_Number.j0 k n (decide (n > 4294967295))) (fun k => by unfold sextonref01_Number.f; rw [if_neg h0]) ?_
    by_cases h1 : n > 4294967295
    · rw [if_neg (by omega), decide_eq_true h1]
      exact Ev.step (f := fun _ => some (⟨#[]⟩, 1)) (fun k => by simp [sextonref01_Number.j0]) (Ev.now _)
    · rw [if_pos (by omega), decide_eq_false h1]
      refine Ev.step (f := fun k => sextonref01_Number.l0 k n ⟨#[]⟩ 0) (fun k => by simp [sextonref01_Number.j0]) ?_
      have hl := nbytes_length n
      have := refNumber_l0 n (by omega) (by omega) ⟨#[]⟩ 0 (by have : (⟨#[]⟩ : ByteArray).size = 0 := rfl; omega) (by omega) (by omega)
      have e : strOfNums [(0 + ((nbytes n).length : Int)) % 256] ++ (strOfNums (nbytes n) ++ ⟨#[]⟩) = numStr n := ba_ext (by
        simp only [app_list, strOfNums_list, numStr_list]
        rw [show (0 + ((nbytes n).length : Int)) % 256 = ((nbytes n).length : Int) by omega]
        simp)
      rw [e] at this
      exact this

theorem refText (s : ByteArray) : Ev (fun k => sextonref01_Text.f k s) (if s.size ≤ 4000 then (textStr s, 0) else (⟨#[]⟩, 2)) := by
  by_cases h : s.size ≤ 4000
  · rw [if_pos h]
    have hn := refNumber (s.size : Int)
    rw [if_pos (by omega)] at hn
    have hs := numStr_size (s.size : Int)
    refine Ev.congr (f := fun k => (sextonref01_Number.f k (s.size : Int)).bind fun bt116 => (if bt116.1.size + s.size ≤ 9223372036854775807 then (some (bt116.1 ++ s, 0)) else (none))) (fun k => by unfold sextonref01_Text.f; rw [if_neg (by omega)]) ?_
    refine Ev.bind hn (Ev.congr (f := fun _ => some (textStr s, 0)) (fun k => ?_) (Ev.now _))
    simp only
    rw [if_pos (by omega)]
    rfl
  · rw [if_neg h]
    exact Ev.congr (f := fun _ => some (⟨#[]⟩, 2)) (fun k => by unfold sextonref01_Text.f; rw [if_pos (by omega)]) (Ev.now _)

/-- What a row's loop tells, some texts having been told. -/
theorem refRow_l0 (l : List ByteArray) (hl : l.length ≤ 1000) (d : Nat) : ∀ (k : Nat) (acc : ByteArray), k + d = l.length → acc.size ≤ 5 + k * 4005 →
    Ev (fun r => sextonref01_Row.l0 r l acc (k : Int)) (if (l.drop k).all (fun s => decide (s.size ≤ 4000)) = true then (acc ++ catStr ((l.drop k).map textStr), 0) else (⟨#[]⟩, 2)) := by
  induction d with
  | zero =>
    intro k acc hk ha
    have hd : l.drop k = [] := List.drop_of_length_le (by omega)
    rw [hd]
    refine Ev.step (f := fun _ => some (acc, 0)) (fun r => by simp only [sextonref01_Row.l0]; rw [if_neg (by omega)]) ?_
    have : acc ++ catStr [] = acc := ba_ext (by simp [app_list, catStr])
    simp only [List.all_nil, List.map_nil, if_true, this]
    exact Ev.now _
  | succ d ih =>
    intro k acc hk ha
    have hlt : k < l.length := by omega
    have hd : l.drop k = l[k] :: l.drop (k + 1) := List.drop_eq_getElem_cons hlt
    have ht := refText l[k]
    refine Ev.step (f := fun r => (sextonref01_Text.f r l[k]).bind fun bt121 => (if bt121.2 = 0 then (if acc.size + bt121.1.size ≤ 9223372036854775807 then (sextonref01_Row.l0 r l (acc ++ bt121.1) ((k + 1 : Nat) : Int)) else (none)) else (some ((⟨#[]⟩ : ByteArray), bt121.2)))) (fun r => ?_) ?_
    · simp only [sextonref01_Row.l0]
      rw [if_pos (by omega), if_pos (by omega), rd_string l k hlt, wrap_id (by omega) (by omega)]
      rfl
    · by_cases hs : l[k].size ≤ 4000
      · rw [if_pos hs] at ht
        have hts := textStr_size l[k]
        refine Ev.bind ht ?_
        have hn := ih (k + 1) (acc ++ textStr l[k]) (by omega) (by rw [CodecPlain.size_append]; omega)
        refine Ev.congr (f := fun r => sextonref01_Row.l0 r l (acc ++ textStr l[k]) ((k + 1 : Nat) : Int)) (fun r => by simp only; rw [if_pos trivial, if_pos (by omega)]) ?_
        rw [hd]
        simp only [List.all_cons, hs, decide_true, Bool.true_and, List.map_cons, catStr]
        rw [← ByteArray.append_assoc]
        exact hn
      · rw [if_neg hs] at ht
        refine Ev.bind ht ?_
        refine Ev.congr (f := fun _ => some (⟨#[]⟩, 2)) (fun r => by simp only; rw [if_neg (by decide)]) ?_
        rw [hd, if_neg (fun h => hs (of_decide_eq_true (List.all_eq_true.1 h l[k] List.mem_cons_self)))]
        exact Ev.now _

theorem refRow (l : List ByteArray) : Ev (fun k => sextonref01_Row.f k l) (if 1000 < l.length then (⟨#[]⟩, 2) else if l.all (fun s => decide (s.size ≤ 4000)) = true then (rowStr l, 0) else (⟨#[]⟩, 2)) := by
  by_cases h : 1000 < l.length
  · rw [if_pos h]
    exact Ev.congr (f := fun _ => some (⟨#[]⟩, 2)) (fun k => by unfold sextonref01_Row.f; rw [if_pos (by omega)]) (Ev.now _)
  · rw [if_neg h]
    have hn := refNumber (l.length : Int)
    rw [if_pos (by omega)] at hn
    have hs := numStr_size (l.length : Int)
    refine Ev.congr (f := fun k => (sextonref01_Number.f k (l.length : Int)).bind fun bt118 => (sextonref01_Row.l0 k l bt118.1 0)) (fun k => by unfold sextonref01_Row.f; rw [if_neg (by omega)]) ?_
    exact Ev.bind hn (refRow_l0 l (by omega) l.length 0 (numStr (l.length : Int)) (by omega) (by omega))

theorem refTexts_l0 (a b : List ByteArray) (hl : a.length = b.length) (hm : a.length ≤ 9223372036854775806) (d : Nat) : ∀ k : Nat, k + d = a.length → Ev (fun r => sextonref01_Texts.l0 r a b (k : Int)) (decide (a.drop k = b.drop k)) := by
  induction d with
  | zero =>
    intro k hk
    have h1 : a.drop k = [] := List.drop_of_length_le (by omega)
    have h2 : b.drop k = [] := List.drop_of_length_le (by omega)
    rw [h1, h2]
    exact Ev.step (f := fun _ => some true) (fun r => by simp only [sextonref01_Texts.l0]; rw [if_neg (by omega)]) (Ev.now _)
  | succ d ih =>
    intro k hk
    have ha : k < a.length := by omega
    have hb : k < b.length := by omega
    have e1 : a.drop k = a[k] :: a.drop (k + 1) := List.drop_eq_getElem_cons ha
    have e2 : b.drop k = b[k] :: b.drop (k + 1) := List.drop_eq_getElem_cons hb
    by_cases he : a[k] = b[k]
    · refine Ev.step (f := fun r => sextonref01_Texts.l0 r a b ((k + 1 : Nat) : Int)) (fun r => ?_) ?_
      · simp only [sextonref01_Texts.l0]
        rw [if_pos (by omega), if_pos (by omega), if_pos (by omega), rd_string a k ha, rd_string b k hb, if_pos (by rw [he]), wrap_id (by omega) (by omega)]
        rfl
      · have := ih (k + 1) (by omega)
        rw [e1, e2, he]
        simp only [List.cons.injEq, true_and]
        exact this
    · refine Ev.step (f := fun _ => some false) (fun r => ?_) ?_
      · simp only [sextonref01_Texts.l0]
        rw [if_pos (by omega), if_pos (by omega), if_pos (by omega), rd_string a k ha, rd_string b k hb, if_neg (fun h => he (toList_inj h))]
      · rw [e1, e2, decide_eq_false (fun h => he (List.cons.inj h).1)]
        exact Ev.now _
theorem refTexts (a b : List ByteArray) (hm : a.length ≤ 9223372036854775806) : Ev (fun r => sextonref01_Texts.f r a b) (decide (a = b)) := by
  by_cases hl : a.length = b.length
  · refine Ev.congr (f := fun r => sextonref01_Texts.l0 r a b 0) (fun r => by unfold sextonref01_Texts.f; rw [if_pos (by omega)]) ?_
    have := refTexts_l0 a b hl hm a.length 0 (by omega)
    simpa using this
  · rw [decide_eq_false (fun h => hl (by rw [h]))]
    exact Ev.congr (f := fun _ => some false) (fun r => by unfold sextonref01_Texts.f; rw [if_neg (by omega)]) (Ev.now _)
theorem refOwn (l : List ByteArray) (h : l.length < 8796093022208) : sextonref01_Own.f l = some l := by
  unfold sextonref01_Own.f
  rw [if_pos (by simpa using h)]
  rfl
end Go.Proofs.Ytfejidinfcmfjaa.P
-- Written by a program of this session (xprint.py) over the kit's print.py.
namespace Go.Proofs.Ytfejidinfcmfjaa.P
open Go.RowKit Go.Proofs.YtfejidinfcmfjaaW.PrintWords Go.Proofs.YtfejidinfcmfjaaW.PrintLast Go.Proofs.YtfejidinfcmfjaaW.PrintMore
attribute [local go_sem] max2_int min2_int max_two min_two max_three min_three max_four min_four   -- for this text's walks alone
set_option linter.unusedVariables false
set_option linter.unusedSimpArgs false

/-! ### sextonref23_Same: function 26 -/
def sextonref23_Same.f (k : Nat) (a0_0 : Int) (a0_1 : Int) (a0_2 : Int) (a0_3 : Int) (a0_4 : Int) (a0_5 : Int) (a0_6 : Int) (l0_7 : List ByteArray) (a1_0 : Int) (a1_1 : Int) (a1_2 : Int) (a1_3 : Int) (a1_4 : Int) (a1_5 : Int) (a1_6 : Int) (l1_7 : List ByteArray) : Option (Bool) := if a0_0 = a1_0 then (if a0_1 = a1_1 then (if a0_2 = a1_2 then (if a0_3 = a1_3 then (if a0_4 = a1_4 then (if a0_5 = a1_5 then (if a0_6 = a1_6 then ((sextonref01_Texts.f k l0_7 l1_7).bind fun t290 => (some t290)) else (some false)) else (some false)) else (some false)) else (some false)) else (some false)) else (some false)) else (some false)
theorem sextonref23_Same.mono : ∀ a0 a1 a2 a3 a4 a5 a6 a7 a8 a9 a10 a11 a12 a13 a14 a15 k, LeO (sextonref23_Same.f k a0 a1 a2 a3 a4 a5 a6 a7 a8 a9 a10 a11 a12 a13 a14 a15) (sextonref23_Same.f (k + 1) a0 a1 a2 a3 a4 a5 a6 a7 a8 a9 a10 a11 a12 a13 a14 a15) := by
  intro a0 a1 a2 a3 a4 a5 a6 a7 a8 a9 a10 a11 a12 a13 a14 a15 k
  unfold sextonref23_Same.f
  repeat' first
      | (with_reducible exact sextonref01_Texts.mono _ _ _)
      | (with_reducible exact LeO.refl _)
      | (with_reducible exact LeO.none _)
      | (with_reducible refine LeO.ite ?_ ?_)
      | (with_reducible refine LeO.bind ?_ (fun _ => ?_))
      | exact sextonref01_Texts.mono _ _ _
      | exact LeO.none _
      | refine LeO.ite ?_ ?_
      | refine LeO.bind ?_ (fun _ => ?_)
set_option maxHeartbeats 8000000 in
set_option maxRecDepth 100000 in
theorem sextonref23_Same.calls (k : Nat) (a0_0 : Int) (a0_1 : Int) (a0_2 : Int) (a0_3 : Int) (a0_4 : Int) (a0_5 : Int) (a0_6 : Int) (A0_7 : Option Addr) (c0_7 : Nat) (l0_7 : List ByteArray) (a1_0 : Int) (a1_1 : Int) (a1_2 : Int) (a1_3 : Int) (a1_4 : Int) (a1_5 : Int) (a1_6 : Int) (A1_7 : Option Addr) (c1_7 : Nat) (l1_7 : List ByteArray) (r : Bool) (w : World) (hr0_7 : Kd.C Kd.string w A0_7 l0_7.length l0_7) (hc0_7 : l0_7.length ≤ c0_7) (hr1_7 : Kd.C Kd.string w A1_7 l1_7.length l1_7) (hc1_7 : l1_7.length ≤ c1_7) (h : sextonref23_Same.f k a0_0 a0_1 a0_2 a0_3 a0_4 a0_5 a0_6 l0_7 a1_0 a1_1 a1_2 a1_3 a1_4 a1_5 a1_6 l1_7 = some r) :
    Calls Try.prog 26 #[.agg #[.int .i64 a0_0, .int .i64 a0_1, .int .i64 a0_2, .int .i64 a0_3, .int .i64 a0_4, .int .i64 a0_5, .int .i64 a0_6, .slice A0_7 l0_7.length c0_7], .agg #[.int .i64 a1_0, .int .i64 a1_1, .int .i64 a1_2, .int .i64 a1_3, .int .i64 a1_4, .int .i64 a1_5, .int .i64 a1_6, .slice A1_7 l1_7.length c1_7]] w fun e w' => e = .returned (.bool r) ∧ Below w.heap.size w w' := by
  have hu29 := Try.underlying29
  have HR0_7 := Aside0.mk hr0_7
  have HC0_7 := Aside0.mk hc0_7
  clear hr0_7 hc0_7
  have HR1_7 := Aside0.mk hr1_7
  have HC1_7 := Aside0.mk hc1_7
  clear hr1_7 hc1_7
  have HB := Aside0.mk (Below.refl w.heap.size w)
  have H : (if a0_0 = a1_0 then (if a0_1 = a1_1 then (if a0_2 = a1_2 then (if a0_3 = a1_3 then (if a0_4 = a1_4 then (if a0_5 = a1_5 then (if a0_6 = a1_6 then ((sextonref01_Texts.f k l0_7 l1_7).bind fun t290 => (some t290)) else (some false)) else (some false)) else (some false)) else (some false)) else (some false)) else (some false)) else (some false)) = some r := h
  clear h
  by_cases c3 : a0_0 = a1_0
  · rw [if_pos c3] at H
    have c3b0 : (a0_0 == a1_0) = true := beq_iff_eq.mpr c3
    have c3b1 : (a0_0 != a1_0) = false := bne_eq_false_iff_eq.mpr c3
    clear c3
    by_cases c4 : a0_1 = a1_1
    · rw [if_pos c4] at H
      have c4b0 : (a0_1 == a1_1) = true := beq_iff_eq.mpr c4
      have c4b1 : (a0_1 != a1_1) = false := bne_eq_false_iff_eq.mpr c4
      clear c4
      by_cases c5 : a0_2 = a1_2
      · rw [if_pos c5] at H
        have c5b0 : (a0_2 == a1_2) = true := beq_iff_eq.mpr c5
        have c5b1 : (a0_2 != a1_2) = false := bne_eq_false_iff_eq.mpr c5
        clear c5
        by_cases c6 : a0_3 = a1_3
        · rw [if_pos c6] at H
          have c6b0 : (a0_3 == a1_3) = true := beq_iff_eq.mpr c6
          have c6b1 : (a0_3 != a1_3) = false := bne_eq_false_iff_eq.mpr c6
          clear c6
          by_cases c7 : a0_4 = a1_4
          · rw [if_pos c7] at H
            have c7b0 : (a0_4 == a1_4) = true := beq_iff_eq.mpr c7
            have c7b1 : (a0_4 != a1_4) = false := bne_eq_false_iff_eq.mpr c7
            clear c7
            by_cases c8 : a0_5 = a1_5
            · rw [if_pos c8] at H
              have c8b0 : (a0_5 == a1_5) = true := beq_iff_eq.mpr c8
              have c8b1 : (a0_5 != a1_5) = false := bne_eq_false_iff_eq.mpr c8
              clear c8
              by_cases c9 : a0_6 = a1_6
              · rw [if_pos c9] at H
                have c9b0 : (a0_6 == a1_6) = true := beq_iff_eq.mpr c9
                have c9b1 : (a0_6 != a1_6) = false := bne_eq_false_iff_eq.mpr c9
                clear c9
                replace H := Option.bind_eq_some_iff.mp H
                obtain ⟨t290, A100, H⟩ := H
                replace H : (some t290) = some r := H
                have A10 := Aside0.mk A100
                clear A100
                obtain rfl := Option.some.inj H
                go_enter Try.func26, Try.ntmps26
                go_wp2_with (first | ((with_reducible refine gate_dst (N := 2) rfl ?_); refine box_event ?hg (N := 2) ?hd (cs := #[.int .i64 a0_0, .int .i64 a0_1, .int .i64 a0_2, .int .i64 a0_3, .int .i64 a0_4, .int .i64 a0_5, .int .i64 a0_6, .slice A0_7 l0_7.length c0_7]) (t := 29) ?hr ?_; (case hd => rfl); (case hg => rfl); (case hr => first | (go_simp; done) | (go_simp; rfl)); intro gb288 hg w11 hbox hb; have n0_ := Aside0.mk (below_step (by repeat (first | (with_reducible first | exact HB.out | apply below_alloc | apply pw_below_drewN | apply below_drew1) | exact HB.out)) hb); have n1_ := Aside0.mk (hbox); have n2_ := Aside0.mk ((by rw [hg]; exact (below_size (by repeat (first | (with_reducible first | exact HB.out | apply below_alloc | apply pw_below_drewN | apply below_drew1) | exact HB.out))) : w.heap.size ≤ gb288)); have n3_ := Aside0.mk ((by rw [hg]; exact (below_size (by repeat (first | (with_reducible first | exact HB.out | apply below_alloc | apply pw_below_drewN | apply below_drew1) | exact HB.out))) : w.heap.size ≤ gb288)); clear HB; have HB := n0_; have BK288 := n1_; have GW288 := n2_; have GE288 := n3_; clear n0_ n1_ n2_ n3_; clear hb hbox hg) | ((with_reducible refine gate_dst (N := 3) rfl ?_); refine box_event ?hg (N := 3) ?hd (cs := #[.int .i64 a1_0, .int .i64 a1_1, .int .i64 a1_2, .int .i64 a1_3, .int .i64 a1_4, .int .i64 a1_5, .int .i64 a1_6, .slice A1_7 l1_7.length c1_7]) (t := 29) ?hr ?_; (case hd => rfl); (case hg => rfl); (case hr => first | (go_simp; done) | (go_simp; rfl)); intro gb289 hg w12 hbox hb; have n0_ := Aside0.mk (blk_below (g := gb288) (o := .cells #[.int .i64 a0_0, .int .i64 a0_1, .int .i64 a0_2, .int .i64 a0_3, .int .i64 a0_4, .int .i64 a0_5, .int .i64 a0_6, .slice A0_7 l0_7.length c0_7] 29 (0, 0)) (by (with_reducible repeat (first | refine blk_drewN ?_ _ | refine blk_drew ?_ | refine blk_alloc ?_ _)); exact BK288.out) hb); have n1_ := Aside0.mk (below_step (by repeat (first | (with_reducible first | exact HB.out | apply below_alloc | apply pw_below_drewN | apply below_drew1 | refine below_set ?_ GE288.out) | exact HB.out)) hb); have n2_ := Aside0.mk (hbox); have n3_ := Aside0.mk ((by rw [hg]; exact (below_size (by repeat (first | (with_reducible first | exact HB.out | apply below_alloc | apply pw_below_drewN | apply below_drew1 | refine below_set ?_ GE288.out) | exact HB.out))) : w.heap.size ≤ gb289)); have n4_ := Aside0.mk ((by rw [hg]; exact (below_size (by repeat (first | (with_reducible first | exact HB.out | apply below_alloc | apply pw_below_drewN | apply below_drew1 | refine below_set ?_ GE288.out) | exact HB.out))) : w.heap.size ≤ gb289)); have n5_ := Aside0.mk ((by rw [hg]; exact Nat.ne_of_lt (blk_lt (g := gb288) (o := .cells #[.int .i64 a0_0, .int .i64 a0_1, .int .i64 a0_2, .int .i64 a0_3, .int .i64 a0_4, .int .i64 a0_5, .int .i64 a0_6, .slice A0_7 l0_7.length c0_7] 29 (0, 0)) (by (with_reducible repeat (first | refine blk_drewN ?_ _ | refine blk_drew ?_ | refine blk_alloc ?_ _)); exact BK288.out)) : gb288 ≠ gb289)); have n6_ := Aside0.mk ((by rw [hg]; exact Nat.ne_of_gt (blk_lt (g := gb288) (o := .cells #[.int .i64 a0_0, .int .i64 a0_1, .int .i64 a0_2, .int .i64 a0_3, .int .i64 a0_4, .int .i64 a0_5, .int .i64 a0_6, .slice A0_7 l0_7.length c0_7] 29 (0, 0)) (by (with_reducible repeat (first | refine blk_drewN ?_ _ | refine blk_drew ?_ | refine blk_alloc ?_ _)); exact BK288.out)) : gb289 ≠ gb288)); clear BK288; clear HB; have BK288 := n0_; have HB := n1_; have BK289 := n2_; have GW289 := n3_; have GE289 := n4_; have NB288_289 := n5_; have NB289_288 := n6_; clear n0_ n1_ n2_ n3_ n4_ n5_ n6_; clear hb hbox hg; have hnb13 := NB288_289.out; have hnc13 := NB289_288.out; have hcz14_0 : w12.cell? ⟨gb288, 0, none⟩ = some (.int .i64 a0_0) := (blk_cell BK288.out 0).trans rfl; have hcz14_1 : w12.cell? ⟨gb288, 1, none⟩ = some (.int .i64 a0_1) := (blk_cell BK288.out 1).trans rfl; have hcz14_2 : w12.cell? ⟨gb288, 2, none⟩ = some (.int .i64 a0_2) := (blk_cell BK288.out 2).trans rfl; have hcz14_3 : w12.cell? ⟨gb288, 3, none⟩ = some (.int .i64 a0_3) := (blk_cell BK288.out 3).trans rfl; have hcz14_4 : w12.cell? ⟨gb288, 4, none⟩ = some (.int .i64 a0_4) := (blk_cell BK288.out 4).trans rfl; have hcz14_5 : w12.cell? ⟨gb288, 5, none⟩ = some (.int .i64 a0_5) := (blk_cell BK288.out 5).trans rfl; have hcz14_6 : w12.cell? ⟨gb288, 6, none⟩ = some (.int .i64 a0_6) := (blk_cell BK288.out 6).trans rfl; have hcz14_7 : w12.cell? ⟨gb288, 7, none⟩ = some (.slice A0_7 l0_7.length c0_7) := (blk_cell BK288.out 7).trans rfl; have hfz14_0 := blk_frozen BK288.out 0; have hfz14_1 := blk_frozen BK288.out 1; have hfz14_2 := blk_frozen BK288.out 2; have hfz14_3 := blk_frozen BK288.out 3; have hfz14_4 := blk_frozen BK288.out 4; have hfz14_5 := blk_frozen BK288.out 5; have hfz14_6 := blk_frozen BK288.out 6; have hfz14_7 := blk_frozen BK288.out 7; have hcz15_0 : w12.cell? ⟨gb289, 0, none⟩ = some (.int .i64 a1_0) := (blk_cell BK289.out 0).trans rfl; have hcz15_1 : w12.cell? ⟨gb289, 1, none⟩ = some (.int .i64 a1_1) := (blk_cell BK289.out 1).trans rfl; have hcz15_2 : w12.cell? ⟨gb289, 2, none⟩ = some (.int .i64 a1_2) := (blk_cell BK289.out 2).trans rfl; have hcz15_3 : w12.cell? ⟨gb289, 3, none⟩ = some (.int .i64 a1_3) := (blk_cell BK289.out 3).trans rfl; have hcz15_4 : w12.cell? ⟨gb289, 4, none⟩ = some (.int .i64 a1_4) := (blk_cell BK289.out 4).trans rfl; have hcz15_5 : w12.cell? ⟨gb289, 5, none⟩ = some (.int .i64 a1_5) := (blk_cell BK289.out 5).trans rfl; have hcz15_6 : w12.cell? ⟨gb289, 6, none⟩ = some (.int .i64 a1_6) := (blk_cell BK289.out 6).trans rfl; have hcz15_7 : w12.cell? ⟨gb289, 7, none⟩ = some (.slice A1_7 l1_7.length c1_7) := (blk_cell BK289.out 7).trans rfl; have hfz15_0 := blk_frozen BK289.out 0; have hfz15_1 := blk_frozen BK289.out 1; have hfz15_2 := blk_frozen BK289.out 2; have hfz15_3 := blk_frozen BK289.out 3; have hfz15_4 := blk_frozen BK289.out 4; have hfz15_5 := blk_frozen BK289.out 5; have hfz15_6 := blk_frozen BK289.out 6; have hfz15_7 := blk_frozen BK289.out 7) | (go_at_call 56; (with_reducible refine (sextonref01_Texts.calls k _ _ l0_7 _ _ l1_7 t290 _ ?side1 ?side2 ?side3 ?side4 A10.out).mono ?_); (case side1 => repeat (first | exact (Kd.C_below HR0_7.out HB.out) | (with_reducible refine Kd.C_alloc ?_ _) | (with_reducible refine Kd.C_drewN ?_ _) | (with_reducible refine Kd.C_drew ?_))); (case side2 => exact HC0_7.out); (case side3 => repeat (first | exact (Kd.C_below HR1_7.out HB.out) | (with_reducible refine Kd.C_alloc ?_ _) | (with_reducible refine Kd.C_drewN ?_ _) | (with_reducible refine Kd.C_drew ?_))); (case side4 => exact HC1_7.out); rintro e w' ⟨rfl, ⟨nd, rfl⟩⟩))
                go_ret
                exact ⟨by first | rfl | (simp [errW_none, errW_some] <;> rfl) | (simp [*, errW_none, errW_some] <;> rfl), by repeat (first | (with_reducible first | exact HB.out | apply below_alloc | apply pw_below_drewN | apply below_drew1 | refine below_set ?_ GE288.out | refine below_set ?_ GE289.out) | exact HB.out)⟩
              · rw [if_neg c9] at H
                have c9b0 : (a0_6 == a1_6) = false := beq_eq_false_iff_ne.mpr c9
                have c9b1 : (a0_6 != a1_6) = true := bne_iff_ne.mpr c9
                obtain rfl := Option.some.inj H
                go_enter Try.func26, Try.ntmps26
                go_wp2_with (first | ((with_reducible refine gate_dst (N := 2) rfl ?_); refine box_event ?hg (N := 2) ?hd (cs := #[.int .i64 a0_0, .int .i64 a0_1, .int .i64 a0_2, .int .i64 a0_3, .int .i64 a0_4, .int .i64 a0_5, .int .i64 a0_6, .slice A0_7 l0_7.length c0_7]) (t := 29) ?hr ?_; (case hd => rfl); (case hg => rfl); (case hr => first | (go_simp; done) | (go_simp; rfl)); intro gb288 hg w16 hbox hb; have n0_ := Aside0.mk (below_step (by repeat (first | (with_reducible first | exact HB.out | apply below_alloc | apply pw_below_drewN | apply below_drew1) | exact HB.out)) hb); have n1_ := Aside0.mk (hbox); have n2_ := Aside0.mk ((by rw [hg]; exact (below_size (by repeat (first | (with_reducible first | exact HB.out | apply below_alloc | apply pw_below_drewN | apply below_drew1) | exact HB.out))) : w.heap.size ≤ gb288)); have n3_ := Aside0.mk ((by rw [hg]; exact (below_size (by repeat (first | (with_reducible first | exact HB.out | apply below_alloc | apply pw_below_drewN | apply below_drew1) | exact HB.out))) : w.heap.size ≤ gb288)); clear HB; have HB := n0_; have BK288 := n1_; have GW288 := n2_; have GE288 := n3_; clear n0_ n1_ n2_ n3_; clear hb hbox hg) | ((with_reducible refine gate_dst (N := 3) rfl ?_); refine box_event ?hg (N := 3) ?hd (cs := #[.int .i64 a1_0, .int .i64 a1_1, .int .i64 a1_2, .int .i64 a1_3, .int .i64 a1_4, .int .i64 a1_5, .int .i64 a1_6, .slice A1_7 l1_7.length c1_7]) (t := 29) ?hr ?_; (case hd => rfl); (case hg => rfl); (case hr => first | (go_simp; done) | (go_simp; rfl)); intro gb289 hg w17 hbox hb; have n0_ := Aside0.mk (blk_below (g := gb288) (o := .cells #[.int .i64 a0_0, .int .i64 a0_1, .int .i64 a0_2, .int .i64 a0_3, .int .i64 a0_4, .int .i64 a0_5, .int .i64 a0_6, .slice A0_7 l0_7.length c0_7] 29 (0, 0)) (by (with_reducible repeat (first | refine blk_drewN ?_ _ | refine blk_drew ?_ | refine blk_alloc ?_ _)); exact BK288.out) hb); have n1_ := Aside0.mk (below_step (by repeat (first | (with_reducible first | exact HB.out | apply below_alloc | apply pw_below_drewN | apply below_drew1 | refine below_set ?_ GE288.out) | exact HB.out)) hb); have n2_ := Aside0.mk (hbox); have n3_ := Aside0.mk ((by rw [hg]; exact (below_size (by repeat (first | (with_reducible first | exact HB.out | apply below_alloc | apply pw_below_drewN | apply below_drew1 | refine below_set ?_ GE288.out) | exact HB.out))) : w.heap.size ≤ gb289)); have n4_ := Aside0.mk ((by rw [hg]; exact (below_size (by repeat (first | (with_reducible first | exact HB.out | apply below_alloc | apply pw_below_drewN | apply below_drew1 | refine below_set ?_ GE288.out) | exact HB.out))) : w.heap.size ≤ gb289)); have n5_ := Aside0.mk ((by rw [hg]; exact Nat.ne_of_lt (blk_lt (g := gb288) (o := .cells #[.int .i64 a0_0, .int .i64 a0_1, .int .i64 a0_2, .int .i64 a0_3, .int .i64 a0_4, .int .i64 a0_5, .int .i64 a0_6, .slice A0_7 l0_7.length c0_7] 29 (0, 0)) (by (with_reducible repeat (first | refine blk_drewN ?_ _ | refine blk_drew ?_ | refine blk_alloc ?_ _)); exact BK288.out)) : gb288 ≠ gb289)); have n6_ := Aside0.mk ((by rw [hg]; exact Nat.ne_of_gt (blk_lt (g := gb288) (o := .cells #[.int .i64 a0_0, .int .i64 a0_1, .int .i64 a0_2, .int .i64 a0_3, .int .i64 a0_4, .int .i64 a0_5, .int .i64 a0_6, .slice A0_7 l0_7.length c0_7] 29 (0, 0)) (by (with_reducible repeat (first | refine blk_drewN ?_ _ | refine blk_drew ?_ | refine blk_alloc ?_ _)); exact BK288.out)) : gb289 ≠ gb288)); clear BK288; clear HB; have BK288 := n0_; have HB := n1_; have BK289 := n2_; have GW289 := n3_; have GE289 := n4_; have NB288_289 := n5_; have NB289_288 := n6_; clear n0_ n1_ n2_ n3_ n4_ n5_ n6_; clear hb hbox hg; have hnb18 := NB288_289.out; have hnc18 := NB289_288.out; have hcz19_0 : w17.cell? ⟨gb288, 0, none⟩ = some (.int .i64 a0_0) := (blk_cell BK288.out 0).trans rfl; have hcz19_1 : w17.cell? ⟨gb288, 1, none⟩ = some (.int .i64 a0_1) := (blk_cell BK288.out 1).trans rfl; have hcz19_2 : w17.cell? ⟨gb288, 2, none⟩ = some (.int .i64 a0_2) := (blk_cell BK288.out 2).trans rfl; have hcz19_3 : w17.cell? ⟨gb288, 3, none⟩ = some (.int .i64 a0_3) := (blk_cell BK288.out 3).trans rfl; have hcz19_4 : w17.cell? ⟨gb288, 4, none⟩ = some (.int .i64 a0_4) := (blk_cell BK288.out 4).trans rfl; have hcz19_5 : w17.cell? ⟨gb288, 5, none⟩ = some (.int .i64 a0_5) := (blk_cell BK288.out 5).trans rfl; have hcz19_6 : w17.cell? ⟨gb288, 6, none⟩ = some (.int .i64 a0_6) := (blk_cell BK288.out 6).trans rfl; have hcz19_7 : w17.cell? ⟨gb288, 7, none⟩ = some (.slice A0_7 l0_7.length c0_7) := (blk_cell BK288.out 7).trans rfl; have hfz19_0 := blk_frozen BK288.out 0; have hfz19_1 := blk_frozen BK288.out 1; have hfz19_2 := blk_frozen BK288.out 2; have hfz19_3 := blk_frozen BK288.out 3; have hfz19_4 := blk_frozen BK288.out 4; have hfz19_5 := blk_frozen BK288.out 5; have hfz19_6 := blk_frozen BK288.out 6; have hfz19_7 := blk_frozen BK288.out 7; have hcz20_0 : w17.cell? ⟨gb289, 0, none⟩ = some (.int .i64 a1_0) := (blk_cell BK289.out 0).trans rfl; have hcz20_1 : w17.cell? ⟨gb289, 1, none⟩ = some (.int .i64 a1_1) := (blk_cell BK289.out 1).trans rfl; have hcz20_2 : w17.cell? ⟨gb289, 2, none⟩ = some (.int .i64 a1_2) := (blk_cell BK289.out 2).trans rfl; have hcz20_3 : w17.cell? ⟨gb289, 3, none⟩ = some (.int .i64 a1_3) := (blk_cell BK289.out 3).trans rfl; have hcz20_4 : w17.cell? ⟨gb289, 4, none⟩ = some (.int .i64 a1_4) := (blk_cell BK289.out 4).trans rfl; have hcz20_5 : w17.cell? ⟨gb289, 5, none⟩ = some (.int .i64 a1_5) := (blk_cell BK289.out 5).trans rfl; have hcz20_6 : w17.cell? ⟨gb289, 6, none⟩ = some (.int .i64 a1_6) := (blk_cell BK289.out 6).trans rfl; have hcz20_7 : w17.cell? ⟨gb289, 7, none⟩ = some (.slice A1_7 l1_7.length c1_7) := (blk_cell BK289.out 7).trans rfl; have hfz20_0 := blk_frozen BK289.out 0; have hfz20_1 := blk_frozen BK289.out 1; have hfz20_2 := blk_frozen BK289.out 2; have hfz20_3 := blk_frozen BK289.out 3; have hfz20_4 := blk_frozen BK289.out 4; have hfz20_5 := blk_frozen BK289.out 5; have hfz20_6 := blk_frozen BK289.out 6; have hfz20_7 := blk_frozen BK289.out 7))
                go_ret
                exact ⟨by first | rfl | (simp [errW_none, errW_some] <;> rfl) | (simp [*, errW_none, errW_some] <;> rfl), by repeat (first | (with_reducible first | exact HB.out | apply below_alloc | apply pw_below_drewN | apply below_drew1 | refine below_set ?_ GE288.out | refine below_set ?_ GE289.out) | exact HB.out)⟩
            · rw [if_neg c8] at H
              have c8b0 : (a0_5 == a1_5) = false := beq_eq_false_iff_ne.mpr c8
              have c8b1 : (a0_5 != a1_5) = true := bne_iff_ne.mpr c8
              obtain rfl := Option.some.inj H
              go_enter Try.func26, Try.ntmps26
              go_wp2_with (first | ((with_reducible refine gate_dst (N := 2) rfl ?_); refine box_event ?hg (N := 2) ?hd (cs := #[.int .i64 a0_0, .int .i64 a0_1, .int .i64 a0_2, .int .i64 a0_3, .int .i64 a0_4, .int .i64 a0_5, .int .i64 a0_6, .slice A0_7 l0_7.length c0_7]) (t := 29) ?hr ?_; (case hd => rfl); (case hg => rfl); (case hr => first | (go_simp; done) | (go_simp; rfl)); intro gb288 hg w21 hbox hb; have n0_ := Aside0.mk (below_step (by repeat (first | (with_reducible first | exact HB.out | apply below_alloc | apply pw_below_drewN | apply below_drew1) | exact HB.out)) hb); have n1_ := Aside0.mk (hbox); have n2_ := Aside0.mk ((by rw [hg]; exact (below_size (by repeat (first | (with_reducible first | exact HB.out | apply below_alloc | apply pw_below_drewN | apply below_drew1) | exact HB.out))) : w.heap.size ≤ gb288)); have n3_ := Aside0.mk ((by rw [hg]; exact (below_size (by repeat (first | (with_reducible first | exact HB.out | apply below_alloc | apply pw_below_drewN | apply below_drew1) | exact HB.out))) : w.heap.size ≤ gb288)); clear HB; have HB := n0_; have BK288 := n1_; have GW288 := n2_; have GE288 := n3_; clear n0_ n1_ n2_ n3_; clear hb hbox hg) | ((with_reducible refine gate_dst (N := 3) rfl ?_); refine box_event ?hg (N := 3) ?hd (cs := #[.int .i64 a1_0, .int .i64 a1_1, .int .i64 a1_2, .int .i64 a1_3, .int .i64 a1_4, .int .i64 a1_5, .int .i64 a1_6, .slice A1_7 l1_7.length c1_7]) (t := 29) ?hr ?_; (case hd => rfl); (case hg => rfl); (case hr => first | (go_simp; done) | (go_simp; rfl)); intro gb289 hg w22 hbox hb; have n0_ := Aside0.mk (blk_below (g := gb288) (o := .cells #[.int .i64 a0_0, .int .i64 a0_1, .int .i64 a0_2, .int .i64 a0_3, .int .i64 a0_4, .int .i64 a0_5, .int .i64 a0_6, .slice A0_7 l0_7.length c0_7] 29 (0, 0)) (by (with_reducible repeat (first | refine blk_drewN ?_ _ | refine blk_drew ?_ | refine blk_alloc ?_ _)); exact BK288.out) hb); have n1_ := Aside0.mk (below_step (by repeat (first | (with_reducible first | exact HB.out | apply below_alloc | apply pw_below_drewN | apply below_drew1 | refine below_set ?_ GE288.out) | exact HB.out)) hb); have n2_ := Aside0.mk (hbox); have n3_ := Aside0.mk ((by rw [hg]; exact (below_size (by repeat (first | (with_reducible first | exact HB.out | apply below_alloc | apply pw_below_drewN | apply below_drew1 | refine below_set ?_ GE288.out) | exact HB.out))) : w.heap.size ≤ gb289)); have n4_ := Aside0.mk ((by rw [hg]; exact (below_size (by repeat (first | (with_reducible first | exact HB.out | apply below_alloc | apply pw_below_drewN | apply below_drew1 | refine below_set ?_ GE288.out) | exact HB.out))) : w.heap.size ≤ gb289)); have n5_ := Aside0.mk ((by rw [hg]; exact Nat.ne_of_lt (blk_lt (g := gb288) (o := .cells #[.int .i64 a0_0, .int .i64 a0_1, .int .i64 a0_2, .int .i64 a0_3, .int .i64 a0_4, .int .i64 a0_5, .int .i64 a0_6, .slice A0_7 l0_7.length c0_7] 29 (0, 0)) (by (with_reducible repeat (first | refine blk_drewN ?_ _ | refine blk_drew ?_ | refine blk_alloc ?_ _)); exact BK288.out)) : gb288 ≠ gb289)); have n6_ := Aside0.mk ((by rw [hg]; exact Nat.ne_of_gt (blk_lt (g := gb288) (o := .cells #[.int .i64 a0_0, .int .i64 a0_1, .int .i64 a0_2, .int .i64 a0_3, .int .i64 a0_4, .int .i64 a0_5, .int .i64 a0_6, .slice A0_7 l0_7.length c0_7] 29 (0, 0)) (by (with_reducible repeat (first | refine blk_drewN ?_ _ | refine blk_drew ?_ | refine blk_alloc ?_ _)); exact BK288.out)) : gb289 ≠ gb288)); clear BK288; clear HB; have BK288 := n0_; have HB := n1_; have BK289 := n2_; have GW289 := n3_; have GE289 := n4_; have NB288_289 := n5_; have NB289_288 := n6_; clear n0_ n1_ n2_ n3_ n4_ n5_ n6_; clear hb hbox hg; have hnb23 := NB288_289.out; have hnc23 := NB289_288.out; have hcz24_0 : w22.cell? ⟨gb288, 0, none⟩ = some (.int .i64 a0_0) := (blk_cell BK288.out 0).trans rfl; have hcz24_1 : w22.cell? ⟨gb288, 1, none⟩ = some (.int .i64 a0_1) := (blk_cell BK288.out 1).trans rfl; have hcz24_2 : w22.cell? ⟨gb288, 2, none⟩ = some (.int .i64 a0_2) := (blk_cell BK288.out 2).trans rfl; have hcz24_3 : w22.cell? ⟨gb288, 3, none⟩ = some (.int .i64 a0_3) := (blk_cell BK288.out 3).trans rfl; have hcz24_4 : w22.cell? ⟨gb288, 4, none⟩ = some (.int .i64 a0_4) := (blk_cell BK288.out 4).trans rfl; have hcz24_5 : w22.cell? ⟨gb288, 5, none⟩ = some (.int .i64 a0_5) := (blk_cell BK288.out 5).trans rfl; have hcz24_6 : w22.cell? ⟨gb288, 6, none⟩ = some (.int .i64 a0_6) := (blk_cell BK288.out 6).trans rfl; have hcz24_7 : w22.cell? ⟨gb288, 7, none⟩ = some (.slice A0_7 l0_7.length c0_7) := (blk_cell BK288.out 7).trans rfl; have hfz24_0 := blk_frozen BK288.out 0; have hfz24_1 := blk_frozen BK288.out 1; have hfz24_2 := blk_frozen BK288.out 2; have hfz24_3 := blk_frozen BK288.out 3; have hfz24_4 := blk_frozen BK288.out 4; have hfz24_5 := blk_frozen BK288.out 5; have hfz24_6 := blk_frozen BK288.out 6; have hfz24_7 := blk_frozen BK288.out 7; have hcz25_0 : w22.cell? ⟨gb289, 0, none⟩ = some (.int .i64 a1_0) := (blk_cell BK289.out 0).trans rfl; have hcz25_1 : w22.cell? ⟨gb289, 1, none⟩ = some (.int .i64 a1_1) := (blk_cell BK289.out 1).trans rfl; have hcz25_2 : w22.cell? ⟨gb289, 2, none⟩ = some (.int .i64 a1_2) := (blk_cell BK289.out 2).trans rfl; have hcz25_3 : w22.cell? ⟨gb289, 3, none⟩ = some (.int .i64 a1_3) := (blk_cell BK289.out 3).trans rfl; have hcz25_4 : w22.cell? ⟨gb289, 4, none⟩ = some (.int .i64 a1_4) := (blk_cell BK289.out 4).trans rfl; have hcz25_5 : w22.cell? ⟨gb289, 5, none⟩ = some (.int .i64 a1_5) := (blk_cell BK289.out 5).trans rfl; have hcz25_6 : w22.cell? ⟨gb289, 6, none⟩ = some (.int .i64 a1_6) := (blk_cell BK289.out 6).trans rfl; have hcz25_7 : w22.cell? ⟨gb289, 7, none⟩ = some (.slice A1_7 l1_7.length c1_7) := (blk_cell BK289.out 7).trans rfl; have hfz25_0 := blk_frozen BK289.out 0; have hfz25_1 := blk_frozen BK289.out 1; have hfz25_2 := blk_frozen BK289.out 2; have hfz25_3 := blk_frozen BK289.out 3; have hfz25_4 := blk_frozen BK289.out 4; have hfz25_5 := blk_frozen BK289.out 5; have hfz25_6 := blk_frozen BK289.out 6; have hfz25_7 := blk_frozen BK289.out 7))
              go_ret
              exact ⟨by first | rfl | (simp [errW_none, errW_some] <;> rfl) | (simp [*, errW_none, errW_some] <;> rfl), by repeat (first | (with_reducible first | exact HB.out | apply below_alloc | apply pw_below_drewN | apply below_drew1 | refine below_set ?_ GE288.out | refine below_set ?_ GE289.out) | exact HB.out)⟩
          · rw [if_neg c7] at H
            have c7b0 : (a0_4 == a1_4) = false := beq_eq_false_iff_ne.mpr c7
            have c7b1 : (a0_4 != a1_4) = true := bne_iff_ne.mpr c7
            obtain rfl := Option.some.inj H
            go_enter Try.func26, Try.ntmps26
            go_wp2_with (first | ((with_reducible refine gate_dst (N := 2) rfl ?_); refine box_event ?hg (N := 2) ?hd (cs := #[.int .i64 a0_0, .int .i64 a0_1, .int .i64 a0_2, .int .i64 a0_3, .int .i64 a0_4, .int .i64 a0_5, .int .i64 a0_6, .slice A0_7 l0_7.length c0_7]) (t := 29) ?hr ?_; (case hd => rfl); (case hg => rfl); (case hr => first | (go_simp; done) | (go_simp; rfl)); intro gb288 hg w26 hbox hb; have n0_ := Aside0.mk (below_step (by repeat (first | (with_reducible first | exact HB.out | apply below_alloc | apply pw_below_drewN | apply below_drew1) | exact HB.out)) hb); have n1_ := Aside0.mk (hbox); have n2_ := Aside0.mk ((by rw [hg]; exact (below_size (by repeat (first | (with_reducible first | exact HB.out | apply below_alloc | apply pw_below_drewN | apply below_drew1) | exact HB.out))) : w.heap.size ≤ gb288)); have n3_ := Aside0.mk ((by rw [hg]; exact (below_size (by repeat (first | (with_reducible first | exact HB.out | apply below_alloc | apply pw_below_drewN | apply below_drew1) | exact HB.out))) : w.heap.size ≤ gb288)); clear HB; have HB := n0_; have BK288 := n1_; have GW288 := n2_; have GE288 := n3_; clear n0_ n1_ n2_ n3_; clear hb hbox hg) | ((with_reducible refine gate_dst (N := 3) rfl ?_); refine box_event ?hg (N := 3) ?hd (cs := #[.int .i64 a1_0, .int .i64 a1_1, .int .i64 a1_2, .int .i64 a1_3, .int .i64 a1_4, .int .i64 a1_5, .int .i64 a1_6, .slice A1_7 l1_7.length c1_7]) (t := 29) ?hr ?_; (case hd => rfl); (case hg => rfl); (case hr => first | (go_simp; done) | (go_simp; rfl)); intro gb289 hg w27 hbox hb; have n0_ := Aside0.mk (blk_below (g := gb288) (o := .cells #[.int .i64 a0_0, .int .i64 a0_1, .int .i64 a0_2, .int .i64 a0_3, .int .i64 a0_4, .int .i64 a0_5, .int .i64 a0_6, .slice A0_7 l0_7.length c0_7] 29 (0, 0)) (by (with_reducible repeat (first | refine blk_drewN ?_ _ | refine blk_drew ?_ | refine blk_alloc ?_ _)); exact BK288.out) hb); have n1_ := Aside0.mk (below_step (by repeat (first | (with_reducible first | exact HB.out | apply below_alloc | apply pw_below_drewN | apply below_drew1 | refine below_set ?_ GE288.out) | exact HB.out)) hb); have n2_ := Aside0.mk (hbox); have n3_ := Aside0.mk ((by rw [hg]; exact (below_size (by repeat (first | (with_reducible first | exact HB.out | apply below_alloc | apply pw_below_drewN | apply below_drew1 | refine below_set ?_ GE288.out) | exact HB.out))) : w.heap.size ≤ gb289)); have n4_ := Aside0.mk ((by rw [hg]; exact (below_size (by repeat (first | (with_reducible first | exact HB.out | apply below_alloc | apply pw_below_drewN | apply below_drew1 | refine below_set ?_ GE288.out) | exact HB.out))) : w.heap.size ≤ gb289)); have n5_ := Aside0.mk ((by rw [hg]; exact Nat.ne_of_lt (blk_lt (g := gb288) (o := .cells #[.int .i64 a0_0, .int .i64 a0_1, .int .i64 a0_2, .int .i64 a0_3, .int .i64 a0_4, .int .i64 a0_5, .int .i64 a0_6, .slice A0_7 l0_7.length c0_7] 29 (0, 0)) (by (with_reducible repeat (first | refine blk_drewN ?_ _ | refine blk_drew ?_ | refine blk_alloc ?_ _)); exact BK288.out)) : gb288 ≠ gb289)); have n6_ := Aside0.mk ((by rw [hg]; exact Nat.ne_of_gt (blk_lt (g := gb288) (o := .cells #[.int .i64 a0_0, .int .i64 a0_1, .int .i64 a0_2, .int .i64 a0_3, .int .i64 a0_4, .int .i64 a0_5, .int .i64 a0_6, .slice A0_7 l0_7.length c0_7] 29 (0, 0)) (by (with_reducible repeat (first | refine blk_drewN ?_ _ | refine blk_drew ?_ | refine blk_alloc ?_ _)); exact BK288.out)) : gb289 ≠ gb288)); clear BK288; clear HB; have BK288 := n0_; have HB := n1_; have BK289 := n2_; have GW289 := n3_; have GE289 := n4_; have NB288_289 := n5_; have NB289_288 := n6_; clear n0_ n1_ n2_ n3_ n4_ n5_ n6_; clear hb hbox hg; have hnb28 := NB288_289.out; have hnc28 := NB289_288.out; have hcz29_0 : w27.cell? ⟨gb288, 0, none⟩ = some (.int .i64 a0_0) := (blk_cell BK288.out 0).trans rfl; have hcz29_1 : w27.cell? ⟨gb288, 1, none⟩ = some (.int .i64 a0_1) := (blk_cell BK288.out 1).trans rfl; have hcz29_2 : w27.cell? ⟨gb288, 2, none⟩ = some (.int .i64 a0_2) := (blk_cell BK288.out 2).trans rfl; have hcz29_3 : w27.cell? ⟨gb288, 3, none⟩ = some (.int .i64 a0_3) := (blk_cell BK288.out 3).trans rfl; have hcz29_4 : w27.cell? ⟨gb288, 4, none⟩ = some (.int .i64 a0_4) := (blk_cell BK288.out 4).trans rfl; have hcz29_5 : w27.cell? ⟨gb288, 5, none⟩ = some (.int .i64 a0_5) := (blk_cell BK288.out 5).trans rfl; have hcz29_6 : w27.cell? ⟨gb288, 6, none⟩ = some (.int .i64 a0_6) := (blk_cell BK288.out 6).trans rfl; have hcz29_7 : w27.cell? ⟨gb288, 7, none⟩ = some (.slice A0_7 l0_7.length c0_7) := (blk_cell BK288.out 7).trans rfl; have hfz29_0 := blk_frozen BK288.out 0; have hfz29_1 := blk_frozen BK288.out 1; have hfz29_2 := blk_frozen BK288.out 2; have hfz29_3 := blk_frozen BK288.out 3; have hfz29_4 := blk_frozen BK288.out 4; have hfz29_5 := blk_frozen BK288.out 5; have hfz29_6 := blk_frozen BK288.out 6; have hfz29_7 := blk_frozen BK288.out 7; have hcz30_0 : w27.cell? ⟨gb289, 0, none⟩ = some (.int .i64 a1_0) := (blk_cell BK289.out 0).trans rfl; have hcz30_1 : w27.cell? ⟨gb289, 1, none⟩ = some (.int .i64 a1_1) := (blk_cell BK289.out 1).trans rfl; have hcz30_2 : w27.cell? ⟨gb289, 2, none⟩ = some (.int .i64 a1_2) := (blk_cell BK289.out 2).trans rfl; have hcz30_3 : w27.cell? ⟨gb289, 3, none⟩ = some (.int .i64 a1_3) := (blk_cell BK289.out 3).trans rfl; have hcz30_4 : w27.cell? ⟨gb289, 4, none⟩ = some (.int .i64 a1_4) := (blk_cell BK289.out 4).trans rfl; have hcz30_5 : w27.cell? ⟨gb289, 5, none⟩ = some (.int .i64 a1_5) := (blk_cell BK289.out 5).trans rfl; have hcz30_6 : w27.cell? ⟨gb289, 6, none⟩ = some (.int .i64 a1_6) := (blk_cell BK289.out 6).trans rfl; have hcz30_7 : w27.cell? ⟨gb289, 7, none⟩ = some (.slice A1_7 l1_7.length c1_7) := (blk_cell BK289.out 7).trans rfl; have hfz30_0 := blk_frozen BK289.out 0; have hfz30_1 := blk_frozen BK289.out 1; have hfz30_2 := blk_frozen BK289.out 2; have hfz30_3 := blk_frozen BK289.out 3; have hfz30_4 := blk_frozen BK289.out 4; have hfz30_5 := blk_frozen BK289.out 5; have hfz30_6 := blk_frozen BK289.out 6; have hfz30_7 := blk_frozen BK289.out 7))
            go_ret
            exact ⟨by first | rfl | (simp [errW_none, errW_some] <;> rfl) | (simp [*, errW_none, errW_some] <;> rfl), by repeat (first | (with_reducible first | exact HB.out | apply below_alloc | apply pw_below_drewN | apply below_drew1 | refine below_set ?_ GE288.out | refine below_set ?_ GE289.out) | exact HB.out)⟩
        · rw [if_neg c6] at H
          have c6b0 : (a0_3 == a1_3) = false := beq_eq_false_iff_ne.mpr c6
          have c6b1 : (a0_3 != a1_3) = true := bne_iff_ne.mpr c6
          obtain rfl := Option.some.inj H
          go_enter Try.func26, Try.ntmps26
          go_wp2_with (first | ((with_reducible refine gate_dst (N := 2) rfl ?_); refine box_event ?hg (N := 2) ?hd (cs := #[.int .i64 a0_0, .int .i64 a0_1, .int .i64 a0_2, .int .i64 a0_3, .int .i64 a0_4, .int .i64 a0_5, .int .i64 a0_6, .slice A0_7 l0_7.length c0_7]) (t := 29) ?hr ?_; (case hd => rfl); (case hg => rfl); (case hr => first | (go_simp; done) | (go_simp; rfl)); intro gb288 hg w31 hbox hb; have n0_ := Aside0.mk (below_step (by repeat (first | (with_reducible first | exact HB.out | apply below_alloc | apply pw_below_drewN | apply below_drew1) | exact HB.out)) hb); have n1_ := Aside0.mk (hbox); have n2_ := Aside0.mk ((by rw [hg]; exact (below_size (by repeat (first | (with_reducible first | exact HB.out | apply below_alloc | apply pw_below_drewN | apply below_drew1) | exact HB.out))) : w.heap.size ≤ gb288)); have n3_ := Aside0.mk ((by rw [hg]; exact (below_size (by repeat (first | (with_reducible first | exact HB.out | apply below_alloc | apply pw_below_drewN | apply below_drew1) | exact HB.out))) : w.heap.size ≤ gb288)); clear HB; have HB := n0_; have BK288 := n1_; have GW288 := n2_; have GE288 := n3_; clear n0_ n1_ n2_ n3_; clear hb hbox hg) | ((with_reducible refine gate_dst (N := 3) rfl ?_); refine box_event ?hg (N := 3) ?hd (cs := #[.int .i64 a1_0, .int .i64 a1_1, .int .i64 a1_2, .int .i64 a1_3, .int .i64 a1_4, .int .i64 a1_5, .int .i64 a1_6, .slice A1_7 l1_7.length c1_7]) (t := 29) ?hr ?_; (case hd => rfl); (case hg => rfl); (case hr => first | (go_simp; done) | (go_simp; rfl)); intro gb289 hg w32 hbox hb; have n0_ := Aside0.mk (blk_below (g := gb288) (o := .cells #[.int .i64 a0_0, .int .i64 a0_1, .int .i64 a0_2, .int .i64 a0_3, .int .i64 a0_4, .int .i64 a0_5, .int .i64 a0_6, .slice A0_7 l0_7.length c0_7] 29 (0, 0)) (by (with_reducible repeat (first | refine blk_drewN ?_ _ | refine blk_drew ?_ | refine blk_alloc ?_ _)); exact BK288.out) hb); have n1_ := Aside0.mk (below_step (by repeat (first | (with_reducible first | exact HB.out | apply below_alloc | apply pw_below_drewN | apply below_drew1 | refine below_set ?_ GE288.out) | exact HB.out)) hb); have n2_ := Aside0.mk (hbox); have n3_ := Aside0.mk ((by rw [hg]; exact (below_size (by repeat (first | (with_reducible first | exact HB.out | apply below_alloc | apply pw_below_drewN | apply below_drew1 | refine below_set ?_ GE288.out) | exact HB.out))) : w.heap.size ≤ gb289)); have n4_ := Aside0.mk ((by rw [hg]; exact (below_size (by repeat (first | (with_reducible first | exact HB.out | apply below_alloc | apply pw_below_drewN | apply below_drew1 | refine below_set ?_ GE288.out) | exact HB.out))) : w.heap.size ≤ gb289)); have n5_ := Aside0.mk ((by rw [hg]; exact Nat.ne_of_lt (blk_lt (g := gb288) (o := .cells #[.int .i64 a0_0, .int .i64 a0_1, .int .i64 a0_2, .int .i64 a0_3, .int .i64 a0_4, .int .i64 a0_5, .int .i64 a0_6, .slice A0_7 l0_7.length c0_7] 29 (0, 0)) (by (with_reducible repeat (first | refine blk_drewN ?_ _ | refine blk_drew ?_ | refine blk_alloc ?_ _)); exact BK288.out)) : gb288 ≠ gb289)); have n6_ := Aside0.mk ((by rw [hg]; exact Nat.ne_of_gt (blk_lt (g := gb288) (o := .cells #[.int .i64 a0_0, .int .i64 a0_1, .int .i64 a0_2, .int .i64 a0_3, .int .i64 a0_4, .int .i64 a0_5, .int .i64 a0_6, .slice A0_7 l0_7.length c0_7] 29 (0, 0)) (by (with_reducible repeat (first | refine blk_drewN ?_ _ | refine blk_drew ?_ | refine blk_alloc ?_ _)); exact BK288.out)) : gb289 ≠ gb288)); clear BK288; clear HB; have BK288 := n0_; have HB := n1_; have BK289 := n2_; have GW289 := n3_; have GE289 := n4_; have NB288_289 := n5_; have NB289_288 := n6_; clear n0_ n1_ n2_ n3_ n4_ n5_ n6_; clear hb hbox hg; have hnb33 := NB288_289.out; have hnc33 := NB289_288.out; have hcz34_0 : w32.cell? ⟨gb288, 0, none⟩ = some (.int .i64 a0_0) := (blk_cell BK288.out 0).trans rfl; have hcz34_1 : w32.cell? ⟨gb288, 1, none⟩ = some (.int .i64 a0_1) := (blk_cell BK288.out 1).trans rfl; have hcz34_2 : w32.cell? ⟨gb288, 2, none⟩ = some (.int .i64 a0_2) := (blk_cell BK288.out 2).trans rfl; have hcz34_3 : w32.cell? ⟨gb288, 3, none⟩ = some (.int .i64 a0_3) := (blk_cell BK288.out 3).trans rfl; have hcz34_4 : w32.cell? ⟨gb288, 4, none⟩ = some (.int .i64 a0_4) := (blk_cell BK288.out 4).trans rfl; have hcz34_5 : w32.cell? ⟨gb288, 5, none⟩ = some (.int .i64 a0_5) := (blk_cell BK288.out 5).trans rfl; have hcz34_6 : w32.cell? ⟨gb288, 6, none⟩ = some (.int .i64 a0_6) := (blk_cell BK288.out 6).trans rfl; have hcz34_7 : w32.cell? ⟨gb288, 7, none⟩ = some (.slice A0_7 l0_7.length c0_7) := (blk_cell BK288.out 7).trans rfl; have hfz34_0 := blk_frozen BK288.out 0; have hfz34_1 := blk_frozen BK288.out 1; have hfz34_2 := blk_frozen BK288.out 2; have hfz34_3 := blk_frozen BK288.out 3; have hfz34_4 := blk_frozen BK288.out 4; have hfz34_5 := blk_frozen BK288.out 5; have hfz34_6 := blk_frozen BK288.out 6; have hfz34_7 := blk_frozen BK288.out 7; have hcz35_0 : w32.cell? ⟨gb289, 0, none⟩ = some (.int .i64 a1_0) := (blk_cell BK289.out 0).trans rfl; have hcz35_1 : w32.cell? ⟨gb289, 1, none⟩ = some (.int .i64 a1_1) := (blk_cell BK289.out 1).trans rfl; have hcz35_2 : w32.cell? ⟨gb289, 2, none⟩ = some (.int .i64 a1_2) := (blk_cell BK289.out 2).trans rfl; have hcz35_3 : w32.cell? ⟨gb289, 3, none⟩ = some (.int .i64 a1_3) := (blk_cell BK289.out 3).trans rfl; have hcz35_4 : w32.cell? ⟨gb289, 4, none⟩ = some (.int .i64 a1_4) := (blk_cell BK289.out 4).trans rfl; have hcz35_5 : w32.cell? ⟨gb289, 5, none⟩ = some (.int .i64 a1_5) := (blk_cell BK289.out 5).trans rfl; have hcz35_6 : w32.cell? ⟨gb289, 6, none⟩ = some (.int .i64 a1_6) := (blk_cell BK289.out 6).trans rfl; have hcz35_7 : w32.cell? ⟨gb289, 7, none⟩ = some (.slice A1_7 l1_7.length c1_7) := (blk_cell BK289.out 7).trans rfl; have hfz35_0 := blk_frozen BK289.out 0; have hfz35_1 := blk_frozen BK289.out 1; have hfz35_2 := blk_frozen BK289.out 2; have hfz35_3 := blk_frozen BK289.out 3; have hfz35_4 := blk_frozen BK289.out 4; have hfz35_5 := blk_frozen BK289.out 5; have hfz35_6 := blk_frozen BK289.out 6; have hfz35_7 := blk_frozen BK289.out 7))
          go_ret
          exact ⟨by first | rfl | (simp [errW_none, errW_some] <;> rfl) | (simp [*, errW_none, errW_some] <;> rfl), by repeat (first | (with_reducible first | exact HB.out | apply below_alloc | apply pw_below_drewN | apply below_drew1 | refine below_set ?_ GE288.out | refine below_set ?_ GE289.out) | exact HB.out)⟩
      · rw [if_neg c5] at H
        have c5b0 : (a0_2 == a1_2) = false := beq_eq_false_iff_ne.mpr c5
        have c5b1 : (a0_2 != a1_2) = true := bne_iff_ne.mpr c5
        obtain rfl := Option.some.inj H
        go_enter Try.func26, Try.ntmps26
        go_wp2_with (first | ((with_reducible refine gate_dst (N := 2) rfl ?_); refine box_event ?hg (N := 2) ?hd (cs := #[.int .i64 a0_0, .int .i64 a0_1, .int .i64 a0_2, .int .i64 a0_3, .int .i64 a0_4, .int .i64 a0_5, .int .i64 a0_6, .slice A0_7 l0_7.length c0_7]) (t := 29) ?hr ?_; (case hd => rfl); (case hg => rfl); (case hr => first | (go_simp; done) | (go_simp; rfl)); intro gb288 hg w36 hbox hb; have n0_ := Aside0.mk (below_step (by repeat (first | (with_reducible first | exact HB.out | apply below_alloc | apply pw_below_drewN | apply below_drew1) | exact HB.out)) hb); have n1_ := Aside0.mk (hbox); have n2_ := Aside0.mk ((by rw [hg]; exact (below_size (by repeat (first | (with_reducible first | exact HB.out | apply below_alloc | apply pw_below_drewN | apply below_drew1) | exact HB.out))) : w.heap.size ≤ gb288)); have n3_ := Aside0.mk ((by rw [hg]; exact (below_size (by repeat (first | (with_reducible first | exact HB.out | apply below_alloc | apply pw_below_drewN | apply below_drew1) | exact HB.out))) : w.heap.size ≤ gb288)); clear HB; have HB := n0_; have BK288 := n1_; have GW288 := n2_; have GE288 := n3_; clear n0_ n1_ n2_ n3_; clear hb hbox hg) | ((with_reducible refine gate_dst (N := 3) rfl ?_); refine box_event ?hg (N := 3) ?hd (cs := #[.int .i64 a1_0, .int .i64 a1_1, .int .i64 a1_2, .int .i64 a1_3, .int .i64 a1_4, .int .i64 a1_5, .int .i64 a1_6, .slice A1_7 l1_7.length c1_7]) (t := 29) ?hr ?_; (case hd => rfl); (case hg => rfl); (case hr => first | (go_simp; done) | (go_simp; rfl)); intro gb289 hg w37 hbox hb; have n0_ := Aside0.mk (blk_below (g := gb288) (o := .cells #[.int .i64 a0_0, .int .i64 a0_1, .int .i64 a0_2, .int .i64 a0_3, .int .i64 a0_4, .int .i64 a0_5, .int .i64 a0_6, .slice A0_7 l0_7.length c0_7] 29 (0, 0)) (by (with_reducible repeat (first | refine blk_drewN ?_ _ | refine blk_drew ?_ | refine blk_alloc ?_ _)); exact BK288.out) hb); have n1_ := Aside0.mk (below_step (by repeat (first | (with_reducible first | exact HB.out | apply below_alloc | apply pw_below_drewN | apply below_drew1 | refine below_set ?_ GE288.out) | exact HB.out)) hb); have n2_ := Aside0.mk (hbox); have n3_ := Aside0.mk ((by rw [hg]; exact (below_size (by repeat (first | (with_reducible first | exact HB.out | apply below_alloc | apply pw_below_drewN | apply below_drew1 | refine below_set ?_ GE288.out) | exact HB.out))) : w.heap.size ≤ gb289)); have n4_ := Aside0.mk ((by rw [hg]; exact (below_size (by repeat (first | (with_reducible first | exact HB.out | apply below_alloc | apply pw_below_drewN | apply below_drew1 | refine below_set ?_ GE288.out) | exact HB.out))) : w.heap.size ≤ gb289)); have n5_ := Aside0.mk ((by rw [hg]; exact Nat.ne_of_lt (blk_lt (g := gb288) (o := .cells #[.int .i64 a0_0, .int .i64 a0_1, .int .i64 a0_2, .int .i64 a0_3, .int .i64 a0_4, .int .i64 a0_5, .int .i64 a0_6, .slice A0_7 l0_7.length c0_7] 29 (0, 0)) (by (with_reducible repeat (first | refine blk_drewN ?_ _ | refine blk_drew ?_ | refine blk_alloc ?_ _)); exact BK288.out)) : gb288 ≠ gb289)); have n6_ := Aside0.mk ((by rw [hg]; exact Nat.ne_of_gt (blk_lt (g := gb288) (o := .cells #[.int .i64 a0_0, .int .i64 a0_1, .int .i64 a0_2, .int .i64 a0_3, .int .i64 a0_4, .int .i64 a0_5, .int .i64 a0_6, .slice A0_7 l0_7.length c0_7] 29 (0, 0)) (by (with_reducible repeat (first | refine blk_drewN ?_ _ | refine blk_drew ?_ | refine blk_alloc ?_ _)); exact BK288.out)) : gb289 ≠ gb288)); clear BK288; clear HB; have BK288 := n0_; have HB := n1_; have BK289 := n2_; have GW289 := n3_; have GE289 := n4_; have NB288_289 := n5_; have NB289_288 := n6_; clear n0_ n1_ n2_ n3_ n4_ n5_ n6_; clear hb hbox hg; have hnb38 := NB288_289.out; have hnc38 := NB289_288.out; have hcz39_0 : w37.cell? ⟨gb288, 0, none⟩ = some (.int .i64 a0_0) := (blk_cell BK288.out 0).trans rfl; have hcz39_1 : w37.cell? ⟨gb288, 1, none⟩ = some (.int .i64 a0_1) := (blk_cell BK288.out 1).trans rfl; have hcz39_2 : w37.cell? ⟨gb288, 2, none⟩ = some (.int .i64 a0_2) := (blk_cell BK288.out 2).trans rfl; have hcz39_3 : w37.cell? ⟨gb288, 3, none⟩ = some (.int .i64 a0_3) := (blk_cell BK288.out 3).trans rfl; have hcz39_4 : w37.cell? ⟨gb288, 4, none⟩ = some (.int .i64 a0_4) := (blk_cell BK288.out 4).trans rfl; have hcz39_5 : w37.cell? ⟨gb288, 5, none⟩ = some (.int .i64 a0_5) := (blk_cell BK288.out 5).trans rfl; have hcz39_6 : w37.cell? ⟨gb288, 6, none⟩ = some (.int .i64 a0_6) := (blk_cell BK288.out 6).trans rfl; have hcz39_7 : w37.cell? ⟨gb288, 7, none⟩ = some (.slice A0_7 l0_7.length c0_7) := (blk_cell BK288.out 7).trans rfl; have hfz39_0 := blk_frozen BK288.out 0; have hfz39_1 := blk_frozen BK288.out 1; have hfz39_2 := blk_frozen BK288.out 2; have hfz39_3 := blk_frozen BK288.out 3; have hfz39_4 := blk_frozen BK288.out 4; have hfz39_5 := blk_frozen BK288.out 5; have hfz39_6 := blk_frozen BK288.out 6; have hfz39_7 := blk_frozen BK288.out 7; have hcz40_0 : w37.cell? ⟨gb289, 0, none⟩ = some (.int .i64 a1_0) := (blk_cell BK289.out 0).trans rfl; have hcz40_1 : w37.cell? ⟨gb289, 1, none⟩ = some (.int .i64 a1_1) := (blk_cell BK289.out 1).trans rfl; have hcz40_2 : w37.cell? ⟨gb289, 2, none⟩ = some (.int .i64 a1_2) := (blk_cell BK289.out 2).trans rfl; have hcz40_3 : w37.cell? ⟨gb289, 3, none⟩ = some (.int .i64 a1_3) := (blk_cell BK289.out 3).trans rfl; have hcz40_4 : w37.cell? ⟨gb289, 4, none⟩ = some (.int .i64 a1_4) := (blk_cell BK289.out 4).trans rfl; have hcz40_5 : w37.cell? ⟨gb289, 5, none⟩ = some (.int .i64 a1_5) := (blk_cell BK289.out 5).trans rfl; have hcz40_6 : w37.cell? ⟨gb289, 6, none⟩ = some (.int .i64 a1_6) := (blk_cell BK289.out 6).trans rfl; have hcz40_7 : w37.cell? ⟨gb289, 7, none⟩ = some (.slice A1_7 l1_7.length c1_7) := (blk_cell BK289.out 7).trans rfl; have hfz40_0 := blk_frozen BK289.out 0; have hfz40_1 := blk_frozen BK289.out 1; have hfz40_2 := blk_frozen BK289.out 2; have hfz40_3 := blk_frozen BK289.out 3; have hfz40_4 := blk_frozen BK289.out 4; have hfz40_5 := blk_frozen BK289.out 5; have hfz40_6 := blk_frozen BK289.out 6; have hfz40_7 := blk_frozen BK289.out 7))
        go_ret
        exact ⟨by first | rfl | (simp [errW_none, errW_some] <;> rfl) | (simp [*, errW_none, errW_some] <;> rfl), by repeat (first | (with_reducible first | exact HB.out | apply below_alloc | apply pw_below_drewN | apply below_drew1 | refine below_set ?_ GE288.out | refine below_set ?_ GE289.out) | exact HB.out)⟩
    · rw [if_neg c4] at H
      have c4b0 : (a0_1 == a1_1) = false := beq_eq_false_iff_ne.mpr c4
      have c4b1 : (a0_1 != a1_1) = true := bne_iff_ne.mpr c4
      obtain rfl := Option.some.inj H
      go_enter Try.func26, Try.ntmps26
      go_wp2_with (first | ((with_reducible refine gate_dst (N := 2) rfl ?_); refine box_event ?hg (N := 2) ?hd (cs := #[.int .i64 a0_0, .int .i64 a0_1, .int .i64 a0_2, .int .i64 a0_3, .int .i64 a0_4, .int .i64 a0_5, .int .i64 a0_6, .slice A0_7 l0_7.length c0_7]) (t := 29) ?hr ?_; (case hd => rfl); (case hg => rfl); (case hr => first | (go_simp; done) | (go_simp; rfl)); intro gb288 hg w41 hbox hb; have n0_ := Aside0.mk (below_step (by repeat (first | (with_reducible first | exact HB.out | apply below_alloc | apply pw_below_drewN | apply below_drew1) | exact HB.out)) hb); have n1_ := Aside0.mk (hbox); have n2_ := Aside0.mk ((by rw [hg]; exact (below_size (by repeat (first | (with_reducible first | exact HB.out | apply below_alloc | apply pw_below_drewN | apply below_drew1) | exact HB.out))) : w.heap.size ≤ gb288)); have n3_ := Aside0.mk ((by rw [hg]; exact (below_size (by repeat (first | (with_reducible first | exact HB.out | apply below_alloc | apply pw_below_drewN | apply below_drew1) | exact HB.out))) : w.heap.size ≤ gb288)); clear HB; have HB := n0_; have BK288 := n1_; have GW288 := n2_; have GE288 := n3_; clear n0_ n1_ n2_ n3_; clear hb hbox hg) | ((with_reducible refine gate_dst (N := 3) rfl ?_); refine box_event ?hg (N := 3) ?hd (cs := #[.int .i64 a1_0, .int .i64 a1_1, .int .i64 a1_2, .int .i64 a1_3, .int .i64 a1_4, .int .i64 a1_5, .int .i64 a1_6, .slice A1_7 l1_7.length c1_7]) (t := 29) ?hr ?_; (case hd => rfl); (case hg => rfl); (case hr => first | (go_simp; done) | (go_simp; rfl)); intro gb289 hg w42 hbox hb; have n0_ := Aside0.mk (blk_below (g := gb288) (o := .cells #[.int .i64 a0_0, .int .i64 a0_1, .int .i64 a0_2, .int .i64 a0_3, .int .i64 a0_4, .int .i64 a0_5, .int .i64 a0_6, .slice A0_7 l0_7.length c0_7] 29 (0, 0)) (by (with_reducible repeat (first | refine blk_drewN ?_ _ | refine blk_drew ?_ | refine blk_alloc ?_ _)); exact BK288.out) hb); have n1_ := Aside0.mk (below_step (by repeat (first | (with_reducible first | exact HB.out | apply below_alloc | apply pw_below_drewN | apply below_drew1 | refine below_set ?_ GE288.out) | exact HB.out)) hb); have n2_ := Aside0.mk (hbox); have n3_ := Aside0.mk ((by rw [hg]; exact (below_size (by repeat (first | (with_reducible first | exact HB.out | apply below_alloc | apply pw_below_drewN | apply below_drew1 | refine below_set ?_ GE288.out) | exact HB.out))) : w.heap.size ≤ gb289)); have n4_ := Aside0.mk ((by rw [hg]; exact (below_size (by repeat (first | (with_reducible first | exact HB.out | apply below_alloc | apply pw_below_drewN | apply below_drew1 | refine below_set ?_ GE288.out) | exact HB.out))) : w.heap.size ≤ gb289)); have n5_ := Aside0.mk ((by rw [hg]; exact Nat.ne_of_lt (blk_lt (g := gb288) (o := .cells #[.int .i64 a0_0, .int .i64 a0_1, .int .i64 a0_2, .int .i64 a0_3, .int .i64 a0_4, .int .i64 a0_5, .int .i64 a0_6, .slice A0_7 l0_7.length c0_7] 29 (0, 0)) (by (with_reducible repeat (first | refine blk_drewN ?_ _ | refine blk_drew ?_ | refine blk_alloc ?_ _)); exact BK288.out)) : gb288 ≠ gb289)); have n6_ := Aside0.mk ((by rw [hg]; exact Nat.ne_of_gt (blk_lt (g := gb288) (o := .cells #[.int .i64 a0_0, .int .i64 a0_1, .int .i64 a0_2, .int .i64 a0_3, .int .i64 a0_4, .int .i64 a0_5, .int .i64 a0_6, .slice A0_7 l0_7.length c0_7] 29 (0, 0)) (by (with_reducible repeat (first | refine blk_drewN ?_ _ | refine blk_drew ?_ | refine blk_alloc ?_ _)); exact BK288.out)) : gb289 ≠ gb288)); clear BK288; clear HB; have BK288 := n0_; have HB := n1_; have BK289 := n2_; have GW289 := n3_; have GE289 := n4_; have NB288_289 := n5_; have NB289_288 := n6_; clear n0_ n1_ n2_ n3_ n4_ n5_ n6_; clear hb hbox hg; have hnb43 := NB288_289.out; have hnc43 := NB289_288.out; have hcz44_0 : w42.cell? ⟨gb288, 0, none⟩ = some (.int .i64 a0_0) := (blk_cell BK288.out 0).trans rfl; have hcz44_1 : w42.cell? ⟨gb288, 1, none⟩ = some (.int .i64 a0_1) := (blk_cell BK288.out 1).trans rfl; have hcz44_2 : w42.cell? ⟨gb288, 2, none⟩ = some (.int .i64 a0_2) := (blk_cell BK288.out 2).trans rfl; have hcz44_3 : w42.cell? ⟨gb288, 3, none⟩ = some (.int .i64 a0_3) := (blk_cell BK288.out 3).trans rfl; have hcz44_4 : w42.cell? ⟨gb288, 4, none⟩ = some (.int .i64 a0_4) := (blk_cell BK288.out 4).trans rfl; have hcz44_5 : w42.cell? ⟨gb288, 5, none⟩ = some (.int .i64 a0_5) := (blk_cell BK288.out 5).trans rfl; have hcz44_6 : w42.cell? ⟨gb288, 6, none⟩ = some (.int .i64 a0_6) := (blk_cell BK288.out 6).trans rfl; have hcz44_7 : w42.cell? ⟨gb288, 7, none⟩ = some (.slice A0_7 l0_7.length c0_7) := (blk_cell BK288.out 7).trans rfl; have hfz44_0 := blk_frozen BK288.out 0; have hfz44_1 := blk_frozen BK288.out 1; have hfz44_2 := blk_frozen BK288.out 2; have hfz44_3 := blk_frozen BK288.out 3; have hfz44_4 := blk_frozen BK288.out 4; have hfz44_5 := blk_frozen BK288.out 5; have hfz44_6 := blk_frozen BK288.out 6; have hfz44_7 := blk_frozen BK288.out 7; have hcz45_0 : w42.cell? ⟨gb289, 0, none⟩ = some (.int .i64 a1_0) := (blk_cell BK289.out 0).trans rfl; have hcz45_1 : w42.cell? ⟨gb289, 1, none⟩ = some (.int .i64 a1_1) := (blk_cell BK289.out 1).trans rfl; have hcz45_2 : w42.cell? ⟨gb289, 2, none⟩ = some (.int .i64 a1_2) := (blk_cell BK289.out 2).trans rfl; have hcz45_3 : w42.cell? ⟨gb289, 3, none⟩ = some (.int .i64 a1_3) := (blk_cell BK289.out 3).trans rfl; have hcz45_4 : w42.cell? ⟨gb289, 4, none⟩ = some (.int .i64 a1_4) := (blk_cell BK289.out 4).trans rfl; have hcz45_5 : w42.cell? ⟨gb289, 5, none⟩ = some (.int .i64 a1_5) := (blk_cell BK289.out 5).trans rfl; have hcz45_6 : w42.cell? ⟨gb289, 6, none⟩ = some (.int .i64 a1_6) := (blk_cell BK289.out 6).trans rfl; have hcz45_7 : w42.cell? ⟨gb289, 7, none⟩ = some (.slice A1_7 l1_7.length c1_7) := (blk_cell BK289.out 7).trans rfl; have hfz45_0 := blk_frozen BK289.out 0; have hfz45_1 := blk_frozen BK289.out 1; have hfz45_2 := blk_frozen BK289.out 2; have hfz45_3 := blk_frozen BK289.out 3; have hfz45_4 := blk_frozen BK289.out 4; have hfz45_5 := blk_frozen BK289.out 5; have hfz45_6 := blk_frozen BK289.out 6; have hfz45_7 := blk_frozen BK289.out 7))
      go_ret
      exact ⟨by first | rfl | (simp [errW_none, errW_some] <;> rfl) | (simp [*, errW_none, errW_some] <;> rfl), by repeat (first | (with_reducible first | exact HB.out | apply below_alloc | apply pw_below_drewN | apply below_drew1 | refine below_set ?_ GE288.out | refine below_set ?_ GE289.out) | exact HB.out)⟩
  · rw [if_neg c3] at H
    have c3b0 : (a0_0 == a1_0) = false := beq_eq_false_iff_ne.mpr c3
    have c3b1 : (a0_0 != a1_0) = true := bne_iff_ne.mpr c3
    obtain rfl := Option.some.inj H
    go_enter Try.func26, Try.ntmps26
    go_wp2_with (first | ((with_reducible refine gate_dst (N := 2) rfl ?_); refine box_event ?hg (N := 2) ?hd (cs := #[.int .i64 a0_0, .int .i64 a0_1, .int .i64 a0_2, .int .i64 a0_3, .int .i64 a0_4, .int .i64 a0_5, .int .i64 a0_6, .slice A0_7 l0_7.length c0_7]) (t := 29) ?hr ?_; (case hd => rfl); (case hg => rfl); (case hr => first | (go_simp; done) | (go_simp; rfl)); intro gb288 hg w46 hbox hb; have n0_ := Aside0.mk (below_step (by repeat (first | (with_reducible first | exact HB.out | apply below_alloc | apply pw_below_drewN | apply below_drew1) | exact HB.out)) hb); have n1_ := Aside0.mk (hbox); have n2_ := Aside0.mk ((by rw [hg]; exact (below_size (by repeat (first | (with_reducible first | exact HB.out | apply below_alloc | apply pw_below_drewN | apply below_drew1) | exact HB.out))) : w.heap.size ≤ gb288)); have n3_ := Aside0.mk ((by rw [hg]; exact (below_size (by repeat (first | (with_reducible first | exact HB.out | apply below_alloc | apply pw_below_drewN | apply below_drew1) | exact HB.out))) : w.heap.size ≤ gb288)); clear HB; have HB := n0_; have BK288 := n1_; have GW288 := n2_; have GE288 := n3_; clear n0_ n1_ n2_ n3_; clear hb hbox hg) | ((with_reducible refine gate_dst (N := 3) rfl ?_); refine box_event ?hg (N := 3) ?hd (cs := #[.int .i64 a1_0, .int .i64 a1_1, .int .i64 a1_2, .int .i64 a1_3, .int .i64 a1_4, .int .i64 a1_5, .int .i64 a1_6, .slice A1_7 l1_7.length c1_7]) (t := 29) ?hr ?_; (case hd => rfl); (case hg => rfl); (case hr => first | (go_simp; done) | (go_simp; rfl)); intro gb289 hg w47 hbox hb; have n0_ := Aside0.mk (blk_below (g := gb288) (o := .cells #[.int .i64 a0_0, .int .i64 a0_1, .int .i64 a0_2, .int .i64 a0_3, .int .i64 a0_4, .int .i64 a0_5, .int .i64 a0_6, .slice A0_7 l0_7.length c0_7] 29 (0, 0)) (by (with_reducible repeat (first | refine blk_drewN ?_ _ | refine blk_drew ?_ | refine blk_alloc ?_ _)); exact BK288.out) hb); have n1_ := Aside0.mk (below_step (by repeat (first | (with_reducible first | exact HB.out | apply below_alloc | apply pw_below_drewN | apply below_drew1 | refine below_set ?_ GE288.out) | exact HB.out)) hb); have n2_ := Aside0.mk (hbox); have n3_ := Aside0.mk ((by rw [hg]; exact (below_size (by repeat (first | (with_reducible first | exact HB.out | apply below_alloc | apply pw_below_drewN | apply below_drew1 | refine below_set ?_ GE288.out) | exact HB.out))) : w.heap.size ≤ gb289)); have n4_ := Aside0.mk ((by rw [hg]; exact (below_size (by repeat (first | (with_reducible first | exact HB.out | apply below_alloc | apply pw_below_drewN | apply below_drew1 | refine below_set ?_ GE288.out) | exact HB.out))) : w.heap.size ≤ gb289)); have n5_ := Aside0.mk ((by rw [hg]; exact Nat.ne_of_lt (blk_lt (g := gb288) (o := .cells #[.int .i64 a0_0, .int .i64 a0_1, .int .i64 a0_2, .int .i64 a0_3, .int .i64 a0_4, .int .i64 a0_5, .int .i64 a0_6, .slice A0_7 l0_7.length c0_7] 29 (0, 0)) (by (with_reducible repeat (first | refine blk_drewN ?_ _ | refine blk_drew ?_ | refine blk_alloc ?_ _)); exact BK288.out)) : gb288 ≠ gb289)); have n6_ := Aside0.mk ((by rw [hg]; exact Nat.ne_of_gt (blk_lt (g := gb288) (o := .cells #[.int .i64 a0_0, .int .i64 a0_1, .int .i64 a0_2, .int .i64 a0_3, .int .i64 a0_4, .int .i64 a0_5, .int .i64 a0_6, .slice A0_7 l0_7.length c0_7] 29 (0, 0)) (by (with_reducible repeat (first | refine blk_drewN ?_ _ | refine blk_drew ?_ | refine blk_alloc ?_ _)); exact BK288.out)) : gb289 ≠ gb288)); clear BK288; clear HB; have BK288 := n0_; have HB := n1_; have BK289 := n2_; have GW289 := n3_; have GE289 := n4_; have NB288_289 := n5_; have NB289_288 := n6_; clear n0_ n1_ n2_ n3_ n4_ n5_ n6_; clear hb hbox hg; have hnb48 := NB288_289.out; have hnc48 := NB289_288.out; have hcz49_0 : w47.cell? ⟨gb288, 0, none⟩ = some (.int .i64 a0_0) := (blk_cell BK288.out 0).trans rfl; have hcz49_1 : w47.cell? ⟨gb288, 1, none⟩ = some (.int .i64 a0_1) := (blk_cell BK288.out 1).trans rfl; have hcz49_2 : w47.cell? ⟨gb288, 2, none⟩ = some (.int .i64 a0_2) := (blk_cell BK288.out 2).trans rfl; have hcz49_3 : w47.cell? ⟨gb288, 3, none⟩ = some (.int .i64 a0_3) := (blk_cell BK288.out 3).trans rfl; have hcz49_4 : w47.cell? ⟨gb288, 4, none⟩ = some (.int .i64 a0_4) := (blk_cell BK288.out 4).trans rfl; have hcz49_5 : w47.cell? ⟨gb288, 5, none⟩ = some (.int .i64 a0_5) := (blk_cell BK288.out 5).trans rfl; have hcz49_6 : w47.cell? ⟨gb288, 6, none⟩ = some (.int .i64 a0_6) := (blk_cell BK288.out 6).trans rfl; have hcz49_7 : w47.cell? ⟨gb288, 7, none⟩ = some (.slice A0_7 l0_7.length c0_7) := (blk_cell BK288.out 7).trans rfl; have hfz49_0 := blk_frozen BK288.out 0; have hfz49_1 := blk_frozen BK288.out 1; have hfz49_2 := blk_frozen BK288.out 2; have hfz49_3 := blk_frozen BK288.out 3; have hfz49_4 := blk_frozen BK288.out 4; have hfz49_5 := blk_frozen BK288.out 5; have hfz49_6 := blk_frozen BK288.out 6; have hfz49_7 := blk_frozen BK288.out 7; have hcz50_0 : w47.cell? ⟨gb289, 0, none⟩ = some (.int .i64 a1_0) := (blk_cell BK289.out 0).trans rfl; have hcz50_1 : w47.cell? ⟨gb289, 1, none⟩ = some (.int .i64 a1_1) := (blk_cell BK289.out 1).trans rfl; have hcz50_2 : w47.cell? ⟨gb289, 2, none⟩ = some (.int .i64 a1_2) := (blk_cell BK289.out 2).trans rfl; have hcz50_3 : w47.cell? ⟨gb289, 3, none⟩ = some (.int .i64 a1_3) := (blk_cell BK289.out 3).trans rfl; have hcz50_4 : w47.cell? ⟨gb289, 4, none⟩ = some (.int .i64 a1_4) := (blk_cell BK289.out 4).trans rfl; have hcz50_5 : w47.cell? ⟨gb289, 5, none⟩ = some (.int .i64 a1_5) := (blk_cell BK289.out 5).trans rfl; have hcz50_6 : w47.cell? ⟨gb289, 6, none⟩ = some (.int .i64 a1_6) := (blk_cell BK289.out 6).trans rfl; have hcz50_7 : w47.cell? ⟨gb289, 7, none⟩ = some (.slice A1_7 l1_7.length c1_7) := (blk_cell BK289.out 7).trans rfl; have hfz50_0 := blk_frozen BK289.out 0; have hfz50_1 := blk_frozen BK289.out 1; have hfz50_2 := blk_frozen BK289.out 2; have hfz50_3 := blk_frozen BK289.out 3; have hfz50_4 := blk_frozen BK289.out 4; have hfz50_5 := blk_frozen BK289.out 5; have hfz50_6 := blk_frozen BK289.out 6; have hfz50_7 := blk_frozen BK289.out 7))
    go_ret
    exact ⟨by first | rfl | (simp [errW_none, errW_some] <;> rfl) | (simp [*, errW_none, errW_some] <;> rfl), by repeat (first | (with_reducible first | exact HB.out | apply below_alloc | apply pw_below_drewN | apply below_drew1 | refine below_set ?_ GE288.out | refine below_set ?_ GE289.out) | exact HB.out)⟩

end Go.Proofs.Ytfejidinfcmfjaa.P
-- Written by a program of this session (xprint.py) over the kit's print.py.
namespace Go.Proofs.Ytfejidinfcmfjaa.P
open Go.RowKit Go.Proofs.YtfejidinfcmfjaaW.PrintWords Go.Proofs.YtfejidinfcmfjaaW.PrintLast Go.Proofs.YtfejidinfcmfjaaW.PrintMore
attribute [local go_sem] max2_int min2_int max_two min_two max_three min_three max_four min_four   -- for this text's walks alone
set_option linter.unusedVariables false
set_option linter.unusedSimpArgs false

/-! ### sextonref23_Big: function 30 -/
mutual
def sextonref23_Big.l0 : Nat → Int → Int → Int → Int → Int → Int → Int → Int → List ByteArray → Option (Bool)
  | 0, _, _, _, _, _, _, _, _, _ => none
  | k + 1, x3, x102000, x102001, x102002, x102003, x102004, x102005, x102006, x102007 => if x3 < (x102007.length : Int) then (sextonref23_Big.j1 k x3 (decide ((x102007.length : Int) ≤ 80)) x102000 x102001 x102002 x102003 x102004 x102005 x102006 x102007) else (sextonref23_Big.j1 k x3 false x102000 x102001 x102002 x102003 x102004 x102005 x102006 x102007)
def sextonref23_Big.j1 : Nat → Int → Bool → Int → Int → Int → Int → Int → Int → Int → List ByteArray → Option (Bool)
  | 0, _, _, _, _, _, _, _, _, _, _ => none
  | k + 1, x3, x14, x102000, x102001, x102002, x102003, x102004, x102005, x102006, x102007 => if x14 = true then (if 0 ≤ x3 then (if x3 < (x102007.length : Int) then (if ((rdOf ByteArray.empty x102007 x3).size : Int) > 400 then (some true) else (sextonref23_Big.l0 k (wrap64 (x3 + 1)) x102000 x102001 x102002 x102003 x102004 x102005 x102006 x102007)) else (none)) else (none)) else (some (decide ((x102007.length : Int) > 80)))
end
def sextonref23_Big.f (k : Nat) (a0_0 : Int) (a0_1 : Int) (a0_2 : Int) (a0_3 : Int) (a0_4 : Int) (a0_5 : Int) (a0_6 : Int) (l0_7 : List ByteArray) : Option (Bool) := sextonref23_Big.l0 k 0 a0_0 a0_1 a0_2 a0_3 a0_4 a0_5 a0_6 l0_7
theorem sextonref23_Big.mono_l : ∀ k, (∀ y0 y1 y2 y3 y4 y5 y6 y7 y8, LeO (sextonref23_Big.l0 k y0 y1 y2 y3 y4 y5 y6 y7 y8) (sextonref23_Big.l0 (k + 1) y0 y1 y2 y3 y4 y5 y6 y7 y8)) ∧ (∀ y0 y1 y2 y3 y4 y5 y6 y7 y8 y9, LeO (sextonref23_Big.j1 k y0 y1 y2 y3 y4 y5 y6 y7 y8 y9) (sextonref23_Big.j1 (k + 1) y0 y1 y2 y3 y4 y5 y6 y7 y8 y9))
  | 0 => ⟨fun _ _ _ _ _ _ _ _ _ r h => by simp [sextonref23_Big.l0] at h, fun _ _ _ _ _ _ _ _ _ _ r h => by simp [sextonref23_Big.j1] at h⟩
  | k + 1 => by
    obtain ⟨ih0, ih1⟩ := sextonref23_Big.mono_l k
    refine ⟨?_, ?_⟩
    · intro y0 y1 y2 y3 y4 y5 y6 y7 y8
      unfold sextonref23_Big.l0
      repeat' first
      | (with_reducible exact ih0 _ _ _ _ _ _ _ _ _)
      | (with_reducible exact ih1 _ _ _ _ _ _ _ _ _ _)
      | (with_reducible exact LeO.refl _)
      | (with_reducible exact LeO.none _)
      | (with_reducible refine LeO.ite ?_ ?_)
      | (with_reducible refine LeO.bind ?_ (fun _ => ?_))
      | exact ih0 _ _ _ _ _ _ _ _ _
      | exact ih1 _ _ _ _ _ _ _ _ _ _
      | exact LeO.none _
      | refine LeO.ite ?_ ?_
      | refine LeO.bind ?_ (fun _ => ?_)
    · intro y0 y1 y2 y3 y4 y5 y6 y7 y8 y9
      unfold sextonref23_Big.j1
      repeat' first
      | (with_reducible exact ih0 _ _ _ _ _ _ _ _ _)
      | (with_reducible exact ih1 _ _ _ _ _ _ _ _ _ _)
      | (with_reducible exact LeO.refl _)
      | (with_reducible exact LeO.none _)
      | (with_reducible refine LeO.ite ?_ ?_)
      | (with_reducible refine LeO.bind ?_ (fun _ => ?_))
      | exact ih0 _ _ _ _ _ _ _ _ _
      | exact ih1 _ _ _ _ _ _ _ _ _ _
      | exact LeO.none _
      | refine LeO.ite ?_ ?_
      | refine LeO.bind ?_ (fun _ => ?_)
theorem sextonref23_Big.mono : ∀ a0 a1 a2 a3 a4 a5 a6 a7 k, LeO (sextonref23_Big.f k a0 a1 a2 a3 a4 a5 a6 a7) (sextonref23_Big.f (k + 1) a0 a1 a2 a3 a4 a5 a6 a7) := by
  intro a0 a1 a2 a3 a4 a5 a6 a7 k
  obtain ⟨ih0, ih1⟩ := sextonref23_Big.mono_l k
  unfold sextonref23_Big.f
  repeat' first
      | (with_reducible exact ih0 _ _ _ _ _ _ _ _ _)
      | (with_reducible exact ih1 _ _ _ _ _ _ _ _ _ _)
      | (with_reducible exact LeO.refl _)
      | (with_reducible exact LeO.none _)
      | (with_reducible refine LeO.ite ?_ ?_)
      | (with_reducible refine LeO.bind ?_ (fun _ => ?_))
      | exact ih0 _ _ _ _ _ _ _ _ _
      | exact ih1 _ _ _ _ _ _ _ _ _ _
      | exact LeO.none _
      | refine LeO.ite ?_ ?_
      | refine LeO.bind ?_ (fun _ => ?_)
set_option maxHeartbeats 8000000 in
set_option maxRecDepth 100000 in
theorem sextonref23_Big.calls (k : Nat) (a0_0 : Int) (a0_1 : Int) (a0_2 : Int) (a0_3 : Int) (a0_4 : Int) (a0_5 : Int) (a0_6 : Int) (A0_7 : Option Addr) (c0_7 : Nat) (l0_7 : List ByteArray) (r : Bool) (w : World) (hr0_7 : Kd.C Kd.string w A0_7 l0_7.length l0_7) (hc0_7 : l0_7.length ≤ c0_7) (h : sextonref23_Big.f k a0_0 a0_1 a0_2 a0_3 a0_4 a0_5 a0_6 l0_7 = some r) :
    Calls Try.prog 30 #[.agg #[.int .i64 a0_0, .int .i64 a0_1, .int .i64 a0_2, .int .i64 a0_3, .int .i64 a0_4, .int .i64 a0_5, .int .i64 a0_6, .slice A0_7 l0_7.length c0_7]] w fun e w' => e = .returned (.bool r) ∧ Below w.heap.size w w' := by
  have hu29 := Try.underlying29
  have HR0_7 := Aside0.mk hr0_7
  have HC0_7 := Aside0.mk hc0_7
  clear hr0_7 hc0_7
  have HB := Aside0.mk (Below.refl w.heap.size w)
  have H : (sextonref23_Big.l0 k 0 a0_0 a0_1 a0_2 a0_3 a0_4 a0_5 a0_6 l0_7) = some r := h
  clear h
  have H' := Aside0.mk H
  clear H
  go_enter Try.func30, Try.ntmps30
  go_wp2_with (first | ((with_reducible refine gate_dst (N := 1) rfl ?_); (try (refine gate_guard (by rfl) ?_; dsimp only)); refine box_event ?hg (N := 1) ?hd (cs := #[.int .i64 a0_0, .int .i64 a0_1, .int .i64 a0_2, .int .i64 a0_3, .int .i64 a0_4, .int .i64 a0_5, .int .i64 a0_6, .slice A0_7 l0_7.length c0_7]) (t := 29) ?hr ?_; (case hd => rfl); (case hg => rfl); (case hr => first | (go_simp; done) | (go_simp; rfl)); intro gb101 hg w2 hbox hb; have n0_ := Aside0.mk (below_step (by repeat (first | (with_reducible first | exact HB.out | apply below_alloc | apply pw_below_drewN | apply below_drew1) | exact HB.out)) hb); have n1_ := Aside0.mk (hbox); have n2_ := Aside0.mk ((by rw [hg]; exact (below_size (by repeat (first | (with_reducible first | exact HB.out | apply below_alloc | apply pw_below_drewN | apply below_drew1) | exact HB.out))) : w.heap.size ≤ gb101)); have n3_ := Aside0.mk ((by rw [hg]; exact (below_size (by repeat (first | (with_reducible first | exact HB.out | apply below_alloc | apply pw_below_drewN | apply below_drew1) | exact HB.out))) : w.heap.size ≤ gb101)); clear HB; have HB := n0_; have BK101 := n1_; have GW101 := n2_; have GE101 := n3_; clear n0_ n1_ n2_ n3_; clear hb hbox hg))
  go_loopg [3] k (fun kq v3 w' => ∃ (x3_1 : Int), v3 = .int .i64 x3_1 ∧ Aside0 (sextonref23_Big.l0 kq x3_1 a0_0 a0_1 a0_2 a0_3 a0_4 a0_5 a0_6 l0_7 = some r) ∧ Aside0 (kq ≤ k) ∧ Aside0 (w'.heap[gb101]? = some (.cells #[.int .i64 a0_0, .int .i64 a0_1, .int .i64 a0_2, .int .i64 a0_3, .int .i64 a0_4, .int .i64 a0_5, .int .i64 a0_6, (.slice A0_7 l0_7.length c0_7)] 29 (0, 0))) ∧ Aside0 (Below w.heap.size w w'))
  case atStart => exact ⟨(0), (by first | rfl | (simp; done) | (simp [*]; done)), H', ⟨Nat.le_refl _⟩, ⟨by (with_reducible repeat (first | refine blk_drewN ?_ _ | refine blk_drew ?_ | refine blk_alloc ?_ _)); exact BK101.out⟩, ⟨by repeat (first | (with_reducible first | exact HB.out | apply below_alloc | apply pw_below_drewN | apply below_drew1 | refine below_set ?_ GE101.out) | exact HB.out)⟩⟩
  case round =>
    clear H'
    try clear p2
    obtain ⟨x3_1, rfl, HA, HK1, BK101, HB⟩ := hrel
    cases gk with
    | zero => exact absurd HA.out (by simp [sextonref23_Big.l0])
    | succ k1 =>
      have H := HA.out
      clear HA
      simp only [sextonref23_Big.l0] at H
      have HC3 := Aside0.mk H
      clear H
      go_upto_region 2 with (fail)
      go_cut [14] (fun v14 wc => ∃ (kq : Nat) (x14_2 : Bool), v14 = .bool x14_2 ∧ Aside0 (sextonref23_Big.j1 kq x3_1 x14_2 a0_0 a0_1 a0_2 a0_3 a0_4 a0_5 a0_6 l0_7 = some r) ∧ Aside0 (kq ≤ k1) ∧ Aside0 (wc.heap[gb101]? = some (.cells #[.int .i64 a0_0, .int .i64 a0_1, .int .i64 a0_2, .int .i64 a0_3, .int .i64 a0_4, .int .i64 a0_5, .int .i64 a0_6, (.slice A0_7 l0_7.length c0_7)] 29 (0, 0))) ∧ Aside0 (Below w.heap.size w wc))
      case first =>
        have H := HC3.out
        clear HC3
        by_cases c4 : x3_1 < (l0_7.length : Int)
        · rw [if_pos c4] at H
          have c4b0 : decide (x3_1 < (l0_7.length : Int)) = true := decide_eq_true c4
          clear c4
          (first | rw [c4b0] | (simp only [i64_w, i32_w]; rw [c4b0]) | skip)
          have H' := Aside0.mk H
          clear H
          have hcz5_0 : wr.cell? ⟨gb101, 0, none⟩ = some (.int .i64 a0_0) := (blk_cell BK101.out 0).trans rfl
          have hcz5_1 : wr.cell? ⟨gb101, 1, none⟩ = some (.int .i64 a0_1) := (blk_cell BK101.out 1).trans rfl
          have hcz5_2 : wr.cell? ⟨gb101, 2, none⟩ = some (.int .i64 a0_2) := (blk_cell BK101.out 2).trans rfl
          have hcz5_3 : wr.cell? ⟨gb101, 3, none⟩ = some (.int .i64 a0_3) := (blk_cell BK101.out 3).trans rfl
          have hcz5_4 : wr.cell? ⟨gb101, 4, none⟩ = some (.int .i64 a0_4) := (blk_cell BK101.out 4).trans rfl
          have hcz5_5 : wr.cell? ⟨gb101, 5, none⟩ = some (.int .i64 a0_5) := (blk_cell BK101.out 5).trans rfl
          have hcz5_6 : wr.cell? ⟨gb101, 6, none⟩ = some (.int .i64 a0_6) := (blk_cell BK101.out 6).trans rfl
          have hcz5_7 : wr.cell? ⟨gb101, 7, none⟩ = some (.slice A0_7 l0_7.length c0_7) := (blk_cell BK101.out 7).trans rfl
          have hfz5_0 := blk_frozen BK101.out 0
          have hfz5_1 := blk_frozen BK101.out 1
          have hfz5_2 := blk_frozen BK101.out 2
          have hfz5_3 := blk_frozen BK101.out 3
          have hfz5_4 := blk_frozen BK101.out 4
          have hfz5_5 := blk_frozen BK101.out 5
          have hfz5_6 := blk_frozen BK101.out 6
          have hfz5_7 := blk_frozen BK101.out 7
          go_wp2
          go_meet
          case rel => exact ⟨_, (decide ((l0_7.length : Int) ≤ 80)), (by first | rfl | (simp; done) | (simp [*]; done)), H', ⟨by have := HK1.out; first | omega | exact Nat.le_refl _⟩, ⟨by (with_reducible repeat (first | refine blk_drewN ?_ _ | refine blk_drew ?_ | refine blk_alloc ?_ _)); exact BK101.out⟩, ⟨by repeat (first | (with_reducible first | exact HB.out | apply below_alloc | apply pw_below_drewN | apply below_drew1 | refine below_set ?_ GE101.out) | exact HB.out)⟩⟩
        · rw [if_neg c4] at H
          have c4b0 : decide (x3_1 < (l0_7.length : Int)) = false := decide_eq_false c4
          clear c4
          (first | rw [c4b0] | (simp only [i64_w, i32_w]; rw [c4b0]) | skip)
          have H' := Aside0.mk H
          clear H
          have hcz6_0 : wr.cell? ⟨gb101, 0, none⟩ = some (.int .i64 a0_0) := (blk_cell BK101.out 0).trans rfl
          have hcz6_1 : wr.cell? ⟨gb101, 1, none⟩ = some (.int .i64 a0_1) := (blk_cell BK101.out 1).trans rfl
          have hcz6_2 : wr.cell? ⟨gb101, 2, none⟩ = some (.int .i64 a0_2) := (blk_cell BK101.out 2).trans rfl
          have hcz6_3 : wr.cell? ⟨gb101, 3, none⟩ = some (.int .i64 a0_3) := (blk_cell BK101.out 3).trans rfl
          have hcz6_4 : wr.cell? ⟨gb101, 4, none⟩ = some (.int .i64 a0_4) := (blk_cell BK101.out 4).trans rfl
          have hcz6_5 : wr.cell? ⟨gb101, 5, none⟩ = some (.int .i64 a0_5) := (blk_cell BK101.out 5).trans rfl
          have hcz6_6 : wr.cell? ⟨gb101, 6, none⟩ = some (.int .i64 a0_6) := (blk_cell BK101.out 6).trans rfl
          have hcz6_7 : wr.cell? ⟨gb101, 7, none⟩ = some (.slice A0_7 l0_7.length c0_7) := (blk_cell BK101.out 7).trans rfl
          have hfz6_0 := blk_frozen BK101.out 0
          have hfz6_1 := blk_frozen BK101.out 1
          have hfz6_2 := blk_frozen BK101.out 2
          have hfz6_3 := blk_frozen BK101.out 3
          have hfz6_4 := blk_frozen BK101.out 4
          have hfz6_5 := blk_frozen BK101.out 5
          have hfz6_6 := blk_frozen BK101.out 6
          have hfz6_7 := blk_frozen BK101.out 7
          go_wp2
          go_meet
          case rel => exact ⟨_, (false), (by first | rfl | (simp; done) | (simp [*]; done)), H', ⟨by have := HK1.out; first | omega | exact Nat.le_refl _⟩, ⟨by (with_reducible repeat (first | refine blk_drewN ?_ _ | refine blk_drew ?_ | refine blk_alloc ?_ _)); exact BK101.out⟩, ⟨by repeat (first | (with_reducible first | exact HB.out | apply below_alloc | apply pw_below_drewN | apply below_drew1 | refine below_set ?_ GE101.out) | exact HB.out)⟩⟩
      case rest =>
        clear HC3
        try clear p2
        try clear c3
        try clear c4
        try clear c4b0
        try clear hcz5_0
        try clear hcz5_1
        try clear hcz5_2
        try clear hcz5_3
        try clear hcz5_4
        try clear hcz5_5
        try clear hcz5_6
        try clear hcz5_7
        try clear hcz6_0
        try clear hcz6_1
        try clear hcz6_2
        try clear hcz6_3
        try clear hcz6_4
        try clear hcz6_5
        try clear hcz6_6
        try clear hcz6_7
        try clear hfz5_0
        try clear hfz5_1
        try clear hfz5_2
        try clear hfz5_3
        try clear hfz5_4
        try clear hfz5_5
        try clear hfz5_6
        try clear hfz5_7
        try clear hfz6_0
        try clear hfz6_1
        try clear hfz6_2
        try clear hfz6_3
        try clear hfz6_4
        try clear hfz6_5
        try clear hfz6_6
        try clear hfz6_7
        try clear p2
        obtain ⟨kq, x14_2, rfl, HA, HJ2, BK101, HB⟩ := hcut
        cases kq with
        | zero => exact absurd HA.out (by simp [sextonref23_Big.j1])
        | succ kj2 =>
          have H := HA.out
          clear HA
          simp only [sextonref23_Big.j1] at H
          by_cases c7 : x14_2 = true
          · subst c7
            have H1 : (if 0 ≤ x3_1 then (if x3_1 < (l0_7.length : Int) then (if ((rdOf ByteArray.empty l0_7 x3_1).size : Int) > 400 then (some true) else (sextonref23_Big.l0 kj2 (wrap64 (x3_1 + 1)) a0_0 a0_1 a0_2 a0_3 a0_4 a0_5 a0_6 l0_7)) else (none)) else (none)) = some r := by rw [if_pos rfl] at H; exact H
            clear H
            have H := H1
            clear H1
            by_cases c8 : 0 ≤ x3_1
            · rw [if_pos c8] at H
              have c8b0 : decide (0 ≤ x3_1) = true := decide_eq_true c8
              clear c8
              by_cases c9 : x3_1 < (l0_7.length : Int)
              · rw [if_pos c9] at H
                have c9b0 : decide (x3_1 < (l0_7.length : Int)) = true := decide_eq_true c9
                clear c9
                by_cases c10 : ((rdOf ByteArray.empty l0_7 x3_1).size : Int) > 400
                · rw [if_pos c10] at H
                  have c10b0 : decide (400 < ((rdOf ByteArray.empty l0_7 x3_1).size : Int)) = true := decide_eq_true c10
                  have c10b1 : decide (400 < (rdOf ByteArray.empty l0_7 x3_1).size) = true := decide_eq_true (by omega)
                  clear c10
                  obtain rfl := Option.some.inj H
                  have hcz11_0 : wc.cell? ⟨gb101, 0, none⟩ = some (.int .i64 a0_0) := (blk_cell BK101.out 0).trans rfl
                  have hcz11_1 : wc.cell? ⟨gb101, 1, none⟩ = some (.int .i64 a0_1) := (blk_cell BK101.out 1).trans rfl
                  have hcz11_2 : wc.cell? ⟨gb101, 2, none⟩ = some (.int .i64 a0_2) := (blk_cell BK101.out 2).trans rfl
                  have hcz11_3 : wc.cell? ⟨gb101, 3, none⟩ = some (.int .i64 a0_3) := (blk_cell BK101.out 3).trans rfl
                  have hcz11_4 : wc.cell? ⟨gb101, 4, none⟩ = some (.int .i64 a0_4) := (blk_cell BK101.out 4).trans rfl
                  have hcz11_5 : wc.cell? ⟨gb101, 5, none⟩ = some (.int .i64 a0_5) := (blk_cell BK101.out 5).trans rfl
                  have hcz11_6 : wc.cell? ⟨gb101, 6, none⟩ = some (.int .i64 a0_6) := (blk_cell BK101.out 6).trans rfl
                  have hcz11_7 : wc.cell? ⟨gb101, 7, none⟩ = some (.slice A0_7 l0_7.length c0_7) := (blk_cell BK101.out 7).trans rfl
                  have hfz11_0 := blk_frozen BK101.out 0
                  have hfz11_1 := blk_frozen BK101.out 1
                  have hfz11_2 := blk_frozen BK101.out 2
                  have hfz11_3 := blk_frozen BK101.out 3
                  have hfz11_4 := blk_frozen BK101.out 4
                  have hfz11_5 := blk_frozen BK101.out 5
                  have hfz11_6 := blk_frozen BK101.out 6
                  have hfz11_7 := blk_frozen BK101.out 7
                  have p102 : 0 ≤ (x3_1 : Int) := of_decide_eq_true (by first | (with_reducible assumption) | assumption)
                  have q102 : x3_1 < (l0_7.length : Int) := of_decide_eq_true (by first | (with_reducible assumption) | assumption)
                  obtain ⟨ad102, e102, hx102_0⟩ := Kd.at_string HR0_7.out x3_1 p102 q102
                  cases e102
                  replace hx102_0 := (HB.out.cell (World.block_lt_of_cell? w _ hx102_0)).trans hx102_0
                  replace p102 := eq_true p102
                  replace q102 := eq_true q102
                  go_wp2
                  go_ret
                  exact ⟨by first | rfl | (simp [errW_none, errW_some] <;> rfl) | (simp [*, errW_none, errW_some] <;> rfl), by repeat (first | (with_reducible first | exact HB.out | apply below_alloc | apply pw_below_drewN | apply below_drew1 | refine below_set ?_ GE101.out) | exact HB.out)⟩
                · rw [if_neg c10] at H
                  have c10b0 : decide (400 < ((rdOf ByteArray.empty l0_7 x3_1).size : Int)) = false := decide_eq_false c10
                  have c10b1 : decide (400 < (rdOf ByteArray.empty l0_7 x3_1).size) = false := decide_eq_false (by omega)
                  clear c10
                  have H' := Aside0.mk H
                  clear H
                  have hcz12_0 : wc.cell? ⟨gb101, 0, none⟩ = some (.int .i64 a0_0) := (blk_cell BK101.out 0).trans rfl
                  have hcz12_1 : wc.cell? ⟨gb101, 1, none⟩ = some (.int .i64 a0_1) := (blk_cell BK101.out 1).trans rfl
                  have hcz12_2 : wc.cell? ⟨gb101, 2, none⟩ = some (.int .i64 a0_2) := (blk_cell BK101.out 2).trans rfl
                  have hcz12_3 : wc.cell? ⟨gb101, 3, none⟩ = some (.int .i64 a0_3) := (blk_cell BK101.out 3).trans rfl
                  have hcz12_4 : wc.cell? ⟨gb101, 4, none⟩ = some (.int .i64 a0_4) := (blk_cell BK101.out 4).trans rfl
                  have hcz12_5 : wc.cell? ⟨gb101, 5, none⟩ = some (.int .i64 a0_5) := (blk_cell BK101.out 5).trans rfl
                  have hcz12_6 : wc.cell? ⟨gb101, 6, none⟩ = some (.int .i64 a0_6) := (blk_cell BK101.out 6).trans rfl
                  have hcz12_7 : wc.cell? ⟨gb101, 7, none⟩ = some (.slice A0_7 l0_7.length c0_7) := (blk_cell BK101.out 7).trans rfl
                  have hfz12_0 := blk_frozen BK101.out 0
                  have hfz12_1 := blk_frozen BK101.out 1
                  have hfz12_2 := blk_frozen BK101.out 2
                  have hfz12_3 := blk_frozen BK101.out 3
                  have hfz12_4 := blk_frozen BK101.out 4
                  have hfz12_5 := blk_frozen BK101.out 5
                  have hfz12_6 := blk_frozen BK101.out 6
                  have hfz12_7 := blk_frozen BK101.out 7
                  have p102 : 0 ≤ (x3_1 : Int) := of_decide_eq_true (by first | (with_reducible assumption) | assumption)
                  have q102 : x3_1 < (l0_7.length : Int) := of_decide_eq_true (by first | (with_reducible assumption) | assumption)
                  obtain ⟨ad102, e102, hx102_0⟩ := Kd.at_string HR0_7.out x3_1 p102 q102
                  cases e102
                  replace hx102_0 := (HB.out.cell (World.block_lt_of_cell? w _ hx102_0)).trans hx102_0
                  replace p102 := eq_true p102
                  replace q102 := eq_true q102
                  go_wp2
                  go_roundg kj2
                  case measure => have := HK1.out; have := HJ2.out; omega
                  case rel => exact ⟨(wrap64 (x3_1 + 1)), (by first | rfl | (simp; done) | (simp [*]; done)), H', ⟨by have := HK1.out; have := HJ2.out; omega⟩, ⟨by (with_reducible repeat (first | refine blk_drewN ?_ _ | refine blk_drew ?_ | refine blk_alloc ?_ _)); exact BK101.out⟩, ⟨by repeat (first | (with_reducible first | exact HB.out | apply below_alloc | apply pw_below_drewN | apply below_drew1 | refine below_set ?_ GE101.out) | exact HB.out)⟩⟩
              · rw [if_neg c9] at H
                exact absurd H (by simp)
            · rw [if_neg c8] at H
              exact absurd H (by simp)
          · replace c7 := Bool.eq_false_iff.mpr c7
            subst c7
            have H1 : (some (decide ((l0_7.length : Int) > 80))) = some r := by rw [if_neg (show ¬ (false = true) by decide)] at H; exact H
            clear H
            have H := H1
            clear H1
            obtain rfl := Option.some.inj H
            have hcz13_0 : wc.cell? ⟨gb101, 0, none⟩ = some (.int .i64 a0_0) := (blk_cell BK101.out 0).trans rfl
            have hcz13_1 : wc.cell? ⟨gb101, 1, none⟩ = some (.int .i64 a0_1) := (blk_cell BK101.out 1).trans rfl
            have hcz13_2 : wc.cell? ⟨gb101, 2, none⟩ = some (.int .i64 a0_2) := (blk_cell BK101.out 2).trans rfl
            have hcz13_3 : wc.cell? ⟨gb101, 3, none⟩ = some (.int .i64 a0_3) := (blk_cell BK101.out 3).trans rfl
            have hcz13_4 : wc.cell? ⟨gb101, 4, none⟩ = some (.int .i64 a0_4) := (blk_cell BK101.out 4).trans rfl
            have hcz13_5 : wc.cell? ⟨gb101, 5, none⟩ = some (.int .i64 a0_5) := (blk_cell BK101.out 5).trans rfl
            have hcz13_6 : wc.cell? ⟨gb101, 6, none⟩ = some (.int .i64 a0_6) := (blk_cell BK101.out 6).trans rfl
            have hcz13_7 : wc.cell? ⟨gb101, 7, none⟩ = some (.slice A0_7 l0_7.length c0_7) := (blk_cell BK101.out 7).trans rfl
            have hfz13_0 := blk_frozen BK101.out 0
            have hfz13_1 := blk_frozen BK101.out 1
            have hfz13_2 := blk_frozen BK101.out 2
            have hfz13_3 := blk_frozen BK101.out 3
            have hfz13_4 := blk_frozen BK101.out 4
            have hfz13_5 := blk_frozen BK101.out 5
            have hfz13_6 := blk_frozen BK101.out 6
            have hfz13_7 := blk_frozen BK101.out 7
            go_wp2
            go_ret
            exact ⟨by first | rfl | (simp [errW_none, errW_some] <;> rfl) | (simp [*, errW_none, errW_some] <;> rfl), by repeat (first | (with_reducible first | exact HB.out | apply below_alloc | apply pw_below_drewN | apply below_drew1 | refine below_set ?_ GE101.out) | exact HB.out)⟩

end Go.Proofs.Ytfejidinfcmfjaa.P
/-
  A message's bytes: what is put is got, whatever stands behind; what is got is put.
-/
namespace Go.Proofs.Ytfejidinfcmfjaa.MS
open Go.RowKit Go.Proofs Go.Proofs.CodecPlain Go.Proofs.YtfejidinfcmfjaaW.PrintWords Go.Proofs.YtfejidinfcmfjaaW.PrintLast Go.Proofs.Ytfejidinfcmfjaa.P

def InN (n : Int) : Prop := 0 ≤ n ∧ n ≤ 4294967295
theorem cat_cons (n : Int) (ns : List Int) : catStr ((n :: ns).map numStr) = numStr n ++ catStr (ns.map numStr) := rfl
theorem getNs_put : ∀ (ns : List Int) (_ : ∀ n ∈ ns, InN n) (rest : ByteArray), getNs ns.length (catStr (ns.map numStr) ++ rest) = (ns, rest, true)
  | [], _, rest => by
    show ([], ByteArray.empty ++ rest, true) = _
    rw [ByteArray.empty_append]
  | n :: ns, h, rest => by
    have hn := h n List.mem_cons_self
    have ih := getNs_put ns (fun m hm => h m (List.mem_cons_of_mem _ hm)) rest
    rw [cat_cons, ByteArray.append_assoc]
    simp only [List.length_cons, getNs]
    rw [getNum_put n hn.1 hn.2, if_pos rfl, ih]
theorem getNs_got : ∀ (k : Nat) (s : ByteArray) (ns : List Int) (rest : ByteArray), getNs k s = (ns, rest, true) → ns.length = k ∧ (∀ n ∈ ns, InN n) ∧ s = catStr (ns.map numStr) ++ rest
  | 0, s, ns, rest, h => by
    simp only [getNs, Prod.mk.injEq] at h
    obtain ⟨rfl, rfl, _⟩ := h
    refine ⟨rfl, by simp, ?_⟩
    show s = ByteArray.empty ++ s
    rw [ByteArray.empty_append]
  | k + 1, s, ns, rest, h => by
    simp only [getNs] at h
    obtain ⟨n, r, ok, hg⟩ : ∃ n r ok, getNum s = (n, r, ok) := ⟨_, _, _, rfl⟩
    rw [hg] at h
    cases ok
    · rw [if_neg (show ¬ (false = true) by decide)] at h
      simp only [Prod.mk.injEq] at h
      cases h.2.2
    · rw [if_pos rfl] at h
      simp only [Prod.mk.injEq] at h
      obtain ⟨rfl, h2, h3⟩ := h
      obtain ⟨e1, e2, e3⟩ := getNs_got k r (getNs k r).1 rest (by rw [← h2, ← h3])
      obtain ⟨g1, g2, g3⟩ := getNum_got hg
      refine ⟨by simp [e1], fun m hm => ?_, ?_⟩
      · rcases List.mem_cons.1 hm with rfl | hm
        · exact ⟨g1, g2⟩
        · exact e2 m hm
      · rw [cat_cons, ByteArray.append_assoc, ← e3]; exact g3
theorem msg_parts (n0 n1 n2 n3 n4 n5 n6 : Int) (l : List ByteArray) (h : isB n0 n1 n2 n3 n4 n5 n6 l = true) (rest : ByteArray) :
    getNs 7 (msgStr n0 n1 n2 n3 n4 n5 n6 l ++ rest) = ([n0, n1, n2, n3, n4, n5, n6], rowStr l ++ rest, true) ∧ getRow (rowStr l ++ rest) = (l, rest, true) := by
  obtain ⟨b0, b1, b2, b3, b4, b5, b6, hl, hsz⟩ := isB_bd h
  refine ⟨?_, getRow_put l (by omega) (fun t ht => by have := hsz t ht; omega) rest⟩
  unfold msgStr
  rw [ByteArray.append_assoc]
  exact getNs_put [n0, n1, n2, n3, n4, n5, n6] (by
    intro n hn
    simp only [List.mem_cons, List.not_mem_nil, or_false] at hn
    rcases hn with rfl | rfl | rfl | rfl | rfl | rfl | rfl <;> assumption) _
theorem app_nil (s : ByteArray) : s ++ (⟨#[]⟩ : ByteArray) = s := ByteArray.append_empty
theorem getM_put (n0 n1 n2 n3 n4 n5 n6 : Int) (l : List ByteArray) (h : isB n0 n1 n2 n3 n4 n5 n6 l = true) : getM (getNs 7 (msgStr n0 n1 n2 n3 n4 n5 n6 l)) = (n0, n1, n2, n3, n4, n5, n6, l, 0) := by
  obtain ⟨h1, h2⟩ := msg_parts n0 n1 n2 n3 n4 n5 n6 l h ⟨#[]⟩
  rw [app_nil] at h1
  rw [h1]
  unfold getM
  simp only [h2]
  rw [if_pos ⟨trivial, trivial, h⟩]
theorem getM_got (s : ByteArray) : getM (getNs 7 s) = (0, 0, 0, 0, 0, 0, 0, [], 30) ∨ ∃ n0 n1 n2 n3 n4 n5 n6 l, getM (getNs 7 s) = (n0, n1, n2, n3, n4, n5, n6, l, 0) ∧ isB n0 n1 n2 n3 n4 n5 n6 l = true ∧ msgStr n0 n1 n2 n3 n4 n5 n6 l = s := by
  obtain ⟨ns, rest, ok, hg⟩ : ∃ ns rest ok, getNs 7 s = (ns, rest, ok) := ⟨_, _, _, rfl⟩
  cases ok
  · exact .inl (getM_no (by rw [hg]))
  · obtain ⟨e1, _, e3⟩ := getNs_got 7 s ns rest hg
    obtain ⟨n0, n1, n2, n3, n4, n5, n6, rfl⟩ : ∃ n0 n1 n2 n3 n4 n5 n6, ns = [n0, n1, n2, n3, n4, n5, n6] := by
      match ns, e1 with
      | [n0, n1, n2, n3, n4, n5, n6], _ => exact ⟨_, _, _, _, _, _, _, rfl⟩
    obtain ⟨l, r, ok, hr⟩ : ∃ l r ok, getRow rest = (l, r, ok) := ⟨_, _, _, rfl⟩
    have hm : getM (getNs 7 s) = if ok = true ∧ r = ⟨#[]⟩ ∧ isB n0 n1 n2 n3 n4 n5 n6 l = true then (n0, n1, n2, n3, n4, n5, n6, l, 0) else (0, 0, 0, 0, 0, 0, 0, [], 30) := by
      rw [hg]; unfold getM; simp only [hr]
    by_cases hc : ok = true ∧ r = ⟨#[]⟩ ∧ isB n0 n1 n2 n3 n4 n5 n6 l = true
    · rw [if_pos hc] at hm
      obtain ⟨rfl, rfl, hi⟩ := hc
      obtain ⟨_, _, hrow⟩ := getRow_got hr
      rw [app_nil] at hrow
      exact .inr ⟨_, _, _, _, _, _, _, _, hm, hi, by unfold msgStr; rw [← hrow]; exact e3.symm⟩
    · rw [if_neg hc] at hm
      exact .inl hm
theorem put_f (n0 n1 n2 n3 n4 n5 n6 : Int) (l : List ByteArray) : msg_Put.f n0 n1 n2 n3 n4 n5 n6 l = some (if isB n0 n1 n2 n3 n4 n5 n6 l = true then (msgStr n0 n1 n2 n3 n4 n5 n6 l, 0) else (⟨#[]⟩, 1)) := by
  unfold msg_Put.f
  split <;> rfl
theorem get_f (s : ByteArray) : msg_Get.f s = some (getM (getNs 7 s)) := rfl
theorem same_ev (a0 a1 a2 a3 a4 a5 a6 : Int) (l : List ByteArray) (b0 b1 b2 b3 b4 b5 b6 : Int) (m : List ByteArray) (hl : l.length ≤ 100000) :
    Ev (fun k => sextonref23_Same.f k a0 a1 a2 a3 a4 a5 a6 l b0 b1 b2 b3 b4 b5 b6 m) (decide (a0 = b0 ∧ a1 = b1 ∧ a2 = b2 ∧ a3 = b3 ∧ a4 = b4 ∧ a5 = b5 ∧ a6 = b6 ∧ l = m)) := by
  obtain ⟨K, e⟩ := refTexts l m (by omega)
  simp only at e
  refine ⟨K, fun k hk => ?_⟩
  show sextonref23_Same.f k a0 a1 a2 a3 a4 a5 a6 l b0 b1 b2 b3 b4 b5 b6 m = _
  unfold sextonref23_Same.f
  rw [e k hk]
  by_cases h0 : a0 = b0
  · by_cases h1 : a1 = b1
    · by_cases h2 : a2 = b2
      · by_cases h3 : a3 = b3
        · by_cases h4 : a4 = b4
          · by_cases h5 : a5 = b5
            · by_cases h6 : a6 = b6
              · simp [h0, h1, h2, h3, h4, h5, h6]
              · simp [h6]
            · simp [h5]
          · simp [h4]
        · simp [h3]
      · simp [h2]
    · simp [h1]
  · simp [h0]
/-- Big answers for every message; where it says no there are at most 80 texts. -/
theorem big_f (n0 n1 n2 n3 n4 n5 n6 : Int) (l : List ByteArray) : ∃ r, (∀ k, 200 < k → sextonref23_Big.f k n0 n1 n2 n3 n4 n5 n6 l = some r) ∧ (r = false → l.length ≤ 80) := by
  unfold sextonref23_Big.f
  by_cases h80 : l.length ≤ 80
  · have : ∀ i : Nat, i ≤ l.length → ∃ r, ∀ k, 2 * (l.length - i) + 2 < k → sextonref23_Big.l0 k (i : Int) n0 n1 n2 n3 n4 n5 n6 l = some r := by
      intro i
      induction hd : l.length - i generalizing i with
      | zero =>
        intro hi
        refine ⟨decide ((l.length : Int) > 80), fun k hk => ?_⟩
        obtain ⟨k, rfl⟩ : ∃ m, k = m + 2 := ⟨k - 2, by omega⟩
        simp only [sextonref23_Big.l0]
        rw [if_neg (by omega)]
        simp only [sextonref23_Big.j1]
        rw [if_neg (by decide)]
      | succ d ih =>
        intro hi
        obtain ⟨r, hr⟩ := ih (i + 1) (by omega) (by omega)
        have step : ∀ k, 2 * (d + 1) + 2 < k → sextonref23_Big.l0 k (i : Int) n0 n1 n2 n3 n4 n5 n6 l = if ((rdOf ByteArray.empty l (i : Int)).size : Int) > 400 then some true else some r := by
          intro k hk
          obtain ⟨k, rfl⟩ : ∃ m, k = m + 2 := ⟨k - 2, by omega⟩
          simp only [sextonref23_Big.l0]
          rw [if_pos (by omega), decide_eq_true (by omega)]
          simp only [sextonref23_Big.j1]
          rw [if_pos trivial, if_pos (by omega), if_pos (by omega), show wrap64 ((i : Int) + 1) = ((i + 1 : Nat) : Int) by unfold wrap64; omega, hr k (by omega)]
        by_cases h1 : ((rdOf ByteArray.empty l (i : Int)).size : Int) > 400
        · exact ⟨true, fun k hk => by rw [step k hk, if_pos h1]⟩
        · exact ⟨r, fun k hk => by rw [step k hk, if_neg h1]⟩
    obtain ⟨r, hr⟩ := this 0 (by omega)
    exact ⟨r, fun k hk => hr k (by omega), fun _ => h80⟩
  · refine ⟨true, fun k hk => ?_, fun h => by cases h⟩
    obtain ⟨k, rfl⟩ : ∃ m, k = m + 2 := ⟨k - 2, by omega⟩
    simp only [sextonref23_Big.l0]
    rw [if_pos (by omega), decide_eq_false (by omega)]
    simp only [sextonref23_Big.j1]
    rw [if_neg (by decide), decide_eq_true (by omega)]
end Go.Proofs.Ytfejidinfcmfjaa.MS
/-
  slices.Clone over texts, by hand: the same elements in a row of its own. For every row of no more than 1000000000 elements.
-/
namespace Go.Proofs.Ytfejidinfcmfjaa.P
open Go.RowKit Go.Proofs.YtfejidinfcmfjaaW.PrintWords Go.Proofs.YtfejidinfcmfjaaW.PrintLast Go.Proofs.YtfejidinfcmfjaaW.PrintMore Go.Proofs.Plain

/-- What slices.Clone answers. -/
def slices_Clone_string_string.f (l0 : List ByteArray) : Option (List ByteArray) := if l0.length ≤ 1000000000 then some l0 else none
theorem slices_Clone_string_string_info : (Try.prog.info? 9).map (fun i => (i.zero, i.size, i.bytes)) = some (some (.string ⟨#[]⟩), 1, 16) := by kernel_rfl

set_option maxHeartbeats 2000000 in
theorem slices_Clone_string_string.calls (A0 : Option Addr) (c0 : Nat) (l0 : List ByteArray) (r : List ByteArray) (w : World) (hr0 : Kd.C Kd.string w A0 l0.length l0) (hc0 : l0.length ≤ c0) (h : slices_Clone_string_string.f l0 = some r) :
    Calls Try.prog 74 #[.slice A0 l0.length c0] w fun e w' => ∃ v0_ : Value, e = .returned (v0_) ∧ Kd.R Kd.string 9 w' w.heap.size (fun _ => True) v0_ r ∧ Below w.heap.size w w' := by
  unfold slices_Clone_string_string.f at h
  split at h
  · rename_i hlen
    obtain rfl := Option.some.inj h
    have HR := Aside0.mk hr0
    have HL := Aside0.mk hlen
    have heq := fun (W : World) => Lib.run_eql_slice_nil (P := Try.prog) W 27 9 A0 l0.length c0 0 0 Try.underlying27
    clear h hlen
    cases A0 with
    | none =>
      have h0 : l0 = [] := by
        cases l0 with
        | nil => rfl
        | cons x l => obtain ⟨_, e, _⟩ := hr0.2.2 (by simp); cases e
      have HN := Aside0.mk h0
      clear hr0 h0
      go_enter Try.func74, Try.ntmps74
      go_wp2
      go_ret
      exact ⟨_, rfl, by rw [HN.out]; exact Kd.R_nil _ _ _ _ _, Below.refl _ _⟩
    | some ad =>
      clear hr0
      have HR0 := Aside0.mk (show Kd.R Kd.string 9 (w.alloc (.cells #[] 9)) w.heap.size (fun _ => True) (.slice (some ⟨w.heap.size, 0, none⟩) 0 0) [] from ⟨fun _ _ => trivial, [], World.ownsRow_lit w #[] 0 (Nat.le_refl _) (by simp [maxLen]) rfl, Reps.none _ _⟩)
      have HB := Aside0.mk (show Below w.heap.size w (w.alloc (.cells #[] 9)) from (Below.refl _ _).alloc (Nat.le_refl _) _)
      go_enter Try.func74, Try.ntmps74
      go_wp2_with (at_builtin; refine Kd.R_append_rows Kd.string (w0 := w) w.heap.size rfl (.tmp 5) (.tmp 6) 27 9 (.string ⟨#[]⟩) 16 rfl Try.underlying27 slices_Clone_string_string_info rfl (by decide) (by omega) (.slice (some ⟨w.heap.size, 0, none⟩) 0 0) ([] : List ByteArray) l0 _ _ _ (fun _ => True) (fun _ => False) rfl rfl HR0.out (Kd.C_below HR.out HB.out) (fun _ _ h => h) (fun _ h => h.elim) (fun _ _ => trivial) HB.out HB.out.size (by have := HL.out; simp; omega) ?_; intro v1 w1 ho hb _ _; have HO := Aside0.mk ho; have HB1 := Aside0.mk hb; clear ho hb)
      go_ret
      exact ⟨_, rfl, HO.out, HB1.out⟩
  · cases h
end Go.Proofs.Ytfejidinfcmfjaa.P
-- Written by a program of this session (xprint.py) over the kit's print.py.
namespace Go.Proofs.Ytfejidinfcmfjaa.P
open Go.RowKit Go.Proofs.YtfejidinfcmfjaaW.PrintWords Go.Proofs.YtfejidinfcmfjaaW.PrintLast Go.Proofs.YtfejidinfcmfjaaW.PrintMore
attribute [local go_sem] max2_int min2_int max_two min_two max_three min_three max_four min_four   -- for this text's walks alone
set_option linter.unusedVariables false
set_option linter.unusedSimpArgs false

/-! ### msg_Prepare: function 40 -/
def msg_Prepare.f (a0 : Int) (a1 : Int) (a2 : Int) (a3 : Int) (l4 : List ByteArray) : Option (Int × Int × Int × Int × Int × Int × Int × List ByteArray) := (slices_Clone_string_string.f l4).bind fun t374 => (some (1, a0, a1, a2, 0, a3, 0, t374))
set_option maxHeartbeats 8000000 in
set_option maxRecDepth 100000 in
theorem msg_Prepare.calls (a0 : Int) (a1 : Int) (a2 : Int) (a3 : Int) (A4 : Option Addr) (c4 : Nat) (l4 : List ByteArray) (r1 : Int) (r2 : Int) (r3 : Int) (r4 : Int) (r5 : Int) (r6 : Int) (r7 : Int) (r8 : List ByteArray) (w : World) (hr4 : Kd.C Kd.string w A4 l4.length l4) (hc4 : l4.length ≤ c4) (h : msg_Prepare.f a0 a1 a2 a3 l4 = some (r1, r2, r3, r4, r5, r6, r7, r8)) :
    Calls Try.prog 40 #[.int .i64 a0, .int .i64 a1, .int .i64 a2, .int .i64 a3, .slice A4 l4.length c4] w fun e w' => ∃ v7_ : Value, e = .returned (.agg #[.int .i64 r1, .int .i64 r2, .int .i64 r3, .int .i64 r4, .int .i64 r5, .int .i64 r6, .int .i64 r7, v7_]) ∧ Kd.R Kd.string 9 w' w.heap.size (fun _ => True) v7_ r8 ∧ Below w.heap.size w w' := by
  have hu29 := Try.underlying29
  have HR4 := Aside0.mk hr4
  have HC4 := Aside0.mk hc4
  clear hr4 hc4
  have HB := Aside0.mk (Below.refl w.heap.size w)
  have H : ((slices_Clone_string_string.f l4).bind fun t374 => (some (1, a0, a1, a2, 0, a3, 0, t374))) = some (r1, r2, r3, r4, r5, r6, r7, r8) := h
  clear h
  replace H := Option.bind_eq_some_iff.mp H
  obtain ⟨t374, A60, H⟩ := H
  replace H : (some (1, a0, a1, a2, 0, a3, 0, t374)) = some (r1, r2, r3, r4, r5, r6, r7, r8) := H
  have A6 := Aside0.mk A60
  clear A60
  simp only [Option.some.injEq, Prod.mk.injEq] at H
  obtain ⟨rfl, rfl, rfl, rfl, rfl, rfl, rfl, rfl⟩ := H
  go_enter Try.func40, Try.ntmps40
  go_wp2_with (first | ((with_reducible refine gate_dst (N := 10) rfl ?_); refine box_event ?hg (N := 10) ?hd (cs := #[.int .i64 0, .int .i64 0, .int .i64 0, .int .i64 0, .int .i64 0, .int .i64 0, .int .i64 0, .slice none 0 0]) (t := 29) ?hr ?_; (case hd => rfl); (case hg => rfl); (case hr => first | (go_simp; done) | (go_simp; rfl)); intro gb373 hg w7 hbox hb; have n0_ := Aside0.mk (below_step (by repeat (first | (with_reducible first | exact HB.out | apply below_alloc | apply pw_below_drewN | apply below_drew1) | exact HB.out)) hb); have n1_ := Aside0.mk (hbox); have n2_ := Aside0.mk ((by rw [hg]; exact (below_size (by repeat (first | (with_reducible first | exact HB.out | apply below_alloc | apply pw_below_drewN | apply below_drew1) | exact HB.out))) : w.heap.size ≤ gb373)); have n3_ := Aside0.mk ((by rw [hg]; exact (below_size (by repeat (first | (with_reducible first | exact HB.out | apply below_alloc | apply pw_below_drewN | apply below_drew1) | exact HB.out))) : w.heap.size ≤ gb373)); clear HB; have HB := n0_; have BK373 := n1_; have GW373 := n2_; have GE373 := n3_; clear n0_ n1_ n2_ n3_; clear hb hbox hg) | ((with_reducible refine gate_callee (f := 74) rfl ?_); refine goesL_ (some 16) rfl rfl Try.func74 (by kernel_rfl) rfl #[.slice A4 l4.length c4] rfl (by (try simp only [List.map_toArray, List.map_cons, List.map_nil]); first | done | rfl | (simp only [List.length_drop, List.length_take]; rfl)) ?_; (with_reducible refine (slices_Clone_string_string.calls _ _ l4 t374 _ ?side1 ?side2 A6.out).mono ?_); (case side1 => repeat (first | exact (Kd.C_below HR4.out HB.out) | (with_reducible refine Kd.C_alloc ?_ _) | (with_reducible refine Kd.C_drewN ?_ _) | (with_reducible refine Kd.C_drew ?_))); (case side2 => exact HC4.out); rintro e w8 ⟨v375, rfl, ho0, hb⟩; refine ⟨_, rfl, ?_⟩; have n0_ := Aside0.mk (Kd.R_lower ho0 (below_size (by repeat (first | (with_reducible first | exact HB.out | apply below_alloc | apply pw_below_drewN | apply below_drew1 | refine below_set ?_ GE373.out) | exact HB.out)))); have n1_ := Aside0.mk (blk_below (g := gb373) (o := .cells #[.int .i64 0, .int .i64 0, .int .i64 0, .int .i64 0, .int .i64 0, .int .i64 0, .int .i64 0, .slice none 0 0] 29 (0, 0)) (by (with_reducible repeat (first | refine blk_drewN ?_ _ | refine blk_drew ?_ | refine blk_alloc ?_ _)); exact BK373.out) hb); have n2_ := Aside0.mk (below_step (by repeat (first | (with_reducible first | exact HB.out | apply below_alloc | apply pw_below_drewN | apply below_drew1 | refine below_set ?_ GE373.out) | exact HB.out)) hb); clear BK373; clear HB; have HO376 := n0_; have BK373 := n1_; have HB := n2_; clear n0_ n1_ n2_; (try clear hb); (try clear hb2); (try clear hk); (try clear hi); (try clear ho0); obtain ⟨Ao9, co9, eo9⟩ := Kd.R_slice HO376.out; subst eo9; have hcz10_0 : w8.cell? ⟨gb373, 0, none⟩ = some (.int .i64 0) := (blk_cell BK373.out 0).trans rfl; have hcz10_1 : w8.cell? ⟨gb373, 1, none⟩ = some (.int .i64 0) := (blk_cell BK373.out 1).trans rfl; have hcz10_2 : w8.cell? ⟨gb373, 2, none⟩ = some (.int .i64 0) := (blk_cell BK373.out 2).trans rfl; have hcz10_3 : w8.cell? ⟨gb373, 3, none⟩ = some (.int .i64 0) := (blk_cell BK373.out 3).trans rfl; have hcz10_4 : w8.cell? ⟨gb373, 4, none⟩ = some (.int .i64 0) := (blk_cell BK373.out 4).trans rfl; have hcz10_5 : w8.cell? ⟨gb373, 5, none⟩ = some (.int .i64 0) := (blk_cell BK373.out 5).trans rfl; have hcz10_6 : w8.cell? ⟨gb373, 6, none⟩ = some (.int .i64 0) := (blk_cell BK373.out 6).trans rfl; have hcz10_7 : w8.cell? ⟨gb373, 7, none⟩ = some (.slice none 0 0) := (blk_cell BK373.out 7).trans rfl; have hfz10_0 := blk_frozen BK373.out 0; have hfz10_1 := blk_frozen BK373.out 1; have hfz10_2 := blk_frozen BK373.out 2; have hfz10_3 := blk_frozen BK373.out 3; have hfz10_4 := blk_frozen BK373.out 4; have hfz10_5 := blk_frozen BK373.out 5; have hfz10_6 := blk_frozen BK373.out 6; have hfz10_7 := blk_frozen BK373.out 7))
  refine bodyPost_ret (results_cell_row rfl _ _ gb373 29 #[.int .i64 1, .int .i64 a0, .int .i64 a1, .int .i64 a2, .int .i64 0, .int .i64 a3, .int .i64 0, .slice Ao9 t374.length co9] (0, 0) _ rfl (by (with_reducible repeat (first | refine blk_drewN ?_ _ | refine blk_drew ?_ | refine blk_alloc ?_ _)); refine blk_put (cs := #[.int .i64 1, .int .i64 a0, .int .i64 a1, .int .i64 a2, .int .i64 0, .int .i64 a3, .int .i64 0, .slice none 0 0]) ?_ 7 _ rfl; (with_reducible repeat (first | refine blk_drewN ?_ _ | refine blk_drew ?_ | refine blk_alloc ?_ _)); refine blk_put (cs := #[.int .i64 1, .int .i64 a0, .int .i64 a1, .int .i64 a2, .int .i64 0, .int .i64 a3, .int .i64 0, .slice none 0 0]) ?_ 6 _ rfl; (with_reducible repeat (first | refine blk_drewN ?_ _ | refine blk_drew ?_ | refine blk_alloc ?_ _)); refine blk_put (cs := #[.int .i64 1, .int .i64 a0, .int .i64 a1, .int .i64 a2, .int .i64 0, .int .i64 0, .int .i64 0, .slice none 0 0]) ?_ 5 _ rfl; (with_reducible repeat (first | refine blk_drewN ?_ _ | refine blk_drew ?_ | refine blk_alloc ?_ _)); refine blk_put (cs := #[.int .i64 1, .int .i64 a0, .int .i64 a1, .int .i64 a2, .int .i64 0, .int .i64 0, .int .i64 0, .slice none 0 0]) ?_ 4 _ rfl; (with_reducible repeat (first | refine blk_drewN ?_ _ | refine blk_drew ?_ | refine blk_alloc ?_ _)); refine blk_put (cs := #[.int .i64 1, .int .i64 a0, .int .i64 a1, .int .i64 0, .int .i64 0, .int .i64 0, .int .i64 0, .slice none 0 0]) ?_ 3 _ rfl; (with_reducible repeat (first | refine blk_drewN ?_ _ | refine blk_drew ?_ | refine blk_alloc ?_ _)); refine blk_put (cs := #[.int .i64 1, .int .i64 a0, .int .i64 0, .int .i64 0, .int .i64 0, .int .i64 0, .int .i64 0, .slice none 0 0]) ?_ 2 _ rfl; (with_reducible repeat (first | refine blk_drewN ?_ _ | refine blk_drew ?_ | refine blk_alloc ?_ _)); refine blk_put (cs := #[.int .i64 1, .int .i64 0, .int .i64 0, .int .i64 0, .int .i64 0, .int .i64 0, .int .i64 0, .slice none 0 0]) ?_ 1 _ rfl; (with_reducible repeat (first | refine blk_drewN ?_ _ | refine blk_drew ?_ | refine blk_alloc ?_ _)); refine blk_put (cs := #[.int .i64 0, .int .i64 0, .int .i64 0, .int .i64 0, .int .i64 0, .int .i64 0, .int .i64 0, .slice none 0 0]) ?_ 0 _ rfl; (with_reducible repeat (first | refine blk_drewN ?_ _ | refine blk_drew ?_ | refine blk_alloc ?_ _)); exact BK373.out) Try.underlying29 rfl (by kernel_rfl)) rfl ?_
  exact ⟨_, by first | rfl | (simp [errW_none, errW_some] <;> rfl) | (simp [*, errW_none, errW_some] <;> rfl), by (with_reducible repeat (first | apply Kd.R_alloc | apply Kd.R_drewN | apply Kd.R_drew)); exact Kd.R_mono (Kd.R_far (p := ⟨gb373, 7, none⟩) (Kd.R_far (p := ⟨gb373, 6, none⟩) (Kd.R_far (p := ⟨gb373, 5, none⟩) (Kd.R_far (p := ⟨gb373, 4, none⟩) (Kd.R_far (p := ⟨gb373, 3, none⟩) (Kd.R_far (p := ⟨gb373, 2, none⟩) (Kd.R_far (p := ⟨gb373, 1, none⟩) (Kd.R_far (p := ⟨gb373, 0, none⟩) (Kd.R_types HO376.out BK373.out (by decide)) (fun _ hk => hk.2) (.int .i64 1)) (fun _ hk => hk.2) (.int .i64 a0)) (fun _ hk => hk.2) (.int .i64 a1)) (fun _ hk => hk.2) (.int .i64 a2)) (fun _ hk => hk.2) (.int .i64 0)) (fun _ hk => hk.2) (.int .i64 a3)) (fun _ hk => hk.2) (.int .i64 0)) (fun _ hk => hk.2) (.slice Ao9 t374.length co9)) (fun _ hk => trivial), by repeat (first | (with_reducible first | exact HB.out | apply below_alloc | apply pw_below_drewN | apply below_drew1 | refine below_set ?_ GE373.out) | exact HB.out)⟩

end Go.Proofs.Ytfejidinfcmfjaa.P
-- Written by a program of this session (xprint.py) over the kit's print.py.
namespace Go.Proofs.Ytfejidinfcmfjaa.P
open Go.RowKit Go.Proofs.YtfejidinfcmfjaaW.PrintWords Go.Proofs.YtfejidinfcmfjaaW.PrintLast Go.Proofs.YtfejidinfcmfjaaW.PrintMore
attribute [local go_sem] max2_int min2_int max_two min_two max_three min_three max_four min_four   -- for this text's walks alone
set_option linter.unusedVariables false
set_option linter.unusedSimpArgs false

/-! ### msg_Cast: function 41 -/
def msg_Cast.f (a0 : Int) (a1 : Int) (a2_0 : Int) (a2_1 : Int) (a2_2 : Int) (l2_3 : List ByteArray) : Option (Int × Int × Int × Int × Int × Int × Int × List ByteArray) := (slices_Clone_string_string.f l2_3).bind fun t379 => (some (3, a2_0, a0, a1, a2_1, a2_2, 0, t379))
def msg_Cast.T1 : Bool × List (List Nat × List Nat) := (true, [([], []), ([0], [0]), ([], []), ([], []), ([], []), ([4], [4]), ([], []), ([6], [6]), ([], []), ([8], [8]), ([9], [9]), ([1, 2, 3, 5, 7, 10], [1, 2, 3, 5, 7, 10]), ([11, 10, 0, 1, 2, 3, 4, 5, 6, 7, 8, 9, 10, 11], [11])])
def msg_Cast.B1 : List Nat := [0, 1, 0, 0, 0, 16, 0, 64, 0, 256, 768, 2047, 4095]
theorem msg_Cast.tab1 : rtab .any (opsOf Try.f41 1) = msg_Cast.T1 := by kernel_rfl
theorem msg_Cast.bits1 : waitsOk msg_Cast.T1.2 msg_Cast.B1 = true := by kernel_rfl
set_option maxHeartbeats 8000000 in
set_option maxRecDepth 100000 in
theorem msg_Cast.calls (a0 : Int) (a1 : Int) (a2_0 : Int) (a2_1 : Int) (a2_2 : Int) (A2_3 : Option Addr) (c2_3 : Nat) (l2_3 : List ByteArray) (r1 : Int) (r2 : Int) (r3 : Int) (r4 : Int) (r5 : Int) (r6 : Int) (r7 : Int) (r8 : List ByteArray) (w : World) (hr2_3 : Kd.C Kd.string w A2_3 l2_3.length l2_3) (hc2_3 : l2_3.length ≤ c2_3) (h : msg_Cast.f a0 a1 a2_0 a2_1 a2_2 l2_3 = some (r1, r2, r3, r4, r5, r6, r7, r8)) :
    Calls Try.prog 41 #[.int .i64 a0, .int .i64 a1, .agg #[.int .i64 a2_0, .int .i64 a2_1, .int .i64 a2_2, .slice A2_3 l2_3.length c2_3]] w fun e w' => ∃ v7_ : Value, e = .returned (.agg #[.int .i64 r1, .int .i64 r2, .int .i64 r3, .int .i64 r4, .int .i64 r5, .int .i64 r6, .int .i64 r7, v7_]) ∧ Kd.R Kd.string 9 w' w.heap.size (fun _ => True) v7_ r8 ∧ Below w.heap.size w w' := by
  have hu54 := Try.underlying54
  have hu29 := Try.underlying29
  have HR2_3 := Aside0.mk hr2_3
  have HC2_3 := Aside0.mk hc2_3
  clear hr2_3 hc2_3
  have HB := Aside0.mk (Below.refl w.heap.size w)
  have H : ((slices_Clone_string_string.f l2_3).bind fun t379 => (some (3, a2_0, a0, a1, a2_1, a2_2, 0, t379))) = some (r1, r2, r3, r4, r5, r6, r7, r8) := h
  clear h
  replace H := Option.bind_eq_some_iff.mp H
  obtain ⟨t379, A40, H⟩ := H
  replace H : (some (3, a2_0, a0, a1, a2_1, a2_2, 0, t379)) = some (r1, r2, r3, r4, r5, r6, r7, r8) := H
  have A4 := Aside0.mk A40
  clear A40
  simp only [Option.some.injEq, Prod.mk.injEq] at H
  obtain ⟨rfl, rfl, rfl, rfl, rfl, rfl, rfl, rfl⟩ := H
  go_enter Try.func41, Try.ntmps41
  try go_wp2_with (first | ((with_reducible refine gate_dst (N := 5) rfl ?_); refine box_event ?hg (N := 5) ?hd (cs := #[.int .i64 a2_0, .int .i64 a2_1, .int .i64 a2_2, .slice A2_3 l2_3.length c2_3]) (t := 54) ?hr ?_; (case hd => rfl); (case hg => rfl); (case hr => first | (go_simp; done) | (go_simp; rfl)); intro gb377 hg w5 hbox hb; have n0_ := Aside0.mk (below_step (by repeat (first | (with_reducible first | exact HB.out | apply below_alloc | apply pw_below_drewN | apply below_drew1) | exact HB.out)) hb); have n1_ := Aside0.mk (hbox); have n2_ := Aside0.mk ((by rw [hg]; exact (below_size (by repeat (first | (with_reducible first | exact HB.out | apply below_alloc | apply pw_below_drewN | apply below_drew1) | exact HB.out))) : w.heap.size ≤ gb377)); have n3_ := Aside0.mk ((by rw [hg]; exact (below_size (by repeat (first | (with_reducible first | exact HB.out | apply below_alloc | apply pw_below_drewN | apply below_drew1) | exact HB.out))) : w.heap.size ≤ gb377)); clear HB; have HB := n0_; have BK377 := n1_; have GW377 := n2_; have GE377 := n3_; clear n0_ n1_ n2_ n3_; clear hb hbox hg) | ((with_reducible refine gate_dst (N := 6) rfl ?_); refine box_event ?hg (N := 6) ?hd (cs := #[.int .i64 0, .int .i64 0, .int .i64 0, .int .i64 0, .int .i64 0, .int .i64 0, .int .i64 0, .slice none 0 0]) (t := 29) ?hr ?_; (case hd => rfl); (case hg => rfl); (case hr => first | (go_simp; done) | (go_simp; rfl)); intro gb378 hg w6 hbox hb; have n0_ := Aside0.mk (blk_below (g := gb377) (o := .cells #[.int .i64 a2_0, .int .i64 a2_1, .int .i64 a2_2, .slice A2_3 l2_3.length c2_3] 54 (0, 0)) (by (with_reducible repeat (first | refine blk_drewN ?_ _ | refine blk_drew ?_ | refine blk_alloc ?_ _)); exact BK377.out) hb); have n1_ := Aside0.mk (below_step (by repeat (first | (with_reducible first | exact HB.out | apply below_alloc | apply pw_below_drewN | apply below_drew1 | refine below_set ?_ GE377.out) | exact HB.out)) hb); have n2_ := Aside0.mk (hbox); have n3_ := Aside0.mk ((by rw [hg]; exact (below_size (by repeat (first | (with_reducible first | exact HB.out | apply below_alloc | apply pw_below_drewN | apply below_drew1 | refine below_set ?_ GE377.out) | exact HB.out))) : w.heap.size ≤ gb378)); have n4_ := Aside0.mk ((by rw [hg]; exact (below_size (by repeat (first | (with_reducible first | exact HB.out | apply below_alloc | apply pw_below_drewN | apply below_drew1 | refine below_set ?_ GE377.out) | exact HB.out))) : w.heap.size ≤ gb378)); have n5_ := Aside0.mk ((by rw [hg]; exact Nat.ne_of_lt (blk_lt (g := gb377) (o := .cells #[.int .i64 a2_0, .int .i64 a2_1, .int .i64 a2_2, .slice A2_3 l2_3.length c2_3] 54 (0, 0)) (by (with_reducible repeat (first | refine blk_drewN ?_ _ | refine blk_drew ?_ | refine blk_alloc ?_ _)); exact BK377.out)) : gb377 ≠ gb378)); have n6_ := Aside0.mk ((by rw [hg]; exact Nat.ne_of_gt (blk_lt (g := gb377) (o := .cells #[.int .i64 a2_0, .int .i64 a2_1, .int .i64 a2_2, .slice A2_3 l2_3.length c2_3] 54 (0, 0)) (by (with_reducible repeat (first | refine blk_drewN ?_ _ | refine blk_drew ?_ | refine blk_alloc ?_ _)); exact BK377.out)) : gb378 ≠ gb377)); clear BK377; clear HB; have BK377 := n0_; have HB := n1_; have BK378 := n2_; have GW378 := n3_; have GE378 := n4_; have NB377_378 := n5_; have NB378_377 := n6_; clear n0_ n1_ n2_ n3_ n4_ n5_ n6_; clear hb hbox hg))
  have n0_ := Aside0.mk (blk_drew BK377.out)
  have n1_ := Aside0.mk (blk_drew BK378.out)
  have n2_ := Aside0.mk (below_drew1 HB.out)
  clear BK377
  clear BK378
  clear HB
  have BK377 := n0_
  have BK378 := n1_
  have HB := n2_
  clear n0_ n1_ n2_
  refine start_ (n := 13) (S := fun w' => w'.cell? ⟨gb377, 0, none⟩ = some (.int .i64 a2_0) ∧ w'.cell? ⟨gb377, 1, none⟩ = some (.int .i64 a2_1) ∧ w'.cell? ⟨gb377, 2, none⟩ = some (.int .i64 a2_2) ∧ w'.cell? ⟨gb377, 3, none⟩ = some (.slice A2_3 l2_3.length c2_3)) (ds := []) #[false, false, false, false, false, false, false, false, false, false, false, false, false] (by kernel_rfl) rfl rfl ⟨(blk_cell BK377.out 0).trans rfl, (blk_cell BK377.out 1).trans rfl, (blk_cell BK377.out 2).trans rfl, (blk_cell BK377.out 3).trans rfl⟩ (fun hHeld => ?_); refine with_tabW msg_Cast.tab1 msg_Cast.bits1 (fun HT_ HW_ => ?_)
  generalize w6.drew = w7 at BK377 BK378 HB hHeld ⊢
  refine pure_ (i := 0) (N := some 7) (v := ?_) (a' := ?_) #[true, false, false, false, false, false, false, false, false, false, false, false, false] rfl rfl (any_of HT_.out (by kernel_rfl)) (fun _ _ _ h => h) (Or.inl ⟨by rfl, ?_⟩) ?_ ?_
  rotate_left
  · intro w'
    go_simp
    with_reducible rfl
  rotate_left
  · simp only [Act.put, List.setIfInBounds_toArray, List.set_cons_zero, List.set_cons_succ, i64_w, i32_w]
    rfl
  refine pure_ (i := 2) (N := some 9) (v := ?_) (a' := ?_) #[true, false, true, false, false, false, false, false, false, false, false, false, false] rfl rfl (any_of HT_.out (by kernel_rfl)) (fun _ _ _ h => h) (Or.inl ⟨by rfl, ?_⟩) ?_ ?_
  rotate_left
  · intro w'
    go_simp
    with_reducible rfl
  rotate_left
  · simp only [Act.put, List.setIfInBounds_toArray, List.set_cons_zero, List.set_cons_succ, i64_w, i32_w]
    rfl
  refine pure_ (i := 3) (N := some 10) (v := ?_) (a' := ?_) #[true, false, true, true, false, false, false, false, false, false, false, false, false] rfl rfl (any_of HT_.out (by kernel_rfl)) (fun _ _ _ h => h) (Or.inl ⟨by rfl, ?_⟩) ?_ ?_
  rotate_left
  · intro w'
    go_simp
    with_reducible rfl
  rotate_left
  · simp only [Act.put, List.setIfInBounds_toArray, List.set_cons_zero, List.set_cons_succ, i64_w, i32_w]
    rfl
  refine pure_ (i := 4) (N := some 11) (v := ?_) (a' := ?_) #[true, false, true, true, true, false, false, false, false, false, false, false, false] rfl rfl (any_of HT_.out (by kernel_rfl)) (fun _ _ _ h => h) (Or.inl ⟨by rfl, ?_⟩) ?_ ?_
  rotate_left
  · intro w'
    go_simp
    with_reducible rfl
  rotate_left
  · simp only [Act.put, List.setIfInBounds_toArray, List.set_cons_zero, List.set_cons_succ, i64_w, i32_w]
    rfl
  refine pure_ (i := 6) (N := some 13) (v := ?_) (a' := ?_) #[true, false, true, true, true, false, true, false, false, false, false, false, false] rfl rfl (any_of HT_.out (by kernel_rfl)) (fun _ _ _ h => h) (Or.inl ⟨by rfl, ?_⟩) ?_ ?_
  rotate_left
  · intro w'
    go_simp
    with_reducible rfl
  rotate_left
  · simp only [Act.put, List.setIfInBounds_toArray, List.set_cons_zero, List.set_cons_succ, i64_w, i32_w]
    rfl
  refine pure_ (i := 8) (N := some 15) (v := ?_) (a' := ?_) #[true, false, true, true, true, false, true, false, true, false, false, false, false] rfl rfl (any_of HT_.out (by kernel_rfl)) (fun _ _ _ h => h) (Or.inl ⟨by rfl, ?_⟩) ?_ ?_
  rotate_left
  · intro w'
    go_simp
    with_reducible rfl
  rotate_left
  · simp only [Act.put, List.setIfInBounds_toArray, List.set_cons_zero, List.set_cons_succ, i64_w, i32_w]
    rfl
  refine take_ (i := 1) (N := some 8) (v := ?_) (a' := ?_) #[true, true, true, true, true, false, true, false, true, false, false, false, false] rfl rfl (take_ofW HT_.out HW_.out (by kernel_rfl)) (fun _ _ _ h => h) (Or.inl ⟨by rfl, ?_⟩) hHeld ?_ ?_
  rotate_left
  · rintro w' ⟨s0, s1, s2, s3⟩
    go_simp
    with_reducible rfl
  rotate_left
  · simp only [Act.put, List.setIfInBounds_toArray, List.set_cons_zero, List.set_cons_succ, i64_w, i32_w]
    rfl
  refine take_ (i := 5) (N := some 12) (v := ?_) (a' := ?_) #[true, true, true, true, true, true, true, false, true, false, false, false, false] rfl rfl (take_ofW HT_.out HW_.out (by kernel_rfl)) (fun _ _ _ h => h) (Or.inl ⟨by rfl, ?_⟩) hHeld ?_ ?_
  rotate_left
  · rintro w' ⟨s0, s1, s2, s3⟩
    go_simp
    with_reducible rfl
  rotate_left
  · simp only [Act.put, List.setIfInBounds_toArray, List.set_cons_zero, List.set_cons_succ, i64_w, i32_w]
    rfl
  refine take_ (i := 7) (N := some 14) (v := ?_) (a' := ?_) #[true, true, true, true, true, true, true, true, true, false, false, false, false] rfl rfl (take_ofW HT_.out HW_.out (by kernel_rfl)) (fun _ _ _ h => h) (Or.inl ⟨by rfl, ?_⟩) hHeld ?_ ?_
  rotate_left
  · rintro w' ⟨s0, s1, s2, s3⟩
    go_simp
    with_reducible rfl
  rotate_left
  · simp only [Act.put, List.setIfInBounds_toArray, List.set_cons_zero, List.set_cons_succ, i64_w, i32_w]
    rfl
  refine take_ (i := 9) (N := some 16) (v := ?_) (a' := ?_) #[true, true, true, true, true, true, true, true, true, true, false, false, false] rfl rfl (take_ofW HT_.out HW_.out (by kernel_rfl)) (fun _ _ _ h => h) (Or.inl ⟨by rfl, ?_⟩) hHeld ?_ ?_
  rotate_left
  · rintro w' ⟨s0, s1, s2, s3⟩
    go_simp
    with_reducible rfl
  rotate_left
  · simp only [Act.put, List.setIfInBounds_toArray, List.set_cons_zero, List.set_cons_succ, i64_w, i32_w]
    rfl
  refine one_ (i := 10) (N := some 17) #[true, true, true, true, true, true, true, true, true, true, true, false, false] rfl rfl (one_of HT_.out (by kernel_rfl)) (by decide) (fun K hK => ?_)
  refine goes_ Try.func74 (by kernel_rfl) rfl #[.slice A2_3 l2_3.length c2_3] (by rfl) rfl rfl (by (try simp only [List.map_toArray, List.map_cons, List.map_nil]); first | done | rfl | (simp only [List.length_drop, List.length_take]; rfl)) ?_
  with_reducible refine (slices_Clone_string_string.calls _ _ l2_3 t379 _ ?side1 ?side2 A4.out).mono ?_
  (case side1 => repeat (first | exact (Kd.C_below HR2_3.out HB.out) | (with_reducible refine Kd.C_alloc ?_ _) | (with_reducible refine Kd.C_drewN ?_ _) | (with_reducible refine Kd.C_drew ?_)))
  (case side2 => exact HC2_3.out)
  rintro e w8 ⟨v380, rfl, ho0, hb⟩
  refine ⟨_, rfl, ?_⟩
  have n0_ := Aside0.mk (Kd.R_lower ho0 (below_size (by repeat (first | (with_reducible first | exact HB.out | apply below_alloc | apply pw_below_drewN | apply below_drew1 | refine below_set ?_ GE377.out | refine below_set ?_ GE378.out) | exact HB.out))))
  have n1_ := Aside0.mk (blk_below (g := gb377) (o := .cells #[.int .i64 a2_0, .int .i64 a2_1, .int .i64 a2_2, .slice A2_3 l2_3.length c2_3] 54 (0, 0)) (by (with_reducible repeat (first | refine blk_drewN ?_ _ | refine blk_drew ?_ | refine blk_alloc ?_ _)); exact BK377.out) hb)
  have n2_ := Aside0.mk (blk_below (g := gb378) (o := .cells #[.int .i64 0, .int .i64 0, .int .i64 0, .int .i64 0, .int .i64 0, .int .i64 0, .int .i64 0, .slice none 0 0] 29 (0, 0)) (by (with_reducible repeat (first | refine blk_drewN ?_ _ | refine blk_drew ?_ | refine blk_alloc ?_ _)); exact BK378.out) hb)
  have n3_ := Aside0.mk (below_step (by repeat (first | (with_reducible first | exact HB.out | apply below_alloc | apply pw_below_drewN | apply below_drew1 | refine below_set ?_ GE377.out | refine below_set ?_ GE378.out) | exact HB.out)) hb)
  clear BK377
  clear BK378
  clear HB
  have HO381 := n0_
  have BK377 := n1_
  have BK378 := n2_
  have HB := n3_
  clear n0_ n1_ n2_ n3_
  (try clear hb)
  (try clear hb2)
  (try clear hk)
  (try clear hi)
  (try clear ho0)
  obtain ⟨Ao9, co9, eo9⟩ := Kd.R_slice HO381.out
  (first | subst eo9 | (injection eo9 with f1_ f2_ f3_; have f4_ := f1_.symm; have f5_ := f3_.symm; clear f1_ f2_ f3_; subst f4_; subst f5_))
  refine hK.out _ _ ⟨(blk_cell BK377.out 0).trans rfl, (blk_cell BK377.out 1).trans rfl, (blk_cell BK377.out 2).trans rfl, (blk_cell BK377.out 3).trans rfl⟩ (fun hHeld => ?_)
  clear hK K
  refine norm_ (a' := ?_) ?_ ?_
  rotate_left
  · show Act.put _ (some 17) _ = _
    simp only [Act.put, List.setIfInBounds_toArray, List.set_cons_zero, List.set_cons_succ, i64_w, i32_w]
    rfl
  refine pure_ (i := 11) (N := some 18) (v := ?_) (a' := ?_) #[true, true, true, true, true, true, true, true, true, true, true, true, false] rfl rfl (any_of HT_.out (by kernel_rfl)) (fun _ _ _ h => h) (Or.inl ⟨by rfl, ?_⟩) ?_ ?_
  rotate_left
  · intro w'
    go_simp
    with_reducible rfl
  rotate_left
  · simp only [Act.put, List.setIfInBounds_toArray, List.set_cons_zero, List.set_cons_succ, i64_w, i32_w]
    rfl
  refine one_ (i := 12) (N := none) #[true, true, true, true, true, true, true, true, true, true, true, true, true] rfl rfl (one_of HT_.out (by kernel_rfl)) (by decide) (fun K hK => ?_)
  have hs10 : w8.cell? ⟨gb378, 0, none⟩ = some (.int .i64 0) := (blk_cell BK378.out 0).trans rfl
  have hfs10 := blk_frozen BK378.out 0
  have hns10_0 := NB377_378.out
  have hms10_0 := NB378_377.out
  have hs11 : w8.cell? ⟨gb378, 1, none⟩ = some (.int .i64 0) := (blk_cell BK378.out 1).trans rfl
  have hfs11 := blk_frozen BK378.out 1
  have hns11_0 := NB377_378.out
  have hms11_0 := NB378_377.out
  have hs12 : w8.cell? ⟨gb378, 2, none⟩ = some (.int .i64 0) := (blk_cell BK378.out 2).trans rfl
  have hfs12 := blk_frozen BK378.out 2
  have hns12_0 := NB377_378.out
  have hms12_0 := NB378_377.out
  have hs13 : w8.cell? ⟨gb378, 3, none⟩ = some (.int .i64 0) := (blk_cell BK378.out 3).trans rfl
  have hfs13 := blk_frozen BK378.out 3
  have hns13_0 := NB377_378.out
  have hms13_0 := NB378_377.out
  have hs14 : w8.cell? ⟨gb378, 4, none⟩ = some (.int .i64 0) := (blk_cell BK378.out 4).trans rfl
  have hfs14 := blk_frozen BK378.out 4
  have hns14_0 := NB377_378.out
  have hms14_0 := NB378_377.out
  have hs15 : w8.cell? ⟨gb378, 5, none⟩ = some (.int .i64 0) := (blk_cell BK378.out 5).trans rfl
  have hfs15 := blk_frozen BK378.out 5
  have hns15_0 := NB377_378.out
  have hms15_0 := NB378_377.out
  have hs16 : w8.cell? ⟨gb378, 6, none⟩ = some (.int .i64 0) := (blk_cell BK378.out 6).trans rfl
  have hfs16 := blk_frozen BK378.out 6
  have hns16_0 := NB377_378.out
  have hms16_0 := NB378_377.out
  have hs17 : w8.cell? ⟨gb378, 7, none⟩ = some (.slice none 0 0) := (blk_cell BK378.out 7).trans rfl
  have hfs17 := blk_frozen BK378.out 7
  have hns17_0 := NB377_378.out
  have hms17_0 := NB378_377.out
  refine skip_ (w1 := ?_) (by rfl) rfl ?_ ?_
  rotate_left
  · go_simp
    rfl
  refine hK.out _ _ ⟨((cell_far (p := ⟨gb378, _, none⟩) NB377_378.out _).trans (((cell_far (p := ⟨gb378, _, none⟩) NB377_378.out _).trans (((cell_far (p := ⟨gb378, _, none⟩) NB377_378.out _).trans (((cell_far (p := ⟨gb378, _, none⟩) NB377_378.out _).trans (((cell_far (p := ⟨gb378, _, none⟩) NB377_378.out _).trans (((cell_far (p := ⟨gb378, _, none⟩) NB377_378.out _).trans (((cell_far (p := ⟨gb378, _, none⟩) NB377_378.out _).trans (((cell_far (p := ⟨gb378, _, none⟩) NB377_378.out _).trans (hHeld.1)))))))))))))))), ((cell_far (p := ⟨gb378, _, none⟩) NB377_378.out _).trans (((cell_far (p := ⟨gb378, _, none⟩) NB377_378.out _).trans (((cell_far (p := ⟨gb378, _, none⟩) NB377_378.out _).trans (((cell_far (p := ⟨gb378, _, none⟩) NB377_378.out _).trans (((cell_far (p := ⟨gb378, _, none⟩) NB377_378.out _).trans (((cell_far (p := ⟨gb378, _, none⟩) NB377_378.out _).trans (((cell_far (p := ⟨gb378, _, none⟩) NB377_378.out _).trans (((cell_far (p := ⟨gb378, _, none⟩) NB377_378.out _).trans (hHeld.2.1)))))))))))))))), ((cell_far (p := ⟨gb378, _, none⟩) NB377_378.out _).trans (((cell_far (p := ⟨gb378, _, none⟩) NB377_378.out _).trans (((cell_far (p := ⟨gb378, _, none⟩) NB377_378.out _).trans (((cell_far (p := ⟨gb378, _, none⟩) NB377_378.out _).trans (((cell_far (p := ⟨gb378, _, none⟩) NB377_378.out _).trans (((cell_far (p := ⟨gb378, _, none⟩) NB377_378.out _).trans (((cell_far (p := ⟨gb378, _, none⟩) NB377_378.out _).trans (((cell_far (p := ⟨gb378, _, none⟩) NB377_378.out _).trans (hHeld.2.2.1)))))))))))))))), ((cell_far (p := ⟨gb378, _, none⟩) NB377_378.out _).trans (((cell_far (p := ⟨gb378, _, none⟩) NB377_378.out _).trans (((cell_far (p := ⟨gb378, _, none⟩) NB377_378.out _).trans (((cell_far (p := ⟨gb378, _, none⟩) NB377_378.out _).trans (((cell_far (p := ⟨gb378, _, none⟩) NB377_378.out _).trans (((cell_far (p := ⟨gb378, _, none⟩) NB377_378.out _).trans (((cell_far (p := ⟨gb378, _, none⟩) NB377_378.out _).trans (((cell_far (p := ⟨gb378, _, none⟩) NB377_378.out _).trans (hHeld.2.2.2))))))))))))))))⟩ (fun hHeld => ?_)
  clear hK K
  refine done_ (done_of HT_.out (by kernel_rfl)) ?_
  try go_wp2
  refine bodyPost_ret (results_cell_row rfl _ _ gb378 29 #[.int .i64 3, .int .i64 a2_0, .int .i64 a0, .int .i64 a1, .int .i64 a2_1, .int .i64 a2_2, .int .i64 0, .slice Ao9 t379.length co9] (0, 0) _ rfl (by (with_reducible repeat (first | refine blk_drewN ?_ _ | refine blk_drew ?_ | refine blk_alloc ?_ _)); refine blk_put (cs := #[.int .i64 3, .int .i64 a2_0, .int .i64 a0, .int .i64 a1, .int .i64 a2_1, .int .i64 a2_2, .int .i64 0, .slice none 0 0]) ?_ 7 _ rfl; (with_reducible repeat (first | refine blk_drewN ?_ _ | refine blk_drew ?_ | refine blk_alloc ?_ _)); refine blk_put (cs := #[.int .i64 3, .int .i64 a2_0, .int .i64 a0, .int .i64 a1, .int .i64 a2_1, .int .i64 a2_2, .int .i64 0, .slice none 0 0]) ?_ 6 _ rfl; (with_reducible repeat (first | refine blk_drewN ?_ _ | refine blk_drew ?_ | refine blk_alloc ?_ _)); refine blk_put (cs := #[.int .i64 3, .int .i64 a2_0, .int .i64 a0, .int .i64 a1, .int .i64 a2_1, .int .i64 0, .int .i64 0, .slice none 0 0]) ?_ 5 _ rfl; (with_reducible repeat (first | refine blk_drewN ?_ _ | refine blk_drew ?_ | refine blk_alloc ?_ _)); refine blk_put (cs := #[.int .i64 3, .int .i64 a2_0, .int .i64 a0, .int .i64 a1, .int .i64 0, .int .i64 0, .int .i64 0, .slice none 0 0]) ?_ 4 _ rfl; (with_reducible repeat (first | refine blk_drewN ?_ _ | refine blk_drew ?_ | refine blk_alloc ?_ _)); refine blk_put (cs := #[.int .i64 3, .int .i64 a2_0, .int .i64 a0, .int .i64 0, .int .i64 0, .int .i64 0, .int .i64 0, .slice none 0 0]) ?_ 3 _ rfl; (with_reducible repeat (first | refine blk_drewN ?_ _ | refine blk_drew ?_ | refine blk_alloc ?_ _)); refine blk_put (cs := #[.int .i64 3, .int .i64 a2_0, .int .i64 0, .int .i64 0, .int .i64 0, .int .i64 0, .int .i64 0, .slice none 0 0]) ?_ 2 _ rfl; (with_reducible repeat (first | refine blk_drewN ?_ _ | refine blk_drew ?_ | refine blk_alloc ?_ _)); refine blk_put (cs := #[.int .i64 3, .int .i64 0, .int .i64 0, .int .i64 0, .int .i64 0, .int .i64 0, .int .i64 0, .slice none 0 0]) ?_ 1 _ rfl; (with_reducible repeat (first | refine blk_drewN ?_ _ | refine blk_drew ?_ | refine blk_alloc ?_ _)); refine blk_put (cs := #[.int .i64 0, .int .i64 0, .int .i64 0, .int .i64 0, .int .i64 0, .int .i64 0, .int .i64 0, .slice none 0 0]) ?_ 0 _ rfl; (with_reducible repeat (first | refine blk_drewN ?_ _ | refine blk_drew ?_ | refine blk_alloc ?_ _)); exact BK378.out) Try.underlying29 rfl (by kernel_rfl)) rfl ?_
  exact ⟨_, by first | rfl | (simp [errW_none, errW_some] <;> rfl) | (simp [*, errW_none, errW_some] <;> rfl), by (with_reducible repeat (first | apply Kd.R_alloc | apply Kd.R_drewN | apply Kd.R_drew)); exact Kd.R_mono (Kd.R_far (p := ⟨gb378, 7, none⟩) (Kd.R_far (p := ⟨gb378, 6, none⟩) (Kd.R_far (p := ⟨gb378, 5, none⟩) (Kd.R_far (p := ⟨gb378, 4, none⟩) (Kd.R_far (p := ⟨gb378, 3, none⟩) (Kd.R_far (p := ⟨gb378, 2, none⟩) (Kd.R_far (p := ⟨gb378, 1, none⟩) (Kd.R_far (p := ⟨gb378, 0, none⟩) (Kd.R_types HO381.out BK378.out (by decide)) (fun _ hk => hk.2) (.int .i64 3)) (fun _ hk => hk.2) (.int .i64 a2_0)) (fun _ hk => hk.2) (.int .i64 a0)) (fun _ hk => hk.2) (.int .i64 a1)) (fun _ hk => hk.2) (.int .i64 a2_1)) (fun _ hk => hk.2) (.int .i64 a2_2)) (fun _ hk => hk.2) (.int .i64 0)) (fun _ hk => hk.2) (.slice Ao9 t379.length co9)) (fun _ hk => trivial), by repeat (first | (with_reducible first | exact HB.out | apply below_alloc | apply pw_below_drewN | apply below_drew1 | refine below_set ?_ GE377.out | refine below_set ?_ GE378.out) | exact HB.out)⟩

end Go.Proofs.Ytfejidinfcmfjaa.P
