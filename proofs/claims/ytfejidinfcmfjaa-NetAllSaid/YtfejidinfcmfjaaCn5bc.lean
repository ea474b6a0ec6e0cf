/-
  Texts that the claims of this chapter share, joined.
-/
import Derived.OwnWalk
import Derived.LoopTactic
import Derived.Shelf.RegionOpen
import Derived.Test.YtfejidinfcmfjaaCn5ba
import Derived.Test.YtfejidinfcmfjaaCn5bb
set_option linter.unusedVariables false
set_option linter.unusedSimpArgs false
/-
  slices.IndexFunc and slices.DeleteFunc over messages, and net.Cut, by hand.
-/
namespace Go.Proofs.Ytfejidinfcmfjaa.P
open Go.RowKit Go.Shelf Go.Proofs.YtfejidinfcmfjaaW.PrintWords Go.Proofs.YtfejidinfcmfjaaW.PrintLast Go.Proofs.YtfejidinfcmfjaaW.PrintMore Go.Proofs.Plain

/-- A message as a value. -/
def encM (x : S29) (v : Value) : Value := .agg #[.int .i64 x.f0, .int .i64 x.f1, .int .i64 x.f2, .int .i64 x.f3, .int .i64 x.f4, .int .i64 x.f5, .int .i64 x.f6, v]
/-- A function value that answers p of messages, in whatever world the memory below B is as in w. -/
def PredM (g : Nat) (lb : Array Value) (p : S29 → Bool) (B : Nat) (w : World) : Prop :=
  (∀ args w, (callFunc g args).run Try.prog w = .ok (.enter g args) w) ∧ ∀ (x : S29) (A : Option Addr) (n c : Nat) (W : World), Below B w W → Calls Try.prog g (#[encM x (.slice A n c)] ++ lb) W fun e w' => e = .returned (.bool (p x)) ∧ Below W.heap.size W w'
set_option maxHeartbeats 4000000 in
theorem IndexFuncMsg (g : Nat) (lb : Array Value) (p : S29 → Bool) (A : Option Addr) (c B : Nat) (l : List S29) (w : World) (hr : Kd.C k29 w A l.length l) (hB : B ≤ w.heap.size) (hp : PredM g lb p B w) :
    Calls Try.prog 76 #[.slice A l.length c, .func (.func g) #[] lb] w fun e w' => e = .returned (.int .i64 (idx p l)) ∧ Below w.heap.size w w' := by
  have HR := Aside0.mk hr
  have hm := hr.2.1
  have HLB := Aside0.mk hB
  obtain ⟨eg, hpr⟩ := hp
  have HP := Aside0.mk hpr
  clear hr hpr hB
  go_enter Try.func76, Try.ntmps76
  go_wp2
  go_loopw [4, 5, 8] (fun _ _ i wr => ∃ k : Nat, k ≤ l.length ∧ i = .int .i64 k ∧ Aside0 (∀ x ∈ l.take k, p x = false) ∧ Aside0 (Below w.heap.size w wr)) (fun _ _ i _ => l.length - (intOf i).toNat)
  case atStart => exact ⟨0, Nat.zero_le _, rfl, ⟨by simp⟩, ⟨Below.refl _ _⟩⟩
  case round =>
    obtain ⟨k, hk, rfl, hall, HB⟩ := hrel
    by_cases hlt : k < l.length
    · obtain ⟨ad, A7, c7, rfl, hx0, hx1, hx2, hx3, hx4, hx5, hx6, hx7, -, -⟩ := at_T29 (Kd.C_below HR.out HB.out) (k : Int) (by omega) (by omega)
      rw [rd_msg l k hlt, Int.toNat_natCast] at hx0 hx1 hx2 hx3 hx4 hx5 hx6 hx7
      have hcall := HP.out l[k] A7 l[k].f7.length c7 wr (HB.out.mono HLB.out)
      unfold encM at hcall
      cases hpk : p l[k]
      · have hal2 : Aside0 (∀ x ∈ l.take (k + 1), p x = false) := ⟨by
          rw [List.take_succ_eq_append_getElem hlt]; intro s hs
          rcases List.mem_append.1 hs with h | h
          · exact hall.out s h
          · rw [List.mem_singleton.1 h]; exact hpk⟩
        have HC := Aside0.mk hcall
        have HK := Aside0.mk hpk
        clear hcall hpk
        go_wp2_with (go_at_fn g; refine HC.out.mono ?_; rintro e w3 ⟨rfl, hb3⟩; have HB3 := Aside0.mk (HB.out.trans (hb3.mono HB.out.size)); clear hb3; rw [HK.out])
        go_roundw
        case rel => exact ⟨k + 1, by omega, by go_num, hal2, HB3⟩
        case measure => simp [intOf]; omega
      · have HC := Aside0.mk hcall
        have HK := Aside0.mk hpk
        have hres := Aside0.mk (idx_at hlt hall.out hpk)
        clear hcall hpk
        go_wp2_with (go_at_fn g; refine HC.out.mono ?_; rintro e w3 ⟨rfl, hb3⟩; have HB3 := Aside0.mk (HB.out.trans (hb3.mono HB.out.size)); clear hb3; rw [HK.out])
        go_ret
        exact ⟨by rw [hres.out]; rfl, HB3.out⟩
    · obtain rfl : k = l.length := by omega
      have hres := Aside0.mk (idx_none (p := p) (l := l) (fun x hx => hall.out x (by rw [List.take_length]; exact hx)))
      go_wp2
      go_ret
      exact ⟨by rw [hres.out]; rfl, HB.out⟩


/-- How far a DeleteFunc has come: i are kept of the first j. -/
structure KeptM (p : S29 → Bool) (xs cur : List S29) (i j : Nat) : Prop where
  len : cur.length = xs.length
  ij : i < j
  jn : j ≤ xs.length
  kept : cur.take i = (xs.take j).filter (fun x => !p x)
  rest : cur.drop j = xs.drop j
theorem KeptM.start {p : S29 → Bool} {xs : List S29} {k : Nat} (hk : k < xs.length) (h1 : ∀ x ∈ xs.take k, p x = false) (h2 : p xs[k] = true) : KeptM p xs xs k (k + 1) := by
  refine ⟨rfl, Nat.lt_succ_self _, hk, ?_, rfl⟩
  rw [List.take_succ_eq_append_getElem hk, List.filter_append, List.filter_eq_self.2 (fun x hx => by rw [h1 x hx]; rfl)]
  simp [h2]
theorem KeptM.skip {p : S29 → Bool} {xs cur : List S29} {i j : Nat} (h : KeptM p xs cur i j) (hj : j < xs.length) (hp : p xs[j] = true) : KeptM p xs cur i (j + 1) := by
  refine ⟨h.len, Nat.lt_succ_of_lt h.ij, hj, ?_, ?_⟩
  · rw [List.take_succ_eq_append_getElem hj, List.filter_append, h.kept]
    simp [hp]
  · rw [← List.drop_drop, h.rest, List.drop_drop]
theorem KeptM.at {p : S29 → Bool} {xs cur : List S29} {i j : Nat} (h : KeptM p xs cur i j) (hj : j < xs.length) : cur[j]'(by rw [h.len]; exact hj) = xs[j] := by
  have h1 : (cur.drop j)[0]? = (xs.drop j)[0]? := by rw [h.rest]
  rw [List.getElem?_drop, List.getElem?_drop, Nat.add_zero, List.getElem?_eq_getElem (by rw [h.len]; exact hj), List.getElem?_eq_getElem hj] at h1
  exact Option.some.inj h1
theorem KeptM.keep {p : S29 → Bool} {xs cur : List S29} {i j : Nat} (h : KeptM p xs cur i j) (hj : j < xs.length) (hp : p xs[j] = false) : KeptM p xs (cur.set i xs[j]) (i + 1) (j + 1) := by
  have hi : i < cur.length := by have := h.ij; have := h.len; omega
  refine ⟨by rw [List.length_set]; exact h.len, Nat.succ_lt_succ h.ij, hj, ?_, ?_⟩
  · rw [List.take_succ_eq_append_getElem hj, List.filter_append, ← h.kept]
    have h3 : (cur.set i xs[j]).take (i + 1) = cur.take i ++ [xs[j]] := by
      rw [List.take_succ_eq_append_getElem (by rw [List.length_set]; exact hi), List.take_set_of_le (Nat.le_refl i), List.getElem_set_self]
    rw [h3]
    simp [hp]
  · rw [List.drop_set_of_lt (by have := h.ij; omega), ← List.drop_drop, h.rest, List.drop_drop]
theorem idx_cases (p : S29 → Bool) (l : List S29) : (idx p l = -1 ∧ ∀ x ∈ l, p x = false) ∨ ∃ (k : Nat) (hk : k < l.length), idx p l = (k : Int) ∧ (∀ x ∈ l.take k, p x = false) ∧ p l[k] = true := by
  by_cases h : ∀ x ∈ l, p x = false
  · exact .inl ⟨idx_none h, h⟩
  · right
    have hlt : l.findIdx p < l.length := by
      rw [List.findIdx_lt_length]
      obtain ⟨x, hx⟩ := Classical.not_forall.1 h
      obtain ⟨hx, hp⟩ := Classical.not_imp.1 hx
      exact ⟨x, hx, by simpa using hp⟩
    have h1 : ∀ x ∈ l.take (l.findIdx p), p x = false := by
      intro x hx
      obtain ⟨j, hj, rfl⟩ := List.getElem_of_mem hx
      rw [List.getElem_take]
      rw [List.length_take] at hj
      have := List.not_of_lt_findIdx (p := p) (xs := l) (i := j) (by omega)
      simpa using this
    exact ⟨_, hlt, idx_at hlt h1 (List.findIdx_getElem), h1, List.findIdx_getElem⟩
/-- A message stored into an element. -/
theorem store_msgAt {W : World} {g o : Nat} {cur : Array Value} (hh : W.heap[g]? = some (.cells cur 29 (0, 0))) (hs : o + 8 ≤ cur.size) (n0 n1 n2 n3 n4 n5 n6 : Int) (v : Value) (hv : v.oneCell' = true) :
    (Instr.storeAt 29 (.pointer (some ⟨g, o, none⟩)) (.agg (blkQ n0 n1 n2 n3 n4 n5 n6 v))).run Try.prog W = .ok () (W.setCells g o (blkQ n0 n1 n2 n3 n4 n5 n6 v).toList) := by
  have hl : (blkQ n0 n1 n2 n3 n4 n5 n6 v).toList.length = 8 := rfl
  exact run_store_run (P := Try.prog) (o := o) 29 _ _ hh rfl (by rw [hl]; kernel_rfl) (by rw [hl]; omega) (blkQ_one n0 n1 n2 n3 n4 n5 n6 v hv)


/-- Element i is written. -/
theorem seg_msg {W0 W : World} {base g n c i : Nat} {cur : List S29} {cells : Array Value} {x : S29} {A7 : Option Addr} {c7 : Nat} (h : Kd.R k29 29 W base (fun _ => True) (.slice (some ⟨g, 0, none⟩) n c) cur) (hg : W.heap[g]? = some (.cells cells 29 (0, 0))) (hi : i < n)
    (hM : k29.M W0 base (fun k => True ∧ k ≠ g) x [.int .i64 x.f0, .int .i64 x.f1, .int .i64 x.f2, .int .i64 x.f3, .int .i64 x.f4, .int .i64 x.f5, .int .i64 x.f6, .slice A7 x.f7.length c7]) (hb : Below W0.heap.size W0 W) (hn : n ≤ 9223372036854775807) :
    Kd.R k29 29 (W.setCells g (i * 8) (blkQ x.f0 x.f1 x.f2 x.f3 x.f4 x.f5 x.f6 (.slice A7 x.f7.length c7)).toList) base (fun _ => True) (.slice (some ⟨g, 0, none⟩) n c) (cur.set i x) ∧ W.grownBy (W.setCells g (i * 8) (blkQ x.f0 x.f1 x.f2 x.f3 x.f4 x.f5 x.f6 (.slice A7 x.f7.length c7)).toList) (some g) := by
  obtain ⟨cs, hcl, _, hcc, _⟩ := Kd.R_elem h z29 (i : Int) (by omega) (by omega)
  have hsz : k29.sz = 8 := rfl
  have hd : cs.drop (0 + (blkQ x.f0 x.f1 x.f2 x.f3 x.f4 x.f5 x.f6 (.slice A7 x.f7.length c7)).toList.length) = [] := List.drop_of_length_le (by rw [hcl, hsz]; exact Nat.le_refl 8)
  have := Kd.R_seg h (i : Int) (by omega) (by omega) (c := cs) (seg := (blkQ x.f0 x.f1 x.f2 x.f3 x.f4 x.f5 x.f6 (.slice A7 x.f7.length c7)).toList) (j := 0) (okp := fun k => True ∧ k ≠ g) (x' := x) hcl hcc (Nat.le_refl 8) (by
    rw [hd, List.take_zero, List.nil_append, List.append_nil]
    exact Kd.M_below hM hb) (fun k hk => hk)
  rw [Int.toNat_natCast, hsz, Nat.add_zero] at this
  exact this
set_option maxHeartbeats 8000000 in
set_option maxRecDepth 100000 in
theorem DeleteFuncMsg (f : Nat) (lb : Array Value) (p : S29 → Bool) (A : Option Addr) (c base : Nat) (xs : List S29) (w : World) (h : Kd.R k29 29 w base (fun _ => True) (.slice A xs.length c) xs) (hb : base ≤ w.heap.size) (hp : PredM f lb p base w) :
    Calls Try.prog 54 #[.slice A xs.length c, .func (.func f) #[] lb] w fun e w' => ∃ v0_ : Value, e = .returned v0_ ∧ Kd.R k29 29 w' base (fun _ => True) v0_ (xs.filter (fun x => !p x)) ∧ Below base w w' := by
  obtain ⟨-, hnc, hC⟩ := Kd.R_reads' h
  have hmax : xs.length ≤ 9223372036854775807 := Kd.C_max hC
  have HIX := Aside0.mk (IndexFuncMsg f lb p A c base xs w hC hb hp)
  have HCN := Aside0.mk hmax
  have HBW := Aside0.mk hb
  obtain ⟨eg, hpr⟩ := hp
  have HP := Aside0.mk hpr
  have HR := Aside0.mk h
  rcases idx_cases p xs with ⟨hi, hall⟩ | ⟨k, hk, hi, hall, hpk⟩
  · rw [hi] at HIX
    have HF := Aside0.mk (show xs.filter (fun x => !p x) = xs from List.filter_eq_self.2 (fun x hx => by rw [hall x hx]; rfl))
    clear h hC hpr hi hall hb
    go_enter Try.func54, Try.ntmps54
    go_wp2_with (first | (go_at_call 76; refine HIX.out.mono ?_; rintro e w1 ⟨rfl, hb⟩; have HB1 := Aside0.mk hb; clear hb))
    go_ret
    exact ⟨_, rfl, by rw [HF.out]; exact Kd.R_below HR.out HB1.out, HB1.out.mono HBW.out⟩
  · rw [hi] at HIX
    have hne1 : ((k : Int) == -1) = false := beq_eq_false_iff_ne.2 (by omega)
    obtain ⟨g, cap, hv, hbg, hgl, cells, hcells⟩ := Kd.R_form h (by omega)
    injection hv with hA _ hc_
    subst hA; subst hc_
    have HST := Aside0.mk (KeptM.start hk hall hpk)
    have HGB := Aside0.mk hbg
    have hkn : (k : Int) + 1 ≤ (xs.length : Int) := by omega
    clear h hC hpr hi hall hb hpk hcells hgl hbg
    go_enter Try.func54, Try.ntmps54
    go_wp2_with (first | (go_at_call 76; refine HIX.out.mono ?_; rintro e w1 ⟨rfl, hb⟩; have HB1 := Aside0.mk hb; clear hb))
    go_loopw [5, 6] (fun s5 s6 wr => ∃ (i j : Nat) (cur : List S29), s5 = .int .i64 i ∧ s6 = .int .i64 j ∧ Aside0 (KeptM p xs cur i j) ∧ Aside0 (Kd.R k29 29 wr base (fun _ => True) (.slice (some ⟨g, 0, none⟩) xs.length c) cur) ∧ Aside0 (Below base w wr))
      (fun _ s6 _ => xs.length - (intOf s6).toNat)
    case atStart => exact ⟨k, k + 1, xs, rfl, by go_num, HST, ⟨Kd.R_below HR.out HB1.out⟩, ⟨HB1.out.mono HBW.out⟩⟩
    case round =>
      clear HST HB1
      obtain ⟨i, j, cur, rfl, rfl, HI, HO, HB⟩ := hrel
      have hij := HI.out.ij
      have hjn := HI.out.jn
      have hln := HI.out.len
      by_cases hlt : j < xs.length
      · have hltz : (j : Int) < (xs.length : Int) := by omega
        obtain ⟨cells, hcells, hcsz⟩ := R_room HO.out
        obtain ⟨cs, hcl, hM, hcc, hfz⟩ := Kd.R_elem HO.out z29 (j : Int) (by omega) (by omega)
        obtain ⟨x, hx⟩ : ∃ x, x = xs[j] := ⟨_, rfl⟩
        rw [show cur.getD (j : Int).toNat z29 = x by rw [List.getD_eq_getElem?_getD, Int.toNat_natCast, List.getElem?_eq_getElem (by omega), hx]; exact HI.out.at hlt] at hM
        obtain ⟨v7, hcs, h7⟩ := k29_openM hM
        obtain ⟨A7, c7, rfl⟩ := Kd.R_slice h7
        subst hcs
        have HM := Aside0.mk hM
        have HXJ := Aside0.mk hx
        have HG := Aside0.mk hcells
        have hi_lt := Aside0.mk (show i < xs.length by omega)
        have HSZ := Aside0.mk (show i * 8 + 8 ≤ cells.size by rw [hcsz, show k29.sz = 8 from rfl]; omega)
        have q0 := hcc 0 _ rfl
        have q1 := hcc 1 _ rfl
        have q2 := hcc 2 _ rfl
        have q3 := hcc 3 _ rfl
        have q4 := hcc 4 _ rfl
        have q5 := hcc 5 _ rfl
        have q6 := hcc 6 _ rfl
        have q7 := hcc 7 _ rfl
        rw [show k29.sz = 8 from rfl, Int.toNat_natCast] at q0 q1 q2 q3 q4 q5 q6 q7
        rw [Nat.add_zero] at q0
        have hiz : (i : Int) < (xs.length : Int) := by omega
        clear hcells hcsz hcl hM hcc hfz h7 hx
        cases hpx : p x
        · have HK := Aside0.mk hpx
          clear hpx
          go_wp2_with (first | ((with_reducible refine gate_store (t := 29) (p := 7) rfl ?_); refine store_event (t := 29) (p := 7) (w1 := ((wr.alloc (.cells (blkQ 0 0 0 0 0 0 0 (.slice none 0 0)) 29))).setCells (wr.heap.size) (0) (blkQ x.f0 x.f1 x.f2 x.f3 x.f4 x.f5 x.f6 (.slice A7 x.f7.length c7)).toList) rfl rfl rfl ?hr ?_; (case hr => (unfold execOp; simp only [Act.eval, Sem.run_bind, Sem.run_pure, Result.andThen_ok]; show ((Sem.run Try.prog (Instr.storeAt 29 (.pointer (some ⟨wr.heap.size, 0, none⟩)) (.agg (blkQ x.f0 x.f1 x.f2 x.f3 x.f4 x.f5 x.f6 (.slice A7 x.f7.length c7)))) ((wr.alloc (.cells (blkQ 0 0 0 0 0 0 0 (.slice none 0 0)) 29)))).andThen _) = _; rw [(store_msgQ (blk_new wr (.cells (blkQ 0 0 0 0 0 0 0 (.slice none 0 0)) 29)) rfl x.f0 x.f1 x.f2 x.f3 x.f4 x.f5 x.f6 (.slice A7 x.f7.length c7) rfl).1]; try rfl)); intro w2 hw_; have HS := Aside0.mk (show Below wr.heap.size wr w2 by rw [hw_]; exact below_cellsQ ((Below.refl _ _).alloc (Nat.le_refl _) _) (Nat.le_refl _) _); have HY2 := Aside0.mk (show w2.heap[wr.heap.size]? = some (.cells (blkQ x.f0 x.f1 x.f2 x.f3 x.f4 x.f5 x.f6 (.slice A7 x.f7.length c7)) 29 (0, 0)) by rw [hw_]; exact (store_msgQ (blk_new wr (.cells (blkQ 0 0 0 0 0 0 0 (.slice none 0 0)) 29)) rfl x.f0 x.f1 x.f2 x.f3 x.f4 x.f5 x.f6 (.slice A7 x.f7.length c7) rfl).2); have y0 := blk_cell HY2.out 0; have y1 := blk_cell HY2.out 1; have y2 := blk_cell HY2.out 2; have y3 := blk_cell HY2.out 3; have y4 := blk_cell HY2.out 4; have y5 := blk_cell HY2.out 5; have y6 := blk_cell HY2.out 6; have y7 := blk_cell HY2.out 7; simp only [blkQ, List.getElem?_toArray, List.getElem?_cons_zero, List.getElem?_cons_succ] at y0 y1 y2 y3 y4 y5 y6 y7; clear hw_ q0 q1 q2 q3 q4 q5 q6 q7) | (go_at_fn f; refine (HP.out x A7 x.f7.length c7 w2 (HB.out.trans (HS.out.mono (Nat.le_trans HBW.out HB.out.size)))).mono ?_; rintro e w3 ⟨rfl, hb3⟩; have HS3 := Aside0.mk (HS.out.trans (hb3.mono HS.out.size)); have HO3 := Aside0.mk (Kd.R_below HO.out HS3.out); have HB3 := Aside0.mk (HB.out.trans (HS3.out.mono (Nat.le_trans HBW.out HB.out.size))); have HY3 := Aside0.mk (blk_below HY2.out hb3); have HG3 := Aside0.mk (blk_below HG.out HS3.out); have z0 := blk_cell HY3.out 0; have z1 := blk_cell HY3.out 1; have z2 := blk_cell HY3.out 2; have z3 := blk_cell HY3.out 3; have z4 := blk_cell HY3.out 4; have z5 := blk_cell HY3.out 5; have z6 := blk_cell HY3.out 6; have z7 := blk_cell HY3.out 7; simp only [blkQ, List.getElem?_toArray, List.getElem?_cons_zero, List.getElem?_cons_succ] at z0 z1 z2 z3 z4 z5 z6 z7; clear hb3 y0 y1 y2 y3 y4 y5 y6 y7; rw [HK.out]) | ((with_reducible refine gate_store (t := 29) (p := 33) rfl ?_); refine store_event (t := 29) (p := 33) (w1 := (w3).setCells (g) (i * 8) (blkQ x.f0 x.f1 x.f2 x.f3 x.f4 x.f5 x.f6 (.slice A7 x.f7.length c7)).toList) rfl rfl rfl ?hr ?_; (case hr => (unfold execOp; simp only [Act.eval, Sem.run_bind, Sem.run_pure, Result.andThen_ok]; show ((Sem.run Try.prog (Instr.storeAt 29 (.pointer (some ⟨g, i * 8, none⟩)) (.agg (blkQ x.f0 x.f1 x.f2 x.f3 x.f4 x.f5 x.f6 (.slice A7 x.f7.length c7)))) (w3)).andThen _) = _; rw [store_msgAt HG3.out HSZ.out x.f0 x.f1 x.f2 x.f3 x.f4 x.f5 x.f6 (.slice A7 x.f7.length c7) rfl]; try rfl)); intro w4 hw_; have HSEG := Aside0.mk (show Kd.R k29 29 w4 base (fun _ => True) (.slice (some ⟨g, 0, none⟩) xs.length c) (cur.set i x) ∧ w3.grownBy w4 (some g) by rw [hw_]; exact seg_msg HO3.out HG3.out hi_lt.out HM.out HS3.out HCN.out); clear hw_ z0 z1 z2 z3 z4 z5 z6 z7))
          go_roundw
          case rel => exact ⟨i + 1, j + 1, cur.set i x, by go_num, by go_num, ⟨by rw [HXJ.out]; exact HI.out.keep hlt (by rw [← HXJ.out]; exact HK.out)⟩, ⟨HSEG.out.1⟩, ⟨HB3.out.grown HSEG.out.2 (Nat.le_trans HBW.out HB3.out.size) (fun q hq => by injection hq with hq; subst hq; exact HGB.out)⟩⟩
          case measure => simp [intOf]; omega
        · have HK := Aside0.mk hpx
          clear hpx
          go_wp2_with (first | ((with_reducible refine gate_store (t := 29) (p := 7) rfl ?_); refine store_event (t := 29) (p := 7) (w1 := ((wr.alloc (.cells (blkQ 0 0 0 0 0 0 0 (.slice none 0 0)) 29))).setCells (wr.heap.size) (0) (blkQ x.f0 x.f1 x.f2 x.f3 x.f4 x.f5 x.f6 (.slice A7 x.f7.length c7)).toList) rfl rfl rfl ?hr ?_; (case hr => (unfold execOp; simp only [Act.eval, Sem.run_bind, Sem.run_pure, Result.andThen_ok]; show ((Sem.run Try.prog (Instr.storeAt 29 (.pointer (some ⟨wr.heap.size, 0, none⟩)) (.agg (blkQ x.f0 x.f1 x.f2 x.f3 x.f4 x.f5 x.f6 (.slice A7 x.f7.length c7)))) ((wr.alloc (.cells (blkQ 0 0 0 0 0 0 0 (.slice none 0 0)) 29)))).andThen _) = _; rw [(store_msgQ (blk_new wr (.cells (blkQ 0 0 0 0 0 0 0 (.slice none 0 0)) 29)) rfl x.f0 x.f1 x.f2 x.f3 x.f4 x.f5 x.f6 (.slice A7 x.f7.length c7) rfl).1]; try rfl)); intro w2 hw_; have HS := Aside0.mk (show Below wr.heap.size wr w2 by rw [hw_]; exact below_cellsQ ((Below.refl _ _).alloc (Nat.le_refl _) _) (Nat.le_refl _) _); have HY2 := Aside0.mk (show w2.heap[wr.heap.size]? = some (.cells (blkQ x.f0 x.f1 x.f2 x.f3 x.f4 x.f5 x.f6 (.slice A7 x.f7.length c7)) 29 (0, 0)) by rw [hw_]; exact (store_msgQ (blk_new wr (.cells (blkQ 0 0 0 0 0 0 0 (.slice none 0 0)) 29)) rfl x.f0 x.f1 x.f2 x.f3 x.f4 x.f5 x.f6 (.slice A7 x.f7.length c7) rfl).2); have y0 := blk_cell HY2.out 0; have y1 := blk_cell HY2.out 1; have y2 := blk_cell HY2.out 2; have y3 := blk_cell HY2.out 3; have y4 := blk_cell HY2.out 4; have y5 := blk_cell HY2.out 5; have y6 := blk_cell HY2.out 6; have y7 := blk_cell HY2.out 7; simp only [blkQ, List.getElem?_toArray, List.getElem?_cons_zero, List.getElem?_cons_succ] at y0 y1 y2 y3 y4 y5 y6 y7; clear hw_ q0 q1 q2 q3 q4 q5 q6 q7) | (go_at_fn f; refine (HP.out x A7 x.f7.length c7 w2 (HB.out.trans (HS.out.mono (Nat.le_trans HBW.out HB.out.size)))).mono ?_; rintro e w3 ⟨rfl, hb3⟩; have HS3 := Aside0.mk (HS.out.trans (hb3.mono HS.out.size)); have HO3 := Aside0.mk (Kd.R_below HO.out HS3.out); have HB3 := Aside0.mk (HB.out.trans (HS3.out.mono (Nat.le_trans HBW.out HB.out.size))); clear hb3 y0 y1 y2 y3 y4 y5 y6 y7; rw [HK.out]))
          go_roundw
          case rel => exact ⟨i, j + 1, cur, rfl, by go_num, ⟨HI.out.skip hlt (by rw [← HXJ.out]; exact HK.out)⟩, HO3, HB3⟩
          case measure => simp [intOf]; omega
      · obtain rfl : j = xs.length := by omega
        have HT := Aside0.mk (Kd.R_take HO.out (show i ≤ cur.length by omega))
        obtain ⟨w4, hcl, ho4, hg4⟩ := clear_tail (q := xs.length - i) (c2 := c - i) rfl HT.out (by omega) (by omega)
        have HO4 := Aside0.mk ho4
        have HG4 := Aside0.mk hg4
        have HKI := Aside0.mk (show cur.take i = xs.filter (fun x => !p x) by rw [HI.out.kept, List.take_length])
        have hltz : ¬ (xs.length : Int) < (xs.length : Int) := by omega
        have hz1 : (i : Int) ≤ (xs.length : Int) := by omega
        have hz2 : (0 : Int) ≤ (i : Int) := by omega
        have hz3 : ¬ c = i := by omega
        have hz4 : (i : Int) ≤ (c : Int) := by omega
        have hz5 : i ≤ c := by omega
        clear ho4 hg4 hlt
        go_wp2
        go_ret
        exact ⟨_, rfl, by rw [← HKI.out]; exact HO4.out, HB.out.grown HG4.out (Nat.le_trans HBW.out HB.out.size) (fun q hq => by injection hq with hq; subst hq; exact HGB.out)⟩

/-- Is a message between these two? -/
def cutP (a b : Int) (x : S29) : Bool := (x.f1 == a && x.f2 == b) || (x.f1 == b && x.f2 == a)
set_option maxHeartbeats 4000000 in
theorem cut_pred (a b : Int) (x : S29) (A7 : Option Addr) (n7 c7 g1 g2 : Nat) (w : World) (h1 : w.heap[g1]? = some (.cells #[.int .i64 a] 3 (0, 0))) (h2 : w.heap[g2]? = some (.cells #[.int .i64 b] 3 (0, 0))) :
    Calls Try.prog 55 #[.agg #[.int .i64 x.f0, .int .i64 x.f1, .int .i64 x.f2, .int .i64 x.f3, .int .i64 x.f4, .int .i64 x.f5, .int .i64 x.f6, .slice A7 n7 c7], .pointer (some ⟨g1, 0, none⟩), .pointer (some ⟨g2, 0, none⟩)] w fun e w' => e = .returned (.bool (cutP a b x)) ∧ Below w.heap.size w w' := by
  have HB := Aside0.mk ((Below.refl w.heap.size w).alloc (Nat.le_refl _) (.cells #[.int .i64 x.f0, .int .i64 x.f1, .int .i64 x.f2, .int .i64 x.f3, .int .i64 x.f4, .int .i64 x.f5, .int .i64 x.f6, .slice A7 n7 c7] 29))
  have q1 := blk_cell (blk_alloc h1 (.cells #[.int .i64 x.f0, .int .i64 x.f1, .int .i64 x.f2, .int .i64 x.f3, .int .i64 x.f4, .int .i64 x.f5, .int .i64 x.f6, .slice A7 n7 c7] 29)) 0
  have q2 := blk_cell (blk_alloc h2 (.cells #[.int .i64 x.f0, .int .i64 x.f1, .int .i64 x.f2, .int .i64 x.f3, .int .i64 x.f4, .int .i64 x.f5, .int .i64 x.f6, .slice A7 n7 c7] 29)) 0
  have y1 := blk_cell (blk_new w (.cells #[.int .i64 x.f0, .int .i64 x.f1, .int .i64 x.f2, .int .i64 x.f3, .int .i64 x.f4, .int .i64 x.f5, .int .i64 x.f6, .slice A7 n7 c7] 29)) 1
  have y2 := blk_cell (blk_new w (.cells #[.int .i64 x.f0, .int .i64 x.f1, .int .i64 x.f2, .int .i64 x.f3, .int .i64 x.f4, .int .i64 x.f5, .int .i64 x.f6, .slice A7 n7 c7] 29)) 2
  simp only [List.getElem?_toArray, List.getElem?_cons_zero, List.getElem?_cons_succ] at q1 q2 y1 y2
  clear h1 h2
  unfold cutP
  generalize x.f1 = k1 at *
  generalize x.f2 = k2 at *
  cases e1 : (k1 == a) <;> cases e2 : (k2 == b) <;> cases e3 : (k1 == b) <;> cases e4 : (k2 == a)
  all_goals
    go_enter Try.func55, Try.ntmps55
    go_wp2
    go_ret
    exact ⟨rfl, HB.out⟩

/-- What net.Cut answers. -/
def net_Cut.f (l : List S29) (a b : Int) : Option (List S29) :=
  if l.length ≤ 1000000000 ∧ ∀ x ∈ l, x.f7.length ≤ 1000000000 then some (l.filter (fun x => !cutP a b x)) else none
set_option maxHeartbeats 4000000 in
theorem net_Cut.calls (A0 : Option Addr) (c0 : Nat) (l0 : List S29) (a1 : Int) (a2 : Int) (r : List S29) (w : World) (hr0 : Kd.C k29 w A0 l0.length l0) (hc0 : l0.length ≤ c0) (h : net_Cut.f l0 a1 a2 = some r) :
    Calls Try.prog 23 #[.slice A0 l0.length c0, .int .i64 a1, .int .i64 a2] w fun e w' => ∃ v0_ : Value, e = .returned (v0_) ∧ Kd.R k29 29 w' w.heap.size (fun _ => True) v0_ r ∧ Below w.heap.size w w' := by
  unfold net_Cut.f at h
  split at h
  rotate_left
  · cases h
  rename_i hl
  cases h
  have hB1 := (Below.refl w.heap.size w).alloc (Nat.le_refl _) (.cells #[.int .i64 a1] 3)
  have HB0 := Aside0.mk (hB1.alloc hB1.size (.cells #[.int .i64 a2] 3))
  have k1 := blk_alloc (blk_new w (.cells #[.int .i64 a1] 3)) (.cells #[.int .i64 a2] 3)
  have k2 := blk_new (w.alloc (.cells #[.int .i64 a1] 3)) (.cells #[.int .i64 a2] 3)
  rw [World.size_alloc] at k2
  have HR0 := Aside0.mk (Kd.C_below hr0 HB0.out)
  have HC0 := Aside0.mk hc0
  have HF := Aside0.mk (show net_own.f l0 = some l0 by unfold net_own.f; rw [if_pos hl])
  have HP := Aside0.mk (show ∀ w1, Below ((w.alloc (.cells #[.int .i64 a1] 3)).alloc (.cells #[.int .i64 a2] 3)).heap.size ((w.alloc (.cells #[.int .i64 a1] 3)).alloc (.cells #[.int .i64 a2] 3)) w1 → PredM 55 #[.pointer (some ⟨w.heap.size, 0, none⟩), .pointer (some ⟨w.heap.size + 1, 0, none⟩)] (cutP a1 a2) ((w.alloc (.cells #[.int .i64 a1] 3)).alloc (.cells #[.int .i64 a2] 3)).heap.size w1 from fun w1 hb1 => ⟨enters_of Try.func55 (by kernel_rfl) rfl, fun x A n c W hb => cut_pred a1 a2 x A n c _ _ W (blk_below k1 (hb1.trans hb)) (blk_below k2 (hb1.trans hb))⟩)
  have hmf : ∀ (fn : Fn) (first cap : Array Value) (w : World), (Instr.makeFunc fn first cap).run Try.prog w = .ok (.func fn first cap) w := fun _ _ _ _ => rfl
  clear hr0 hB1 k1 k2
  go_enter Try.func23, Try.ntmps23
  go_wp2_with (first | (go_at_call 50; (with_reducible refine (net_own.calls A0 c0 l0 l0 _ HR0.out HC0.out HF.out).mono ?_); rintro e w1 ⟨v, rfl, h1, hb⟩; obtain ⟨A1, c1, rfl⟩ := Kd.R_slice h1; have HO1 := Aside0.mk h1; have HB1 := Aside0.mk hb; clear h1 hb) | (go_at_call 54; (with_reducible refine (DeleteFuncMsg 55 _ (cutP a1 a2) A1 c1 _ l0 w1 HO1.out HB1.out.size (HP.out w1 HB1.out)).mono ?_); rintro e w2 ⟨v2, rfl, h2, hb⟩; have HO2 := Aside0.mk (Kd.R_lower h2 HB0.out.size); have HB2 := Aside0.mk (HB0.out.trans ((HB1.out.trans hb).mono HB0.out.size)); clear h2 hb))
  go_ret
  exact ⟨_, rfl, HO2.out, HB2.out⟩
end Go.Proofs.Ytfejidinfcmfjaa.P
