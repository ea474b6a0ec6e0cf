/-
  The walk and the plain statement of DiskOrder, joined.
-/
import Derived.OwnWalk
import Derived.LoopTactic
import Derived.Test.YtoibofhmlokglaaCo4a
import Derived.Test.YtoibofhmlokglaaCo4b
import Derived.Test.YtoibofhmlokglaaCo4c
set_option linter.unusedVariables false
set_option linter.unusedSimpArgs false
/-
  sextonlaw04.DiskOrder, by hand: it answers true for every input.
-/
namespace Go.Proofs.Ytoibofhmlokglaa.P
open Go.RowKit Go.Proofs Go.Shelf Go.Proofs.YtoibofhmlokglaaW.PrintWords Go.Proofs.YtoibofhmlokglaaW.PrintLast Go.Proofs.YtoibofhmlokglaaW.PrintMore Go.Proofs.Plain

def blkD (v0 v1 : Value) : Array Value := #[v0, v1]
theorem blkD_one (v0 v1 : Value) (h0 : v0.oneCell' = true) (h1 : v1.oneCell' = true) : ∀ x ∈ (blkD v0 v1).toList, x.oneCell' = true := by
  intro x hx
  simp only [blkD, List.mem_cons, List.not_mem_nil, or_false] at hx
  rcases hx with rfl | rfl
  · exact h0
  · exact h1
theorem store_disk {W : World} {g : Nat} {cur : Array Value} (hh : W.heap[g]? = some (.cells cur 25 (0, 0))) (hs : cur.size = 2) (v0 v1 : Value) (h0 : v0.oneCell' = true) (h1 : v1.oneCell' = true) :
    (Instr.storeAt 25 (.pointer (some ⟨g, 0, none⟩)) (.agg (blkD v0 v1))).run Try.prog W = .ok () (W.setCells g 0 (blkD v0 v1).toList) ∧
    (W.setCells g 0 (blkD v0 v1).toList).heap[g]? = some (.cells (blkD v0 v1) 25 (0, 0)) := by
  have hl : (blkD v0 v1).toList.length = 2 := rfl
  refine ⟨run_store_run (P := Try.prog) (o := 0) 25 _ _ hh rfl (by rw [hl]; kernel_rfl) (by omega) (blkD_one v0 v1 h0 h1), ?_⟩
  obtain ⟨cur', h1, h2, h3⟩ := setCells_row (blkD v0 v1).toList 0 W cur hh (by omega)
  rw [h1]
  have : cur' = blkD v0 v1 := by
    apply Array.toList_inj.1
    rw [h3, List.take_zero, List.nil_append, hl, List.drop_of_length_le (by rw [Array.length_toList]; omega), List.append_nil]
  rw [this]
theorem belowD_cells {B g : Nat} {w W : World} (h : Below B w W) (hg : B ≤ g) (vs : List Value) : Below B w (W.setCells g 0 vs) := by
  have hs := setCells_same g vs 0 W
  exact h.trans ⟨hs.1, hs.2.1, hs.2.2.1, Nat.le_of_eq hs.2.2.2.symm, fun k hk => setCells_far _ _ k (by omega)⟩

theorem store_wr {W : World} {g : Nat} {cur : Array Value} (hh : W.heap[g]? = some (.cells cur 40 (0, 0))) (hs : cur.size = 2) (v0 v1 : Value) (h0 : v0.oneCell' = true) (h1 : v1.oneCell' = true) :
    (Instr.storeAt 40 (.pointer (some ⟨g, 0, none⟩)) (.agg (blkD v0 v1))).run Try.prog W = .ok () (W.setCells g 0 (blkD v0 v1).toList) ∧
    (W.setCells g 0 (blkD v0 v1).toList).heap[g]? = some (.cells (blkD v0 v1) 40 (0, 0)) := by
  have hl : (blkD v0 v1).toList.length = 2 := rfl
  refine ⟨run_store_run (P := Try.prog) (o := 0) 40 _ _ hh rfl (by rw [hl]; kernel_rfl) (by omega) (blkD_one v0 v1 h0 h1), ?_⟩
  obtain ⟨cur', h1, h2, h3⟩ := setCells_row (blkD v0 v1).toList 0 W cur hh (by omega)
  rw [h1]
  have : cur' = blkD v0 v1 := by
    apply Array.toList_inj.1
    rw [h3, List.take_zero, List.nil_append, hl, List.drop_of_length_le (by rw [Array.length_toList]; omega), List.append_nil]
  rw [this]
theorem R_cellsD {α : Type} {d : Kd α} {e : Nat} {W : World} {base : Nat} {v : Value} {xs : List α} (h : d.R e W base (fun _ => True) v xs) {g t : Nat} {cells : Array Value} (hb : W.heap[g]? = some (.cells cells t (0, 0))) (ht : ∀ q, q ∈ e :: d.E → q ≠ t) (vs : List Value) : d.R e (W.setCells g 0 vs) base (fun _ => True) v xs :=
  Kd.R_mono (Kd.R_step (Kd.R_types h hb ht) (fun k hk _ => setCells_far _ _ k hk.2)) (fun _ _ => trivial)

/-- A row that was there at the call, or that the call made. -/
structure RowO {α : Type} (kd : Kd α) (e : Nat) (w W : World) (A : Option Addr) (c : Nat) (l : List α) : Prop where
  len : l.length ≤ c
  row : Kd.C kd w A l.length l ∨ kd.R e W w.heap.size (fun _ => True) (.slice A l.length c) l
theorem RowO.reads {α : Type} {kd : Kd α} {e : Nat} {w W : World} {A : Option Addr} {c : Nat} {l : List α} (h : RowO kd e w W A c l) (hb : Below w.heap.size w W) : Kd.C kd W A l.length l := by
  rcases h.row with h1 | h1
  · exact Kd.C_below h1 hb
  · exact (Kd.R_reads' h1).2.2
theorem RowO.below {α : Type} {kd : Kd α} {e : Nat} {w W W' : World} {A : Option Addr} {c : Nat} {l : List α} (h : RowO kd e w W A c l) (hb : Below W.heap.size W W') : RowO kd e w W' A c l := ⟨h.len, h.row.imp id (fun h1 => Kd.R_below h1 hb)⟩
theorem RowO.cells {α : Type} {kd : Kd α} {e : Nat} {w W : World} {A : Option Addr} {c : Nat} {l : List α} (h : RowO kd e w W A c l) {g t : Nat} {cells : Array Value} (hg : W.heap[g]? = some (.cells cells t (0, 0))) (ht : ∀ q, q ∈ e :: kd.E → q ≠ t) (vs : List Value) : RowO kd e w (W.setCells g 0 vs) A c l := ⟨h.len, h.row.imp id (fun h1 => R_cellsD h1 hg ht vs)⟩
theorem RowO.set {α : Type} {kd : Kd α} {e : Nat} {w W : World} {A : Option Addr} {c : Nat} {l : List α} (h : RowO kd e w W A c l) {g t : Nat} {cells : Array Value} (hg : W.heap[g]? = some (.cells cells t (0, 0))) (ht : ∀ q, q ∈ e :: kd.E → q ≠ t) (j : Nat) (u : Value) : RowO kd e w (W.setCell ⟨g, j, none⟩ u) A c l := ⟨h.len, h.row.imp id (fun h1 => Kd.R_set h1 hg ht j u)⟩
theorem RowO.of {α : Type} {kd : Kd α} {e : Nat} {w W : World} {A : Option Addr} {c B : Nat} {l : List α} (h : kd.R e W B (fun _ => True) (.slice A l.length c) l) (hb : w.heap.size ≤ B) : RowO kd e w W A c l := ⟨(Kd.R_reads' h).2.1, .inr (Kd.R_lower h hb)⟩
theorem str_ne : ∀ q, q ∈ 9 :: Kd.string.E → q ≠ 25 := by intro q hq; simp [Kd.iso, Kd.pair, Kd.int, Kd.string, Kd.scalar] at hq; subst hq; decide
theorem wr_ne : ∀ q, q ∈ 40 :: k40.E → q ≠ 25 := by intro q hq; simp [k40, Kd.iso, Kd.pair, Kd.int, Kd.string, Kd.scalar] at hq; subst hq; decide
/-- Both disks of the law, each in its box. -/
structure OrdSt (w W : World) (gx gy : Nat) (l0 : List ByteArray) (va vb : List S40) (Aa : Option Addr) (ca : Nat) (Ab : Option Addr) (cb : Nat) (Ac : Option Addr) (cc : Nat) (Ad : Option Addr) (cd : Nat) : Prop where
  bx : W.heap[gx]? = some (.cells (blkD (.slice Aa l0.length ca) (.slice Ab va.length cb)) 25 (0, 0))
  bY : W.heap[gy]? = some (.cells (blkD (.slice Ac l0.length cc) (.slice Ad vb.length cd)) 25 (0, 0))
  ra : RowO Kd.string 9 w W Aa ca l0
  rb : RowO k40 40 w W Ab cb va
  rc : RowO Kd.string 9 w W Ac cc l0
  rd : RowO k40 40 w W Ad cd vb
  bel : Below w.heap.size w W
  nx : w.heap.size ≤ gx
  ny : w.heap.size ≤ gy
  ne : gx ≠ gy
section
variable {w W : World} {gx gy : Nat} {l0 : List ByteArray} {va vb : List S40} {Aa : Option Addr} {ca : Nat} {Ab : Option Addr} {cb : Nat} {Ac : Option Addr} {cc : Nat} {Ad : Option Addr} {cd : Nat}
theorem OrdSt.below {W' : World} (h : OrdSt w W gx gy l0 va vb Aa ca Ab cb Ac cc Ad cd) (hb : Below W.heap.size W W') : OrdSt w W' gx gy l0 va vb Aa ca Ab cb Ac cc Ad cd :=
  ⟨blk_below h.bx hb, blk_below h.bY hb, h.ra.below hb, h.rb.below hb, h.rc.below hb, h.rd.below hb, h.bel.trans (hb.mono h.bel.size), h.nx, h.ny, h.ne⟩
theorem OrdSt.set (h : OrdSt w W gx gy l0 va vb Aa ca Ab cb Ac cc Ad cd) {g : Nat} {cells : Array Value} (hg : W.heap[g]? = some (.cells cells 25 (0, 0))) (h1 : gx ≠ g) (h2 : gy ≠ g) (h3 : w.heap.size ≤ g) (j : Nat) (u : Value) : OrdSt w (W.setCell ⟨g, j, none⟩ u) gx gy l0 va vb Aa ca Ab cb Ac cc Ad cd :=
  ⟨blk_far h.bx (p := ⟨g, j, none⟩) h1 u, blk_far h.bY (p := ⟨g, j, none⟩) h2 u, h.ra.set hg str_ne j u, h.rb.set hg wr_ne j u, h.rc.set hg str_ne j u, h.rd.set hg wr_ne j u, h.bel.setCell (p := ⟨g, j, none⟩) h3 u, h.nx, h.ny, h.ne⟩
theorem OrdSt.putx (h : OrdSt w W gx gy l0 va vb Aa ca Ab cb Ac cc Ad cd) {A0 : Option Addr} {c0 : Nat} {A1 : Option Addr} {c1 : Nat} {v' : List S40} (r0 : RowO Kd.string 9 w W A0 c0 l0) (r1 : RowO k40 40 w W A1 c1 v') :
    OrdSt w (W.setCells gx 0 (blkD (.slice A0 l0.length c0) (.slice A1 v'.length c1)).toList) gx gy l0 v' vb A0 c0 A1 c1 Ac cc Ad cd :=
  ⟨(store_disk h.bx rfl _ _ rfl rfl).2, (setCells_far _ _ gy (fun e => h.ne e.symm)).trans h.bY, r0.cells h.bx str_ne _, r1.cells h.bx wr_ne _, h.rc.cells h.bx str_ne _, h.rd.cells h.bx wr_ne _, belowD_cells h.bel h.nx _, h.nx, h.ny, h.ne⟩
theorem OrdSt.puty (h : OrdSt w W gx gy l0 va vb Aa ca Ab cb Ac cc Ad cd) {A0 : Option Addr} {c0 : Nat} {A1 : Option Addr} {c1 : Nat} {v' : List S40} (r0 : RowO Kd.string 9 w W A0 c0 l0) (r1 : RowO k40 40 w W A1 c1 v') :
    OrdSt w (W.setCells gy 0 (blkD (.slice A0 l0.length c0) (.slice A1 v'.length c1)).toList) gx gy l0 va v' Aa ca Ab cb A0 c0 A1 c1 :=
  ⟨(setCells_far _ _ gx h.ne).trans h.bx, (store_disk h.bY rfl _ _ rfl rfl).2, h.ra.cells h.bY str_ne _, h.rb.cells h.bY wr_ne _, r0.cells h.bY str_ne _, r1.cells h.bY wr_ne _, belowD_cells h.bel h.ny _, h.nx, h.ny, h.ne⟩
end
theorem wr_at {W : World} {ad : Addr} {n : Nat} {l : List S40} (h : Kd.C k40 W (some ad) n l) (i : Nat) (hi : i < l.length) (hn : l.length = n) : W.cell? (ad.add (i * 2)) = some (.int .i64 l[i].f0) ∧ W.cell? ⟨(ad.add (i * 2)).block, (ad.add (i * 2)).off + 1, none⟩ = some (.string l[i].f1) := by
  obtain ⟨ad', e, h1, h2⟩ := at_T40 h (i : Int) (by omega) (by omega)
  cases e
  rw [Int.toNat_natCast] at h1 h2
  have : rd_T40 l (i : Int) = l[i] := by simp [rd_T40, List.getD_eq_getElem?_getD, hi]
  rw [this] at h1 h2
  exact ⟨h1, h2⟩
/-- A write that is not refused. -/
theorem write_ok {l0 : List ByteArray} {u : List S40} {a : Int} {s : ByteArray} {b : List ByteArray} {v : List S40} (h : writeV l0 u a s = (b, v, 0)) : b = l0 ∧ v = u ++ [⟨a, s⟩] ∧ 0 ≤ a ∧ checkB l0 u = true := by
  unfold writeV at h
  split at h
  · cases h
  split at h
  · cases h
  split at h
  · cases h
  split at h
  · cases h
  rename_i h1 h2 h3 h4
  cases h
  exact ⟨rfl, rfl, by omega, by simpa using h1⟩
/-! ### In whatever order -/
def stepW (b : List ByteArray) (x : S40) : List ByteArray := b.set x.f0.toNat x.f1
theorem apply_fold : ∀ (l : List S40) (i : Nat) (b : List ByteArray), applyW (fun _ => true) i l b = l.foldl stepW b
  | [], _, _ => rfl
  | x :: l, i, b => by simp only [applyW, if_true, List.foldl_cons]; exact apply_fold l (i + 1) _
theorem fold_swap (x : S40) : ∀ (t : List S40) (b : List ByteArray), (∀ y ∈ t, y.f0.toNat ≠ x.f0.toNat) → stepW (t.foldl stepW b) x = t.foldl stepW (stepW b x)
  | [], _, _ => rfl
  | y :: t, b, h => by
    simp only [List.foldl_cons]
    rw [fold_swap x t _ (fun z hz => h z (List.mem_cons_of_mem _ hz))]
    have hn := h y List.mem_cons_self
    have : stepW (stepW b y) x = stepW (stepW b x) y := by unfold stepW; rw [List.set_comm _ _ hn]
    rw [this]
theorem fold_rev : ∀ (l : List S40) (b : List ByteArray), l.Pairwise (fun x y => x.f0.toNat ≠ y.f0.toNat) → l.reverse.foldl stepW b = l.foldl stepW b
  | [], _, _ => rfl
  | x :: t, b, h => by
    rw [List.pairwise_cons] at h
    rw [List.reverse_cons, List.foldl_append, fold_rev t b h.2]
    simp only [List.foldl_cons, List.foldl_nil]
    exact fold_swap x t b (fun y hy => (h.1 y hy).symm)
theorem done_order {l0 : List ByteArray} {l1 l2 : List S40} (h : l2.Pairwise (fun x y => x.f0.toNat ≠ y.f0.toNat)) : doneV (fun _ => true) l0 (l1 ++ l2.reverse) = doneV (fun _ => true) l0 (l1 ++ l2) := by
  have hc : checkB l0 (l1 ++ l2.reverse) = checkB l0 (l1 ++ l2) := by unfold checkB; rw [List.length_append, List.length_append, List.length_reverse, List.any_append, List.any_append, List.any_reverse]
  unfold doneV
  rw [hc, apply_fold, apply_fold, List.foldl_append, List.foldl_append, fold_rev l2 _ h]
theorem take_rev {l : List S40} {i j : Nat} (h : j + i + 1 = l.length) : l.reverse.take (i + 1) = l.reverse.take i ++ [l[j]'(by omega)] := by
  rw [List.take_succ_eq_append_getElem (by simp; omega), List.getElem_reverse]
  congr 2
  congr 1
  omega

set_option maxHeartbeats 8000000 in
set_option maxRecDepth 100000 in
theorem order_far (k : Nat) (A0 : Option Addr) (c0 : Nat) (l0 : List ByteArray) (A1 : Option Addr) (c1 : Nat) (l1 : List S40) (A2 : Option Addr) (c2 : Nat) (l2 : List S40) (w : World) (hr0 : Kd.C Kd.string w A0 l0.length l0) (hc0 : l0.length ≤ c0) (hr1 : Kd.C k40 w A1 l1.length l1) (hc1 : l1.length ≤ c1) (hr2 : Kd.C k40 w A2 l2.length l2) (hc2 : l2.length ≤ c2) (hf : sextonlaw04_far.f k l0 l1 ⟨#[]⟩ [] = some true) :
    Calls Try.prog 7 #[.agg #[.slice A0 l0.length c0, .slice A1 l1.length c1], .slice A2 l2.length c2] w fun e w' => e = .returned (.bool true) ∧ Below w.heap.size w w' := by
  have HB0 := Aside0.mk ((Below.refl w.heap.size w).alloc (Nat.le_refl _) (.cells #[.slice A0 l0.length c0, .slice A1 l1.length c1] 25))
  have HD0 := Aside0.mk (blk_new w (.cells #[.slice A0 l0.length c0, .slice A1 l1.length c1] 25))
  have Rd0_0 := Aside0.mk (Kd.C_below hr0 HB0.out)
  have Rd1_0 := Aside0.mk (Kd.C_below hr1 HB0.out)
  have HFAR := Aside0.mk hf
  clear hr0 hr1 hf
  go_enter Try.func7, Try.ntmps7
  go_wp2_with (go_at_call 11; (refine (sextonlaw04_far.calls k A0 c0 l0 A1 c1 l1 ⟨#[]⟩ none 0 [] true _ Rd0_0.out hc0 Rd1_0.out hc1 (Kd.C_nil _ _) (Nat.le_refl _) HFAR.out).mono ?_); rintro e w1 ⟨rfl, hb⟩; have HB1 := Aside0.mk (HB0.out.trans (hb.mono HB0.out.size)); have HD1 := Aside0.mk (blk_below HD0.out hb); have d0 := blk_cell HD1.out 0; have d1 := blk_cell HD1.out 1; simp only [List.getElem?_toArray, List.getElem?_cons_zero, List.getElem?_cons_succ] at d0 d1; clear hb)
  go_ret
  exact ⟨rfl, HB1.out⟩
set_option maxHeartbeats 8000000 in
set_option maxRecDepth 100000 in
theorem order_long (k : Nat) (A0 : Option Addr) (c0 : Nat) (l0 : List ByteArray) (A1 : Option Addr) (c1 : Nat) (l1 : List S40) (A2 : Option Addr) (c2 : Nat) (l2 : List S40) (w : World) (hr0 : Kd.C Kd.string w A0 l0.length l0) (hc0 : l0.length ≤ c0) (hr1 : Kd.C k40 w A1 l1.length l1) (hc1 : l1.length ≤ c1) (hr2 : Kd.C k40 w A2 l2.length l2) (hc2 : l2.length ≤ c2) (hf : sextonlaw04_far.f k l0 l1 ⟨#[]⟩ [] = some false) (hl : 20 < l2.length) :
    Calls Try.prog 7 #[.agg #[.slice A0 l0.length c0, .slice A1 l1.length c1], .slice A2 l2.length c2] w fun e w' => e = .returned (.bool true) ∧ Below w.heap.size w w' := by
  have HB0 := Aside0.mk ((Below.refl w.heap.size w).alloc (Nat.le_refl _) (.cells #[.slice A0 l0.length c0, .slice A1 l1.length c1] 25))
  have HD0 := Aside0.mk (blk_new w (.cells #[.slice A0 l0.length c0, .slice A1 l1.length c1] 25))
  have Rd0_0 := Aside0.mk (Kd.C_below hr0 HB0.out)
  have Rd1_0 := Aside0.mk (Kd.C_below hr1 HB0.out)
  have HFAR := Aside0.mk hf
  have hl' : (20 < l2.length) = True := eq_true hl
  clear hr0 hr1 hf
  go_enter Try.func7, Try.ntmps7
  go_wp2_with (go_at_call 11; (refine (sextonlaw04_far.calls k A0 c0 l0 A1 c1 l1 ⟨#[]⟩ none 0 [] false _ Rd0_0.out hc0 Rd1_0.out hc1 (Kd.C_nil _ _) (Nat.le_refl _) HFAR.out).mono ?_); rintro e w1 ⟨rfl, hb⟩; have HB1 := Aside0.mk (HB0.out.trans (hb.mono HB0.out.size)); have HD1 := Aside0.mk (blk_below HD0.out hb); have d0 := blk_cell HD1.out 0; have d1 := blk_cell HD1.out 1; simp only [List.getElem?_toArray, List.getElem?_cons_zero, List.getElem?_cons_succ] at d0 d1; clear hb)
  go_ret
  exact ⟨rfl, HB1.out⟩

set_option maxHeartbeats 16000000 in
set_option maxRecDepth 100000 in
theorem order_in (k : Nat) (A0 : Option Addr) (c0 : Nat) (l0 : List ByteArray) (A1 : Option Addr) (c1 : Nat) (l1 : List S40) (A2 : Option Addr) (c2 : Nat) (l2 : List S40) (w : World) (hr0 : Kd.C Kd.string w A0 l0.length l0) (hc0 : l0.length ≤ c0) (hr1 : Kd.C k40 w A1 l1.length l1) (hc1 : l1.length ≤ c1) (hr2 : Kd.C k40 w A2 l2.length l2) (hc2 : l2.length ≤ c2) (hf : sextonlaw04_far.f k l0 l1 ⟨#[]⟩ [] = some false) (hl : l2.length ≤ 20) (x : List ByteArray) (u : List S40) (e : Int) (hx : doneV (fun _ => true) l0 (l1 ++ l2) = (x, u, e)) (hs : sextonref04_Same.f k x u x u = some true) :
    Calls Try.prog 7 #[.agg #[.slice A0 l0.length c0, .slice A1 l1.length c1], .slice A2 l2.length c2] w fun e w' => e = .returned (.bool true) ∧ Below w.heap.size w w' := by
  have HB0 := Aside0.mk ((Below.refl w.heap.size w).alloc (Nat.le_refl _) (.cells #[.slice A0 l0.length c0, .slice A1 l1.length c1] 25))
  have HD0 := Aside0.mk (blk_new w (.cells #[.slice A0 l0.length c0, .slice A1 l1.length c1] 25))
  have Rd0_0 := Aside0.mk (Kd.C_below hr0 HB0.out)
  have Rd1_0 := Aside0.mk (Kd.C_below hr1 HB0.out)
  have HFAR := Aside0.mk hf
  have H0 := Aside0.mk hr0
  have H1 := Aside0.mk hr1
  have H2 := Aside0.mk hr2
  have HC0 := Aside0.mk hc0
  have HC1 := Aside0.mk hc1
  have HX := Aside0.mk hx
  have HSM := Aside0.mk hs
  have HSP := Aside0.mk (fun W => sextonlaw04_spun.calls true W sextonlaw04_spun_true)
  have h20 : (20 < l2.length) = False := eq_false (by omega)
  clear hr0 hr1 hr2 hf hx hs
  go_enter Try.func7, Try.ntmps7
  go_wp2_with (first | (go_at_call 11; (refine (sextonlaw04_far.calls k A0 c0 l0 A1 c1 l1 ⟨#[]⟩ none 0 [] false _ Rd0_0.out hc0 Rd1_0.out hc1 (Kd.C_nil _ _) (Nat.le_refl _) HFAR.out).mono ?_); rintro e w1 ⟨rfl, hb⟩; have HB1 := Aside0.mk (HB0.out.trans (hb.mono HB0.out.size)); have HD1 := Aside0.mk (blk_below HD0.out hb); have d0 := blk_cell HD1.out 0; have d1 := blk_cell HD1.out 1; simp only [List.getElem?_toArray, List.getElem?_cons_zero, List.getElem?_cons_succ] at d0 d1; clear hb) | ((with_reducible refine gate_store (t := 25) (p := 5) rfl ?_); refine store_event (t := 25) (p := 5) (w1 := ((w1.alloc (.cells #[.slice none 0 0, .slice none 0 0] 25))).setCells (w1.heap.size) 0 (blkD (.slice A0 l0.length c0) (.slice A1 l1.length c1)).toList) rfl rfl rfl ?hr ?_; (case hr => (unfold execOp; simp only [Act.eval, Sem.run_bind, Sem.run_pure, Result.andThen_ok]; show ((Sem.run Try.prog (Instr.storeAt 25 (.pointer (some ⟨w1.heap.size, 0, none⟩)) (.agg (blkD (.slice A0 l0.length c0) (.slice A1 l1.length c1)))) ((w1.alloc (.cells #[.slice none 0 0, .slice none 0 0] 25)))).andThen _) = _; rw [(store_disk (blk_new w1 (.cells #[.slice none 0 0, .slice none 0 0] 25)) rfl (.slice A0 l0.length c0) (.slice A1 l1.length c1) rfl rfl).1]; try rfl)); intro w2 hw_; have HS2 := Aside0.mk (show Below w1.heap.size w1 w2 by rw [hw_]; exact belowD_cells ((Below.refl _ _).alloc (Nat.le_refl _) _) (Nat.le_refl _) _); have HX2 := Aside0.mk (hw_ ▸ (store_disk (blk_new w1 (.cells #[.slice none 0 0, .slice none 0 0] 25)) rfl (.slice A0 l0.length c0) (.slice A1 l1.length c1) rfl rfl).2 : w2.heap[w1.heap.size]? = some (.cells (blkD (.slice A0 l0.length c0) (.slice A1 l1.length c1)) 25 (0, 0))); have HD2 := Aside0.mk (blk_below HD1.out HS2.out); have e0 := blk_cell HD2.out 0; have e1 := blk_cell HD2.out 1; simp only [List.getElem?_toArray, List.getElem?_cons_zero, List.getElem?_cons_succ] at e0 e1; clear hw_ d0 d1) | ((with_reducible refine gate_store (t := 25) (p := 6) rfl ?_); refine store_event (t := 25) (p := 6) (w1 := ((w2.alloc (.cells #[.slice none 0 0, .slice none 0 0] 25))).setCells (w2.heap.size) 0 (blkD (.slice A0 l0.length c0) (.slice A1 l1.length c1)).toList) rfl rfl rfl ?hr ?_; (case hr => (unfold execOp; simp only [Act.eval, Sem.run_bind, Sem.run_pure, Result.andThen_ok]; show ((Sem.run Try.prog (Instr.storeAt 25 (.pointer (some ⟨w2.heap.size, 0, none⟩)) (.agg (blkD (.slice A0 l0.length c0) (.slice A1 l1.length c1)))) ((w2.alloc (.cells #[.slice none 0 0, .slice none 0 0] 25)))).andThen _) = _; rw [(store_disk (blk_new w2 (.cells #[.slice none 0 0, .slice none 0 0] 25)) rfl (.slice A0 l0.length c0) (.slice A1 l1.length c1) rfl rfl).1]; try rfl)); intro w3 hw_; have HS3 := Aside0.mk (show Below w2.heap.size w2 w3 by rw [hw_]; exact belowD_cells ((Below.refl _ _).alloc (Nat.le_refl _) _) (Nat.le_refl _) _); have HY3 := Aside0.mk (hw_ ▸ (store_disk (blk_new w2 (.cells #[.slice none 0 0, .slice none 0 0] 25)) rfl (.slice A0 l0.length c0) (.slice A1 l1.length c1) rfl rfl).2 : w3.heap[w2.heap.size]? = some (.cells (blkD (.slice A0 l0.length c0) (.slice A1 l1.length c1)) 25 (0, 0))); clear hw_ e0 e1))
  clear h20
  have z1 := blk_lt HX2.out
  have HST := Aside0.mk (show OrdSt w w3 w1.heap.size w2.heap.size l0 (l1 ++ l2.take 0) (l1 ++ l2.reverse.take 0) A0 c0 A1 c1 A0 c0 A1 c1 by rw [List.take_zero, List.take_zero, List.append_nil]; exact ⟨blk_below HX2.out HS3.out, HY3.out, ⟨HC0.out, .inl H0.out⟩, ⟨HC1.out, .inl H1.out⟩, ⟨HC0.out, .inl H0.out⟩, ⟨HC1.out, .inl H1.out⟩, (HB1.out.trans (HS2.out.mono HB1.out.size)).trans (HS3.out.mono (Nat.le_trans HB1.out.size HS2.out.size)), HB1.out.size, Nat.le_trans HB1.out.size HS2.out.size, by omega⟩)
  have hlt12 : w1.heap.size < w2.heap.size := z1
  have HLT := Aside0.mk hlt12
  clear z1 hlt12
  go_loopw [7] (fun i wr => ∃ j : Nat, j ≤ l2.length ∧ i = .int .i64 j ∧ (∃ Aa ca Ab cb Ac cc Ad cd, Aside0 (OrdSt w wr w1.heap.size w2.heap.size l0 (l1 ++ l2.take j) (l1 ++ l2.reverse.take j) Aa ca Ab cb Ac cc Ad cd)) ∧ Aside0 (∀ (x y : Nat) (_ : x < y) (_ : y < j) (hl : y < l2.length), (l2[x]'(by omega)).f0 ≠ (l2[y]'hl).f0) ∧ Aside0 (∀ (x : Nat) (_ : x < j) (hl : x < l2.length), 0 ≤ (l2[x]'hl).f0))
    (fun i _ => l2.length - (intOf i).toNat)
  case atStart => exact ⟨0, Nat.zero_le _, rfl, ⟨_, _, _, _, _, _, _, _, HST⟩, ⟨fun x y _ hy => absurd hy (Nat.not_lt_zero _)⟩, ⟨fun x h => absurd h (Nat.not_lt_zero _)⟩⟩
  case round =>
    clear HST
    obtain ⟨j, hj, rfl, ⟨Aa, ca, Ab, cb, Ac, cc, Ad, cd, HSa⟩, HU, HPS⟩ := hrel
    obtain ⟨wo, hwo⟩ : ∃ wo, wo = wr := ⟨_, rfl⟩
    subst hwo
    by_cases hlt : j < l2.length
    · obtain ⟨ad, hA2⟩ : ∃ ad, A2 = some ad := (by obtain ⟨ad, e, _⟩ := at_T40 H2.out (j : Int) (by omega) (by omega); exact ⟨ad, e⟩)
      subst hA2
      obtain ⟨xa, hxa⟩ : ∃ xa, xa = (l2[j]'hlt).f0 := ⟨_, rfl⟩
      obtain ⟨xs, hxs⟩ : ∃ xs, xs = (l2[j]'hlt).f1 := ⟨_, rfl⟩
      have HXA := Aside0.mk hxa
      have HXS := Aside0.mk hxs
      have HLJ := Aside0.mk hlt
      have HLL := Aside0.mk hl
      clear hxa hxs
      go_wp2
      go_loopw [8] (fun i wr => ∃ q : Nat, q ≤ j ∧ i = .int .i64 q ∧ Aside0 (Below wo.heap.size wo wr) ∧ Aside0 (∀ (x : Nat) (_ : x < q) (hl : x < l2.length), (l2[x]'hl).f0 ≠ xa))
        (fun i _ => j - (intOf i).toNat)
      case atStart => exact ⟨0, Nat.zero_le _, rfl, ⟨Below.refl _ _⟩, ⟨fun x h => absurd h (Nat.not_lt_zero _)⟩⟩
      case round =>
        obtain ⟨q, hq, rfl, HBq, HN⟩ := hrel
        by_cases hq2 : q < j
        · have HSq := Aside0.mk (HSa.out.below HBq.out)
          have hC := Kd.C_below H2.out HSq.out.bel
          obtain ⟨p0, p1⟩ := wr_at hC q (by omega) rfl
          obtain ⟨p2, p3⟩ := wr_at hC j hlt rfl
          rw [← HXA.out] at p2
          obtain ⟨xq, hxq⟩ : ∃ xq, xq = (l2[q]'(by omega)).f0 := ⟨_, rfl⟩
          rw [← hxq] at p0
          have HXQ := Aside0.mk hxq
          clear p1 p3 hC hxq
          by_cases heq : xq = xa
          · subst heq
            go_wp2
            repeat (go_quiet (fail))
            have HBn : Aside0 (Below w.heap.size w (wr.drewN nq)) := ⟨pw_below_drewN HSq.out.bel _⟩
            go_wp2_with (first | (go_at_call 26; (with_reducible refine (HSP.out _).mono ?_); rintro e ws ⟨rfl, hb⟩; have HBs := Aside0.mk (HBn.out.trans (hb.mono HBn.out.size)); clear hb))
            go_ret
            exact ⟨rfl, HBs.out⟩
          · have hne : (xq == xa) = false := by simpa using heq
            have hne2 : decide (xq = xa) = false := decide_eq_false heq
            go_wp2
            repeat (go_quiet (fail))
            go_wp2
            go_roundw
            case rel => exact ⟨q + 1, by omega, by go_num, ⟨by first | exact HBq.out | exact pw_below_drewN HBq.out _ | exact below_drew HBq.out⟩, ⟨fun x hx hl' => by
              rcases Nat.lt_succ_iff_lt_or_eq.1 hx with h | rfl
              · exact HN.out x h hl'
              · rw [← HXQ.out]; exact heq⟩⟩
            case measure => simp [intOf]; omega
        · obtain rfl : q = j := by omega
          have HSb := Aside0.mk (HSa.out.below HBq.out)
          clear HSa HBq hq2 hq
          obtain ⟨va, hva⟩ : ∃ va, va = l1 ++ l2.take q := ⟨_, rfl⟩
          obtain ⟨vb, hvb⟩ : ∃ vb, vb = l1 ++ l2.reverse.take q := ⟨_, rfl⟩
          rw [← hva, ← hvb] at HSb
          have HVA := Aside0.mk hva
          have HVB := Aside0.mk hvb
          clear hva hvb
          obtain ⟨wi, hwi⟩ : ∃ wi, wi = wr := ⟨_, rfl⟩
          subst hwi
          obtain ⟨b1, u1, e1, hw1⟩ : ∃ b1 u1 e1, writeV l0 va xa xs = (b1, u1, e1) := ⟨_, _, _, rfl⟩
          have HW1 := Aside0.mk hw1
          clear hw1
          have HLW := Aside0.mk (show w2.heap.size < wi.heap.size from blk_lt HSb.out.bY)
          have HCE := Aside0.mk (fun (W : World) (hb : Below w.heap.size w W) => (show W.cell? (ad.add (q * 2)) = some (.int .i64 xa) ∧ W.cell? ⟨(ad.add (q * 2)).block, (ad.add (q * 2)).off + 1, none⟩ = some (.string xs) by
            have hC := Kd.C_below H2.out hb
            have := wr_at hC q HLJ.out rfl
            rw [← HXA.out, ← HXS.out] at this
            exact this))
          try go_wp2
          have HS_6 := Aside0.mk (HSb.out.below (below_drew (Below.refl wi.heap.size wi)))
          refine start_ (n := 18) (S := fun w' => w'.cell? ⟨w1.heap.size, 0, none⟩ = some (.slice Aa l0.length ca) ∧ w'.cell? ⟨w1.heap.size, 1, none⟩ = some (.slice Ab va.length cb) ∧ w'.cell? (ad.add (q * 2)) = some (.int .i64 xa) ∧ w'.cell? ⟨(ad.add (q * 2)).block, (ad.add (q * 2)).off + 1, none⟩ = some (.string xs)) (ds := [16]) #[false, false, false, false, false, false, false, false, false, false, false, false, false, false, false, false, false, false] (by kernel_rfl) rfl rfl ⟨(blk_cell HS_6.out.bx 0).trans rfl, (blk_cell HS_6.out.bx 1).trans rfl, (HCE.out _ HS_6.out.bel).1, (HCE.out _ HS_6.out.bel).2⟩ (fun hHeld => ?_)
          generalize World.drew wi = w6 at HS_6 hHeld ⊢
          refine pure_ (i := 1) (N := some 52) (v := ?_) (a' := ?_) #[false, true, false, false, false, false, false, false, false, false, false, false, false, false, false, false, false, false] rfl rfl (by kernel_rfl) (fun _ _ _ h => h) (Or.inl ⟨by rfl, ?_⟩) ?_ ?_
          rotate_left
          · intro w'
            go_simp
            with_reducible rfl
          rotate_left
          · simp only [Act.put, List.setIfInBounds_toArray, List.set_cons_zero, List.set_cons_succ, i64_w, i32_w]
            rfl
          refine pure_ (i := 2) (N := some 53) (v := ?_) (a' := ?_) #[false, true, true, false, false, false, false, false, false, false, false, false, false, false, false, false, false, false] rfl rfl (by kernel_rfl) (fun _ _ _ h => h) (Or.inl ⟨by rfl, ?_⟩) ?_ ?_
          rotate_left
          · intro w'
            go_simp
            with_reducible rfl
          rotate_left
          · simp only [Act.put, List.setIfInBounds_toArray, List.set_cons_zero, List.set_cons_succ, i64_w, i32_w]
            rfl
          refine pure_ (i := 3) (N := some 54) (v := ?_) (a' := ?_) #[false, true, true, true, false, false, false, false, false, false, false, false, false, false, false, false, false, false] rfl rfl (by kernel_rfl) (fun _ _ _ h => h) (Or.inl ⟨by rfl, ?_⟩) ?_ ?_
          rotate_left
          · intro w'
            go_simp
            with_reducible rfl
          rotate_left
          · simp only [Act.put, List.setIfInBounds_toArray, List.set_cons_zero, List.set_cons_succ, i64_w, i32_w]
            rfl
          refine pure_ (i := 4) (N := some 55) (v := ?_) (a' := ?_) #[false, true, true, true, true, false, false, false, false, false, false, false, false, false, false, false, false, false] rfl rfl (by kernel_rfl) (fun _ _ _ h => h) (Or.inl ⟨by rfl, ?_⟩) ?_ ?_
          rotate_left
          · intro w'
            go_simp
            with_reducible rfl
          rotate_left
          · simp only [Act.put, List.setIfInBounds_toArray, List.set_cons_zero, List.set_cons_succ, i64_w, i32_w]
            rfl
          refine pure_ (i := 6) (N := some 57) (v := ?_) (a' := ?_) #[false, true, true, true, true, false, true, false, false, false, false, false, false, false, false, false, false, false] rfl rfl (by kernel_rfl) (fun _ _ _ h => h) (Or.inl ⟨by rfl, ?_⟩) ?_ ?_
          rotate_left
          · intro w'
            go_simp
            with_reducible rfl
          rotate_left
          · simp only [Act.put, List.setIfInBounds_toArray, List.set_cons_zero, List.set_cons_succ, i64_w, i32_w]
            rfl
          refine pure_ (i := 7) (N := some 58) (v := ?_) (a' := ?_) #[false, true, true, true, true, false, true, true, false, false, false, false, false, false, false, false, false, false] rfl rfl (by kernel_rfl) (fun _ _ _ h => h) (Or.inl ⟨by rfl, ?_⟩) ?_ ?_
          rotate_left
          · intro w'
            go_simp
            with_reducible rfl
          rotate_left
          · simp only [Act.put, List.setIfInBounds_toArray, List.set_cons_zero, List.set_cons_succ, i64_w, i32_w]
            rfl
          refine pure_ (i := 8) (N := some 59) (v := ?_) (a' := ?_) #[false, true, true, true, true, false, true, true, true, false, false, false, false, false, false, false, false, false] rfl rfl (by kernel_rfl) (fun _ _ _ h => h) (Or.inl ⟨by rfl, ?_⟩) ?_ ?_
          rotate_left
          · intro w'
            go_simp
            with_reducible rfl
          rotate_left
          · simp only [Act.put, List.setIfInBounds_toArray, List.set_cons_zero, List.set_cons_succ, i64_w, i32_w]
            rfl
          refine pure_ (i := 9) (N := some 60) (v := ?_) (a' := ?_) #[false, true, true, true, true, false, true, true, true, true, false, false, false, false, false, false, false, false] rfl rfl (by kernel_rfl) (fun _ _ _ h => h) (Or.inl ⟨by rfl, ?_⟩) ?_ ?_
          rotate_left
          · intro w'
            go_simp
            with_reducible rfl
          rotate_left
          · simp only [Act.put, List.setIfInBounds_toArray, List.set_cons_zero, List.set_cons_succ, i64_w, i32_w]
            rfl
          refine take_ (i := 0) (N := some 51) (v := ?_) (a' := ?_) #[true, true, true, true, true, false, true, true, true, true, false, false, false, false, false, false, false, false] rfl rfl (by kernel_rfl) (fun _ _ _ h => h) (Or.inl ⟨by rfl, ?_⟩) hHeld ?_ ?_
          rotate_left
          · rintro w' ⟨s0, s1, s2, s3⟩
            go_simp
            with_reducible rfl
          rotate_left
          · simp only [Act.put, List.setIfInBounds_toArray, List.set_cons_zero, List.set_cons_succ, i64_w, i32_w]
            rfl
          refine take_ (i := 5) (N := some 56) (v := ?_) (a' := ?_) #[true, true, true, true, true, true, true, true, true, true, false, false, false, false, false, false, false, false] rfl rfl (by kernel_rfl) (fun _ _ _ h => h) (Or.inl ⟨by rfl, ?_⟩) hHeld ?_ ?_
          rotate_left
          · rintro w' ⟨s0, s1, s2, s3⟩
            go_simp
            with_reducible rfl
          rotate_left
          · simp only [Act.put, List.setIfInBounds_toArray, List.set_cons_zero, List.set_cons_succ, i64_w, i32_w]
            rfl
          refine take_ (i := 10) (N := some 61) (v := ?_) (a' := ?_) #[true, true, true, true, true, true, true, true, true, true, true, false, false, false, false, false, false, false] rfl rfl (by kernel_rfl) (fun _ _ _ h => h) (Or.inl ⟨by rfl, ?_⟩) hHeld ?_ ?_
          rotate_left
          · rintro w' ⟨s0, s1, s2, s3⟩
            go_simp
            with_reducible rfl
          rotate_left
          · simp only [Act.put, List.setIfInBounds_toArray, List.set_cons_zero, List.set_cons_succ, i64_w, i32_w]
            rfl
          refine join_ (σ := Nat × Option Addr × Nat × Option Addr × Nat) 2 #[true, true, true, true, true, true, true, true, true, true, true, true, true, true, true, true, false, false] (fun s => [(62, .tuple #[.agg #[.slice s.2.1 b1.length s.2.2.1, .slice s.2.2.2.1 u1.length s.2.2.2.2], .int .i64 e1]), (50, .tuple #[.agg #[.slice s.2.1 b1.length s.2.2.1, .slice s.2.2.2.1 u1.length s.2.2.2.2], .int .i64 e1]), (63, .agg #[.slice s.2.1 b1.length s.2.2.1, .slice s.2.2.2.1 u1.length s.2.2.2.2]), (64, .int .i64 e1), (9, .pointer (some ⟨s.1, 0, none⟩))]) (fun s w' => OrdSt w w' w1.heap.size w2.heap.size l0 va vb Aa ca Ab cb Ac cc Ad cd ∧ RowO Kd.string 9 w w' s.2.1 s.2.2.1 b1 ∧ RowO k40 40 w w' s.2.2.2.1 s.2.2.2.2 u1 ∧ w'.heap[s.1]? = some (.cells #[.slice none 0 0, .slice none 0 0] 25 (0, 0)) ∧ w6.heap.size ≤ s.1) ?_ ?_
          rotate_left
          · intro hCont
            refine two_ (i := 11) (j := 15) (Ni := some 62) (Nj := some 9) #[true, true, true, true, true, true, true, true, true, true, true, true, false, false, false, false, false, false] #[true, true, true, true, true, true, true, true, true, true, true, false, false, false, false, true, false, false] rfl rfl rfl rfl (by kernel_rfl) (by decide) (by decide) (fun K hK => ?_) (fun K hK => ?_)
            · skip
              refine goes_ Try.func13 (by kernel_rfl) rfl #[.agg #[.slice Aa l0.length ca, .slice Ab va.length cb], .int .i64 xa, .string xs] (by rfl) rfl rfl (by (try simp only [List.map_toArray, List.map_cons, List.map_nil]); first | done | rfl) ?_
              refine (disk_Write.calls Aa ca l0 Ab cb va xa xs b1 u1 e1 (w6) (HS_6.out.ra.reads HS_6.out.bel) HS_6.out.ra.len (HS_6.out.rb.reads HS_6.out.bel) HS_6.out.rb.len (congrArg some HW1.out)).mono ?_
              rintro e w7 ⟨v0, v1, rfl, hR0, hR1, hb⟩
              refine ⟨_, rfl, ?_⟩
              obtain ⟨A4, c4, rfl⟩ := Kd.R_slice hR0
              obtain ⟨A5, c5, rfl⟩ := Kd.R_slice hR1
              have hLB := HS_6.out.bel.size
              have RA := Aside0.mk (RowO.of (w := w) hR0 hLB)
              have RB := Aside0.mk (RowO.of (w := w) hR1 hLB)
              have HS_7 := Aside0.mk (HS_6.out.below hb)
              clear hR0 hR1 hLB
              have HZ7 := Aside0.mk hb.size
              clear hb
              refine hK.out _ _ ⟨(blk_cell HS_7.out.bx 0).trans rfl, (blk_cell HS_7.out.bx 1).trans rfl, (HCE.out _ HS_7.out.bel).1, (HCE.out _ HS_7.out.bel).2⟩ (fun hHeld => ?_)
              clear hK K
              refine norm_ (a' := ?_) ?_ ?_
              rotate_left
              · show Act.put _ (some 62) _ = _
                simp only [Act.put, List.setIfInBounds_toArray, List.set_cons_zero, List.set_cons_succ, i64_w, i32_w]
                rfl
              refine pure_ (i := 12) (N := some 50) (v := ?_) (a' := ?_) #[true, true, true, true, true, true, true, true, true, true, true, true, true, false, false, false, false, false] rfl rfl (by kernel_rfl) (fun _ _ _ h => h) (Or.inl ⟨by rfl, ?_⟩) ?_ ?_
              rotate_left
              · intro w'
                go_simp
                with_reducible rfl
              rotate_left
              · simp only [Act.put, List.setIfInBounds_toArray, List.set_cons_zero, List.set_cons_succ, i64_w, i32_w]
                rfl
              refine pure_ (i := 13) (N := some 63) (v := ?_) (a' := ?_) #[true, true, true, true, true, true, true, true, true, true, true, true, true, true, false, false, false, false] rfl rfl (by kernel_rfl) (fun _ _ _ h => h) (Or.inl ⟨by rfl, ?_⟩) ?_ ?_
              rotate_left
              · intro w'
                go_simp
                with_reducible rfl
              rotate_left
              · simp only [Act.put, List.setIfInBounds_toArray, List.set_cons_zero, List.set_cons_succ, i64_w, i32_w]
                rfl
              refine pure_ (i := 14) (N := some 64) (v := ?_) (a' := ?_) #[true, true, true, true, true, true, true, true, true, true, true, true, true, true, true, false, false, false] rfl rfl (by kernel_rfl) (fun _ _ _ h => h) (Or.inl ⟨by rfl, ?_⟩) ?_ ?_
              rotate_left
              · intro w'
                go_simp
                with_reducible rfl
              rotate_left
              · simp only [Act.put, List.setIfInBounds_toArray, List.set_cons_zero, List.set_cons_succ, i64_w, i32_w]
                rfl
              refine one_ (i := 15) (N := some 9) #[true, true, true, true, true, true, true, true, true, true, true, true, true, true, true, true, false, false] rfl rfl (by kernel_rfl) (by decide) (fun K hK => ?_)
              refine value_ (w1 := ?_) (v := ?_) (by rfl) rfl ?_ ?_
              rotate_left 2
              · go_simp
                constructor
                · rfl
                · rfl
              have HS_8 := Aside0.mk (HS_7.out.below (W' := w7.alloc (.cells #[.slice none 0 0, .slice none 0 0] 25)) ((Below.refl _ _).alloc (Nat.le_refl _) (.cells #[.slice none 0 0, .slice none 0 0] 25)))
              have RA8 := Aside0.mk (RA.out.below (W' := w7.alloc (.cells #[.slice none 0 0, .slice none 0 0] 25)) ((Below.refl _ _).alloc (Nat.le_refl _) (.cells #[.slice none 0 0, .slice none 0 0] 25)))
              have RB8 := Aside0.mk (RB.out.below (W' := w7.alloc (.cells #[.slice none 0 0, .slice none 0 0] 25)) ((Below.refl _ _).alloc (Nat.le_refl _) (.cells #[.slice none 0 0, .slice none 0 0] 25)))
              have HG8 := Aside0.mk (blk_new w7 (.cells #[.slice none 0 0, .slice none 0 0] 25))
              refine hK.out _ _ ⟨(blk_cell HS_8.out.bx 0).trans rfl, (blk_cell HS_8.out.bx 1).trans rfl, (HCE.out _ HS_8.out.bel).1, (HCE.out _ HS_8.out.bel).2⟩ (fun hHeld => ?_)
              clear hK K
              refine norm_ (a' := ?_) ?_ ?_
              rotate_left
              · show Act.put _ (some 9) _ = _
                simp only [Act.put, List.setIfInBounds_toArray, List.set_cons_zero, List.set_cons_succ, i64_w, i32_w]
                rfl
              exact norm_ (by simp only [putAll, Act.put, List.setIfInBounds_toArray, List.set_cons_zero, List.set_cons_succ]) (hCont (w7.heap.size, A4, c4, A5, c5) _ ⟨HS_8.out, RA8.out, RB8.out, HG8.out, HZ7.out⟩)
            · skip
              refine value_ (w1 := ?_) (v := ?_) (by rfl) rfl ?_ ?_
              rotate_left 2
              · go_simp
                constructor
                · rfl
                · rfl
              have HS_7 := Aside0.mk (HS_6.out.below (W' := w6.alloc (.cells #[.slice none 0 0, .slice none 0 0] 25)) ((Below.refl _ _).alloc (Nat.le_refl _) (.cells #[.slice none 0 0, .slice none 0 0] 25)))
              refine hK.out _ _ ⟨(blk_cell HS_7.out.bx 0).trans rfl, (blk_cell HS_7.out.bx 1).trans rfl, (HCE.out _ HS_7.out.bel).1, (HCE.out _ HS_7.out.bel).2⟩ (fun hHeld => ?_)
              clear hK K
              refine norm_ (a' := ?_) ?_ ?_
              rotate_left
              · show Act.put _ (some 9) _ = _
                simp only [Act.put, List.setIfInBounds_toArray, List.set_cons_zero, List.set_cons_succ, i64_w, i32_w]
                rfl
              refine one_ (i := 11) (N := some 62) #[true, true, true, true, true, true, true, true, true, true, true, true, false, false, false, true, false, false] rfl rfl (by kernel_rfl) (by decide) (fun K hK => ?_)
              refine goes_ Try.func13 (by kernel_rfl) rfl #[.agg #[.slice Aa l0.length ca, .slice Ab va.length cb], .int .i64 xa, .string xs] (by rfl) rfl rfl (by (try simp only [List.map_toArray, List.map_cons, List.map_nil]); first | done | rfl) ?_
              refine (disk_Write.calls Aa ca l0 Ab cb va xa xs b1 u1 e1 (w6.alloc (.cells #[.slice none 0 0, .slice none 0 0] 25)) (HS_7.out.ra.reads HS_7.out.bel) HS_7.out.ra.len (HS_7.out.rb.reads HS_7.out.bel) HS_7.out.rb.len (congrArg some HW1.out)).mono ?_
              rintro e w8 ⟨v0, v1, rfl, hR0, hR1, hb⟩
              refine ⟨_, rfl, ?_⟩
              obtain ⟨A4, c4, rfl⟩ := Kd.R_slice hR0
              obtain ⟨A5, c5, rfl⟩ := Kd.R_slice hR1
              have hLB := HS_7.out.bel.size
              have RA := Aside0.mk (RowO.of (w := w) hR0 hLB)
              have RB := Aside0.mk (RowO.of (w := w) hR1 hLB)
              have HS_8 := Aside0.mk (HS_7.out.below hb)
              clear hR0 hR1 hLB
              have RA8 := RA
              have RB8 := RB
              have HG8 := Aside0.mk (blk_below (blk_new w6 (.cells #[.slice none 0 0, .slice none 0 0] 25)) hb)
              have HZ7 := Aside0.mk (Nat.le_refl w6.heap.size)
              clear hb
              refine hK.out _ _ ⟨(blk_cell HS_8.out.bx 0).trans rfl, (blk_cell HS_8.out.bx 1).trans rfl, (HCE.out _ HS_8.out.bel).1, (HCE.out _ HS_8.out.bel).2⟩ (fun hHeld => ?_)
              clear hK K
              refine norm_ (a' := ?_) ?_ ?_
              rotate_left
              · show Act.put _ (some 62) _ = _
                simp only [Act.put, List.setIfInBounds_toArray, List.set_cons_zero, List.set_cons_succ, i64_w, i32_w]
                rfl
              refine pure_ (i := 12) (N := some 50) (v := ?_) (a' := ?_) #[true, true, true, true, true, true, true, true, true, true, true, true, true, false, false, true, false, false] rfl rfl (by kernel_rfl) (fun _ _ _ h => h) (Or.inl ⟨by rfl, ?_⟩) ?_ ?_
              rotate_left
              · intro w'
                go_simp
                with_reducible rfl
              rotate_left
              · simp only [Act.put, List.setIfInBounds_toArray, List.set_cons_zero, List.set_cons_succ, i64_w, i32_w]
                rfl
              refine pure_ (i := 13) (N := some 63) (v := ?_) (a' := ?_) #[true, true, true, true, true, true, true, true, true, true, true, true, true, true, false, true, false, false] rfl rfl (by kernel_rfl) (fun _ _ _ h => h) (Or.inl ⟨by rfl, ?_⟩) ?_ ?_
              rotate_left
              · intro w'
                go_simp
                with_reducible rfl
              rotate_left
              · simp only [Act.put, List.setIfInBounds_toArray, List.set_cons_zero, List.set_cons_succ, i64_w, i32_w]
                rfl
              refine pure_ (i := 14) (N := some 64) (v := ?_) (a' := ?_) #[true, true, true, true, true, true, true, true, true, true, true, true, true, true, true, true, false, false] rfl rfl (by kernel_rfl) (fun _ _ _ h => h) (Or.inl ⟨by rfl, ?_⟩) ?_ ?_
              rotate_left
              · intro w'
                go_simp
                with_reducible rfl
              rotate_left
              · simp only [Act.put, List.setIfInBounds_toArray, List.set_cons_zero, List.set_cons_succ, i64_w, i32_w]
                rfl
              exact norm_ (by simp only [putAll, Act.put, List.setIfInBounds_toArray, List.set_cons_zero, List.set_cons_succ]) (hCont (w6.heap.size, A4, c4, A5, c5) _ ⟨HS_8.out, RA8.out, RB8.out, HG8.out, HZ7.out⟩)
          rintro ⟨g, A4, c4, A5, c5⟩ w8 ⟨hS8, hA8, hB8, hG8, hL8⟩
          have HS_8 := Aside0.mk hS8
          have RA8 := Aside0.mk hA8
          have RB8 := Aside0.mk hB8
          have HG8 := Aside0.mk hG8
          have HL8 := Aside0.mk hL8
          clear hS8 hA8 hB8 hG8 hL8
          have hHeld : w8.cell? ⟨w1.heap.size, 0, none⟩ = some (.slice Aa l0.length ca) ∧ w8.cell? ⟨w1.heap.size, 1, none⟩ = some (.slice Ab va.length cb) ∧ w8.cell? (ad.add (q * 2)) = some (.int .i64 xa) ∧ w8.cell? ⟨(ad.add (q * 2)).block, (ad.add (q * 2)).off + 1, none⟩ = some (.string xs) := ⟨(blk_cell HS_8.out.bx 0).trans rfl, (blk_cell HS_8.out.bx 1).trans rfl, (HCE.out _ HS_8.out.bel).1, (HCE.out _ HS_8.out.bel).2⟩
          have y0 := blk_cell HG8.out 0
          have y1 := blk_cell HG8.out 1
          have fy0 := blk_frozen HG8.out 0
          have fy1 := blk_frozen HG8.out 1
          refine norm_ (a' := ?_) ?_ ?_
          rotate_left
          · simp only [putAll, Act.put, List.setIfInBounds_toArray, List.set_cons_zero, List.set_cons_succ]
            rfl
          refine last_ (i := 16) (N := none) #[true, true, true, true, true, true, true, true, true, true, true, true, true, true, true, true, true, false] rfl rfl (by kernel_rfl) (by decide) (fun K hK => ?_)
          refine skip_ (w1 := ?_) (by rfl) rfl ?_ ?_
          rotate_left
          · go_simp
            rfl
          refine hK.out _ _ ?_
          clear hK K
          refine pure_ (i := 17) (N := some 10) (v := ?_) (a' := ?_) #[true, true, true, true, true, true, true, true, true, true, true, true, true, true, true, true, true, true] rfl rfl (by kernel_rfl) (fun _ _ _ h => h) (Or.inl ⟨by rfl, ?_⟩) ?_ ?_
          rotate_left
          · intro w'
            go_simp
            with_reducible rfl
          rotate_left
          · simp only [Act.put, List.setIfInBounds_toArray, List.set_cons_zero, List.set_cons_succ, i64_w, i32_w]
            rfl
          refine done_ (by kernel_rfl) ?_
          obtain ⟨w9, hw_⟩ : ∃ x_, x_ = (w8.setCell ⟨g, 0, none⟩ (.slice A4 b1.length c4)).setCell ⟨g, 1, none⟩ (.slice A5 u1.length c5) := ⟨_, rfl⟩
          rw [← hw_]
          have hgx : w1.heap.size ≠ g := (by have h1 := blk_lt HS_6.out.bx; have h2 := HL8.out; omega)
          have hgy : w2.heap.size ≠ g := (by have h1 := blk_lt HS_6.out.bY; have h2 := HL8.out; omega)
          have hgw : w.heap.size ≤ g := (by have h1 := HS_6.out.bel.size; have h2 := HL8.out; omega)
          have HS_9 := Aside0.mk (show OrdSt w w9 w1.heap.size w2.heap.size l0 va vb Aa ca Ab cb Ac cc Ad cd by rw [hw_]; exact (HS_8.out.set HG8.out hgx hgy hgw 0 _).set (blk_set HG8.out 0 _) hgx hgy hgw 1 _)
          have RA9 := Aside0.mk (show RowO Kd.string 9 w w9 A4 c4 b1 by rw [hw_]; exact (RA8.out.set HG8.out str_ne 0 _).set (blk_set HG8.out 0 _) str_ne 1 _)
          have RB9 := Aside0.mk (show RowO k40 40 w w9 A5 c5 u1 by rw [hw_]; exact (RB8.out.set HG8.out wr_ne 0 _).set (blk_set HG8.out 0 _) wr_ne 1 _)
          have HG9 := Aside0.mk (show w9.heap[g]? = some (.cells (blkD (.slice A4 b1.length c4) (.slice A5 u1.length c5)) 25 (0, 0)) by rw [hw_]; exact blk_set (blk_set HG8.out 0 _) 1 _)
          have HGX := Aside0.mk hgx
          have HGY := Aside0.mk hgy
          have HGW := Aside0.mk hgw
          clear hw_ hgx hgy hgw HS_6 HS_8 RA8 RB8 HG8 HL8 hHeld y0 y1 fy0 fy1 HLW
          obtain ⟨m, hm⟩ : ∃ m : Nat, m + q + 1 = l2.length := ⟨l2.length - q - 1, by omega⟩
          have hml : m < l2.length := by omega
          have HM := Aside0.mk hm
          have HMT := Aside0.mk hml
          have hix : (l2.length : Int) - 1 - (q : Int) = (m : Int) := by omega
          obtain ⟨ya, hya⟩ : ∃ ya, ya = (l2[m]'hml).f0 := ⟨_, rfl⟩
          obtain ⟨ys, hys⟩ : ∃ ys, ys = (l2[m]'hml).f1 := ⟨_, rfl⟩
          have HYA := Aside0.mk hya
          have HYS := Aside0.mk hys
          have hyc := wr_at (Kd.C_below H2.out HS_9.out.bel) m hml rfl
          rw [← hya, ← hys] at hyc
          obtain ⟨hyc0, hyc1⟩ := hyc
          obtain ⟨b2, u2, e2, hw2⟩ : ∃ b2 u2 e2, writeV l0 vb ya ys = (b2, u2, e2) := ⟨_, _, _, rfl⟩
          have HW2 := Aside0.mk hw2
          have HW2f := Aside0.mk (show disk_Write.f l0 vb ya ys = some (b2, u2, e2) from congrArg some hw2)
          clear hya hys hw2 hm
          go_upto_region 16 with (first | ((with_reducible refine gate_store (t := 40) (p := 11) rfl ?_); refine store_event (t := 40) (p := 11) (w1 := ((w9.alloc (.cells #[.int .i64 0, .string ⟨#[]⟩] 40))).setCells (w9.heap.size) 0 (blkD (.int .i64 ya) (.string ys)).toList) rfl rfl rfl ?hr ?_; (case hr => (unfold execOp; simp only [Act.eval, Sem.run_bind, Sem.run_pure, Result.andThen_ok]; show ((Sem.run Try.prog (Instr.storeAt 40 (.pointer (some ⟨w9.heap.size, 0, none⟩)) (.agg (blkD (.int .i64 ya) (.string ys)))) ((w9.alloc (.cells #[.int .i64 0, .string ⟨#[]⟩] 40)))).andThen _) = _; rw [(store_wr (blk_new w9 (.cells #[.int .i64 0, .string ⟨#[]⟩] 40)) rfl (.int .i64 ya) (.string ys) rfl rfl).1]; try rfl)); intro w10 hw_; have HS := Aside0.mk (show Below w9.heap.size w9 w10 by rw [hw_]; exact belowD_cells ((Below.refl _ _).alloc (Nat.le_refl _) _) (Nat.le_refl _) _); have HK := Aside0.mk (hw_ ▸ (store_wr (blk_new w9 (.cells #[.int .i64 0, .string ⟨#[]⟩] 40)) rfl (.int .i64 ya) (.string ys) rfl rfl).2 : w10.heap[w9.heap.size]? = some (.cells (blkD (.int .i64 ya) (.string ys)) 40 (0, 0))); have HS_10 := Aside0.mk (HS_9.out.below HS.out); have RA10 := Aside0.mk (RA9.out.below HS.out); have RB10 := Aside0.mk (RB9.out.below HS.out); have HG10 := Aside0.mk (blk_below HG9.out HS.out); have k0 := blk_cell HK.out 0; have k1 := blk_cell HK.out 1; simp only [blkD, List.getElem?_toArray, List.getElem?_cons_zero, List.getElem?_cons_succ] at k0 k1; have t0 := blk_cell HS_10.out.bY 0; have t1 := blk_cell HS_10.out.bY 1; simp only [blkD, List.getElem?_toArray, List.getElem?_cons_zero, List.getElem?_cons_succ] at t0 t1; clear hw_ HS) | (go_at_call 13; (with_reducible refine (disk_Write.calls Ac cc l0 Ad cd vb ya ys b2 u2 e2 _ (HS_10.out.rc.reads HS_10.out.bel) HS_10.out.rc.len (HS_10.out.rd.reads HS_10.out.bel) HS_10.out.rd.len HW2f.out).mono ?_); rintro e w11 ⟨v0, v1, rfl, hR0, hR1, hb⟩; obtain ⟨A6, c6, rfl⟩ := Kd.R_slice hR0; obtain ⟨A7, c7, rfl⟩ := Kd.R_slice hR1; have hLB := HS_10.out.bel.size; have RC11 := Aside0.mk (RowO.of (w := w) hR0 hLB); have RD11 := Aside0.mk (RowO.of (w := w) hR1 hLB); have HS_11 := Aside0.mk (HS_10.out.below hb); have RA11 := Aside0.mk (RA10.out.below hb); have RB11 := Aside0.mk (RB10.out.below hb); have HG11 := Aside0.mk (blk_below HG10.out hb); clear hR0 hR1 hLB hb t0 t1 k0 k1) | ((with_reducible refine gate_store (t := 25) (p := 12) rfl ?_); refine store_event (t := 25) (p := 12) (w1 := ((w11.alloc (.cells #[.slice none 0 0, .slice none 0 0] 25))).setCells (w11.heap.size) 0 (blkD (.slice A6 b2.length c6) (.slice A7 u2.length c7)).toList) rfl rfl rfl ?hr ?_; (case hr => (unfold execOp; simp only [Act.eval, Sem.run_bind, Sem.run_pure, Result.andThen_ok]; show ((Sem.run Try.prog (Instr.storeAt 25 (.pointer (some ⟨w11.heap.size, 0, none⟩)) (.agg (blkD (.slice A6 b2.length c6) (.slice A7 u2.length c7)))) ((w11.alloc (.cells #[.slice none 0 0, .slice none 0 0] 25)))).andThen _) = _; rw [(store_disk (blk_new w11 (.cells #[.slice none 0 0, .slice none 0 0] 25)) rfl (.slice A6 b2.length c6) (.slice A7 u2.length c7) rfl rfl).1]; try rfl)); intro w12 hw_; have HS := Aside0.mk (show Below w11.heap.size w11 w12 by rw [hw_]; exact belowD_cells ((Below.refl _ _).alloc (Nat.le_refl _) _) (Nat.le_refl _) _); have HH12 := Aside0.mk (hw_ ▸ (store_disk (blk_new w11 (.cells #[.slice none 0 0, .slice none 0 0] 25)) rfl (.slice A6 b2.length c6) (.slice A7 u2.length c7) rfl rfl).2 : w12.heap[w11.heap.size]? = some (.cells (blkD (.slice A6 b2.length c6) (.slice A7 u2.length c7)) 25 (0, 0))); have HS_12 := Aside0.mk (HS_11.out.below HS.out); have RA12 := Aside0.mk (RA11.out.below HS.out); have RB12 := Aside0.mk (RB11.out.below HS.out); have RC12 := Aside0.mk (RC11.out.below HS.out); have RD12 := Aside0.mk (RD11.out.below HS.out); have HG12 := Aside0.mk (blk_below HG11.out HS.out); have HHX := Aside0.mk (show w1.heap.size < w11.heap.size from blk_lt HS_11.out.bx); clear hw_ HS))
          clear hyc0 hyc1 hix
          by_cases he1 : e1 = 0
          · by_cases he2 : e2 = 0
            · subst he1
              subst he2
              obtain ⟨hb1, hu1, hp1, -⟩ := write_ok HW1.out
              obtain ⟨hb2, hu2, -, -⟩ := write_ok HW2.out
              obtain rfl := hb1.symm
              obtain rfl := hb2.symm
              have HU1 := Aside0.mk hu1
              have HU2 := Aside0.mk hu2
              have HP1 := Aside0.mk hp1
              clear hu1 hu2 hp1 HW1 HW2 hb1 hb2
              have x0 := blk_cell HG12.out 0
              have x1 := blk_cell HG12.out 1
              simp only [blkD, List.getElem?_toArray, List.getElem?_cons_zero, List.getElem?_cons_succ] at x0 x1
              go_wp2_with (first | ((with_reducible refine gate_store (t := 25) (p := 5) rfl ?_); refine store_event (t := 25) (p := 5) (w1 := (w12).setCells (w1.heap.size) 0 (blkD (.slice A4 l0.length c4) (.slice A5 u1.length c5)).toList) rfl rfl rfl ?hr ?_; (case hr => (unfold execOp; simp only [Act.eval, Sem.run_bind, Sem.run_pure, Result.andThen_ok]; show ((Sem.run Try.prog (Instr.storeAt 25 (.pointer (some ⟨w1.heap.size, 0, none⟩)) (.agg (blkD (.slice A4 l0.length c4) (.slice A5 u1.length c5)))) (w12)).andThen _) = _; rw [(store_disk HS_12.out.bx rfl (.slice A4 l0.length c4) (.slice A5 u1.length c5) rfl rfl).1]; try rfl)); intro w13 hw_; have HS_13 := Aside0.mk (show OrdSt w w13 w1.heap.size w2.heap.size l0 u1 vb A4 c4 A5 c5 Ac cc Ad cd by rw [hw_]; exact HS_12.out.putx RA12.out RB12.out); have RC13 := Aside0.mk (show RowO Kd.string 9 w w13 A6 c6 l0 by rw [hw_]; exact RC12.out.cells HS_12.out.bx str_ne _); have RD13 := Aside0.mk (show RowO k40 40 w w13 A7 c7 u2 by rw [hw_]; exact RD12.out.cells HS_12.out.bx wr_ne _); have HH13 := Aside0.mk (show w13.heap[w11.heap.size]? = some (.cells (blkD (.slice A6 l0.length c6) (.slice A7 u2.length c7)) 25 (0, 0)) by rw [hw_]; exact (setCells_far _ _ _ (by have := HHX.out; omega)).trans HH12.out); have y0 := blk_cell HH13.out 0; have y1 := blk_cell HH13.out 1; simp only [blkD, List.getElem?_toArray, List.getElem?_cons_zero, List.getElem?_cons_succ] at y0 y1; clear hw_ x0 x1) | ((with_reducible refine gate_store (t := 25) (p := 6) rfl ?_); refine store_event (t := 25) (p := 6) (w1 := (w13).setCells (w2.heap.size) 0 (blkD (.slice A6 l0.length c6) (.slice A7 u2.length c7)).toList) rfl rfl rfl ?hr ?_; (case hr => (unfold execOp; simp only [Act.eval, Sem.run_bind, Sem.run_pure, Result.andThen_ok]; show ((Sem.run Try.prog (Instr.storeAt 25 (.pointer (some ⟨w2.heap.size, 0, none⟩)) (.agg (blkD (.slice A6 l0.length c6) (.slice A7 u2.length c7)))) (w13)).andThen _) = _; rw [(store_disk HS_13.out.bY rfl (.slice A6 l0.length c6) (.slice A7 u2.length c7) rfl rfl).1]; try rfl)); intro w14 hw_; have HS_14 := Aside0.mk (show OrdSt w w14 w1.heap.size w2.heap.size l0 u1 u2 A4 c4 A5 c5 A6 c6 A7 c7 by rw [hw_]; exact HS_13.out.puty RC13.out RD13.out); clear hw_ y0 y1))
              go_roundw
              case rel =>
                have e1 : l1 ++ l2.take (q + 1) = u1 := by rw [HU1.out, HVA.out, List.take_succ_eq_append_getElem HLJ.out, HXA.out, HXS.out, List.append_assoc]
                have e2 : l1 ++ l2.reverse.take (q + 1) = u2 := by rw [HU2.out, HVB.out, take_rev HM.out, HYA.out, HYS.out, List.append_assoc]
                refine ⟨q + 1, HLJ.out, by go_num, ⟨A4, c4, A5, c5, A6, c6, A7, c7, by rw [e1, e2]; exact HS_14⟩, ⟨fun x y hx hy hl' => ?_⟩, ⟨fun x hx hl' => ?_⟩⟩
                · rcases Nat.lt_succ_iff_lt_or_eq.1 hy with h | rfl
                  · exact HU.out x y hx h hl'
                  · rw [← HXA.out]; exact HN.out x hx (by omega)
                · rcases Nat.lt_succ_iff_lt_or_eq.1 hx with h | rfl
                  · exact HPS.out x h hl'
                  · rw [← HXA.out]; exact HP1.out
              case measure => simp [intOf]; omega
            · have hz1 : (e1 != 0) = false := by rw [he1]; rfl
              have hz2 : (e2 != 0) = true := by rw [bne_iff_ne]; exact he2
              go_wp2_with (first | (go_at_call 26; (with_reducible refine (HSP.out _).mono ?_); rintro e ws ⟨rfl, hb⟩; have HBs := Aside0.mk (HS_12.out.bel.trans (hb.mono HS_12.out.bel.size)); clear hb))
              go_ret
              exact ⟨rfl, HBs.out⟩
          · have hz1 : (e1 != 0) = true := by rw [bne_iff_ne]; exact he1
            go_wp2_with (first | (go_at_call 26; (with_reducible refine (HSP.out _).mono ?_); rintro e ws ⟨rfl, hb⟩; have HBs := Aside0.mk (HS_12.out.bel.trans (hb.mono HS_12.out.bel.size)); clear hb))
            go_ret
            exact ⟨rfl, HBs.out⟩
    · obtain rfl : j = l2.length := by omega
      obtain ⟨va, hva⟩ : ∃ va, va = l1 ++ l2 := ⟨_, rfl⟩
      obtain ⟨vb, hvb⟩ : ∃ vb, vb = l1 ++ l2.reverse := ⟨_, rfl⟩
      have HSe := Aside0.mk (show OrdSt w wo w1.heap.size w2.heap.size l0 va vb Aa ca Ab cb Ac cc Ad cd by
        have h := HSa.out
        rw [List.take_length, List.take_of_length_le (by rw [List.length_reverse]; exact Nat.le_refl _), ← hva, ← hvb] at h
        exact h)
      have hpw : l2.Pairwise (fun x y => x.f0.toNat ≠ y.f0.toNat) := by
        rw [List.pairwise_iff_getElem]
        intro x y hx hy hxy he
        have h1 := HU.out x y hxy hy hy
        have h2 := HPS.out x hx hx
        have h3 := HPS.out y hy hy
        omega
      have HXa := Aside0.mk (show disk_Sync.f l0 va = some (x, u, e) from congrArg some (by rw [hva]; exact HX.out))
      have HXb := Aside0.mk (show disk_Sync.f l0 vb = some (x, u, e) from congrArg some (by rw [hvb, done_order hpw]; exact HX.out))
      clear hva hvb HSa HU HPS hpw
      have q0 := blk_cell HSe.out.bx 0
      have q1 := blk_cell HSe.out.bx 1
      simp only [blkD, List.getElem?_toArray, List.getElem?_cons_zero, List.getElem?_cons_succ] at q0 q1
      go_wp2_with (first | (go_at_call 17; (with_reducible refine (disk_Sync.calls Aa ca l0 Ab cb va x u e _ (HSe.out.ra.reads HSe.out.bel) HSe.out.ra.len (HSe.out.rb.reads HSe.out.bel) HSe.out.rb.len HXa.out).mono ?_); rintro e_ p1 ⟨v0, v1, rfl, hR0, hR1, hb⟩; obtain ⟨Ap10, cp10, rfl⟩ := Kd.R_slice hR0; obtain ⟨Ap11, cp11, rfl⟩ := Kd.R_slice hR1; have HSo_p1 := Aside0.mk (HSe.out.below hb); have R0p1 := Aside0.mk (Kd.R_reads' hR0).2.2; have L0p1 := Aside0.mk (Kd.R_reads' hR0).2.1; have R1p1 := Aside0.mk (Kd.R_reads' hR1).2.2; have L1p1 := Aside0.mk (Kd.R_reads' hR1).2.1; clear hR0 hR1 hb) | ((with_reducible refine gate_store (t := 25) (p := 14) rfl ?_); refine store_event (t := 25) (p := 14) (w1 := ((p1.alloc (.cells #[.slice none 0 0, .slice none 0 0] 25))).setCells (p1.heap.size) 0 (blkD (.slice Ap10 x.length cp10) (.slice Ap11 u.length cp11)).toList) rfl rfl rfl ?hr ?_; (case hr => (unfold execOp; simp only [Act.eval, Sem.run_bind, Sem.run_pure, Result.andThen_ok]; show ((Sem.run Try.prog (Instr.storeAt 25 (.pointer (some ⟨p1.heap.size, 0, none⟩)) (.agg (blkD (.slice Ap10 x.length cp10) (.slice Ap11 u.length cp11)))) ((p1.alloc (.cells #[.slice none 0 0, .slice none 0 0] 25)))).andThen _) = _; rw [(store_disk (blk_new p1 (.cells #[.slice none 0 0, .slice none 0 0] 25)) rfl (.slice Ap10 x.length cp10) (.slice Ap11 u.length cp11) rfl rfl).1]; try rfl)); intro p2 hw_; have HS := Aside0.mk (show Below p1.heap.size p1 p2 by rw [hw_]; exact belowD_cells ((Below.refl _ _).alloc (Nat.le_refl _) _) (Nat.le_refl _) _); have HJ2 := Aside0.mk (hw_ ▸ (store_disk (blk_new p1 (.cells #[.slice none 0 0, .slice none 0 0] 25)) rfl (.slice Ap10 x.length cp10) (.slice Ap11 u.length cp11) rfl rfl).2 : p2.heap[p1.heap.size]? = some (.cells (blkD (.slice Ap10 x.length cp10) (.slice Ap11 u.length cp11)) 25 (0, 0))); have HSo_p2 := Aside0.mk (HSo_p1.out.below HS.out); have R0b := Aside0.mk (Kd.C_below R0p1.out HS.out); have R1b := Aside0.mk (Kd.C_below R1p1.out HS.out); have t0 := blk_cell HSo_p2.out.bY 0; have t1 := blk_cell HSo_p2.out.bY 1; simp only [blkD, List.getElem?_toArray, List.getElem?_cons_zero, List.getElem?_cons_succ] at t0 t1; clear hw_ HS q0 q1) | (go_at_call 17; (with_reducible refine (disk_Sync.calls Ac cc l0 Ad cd vb x u e _ (HSo_p2.out.rc.reads HSo_p2.out.bel) HSo_p2.out.rc.len (HSo_p2.out.rd.reads HSo_p2.out.bel) HSo_p2.out.rd.len HXb.out).mono ?_); rintro e_ p3 ⟨v0, v1, rfl, hR0, hR1, hb⟩; obtain ⟨Ap30, cp30, rfl⟩ := Kd.R_slice hR0; obtain ⟨Ap31, cp31, rfl⟩ := Kd.R_slice hR1; have HSo_p3 := Aside0.mk (HSo_p2.out.below hb); have R0p3 := Aside0.mk (Kd.R_reads' hR0).2.2; have L0p3 := Aside0.mk (Kd.R_reads' hR0).2.1; have R1p3 := Aside0.mk (Kd.R_reads' hR1).2.2; have L1p3 := Aside0.mk (Kd.R_reads' hR1).2.1; have HJ3 := Aside0.mk (blk_below HJ2.out hb); have R0c := Aside0.mk (Kd.C_below R0b.out hb); have R1c := Aside0.mk (Kd.C_below R1b.out hb); clear hR0 hR1 hb) | ((with_reducible refine gate_store (t := 25) (p := 16) rfl ?_); refine store_event (t := 25) (p := 16) (w1 := ((p3.alloc (.cells #[.slice none 0 0, .slice none 0 0] 25))).setCells (p3.heap.size) 0 (blkD (.slice Ap30 x.length cp30) (.slice Ap31 u.length cp31)).toList) rfl rfl rfl ?hr ?_; (case hr => (unfold execOp; simp only [Act.eval, Sem.run_bind, Sem.run_pure, Result.andThen_ok]; show ((Sem.run Try.prog (Instr.storeAt 25 (.pointer (some ⟨p3.heap.size, 0, none⟩)) (.agg (blkD (.slice Ap30 x.length cp30) (.slice Ap31 u.length cp31)))) ((p3.alloc (.cells #[.slice none 0 0, .slice none 0 0] 25)))).andThen _) = _; rw [(store_disk (blk_new p3 (.cells #[.slice none 0 0, .slice none 0 0] 25)) rfl (.slice Ap30 x.length cp30) (.slice Ap31 u.length cp31) rfl rfl).1]; try rfl)); intro p4 hw_; have HS := Aside0.mk (show Below p3.heap.size p3 p4 by rw [hw_]; exact belowD_cells ((Below.refl _ _).alloc (Nat.le_refl _) _) (Nat.le_refl _) _); have HI4 := Aside0.mk (hw_ ▸ (store_disk (blk_new p3 (.cells #[.slice none 0 0, .slice none 0 0] 25)) rfl (.slice Ap30 x.length cp30) (.slice Ap31 u.length cp31) rfl rfl).2 : p4.heap[p3.heap.size]? = some (.cells (blkD (.slice Ap30 x.length cp30) (.slice Ap31 u.length cp31)) 25 (0, 0))); have HBp := Aside0.mk (HSo_p3.out.bel.trans (HS.out.mono HSo_p3.out.bel.size)); have HJ4 := Aside0.mk (blk_below HJ3.out HS.out); have R0d := Aside0.mk (Kd.C_below R0c.out HS.out); have R1d := Aside0.mk (Kd.C_below R1c.out HS.out); have Q0d := Aside0.mk (Kd.C_below R0p3.out HS.out); have Q1d := Aside0.mk (Kd.C_below R1p3.out HS.out); clear hw_ HS t0 t1) | (go_at_call 26; (with_reducible refine (HSP.out _).mono ?_); rintro e_ p5 ⟨rfl, hb⟩; have HBq := Aside0.mk (HBp.out.trans (hb.mono HBp.out.size)); have HJ5 := Aside0.mk (blk_below HJ4.out hb); have HI5 := Aside0.mk (blk_below HI4.out hb); have R0e := Aside0.mk (Kd.C_below R0d.out hb); have R1e := Aside0.mk (Kd.C_below R1d.out hb); have Q0e := Aside0.mk (Kd.C_below Q0d.out hb); have Q1e := Aside0.mk (Kd.C_below Q1d.out hb); have i0 := blk_cell HJ5.out 0; have i1 := blk_cell HJ5.out 1; simp only [blkD, List.getElem?_toArray, List.getElem?_cons_zero, List.getElem?_cons_succ] at i0 i1; have k0 := blk_cell HI5.out 0; have k1 := blk_cell HI5.out 1; simp only [blkD, List.getElem?_toArray, List.getElem?_cons_zero, List.getElem?_cons_succ] at k0 k1; clear hb) | (go_at_call 23; (with_reducible refine (sextonref04_Same.calls k Ap10 cp10 x Ap11 cp11 u Ap30 cp30 x Ap31 cp31 u true _ R0e.out L0p1.out R1e.out L1p1.out Q0e.out L0p3.out Q1e.out L1p3.out HSM.out).mono ?_); rintro e_ p6 ⟨rfl, hb⟩; have HBr := Aside0.mk (HBq.out.trans (hb.mono HBq.out.size)); clear hb))
      go_ret
      exact ⟨rfl, HBr.out⟩

/-- What DiskOrder answers: true (YDiskOrder says: everywhere). -/
noncomputable def sextonlaw04_DiskOrder.f (k : Nat) (l0 : List ByteArray) (l1 : List S40) (l2 : List S40) : Option Bool :=
  @ite _ (sextonlaw04_far.f k l0 l1 ⟨#[]⟩ [] = some true ∨ (sextonlaw04_far.f k l0 l1 ⟨#[]⟩ [] = some false ∧ 20 < l2.length) ∨ ∃ x u e, sextonlaw04_far.f k l0 l1 ⟨#[]⟩ [] = some false ∧ l2.length ≤ 20 ∧ doneV (fun _ => true) l0 (l1 ++ l2) = (x, u, e) ∧ sextonref04_Same.f k x u x u = some true) (Classical.propDecidable _) (some true) none
theorem sextonlaw04_DiskOrder.calls (k : Nat) (A0_0 : Option Addr) (c0_0 : Nat) (l0_0 : List ByteArray) (A0_1 : Option Addr) (c0_1 : Nat) (l0_1 : List S40) (A1 : Option Addr) (c1 : Nat) (l1 : List S40) (r : Bool) (w : World) (hr0_0 : Kd.C Kd.string w A0_0 l0_0.length l0_0) (hc0_0 : l0_0.length ≤ c0_0) (hr0_1 : Kd.C k40 w A0_1 l0_1.length l0_1) (hc0_1 : l0_1.length ≤ c0_1) (hr1 : Kd.C k40 w A1 l1.length l1) (hc1 : l1.length ≤ c1) (h : sextonlaw04_DiskOrder.f k l0_0 l0_1 l1 = some r) :
    Calls Try.prog 7 #[.agg #[.slice A0_0 l0_0.length c0_0, .slice A0_1 l0_1.length c0_1], .slice A1 l1.length c1] w fun e w' => e = .returned (.bool r) ∧ Below w.heap.size w w' := by
  unfold sextonlaw04_DiskOrder.f at h
  split at h
  · rename_i hd
    cases h
    rcases hd with hd | ⟨hd, hl⟩ | ⟨x, u, e, hd, hl, hx, hs⟩
    · exact order_far k A0_0 c0_0 l0_0 A0_1 c0_1 l0_1 A1 c1 l1 w hr0_0 hc0_0 hr0_1 hc0_1 hr1 hc1 hd
    · exact order_long k A0_0 c0_0 l0_0 A0_1 c0_1 l0_1 A1 c1 l1 w hr0_0 hc0_0 hr0_1 hc0_1 hr1 hc1 hd hl
    · exact order_in k A0_0 c0_0 l0_0 A0_1 c0_1 l0_1 A1 c1 l1 w hr0_0 hc0_0 hr0_1 hc0_1 hr1 hc1 hd hl x u e hx hs
  · cases h
end Go.Proofs.Ytoibofhmlokglaa.P
/-
  The plain statement of DiskOrder: writes to blocks that are no two the same may come in any order.
-/
namespace Go.Proofs.Ytoibofhmlokglaa.Pure
open Go.RowKit Go.Proofs Go.Proofs.CodecPlain Go.Proofs.YtoibofhmlokglaaW.PrintWords Go.Proofs.YtoibofhmlokglaaW.PrintLast Go.Proofs.Plain Go.Proofs.Ytoibofhmlokglaa.P Go.Proofs.Ytoibofhmlokglaa.Opens

theorem DiskOrder (l0_0 : (List ByteArray)) (l0_1 : (List S40)) (l1 : (List S40)) {ok0 : Prop} (h0 : ok0) {ok1 : Prop} (h1 : ok1) :
    ∃ k, sextonlaw04_DiskOrder.f k l0_0 l0_1 l1 = some true := by
  obtain ⟨b, hb⟩ := big_ends l0_0 l0_1
  obtain ⟨far, ⟨K, e⟩⟩ : ∃ b, Ev (fun k => sextonlaw04_far.f k l0_0 l0_1 ⟨#[]⟩ []) b := by
    unfold sextonlaw04_far.f
    cases b
    · exact ⟨_, Ev.bind hb (Ev.congr (f := fun _ => some false) (fun k => by rw [if_neg (by decide)]; rfl) (Ev.now _))⟩
    · exact ⟨true, Ev.bind hb (Ev.congr (f := fun _ => some true) (fun k => by rw [if_pos rfl]) (Ev.now _))⟩
  simp only at e
  unfold sextonlaw04_DiskOrder.f
  cases far
  rotate_left
  · exact ⟨K, by rw [if_pos (.inl (e K (Nat.le_refl _)))]⟩
  by_cases hl : 20 < l1.length
  · exact ⟨K, by rw [if_pos (.inr (.inl ⟨e K (Nat.le_refl _), hl⟩))]⟩
  obtain ⟨hx, hu⟩ : (doneV (fun _ => true) l0_0 (l0_1 ++ l1)).1.length ≤ 200 ∧ (doneV (fun _ => true) l0_0 (l0_1 ++ l1)).2.1.length ≤ 200 := by
    unfold doneV
    split
    · rename_i h
      obtain ⟨_, c2, _⟩ := check_len h
      exact ⟨by simp only; rw [applyW_length]; exact c2, by simp⟩
    · exact ⟨by simp, by simp⟩
  obtain ⟨k1, e1⟩ := same_yes (doneV (fun _ => true) l0_0 (l0_1 ++ l1)).1 (doneV (fun _ => true) l0_0 (l0_1 ++ l1)).2.1 (by omega) (by omega)
  simp only at e1
  refine ⟨K + k1, ?_⟩
  rw [if_pos (.inr (.inr ⟨_, _, _, e _ (by omega), by omega, rfl, e1 _ (by omega)⟩))]
end Go.Proofs.Ytoibofhmlokglaa.Pure
