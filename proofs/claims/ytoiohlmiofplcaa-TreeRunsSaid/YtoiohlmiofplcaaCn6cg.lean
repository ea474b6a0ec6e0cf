/-
  Texts that the claims of this chapter share, joined.
-/
import Derived.Test.YtoiohlmiofplcaaPx0
import Derived.Test.YtoiohlmiofplcaaCn6cf
import Derived.Test.YtoiohlmiofplcaaCn6cb
set_option linter.unusedVariables false
set_option linter.unusedSimpArgs false
-- Written by a program of this session (xprint.py) over the kit's print.py.
namespace Go.Proofs.Ytoiohlmiofplcaa.P
open Go.RowKit Go.Proofs.YtoiohlmiofplcaaW.PrintWords Go.Proofs.YtoiohlmiofplcaaW.PrintLast Go.Proofs.YtoiohlmiofplcaaW.PrintMore
attribute [local go_sem] max2_int min2_int max_two min_two max_three min_three max_four min_four   -- for this text's walks alone
set_option linter.unusedVariables false
set_option linter.unusedSimpArgs false

/-! ### sextonref09_Is: function 27 -/
end Go.Proofs.Ytoiohlmiofplcaa.P
/-
  The references of chapter 9, told plainly.
-/
namespace Go.Proofs.Ytoiohlmiofplcaa.ND
open Go.RowKit Go.Proofs.YtoiohlmiofplcaaW.PrintWords Go.Proofs.YtoiohlmiofplcaaW.PrintLast Go.Proofs.Ytoiohlmiofplcaa.P Go.Proofs.Plain

theorem less_ref (p : ByteArray) (a : Int) (q : ByteArray) (b : Int) : sextonref08_Less.f p a q b = some (lessK p a q b) := by
  unfold sextonref08_Less.f lessK
  by_cases h : Op.bytesLess p.toList q.toList = true
  · rw [if_pos h, if_pos h]
  · rw [if_neg h, if_neg h]
    by_cases h2 : p.toList = q.toList
    · rw [if_pos h2, if_pos h2]
    · rw [if_neg h2, if_neg h2]
theorem refFind_from {l : List KV} {k : KY} {A M C : List KV} (h : Dec l k A M C) (hl : l.length ≤ 100000) (n : Nat) : ∀ (j i : Nat), i + n = A.length → n + 1 < j → sextonref09_Find.l0 j l (i : Int) k.f0 k.f1 = some ((A.length : Int), !M.isEmpty) := by
  have hlen : l.length = A.length + (M.length + C.length) := by rw [h.eq]; simp
  induction n with
  | zero =>
    intro j i hi hj
    obtain rfl : i = A.length := by omega
    obtain ⟨j, rfl⟩ : ∃ m, j = m + 1 := ⟨j - 1, by omega⟩
    simp only [sextonref09_Find.l0]
    have fin : ∀ (m : KV) (D : List KV), M ++ C = m :: D → lt m.f0 k = false → (if (A.length : Int) < (l.length : Int) then (if 0 ≤ (A.length : Int) then ((sextonref08_Less.f ((rd_T26 l (A.length : Int)).f0.f0) ((rd_T26 l (A.length : Int)).f0.f1) k.f0 k.f1).bind fun t111 => (if t111 = true then (sextonref09_Find.l0 j l (wrap64 ((A.length : Int) + 1)) k.f0 k.f1) else (some ((A.length : Int), ((((rd_T26 l (A.length : Int)).f0.f0).toList) == k.f0.toList && (((rd_T26 l (A.length : Int)).f0.f1) == k.f1)))))) else (none)) else (some ((A.length : Int), false))) = some ((A.length : Int), eqK m k.f0 k.f1) := by
      intro m D e hm
      have hl2 : l = A ++ m :: D := by rw [h.eq, e]
      have hlt : A.length < l.length := by rw [hl2]; simp
      have hget : l[A.length]? = some m := by simp [hl2]
      rw [if_pos (by omega), if_pos (by omega), rd_some hget, less_ref, Option.bind_some]
      unfold lt at hm
      rw [hm, if_neg (by decide)]
      rfl
    rcases h.mid with rfl | ⟨m, rfl, hm⟩
    · cases C with
      | nil => rw [if_neg (by simp at hlen; omega)]; rfl
      | cons c C' =>
        obtain ⟨h1, h2⟩ := h.behind rfl c C' rfl
        rw [fin c C' rfl h1, eqK_no h2]; rfl
    · rw [fin m C rfl (by rw [hm]; exact lt_irrefl k), (eqK_iff m k).2 hm]; rfl
  | succ n ih =>
    intro j i hi hj
    obtain ⟨j, rfl⟩ : ∃ m, j = m + 1 := ⟨j - 1, by omega⟩
    have hiA : i < A.length := by omega
    have hget : l[i]? = some A[i] := by rw [h.eq, List.getElem?_append_left hiA, List.getElem?_eq_getElem hiA]
    have hm := h.ahead A[i] (List.getElem_mem hiA)
    simp only [sextonref09_Find.l0]
    rw [if_pos (by omega), if_pos (by omega), rd_some hget, less_ref, Option.bind_some]
    unfold lt at hm
    rw [hm, if_pos rfl, show wrap64 ((i : Int) + 1) = ((i + 1 : Nat) : Int) by unfold wrap64; omega]
    exact ih j (i + 1) (by omega) (by omega)
theorem refFind_dec {l : List KV} {k : KY} {A M C : List KV} (h : Dec l k A M C) (hl : l.length ≤ 100000) (j : Nat) (hj : l.length + 1 < j) : sextonref09_Find.f j l k.f0 k.f1 = some ((A.length : Int), !M.isEmpty) := by
  have hlen : l.length = A.length + (M.length + C.length) := by rw [h.eq]; simp
  unfold sextonref09_Find.f
  exact refFind_from h hl A.length j 0 (by omega) (by omega)
theorem refPut_dec {l : List KV} {k : KY} {v : ByteArray} {A M C : List KV} (h : Dec l k A M C) (hl : l.length ≤ 100000) (n : Nat) (hn : l.length + 1 < n) : sextonref09_Put.f n l k.f0 k.f1 v = some (A ++ ⟨k, v⟩ :: C) := by
  have hlen : l.length = A.length + (M.length + C.length) := by rw [h.eq]; simp
  have ht : l.take A.length = A := by rw [h.eq]; simp
  have hn0 : ([] : List KV).length = 0 := rfl
  unfold sextonref09_Put.f
  rw [refFind_dec h hl n hn, Option.bind_some, if_pos (by omega), if_pos (by omega), Option.bind_some, Int.toNat_natCast, ht, if_pos (by omega), Option.bind_some, List.nil_append, if_pos (by omega), Option.bind_some]
  rcases h.mid with rfl | ⟨m, rfl, hm⟩
  · have hd : l.drop A.length = C := by rw [h.eq]; simp
    rw [if_neg (show ¬ ((!([] : List KV).isEmpty) = true) by decide), Option.bind_some, hd, if_pos (by simp; simp at hlen; omega)]
    simp
  · simp only [List.length_cons, List.length_nil] at hlen
    have hw : wrap64 ((A.length : Int) + 1) = ((A.length + 1 : Nat) : Int) := by unfold wrap64; omega
    have hd : l.drop (A.length + 1) = C := by
      rw [h.eq, ← List.drop_drop]; simp
    rw [if_pos (show (![m].isEmpty) = true from rfl), hw, if_pos (by omega), if_pos (by omega), Option.bind_some, Int.toNat_natCast, hd, if_pos (by simp; omega)]
    simp
theorem refDrop_dec {l : List KV} {k : KY} {A M C : List KV} (h : Dec l k A M C) (hl : l.length ≤ 100000) (n : Nat) (hn : l.length + 1 < n) : sextonref09_Drop.f n l k.f0 k.f1 = some (A ++ C) := by
  have hlen : l.length = A.length + (M.length + C.length) := by rw [h.eq]; simp
  have ht : l.take A.length = A := by rw [h.eq]; simp
  have hn0 : ([] : List KV).length = 0 := rfl
  unfold sextonref09_Drop.f
  rw [refFind_dec h hl n hn, Option.bind_some, if_pos (by omega), if_pos (by omega), Option.bind_some, Int.toNat_natCast, ht, if_pos (by omega), Option.bind_some, List.nil_append]
  rcases h.mid with rfl | ⟨m, rfl, hm⟩
  · have hd : l.drop A.length = C := by rw [h.eq]; simp
    rw [if_neg (show ¬ ((!([] : List KV).isEmpty) = true) by decide), Option.bind_some, hd, if_pos (by simp at hlen; omega)]
  · simp only [List.length_cons, List.length_nil] at hlen
    have hw : wrap64 ((A.length : Int) + 1) = ((A.length + 1 : Nat) : Int) := by unfold wrap64; omega
    have hd : l.drop (A.length + 1) = C := by
      rw [h.eq, ← List.drop_drop]; simp
    rw [if_pos (show (![m].isEmpty) = true from rfl), hw, if_pos (by omega), if_pos (by omega), Option.bind_some, Int.toNat_natCast, hd, if_pos (by omega)]
end Go.Proofs.Ytoiohlmiofplcaa.ND
-- Written by a program of this session (xprint.py) over the kit's print.py.
namespace Go.Proofs.Ytoiohlmiofplcaa.P
open Go.RowKit Go.Proofs.YtoiohlmiofplcaaW.PrintWords Go.Proofs.YtoiohlmiofplcaaW.PrintLast Go.Proofs.YtoiohlmiofplcaaW.PrintMore
attribute [local go_sem] max2_int min2_int max_two min_two max_three min_three max_four min_four   -- for this text's walks alone
set_option linter.unusedVariables false
set_option linter.unusedSimpArgs false

/-! ### sextonref10_Get: function 35 -/
def sextonref10_Get.f (k : Nat) (l0 : List (S26)) (a1_0 : ByteArray) (a1_1 : Int) : Option (ByteArray × Bool) := (sextonref09_Find.f k l0 a1_0 a1_1).bind fun bt489 => (if bt489.2 = true then (if 0 ≤ bt489.1 then (if bt489.1 < (l0.length : Int) then (some ((rd_T26 l0 bt489.1).f1, true)) else (none)) else (none)) else (some ((⟨#[]⟩ : ByteArray), false)))
set_option maxHeartbeats 8000000 in
set_option maxRecDepth 100000 in
theorem sextonref10_Get.calls (k : Nat) (A0 : Option Addr) (c0 : Nat) (l0 : List (S26)) (a1_0 : ByteArray) (a1_1 : Int) (r1 : ByteArray) (r2 : Bool) (w : World) (hr0 : Kd.C k26 w A0 l0.length l0) (hc0 : l0.length ≤ c0) (h : sextonref10_Get.f k l0 a1_0 a1_1 = some (r1, r2)) :
    Calls Try.prog 35 #[.slice A0 l0.length c0, .agg #[.string a1_0, .int .i64 a1_1]] w fun e w' => e = .returned (.tuple #[.string r1, .bool r2]) ∧ Below w.heap.size w w' := by
  have hu24 := Try.underlying24
  have HR0 := Aside0.mk hr0
  have HC0 := Aside0.mk hc0
  clear hr0 hc0
  have HB := Aside0.mk (Below.refl w.heap.size w)
  have H : ((sextonref09_Find.f k l0 a1_0 a1_1).bind fun bt489 => (if bt489.2 = true then (if 0 ≤ bt489.1 then (if bt489.1 < (l0.length : Int) then (some ((rd_T26 l0 bt489.1).f1, true)) else (none)) else (none)) else (some ((⟨#[]⟩ : ByteArray), false)))) = some (r1, r2) := h
  clear h
  replace H := Option.bind_eq_some_iff.mp H
  obtain ⟨⟨t489, t490⟩, A30, H⟩ := H
  replace H : (if t490 = true then (if 0 ≤ t489 then (if t489 < (l0.length : Int) then (some ((rd_T26 l0 t489).f1, true)) else (none)) else (none)) else (some ((⟨#[]⟩ : ByteArray), false))) = some (r1, r2) := H
  have A3 := Aside0.mk A30
  clear A30
  by_cases c4 : t490 = true
  · subst c4
    have H1 : (if 0 ≤ t489 then (if t489 < (l0.length : Int) then (some ((rd_T26 l0 t489).f1, true)) else (none)) else (none)) = some (r1, r2) := by rw [if_pos rfl] at H; exact H
    clear H
    have H := H1
    clear H1
    by_cases c5 : 0 ≤ t489
    · rw [if_pos c5] at H
      have c5b0 : decide (0 ≤ t489) = true := decide_eq_true c5
      clear c5
      by_cases c6 : t489 < (l0.length : Int)
      · rw [if_pos c6] at H
        have c6b0 : decide (t489 < (l0.length : Int)) = true := decide_eq_true c6
        clear c6
        simp only [Option.some.injEq, Prod.mk.injEq] at H
        obtain ⟨rfl, rfl⟩ := H
        go_enter Try.func35, Try.ntmps35
        go_wp2_with (first | ((with_reducible refine gate_dst (N := 3) rfl ?_); refine box_event ?hg (N := 3) ?hd (cs := #[.string a1_0, .int .i64 a1_1]) (t := 24) ?hr ?_; (case hd => rfl); (case hg => rfl); (case hr => first | (go_simp; done) | (go_simp; rfl)); intro gb488 hg w7 hbox hb; have n0_ := Aside0.mk (below_step (by repeat (first | (with_reducible first | exact HB.out | apply below_alloc | apply pw_below_drewN | apply below_drew1) | exact HB.out)) hb); have n1_ := Aside0.mk (hbox); have n2_ := Aside0.mk ((by rw [hg]; exact (below_size (by repeat (first | (with_reducible first | exact HB.out | apply below_alloc | apply pw_below_drewN | apply below_drew1) | exact HB.out))) : w.heap.size ≤ gb488)); have n3_ := Aside0.mk ((by rw [hg]; exact (below_size (by repeat (first | (with_reducible first | exact HB.out | apply below_alloc | apply pw_below_drewN | apply below_drew1) | exact HB.out))) : w.heap.size ≤ gb488)); clear HB; have HB := n0_; have BK488 := n1_; have GW488 := n2_; have GE488 := n3_; clear n0_ n1_ n2_ n3_; clear hb hbox hg; have hcz8_0 : w7.cell? ⟨gb488, 0, none⟩ = some (.string a1_0) := (blk_cell BK488.out 0).trans rfl; have hcz8_1 : w7.cell? ⟨gb488, 1, none⟩ = some (.int .i64 a1_1) := (blk_cell BK488.out 1).trans rfl; have hfz8_0 := blk_frozen BK488.out 0; have hfz8_1 := blk_frozen BK488.out 1) | ((with_reducible refine gate_callee (f := 16) rfl ?_); refine goesL_ (some 11) rfl rfl Try.func16 (by kernel_rfl) rfl #[.slice A0 l0.length c0, .agg #[.string a1_0, .int .i64 a1_1]] rfl (by (try simp only [List.map_toArray, List.map_cons, List.map_nil]); first | done | rfl | (simp only [List.length_drop, List.length_take]; rfl)) ?_; (with_reducible refine (sextonref09_Find.calls k _ _ l0 a1_0 a1_1 t489 true _ ?side1 ?side2 A3.out).mono ?_); (case side1 => repeat (first | exact (Kd.C_below HR0.out HB.out) | (with_reducible refine Kd.C_alloc ?_ _) | (with_reducible refine Kd.C_drewN ?_ _) | (with_reducible refine Kd.C_drew ?_))); (case side2 => exact HC0.out); rintro e w9 ⟨rfl, hb⟩; refine ⟨_, rfl, ?_⟩; have n0_ := Aside0.mk (blk_below (g := gb488) (o := .cells #[.string a1_0, .int .i64 a1_1] 24 (0, 0)) (by (with_reducible repeat (first | refine blk_drewN ?_ _ | refine blk_drew ?_ | refine blk_alloc ?_ _)); exact BK488.out) hb); have n1_ := Aside0.mk (below_step (by repeat (first | (with_reducible first | exact HB.out | apply below_alloc | apply pw_below_drewN | apply below_drew1 | refine below_set ?_ GE488.out) | exact HB.out)) hb); clear BK488; clear HB; have BK488 := n0_; have HB := n1_; clear n0_ n1_; (try clear hb); (try clear hb2); (try clear hk); (try clear hi); have p491 : 0 ≤ (t489 : Int) := of_decide_eq_true (by first | (with_reducible assumption) | assumption); have q491 : t489 < (l0.length : Int) := of_decide_eq_true (by first | (with_reducible assumption) | assumption); obtain ⟨ad491, e491, hx491_0, hx491_1, hx491_2⟩ := at_T26 HR0.out t489 p491 q491; cases e491; replace hx491_0 := (HB.out.cell (World.block_lt_of_cell? w _ hx491_0)).trans hx491_0; replace hx491_1 := (HB.out.cell (World.block_lt_of_cell? w _ hx491_1)).trans hx491_1; replace hx491_2 := (HB.out.cell (World.block_lt_of_cell? w _ hx491_2)).trans hx491_2; replace p491 := eq_true p491; replace q491 := eq_true q491))
        go_ret2
        exact ⟨by first | rfl | (simp [errW_none, errW_some] <;> rfl) | (simp [*, errW_none, errW_some] <;> rfl), by repeat (first | (with_reducible first | exact HB.out | apply below_alloc | apply pw_below_drewN | apply below_drew1 | refine below_set ?_ GE488.out) | exact HB.out)⟩
      · rw [if_neg c6] at H
        exact absurd H (by simp)
    · rw [if_neg c5] at H
      exact absurd H (by simp)
  · replace c4 := Bool.eq_false_iff.mpr c4
    subst c4
    have H1 : (some ((⟨#[]⟩ : ByteArray), false)) = some (r1, r2) := by rw [if_neg (show ¬ (false = true) by decide)] at H; exact H
    clear H
    have H := H1
    clear H1
    simp only [Option.some.injEq, Prod.mk.injEq] at H
    obtain ⟨rfl, rfl⟩ := H
    go_enter Try.func35, Try.ntmps35
    go_wp2_with (first | ((with_reducible refine gate_dst (N := 3) rfl ?_); refine box_event ?hg (N := 3) ?hd (cs := #[.string a1_0, .int .i64 a1_1]) (t := 24) ?hr ?_; (case hd => rfl); (case hg => rfl); (case hr => first | (go_simp; done) | (go_simp; rfl)); intro gb488 hg w10 hbox hb; have n0_ := Aside0.mk (below_step (by repeat (first | (with_reducible first | exact HB.out | apply below_alloc | apply pw_below_drewN | apply below_drew1) | exact HB.out)) hb); have n1_ := Aside0.mk (hbox); have n2_ := Aside0.mk ((by rw [hg]; exact (below_size (by repeat (first | (with_reducible first | exact HB.out | apply below_alloc | apply pw_below_drewN | apply below_drew1) | exact HB.out))) : w.heap.size ≤ gb488)); have n3_ := Aside0.mk ((by rw [hg]; exact (below_size (by repeat (first | (with_reducible first | exact HB.out | apply below_alloc | apply pw_below_drewN | apply below_drew1) | exact HB.out))) : w.heap.size ≤ gb488)); clear HB; have HB := n0_; have BK488 := n1_; have GW488 := n2_; have GE488 := n3_; clear n0_ n1_ n2_ n3_; clear hb hbox hg; have hcz11_0 : w10.cell? ⟨gb488, 0, none⟩ = some (.string a1_0) := (blk_cell BK488.out 0).trans rfl; have hcz11_1 : w10.cell? ⟨gb488, 1, none⟩ = some (.int .i64 a1_1) := (blk_cell BK488.out 1).trans rfl; have hfz11_0 := blk_frozen BK488.out 0; have hfz11_1 := blk_frozen BK488.out 1) | ((with_reducible refine gate_callee (f := 16) rfl ?_); refine goesL_ (some 11) rfl rfl Try.func16 (by kernel_rfl) rfl #[.slice A0 l0.length c0, .agg #[.string a1_0, .int .i64 a1_1]] rfl (by (try simp only [List.map_toArray, List.map_cons, List.map_nil]); first | done | rfl | (simp only [List.length_drop, List.length_take]; rfl)) ?_; (with_reducible refine (sextonref09_Find.calls k _ _ l0 a1_0 a1_1 t489 false _ ?side1 ?side2 A3.out).mono ?_); (case side1 => repeat (first | exact (Kd.C_below HR0.out HB.out) | (with_reducible refine Kd.C_alloc ?_ _) | (with_reducible refine Kd.C_drewN ?_ _) | (with_reducible refine Kd.C_drew ?_))); (case side2 => exact HC0.out); rintro e w12 ⟨rfl, hb⟩; refine ⟨_, rfl, ?_⟩; have n0_ := Aside0.mk (blk_below (g := gb488) (o := .cells #[.string a1_0, .int .i64 a1_1] 24 (0, 0)) (by (with_reducible repeat (first | refine blk_drewN ?_ _ | refine blk_drew ?_ | refine blk_alloc ?_ _)); exact BK488.out) hb); have n1_ := Aside0.mk (below_step (by repeat (first | (with_reducible first | exact HB.out | apply below_alloc | apply pw_below_drewN | apply below_drew1 | refine below_set ?_ GE488.out) | exact HB.out)) hb); clear BK488; clear HB; have BK488 := n0_; have HB := n1_; clear n0_ n1_; (try clear hb); (try clear hb2); (try clear hk); (try clear hi)))
    go_ret2
    exact ⟨by first | rfl | (simp [errW_none, errW_some] <;> rfl) | (simp [*, errW_none, errW_some] <;> rfl), by repeat (first | (with_reducible first | exact HB.out | apply below_alloc | apply pw_below_drewN | apply below_drew1 | refine below_set ?_ GE488.out) | exact HB.out)⟩

end Go.Proofs.Ytoiohlmiofplcaa.P
-- Written by a program of this session (xprint.py) over the kit's print.py.
namespace Go.Proofs.Ytoiohlmiofplcaa.P
open Go.RowKit Go.Proofs.YtoiohlmiofplcaaW.PrintWords Go.Proofs.YtoiohlmiofplcaaW.PrintLast Go.Proofs.YtoiohlmiofplcaaW.PrintMore
attribute [local go_sem] max2_int min2_int max_two min_two max_three min_three max_four min_four   -- for this text's walks alone
set_option linter.unusedVariables false
set_option linter.unusedSimpArgs false

/-! ### sextonref10_From: function 40 -/
mutual
def sextonref10_From.l0 : Nat → List (S26) → Int → List (S26) → Int → ByteArray → Int → Option ((List (S26)))
  | 0, _, _, _, _, _, _ => none
  | k + 1, x0, x2, x7, x8, x495000, x495001 => if x8 < (x0.length : Int) then (sextonref10_From.j1 k x0 x2 x7 x8 (decide ((x7.length : Int) < x2)) x495000 x495001) else (sextonref10_From.j1 k x0 x2 x7 x8 false x495000 x495001)
def sextonref10_From.j1 : Nat → List (S26) → Int → List (S26) → Int → Bool → ByteArray → Int → Option ((List (S26)))
  | 0, _, _, _, _, _, _, _ => none
  | k + 1, x0, x2, x7, x8, x18, x495000, x495001 => if x18 = true then (if 0 ≤ x8 then (if x8 < (x0.length : Int) then ((sextonref08_Less.f ((rd_T26 x0 x8).f0.f0) ((rd_T26 x0 x8).f0.f1) x495000 x495001).bind fun t496 => (if t496 = true then (sextonref10_From.l0 k x0 x2 x7 (wrap64 (x8 + 1)) x495000 x495001) else (if x7.length < 3518437208883 then (sextonref10_From.l0 k x0 x2 (x7 ++ [(⟨(⟨(rd_T26 x0 x8).f0.f0, (rd_T26 x0 x8).f0.f1⟩ : S24), (rd_T26 x0 x8).f1⟩ : S26)]) (wrap64 (x8 + 1)) x495000 x495001) else (none)))) else (none)) else (none)) else (some x7)
end
def sextonref10_From.f (k : Nat) (l0 : List (S26)) (a1_0 : ByteArray) (a1_1 : Int) (a2 : Int) : Option ((List (S26))) := sextonref10_From.l0 k l0 a2 ([] : List (S26)) 0 a1_0 a1_1
def sextonref10_From.T5 : Bool × List (List Nat × List Nat) := (true, [([], []), ([], []), ([0, 1], [0, 1]), ([2], [2]), ([3], [3]), ([], []), ([4, 5], [4, 5]), ([6], [6])])
def sextonref10_From.B5 : List Nat := [0, 0, 3, 7, 15, 0, 63, 127]
theorem sextonref10_From.tab5 : rtab .any (opsOf Try.f40 5) = sextonref10_From.T5 := by kernel_rfl
theorem sextonref10_From.bits5 : waitsOk sextonref10_From.T5.2 sextonref10_From.B5 = true := by kernel_rfl
set_option maxHeartbeats 8000000 in
set_option maxRecDepth 100000 in
theorem sextonref10_From.calls (k : Nat) (A0 : Option Addr) (c0 : Nat) (l0 : List (S26)) (a1_0 : ByteArray) (a1_1 : Int) (a2 : Int) (r : List (S26)) (w : World) (hr0 : Kd.C k26 w A0 l0.length l0) (hc0 : l0.length ≤ c0) (h : sextonref10_From.f k l0 a1_0 a1_1 a2 = some r) :
    Calls Try.prog 40 #[.slice A0 l0.length c0, .agg #[.string a1_0, .int .i64 a1_1], .int .i64 a2] w fun e w' => ∃ v0_ : Value, e = .returned (v0_) ∧ Kd.R k26 26 w' w.heap.size (fun _ => True) v0_ r ∧ Below w.heap.size w w' := by
  have hu24 := Try.underlying24
  have hu26 := Try.underlying26
  have HR0 := Aside0.mk hr0
  have HC0 := Aside0.mk hc0
  clear hr0 hc0
  have HB := Aside0.mk (Below.refl w.heap.size w)
  have H : (sextonref10_From.l0 k l0 a2 ([] : List (S26)) 0 a1_0 a1_1) = some r := h
  clear h
  have H' := Aside0.mk H
  clear H
  go_enter Try.func40, Try.ntmps40
  go_wp2_with (first | ((with_reducible refine gate_dst (N := 4) rfl ?_); (try (refine gate_guard (by rfl) ?_; dsimp only)); refine box_event ?hg (N := 4) ?hd (cs := #[.string a1_0, .int .i64 a1_1]) (t := 24) ?hr ?_; (case hd => rfl); (case hg => rfl); (case hr => first | (go_simp; done) | (go_simp; rfl)); intro gb494 hg w4 hbox hb; have n0_ := Aside0.mk (below_step (by repeat (first | (with_reducible first | exact HB.out | apply below_alloc | apply pw_below_drewN | apply below_drew1) | exact HB.out)) hb); have n1_ := Aside0.mk (hbox); have n2_ := Aside0.mk ((by rw [hg]; exact (below_size (by repeat (first | (with_reducible first | exact HB.out | apply below_alloc | apply pw_below_drewN | apply below_drew1) | exact HB.out))) : w.heap.size ≤ gb494)); have n3_ := Aside0.mk ((by rw [hg]; exact (below_size (by repeat (first | (with_reducible first | exact HB.out | apply below_alloc | apply pw_below_drewN | apply below_drew1) | exact HB.out))) : w.heap.size ≤ gb494)); clear HB; have HB := n0_; have BK494 := n1_; have GW494 := n2_; have GE494 := n3_; clear n0_ n1_ n2_ n3_; clear hb hbox hg))
  go_loopg [7, 8] k (fun kq v7 v8 w' => ∃ (x7_1 : List (S26)) (x8_1 : Int), v8 = .int .i64 x8_1 ∧ Aside0 (sextonref10_From.l0 kq l0 a2 x7_1 x8_1 a1_0 a1_1 = some r) ∧ Aside0 (kq ≤ k) ∧ Aside0 (Kd.R k26 26 w' w.heap.size (fun _ => True) v7 x7_1) ∧ Aside0 (w'.heap[gb494]? = some (.cells #[.string a1_0, .int .i64 a1_1] 24 (0, 0))) ∧ Aside0 (Below w.heap.size w w'))
  case atStart => exact ⟨(([] : List (S26))), (0), (by first | rfl | (simp; done) | (simp [*]; done)), H', ⟨Nat.le_refl _⟩, ⟨by first | exact Kd.R_nil _ _ _ _ _ | exact Kd.N_nil _ _ _ _ _ | exact Kd.V_nil _ _ _ _ _ | exact Kd.Q_nil _ _ _ _ _ | exact Kd.S_nil _ _ _ _ _⟩, ⟨by (with_reducible repeat (first | refine blk_drewN ?_ _ | refine blk_drew ?_ | refine blk_alloc ?_ _)); exact BK494.out⟩, ⟨by repeat (first | (with_reducible first | exact HB.out | apply below_alloc | apply pw_below_drewN | apply below_drew1 | refine below_set ?_ GE494.out) | exact HB.out)⟩⟩
  case round =>
    clear H'
    try clear p2
    try clear c4
    obtain ⟨x7_1, x8_1, rfl, HA, HK1, HO_7, BK494, HB⟩ := hrel
    cases gk with
    | zero => exact absurd HA.out (by simp [sextonref10_From.l0])
    | succ k1 =>
      have H := HA.out
      clear HA
      simp only [sextonref10_From.l0] at H
      have HC5 := Aside0.mk H
      clear H
      go_upto_region 3 with (fail)
      go_cut [18] (fun v18 wc => ∃ (kq : Nat) (x18_4 : Bool), v18 = .bool x18_4 ∧ Aside0 (sextonref10_From.j1 kq l0 a2 x7_1 x8_1 x18_4 a1_0 a1_1 = some r) ∧ Aside0 (kq ≤ k1) ∧ Aside0 (Kd.R k26 26 wc w.heap.size (fun _ => True) u7 x7_1) ∧ Aside0 (wc.heap[gb494]? = some (.cells #[.string a1_0, .int .i64 a1_1] 24 (0, 0))) ∧ Aside0 (Below w.heap.size w wc))
      case first =>
        have H := HC5.out
        clear HC5
        by_cases c6 : x8_1 < (l0.length : Int)
        · rw [if_pos c6] at H
          have c6b0 : decide (x8_1 < (l0.length : Int)) = true := decide_eq_true c6
          clear c6
          (first | rw [c6b0] | (simp only [i64_w, i32_w]; rw [c6b0]) | skip)
          have H' := Aside0.mk H
          clear H
          obtain ⟨Ao7, co7, eo7⟩ := Kd.R_slice HO_7.out
          subst eo7
          go_wp2
          go_meet
          case rel => exact ⟨_, (decide ((x7_1.length : Int) < a2)), (by first | rfl | (simp; done) | (simp [*]; done)), H', ⟨by have := HK1.out; first | omega | exact Nat.le_refl _⟩, ⟨by (with_reducible repeat (first | apply Kd.R_alloc | apply Kd.R_drewN | apply Kd.R_drew)); exact HO_7.out⟩, ⟨by (with_reducible repeat (first | refine blk_drewN ?_ _ | refine blk_drew ?_ | refine blk_alloc ?_ _)); exact BK494.out⟩, ⟨by repeat (first | (with_reducible first | exact HB.out | apply below_alloc | apply pw_below_drewN | apply below_drew1 | refine below_set ?_ GE494.out) | exact HB.out)⟩⟩
        · rw [if_neg c6] at H
          have c6b0 : decide (x8_1 < (l0.length : Int)) = false := decide_eq_false c6
          clear c6
          (first | rw [c6b0] | (simp only [i64_w, i32_w]; rw [c6b0]) | skip)
          have H' := Aside0.mk H
          clear H
          go_wp2
          go_meet
          case rel => exact ⟨_, (false), (by first | rfl | (simp; done) | (simp [*]; done)), H', ⟨by have := HK1.out; first | omega | exact Nat.le_refl _⟩, ⟨by (with_reducible repeat (first | apply Kd.R_alloc | apply Kd.R_drewN | apply Kd.R_drew)); exact HO_7.out⟩, ⟨by (with_reducible repeat (first | refine blk_drewN ?_ _ | refine blk_drew ?_ | refine blk_alloc ?_ _)); exact BK494.out⟩, ⟨by repeat (first | (with_reducible first | exact HB.out | apply below_alloc | apply pw_below_drewN | apply below_drew1 | refine below_set ?_ GE494.out) | exact HB.out)⟩⟩
      case rest =>
        clear HC5
        try clear p2
        try clear c4
        try clear c6
        try clear c6b0
        try clear p2
        obtain ⟨kq, x18_4, rfl, HA, HJ4, HO_7, BK494, HB⟩ := hcut
        cases kq with
        | zero => exact absurd HA.out (by simp [sextonref10_From.j1])
        | succ kj4 =>
          have H := HA.out
          clear HA
          simp only [sextonref10_From.j1] at H
          by_cases c8 : x18_4 = true
          · subst c8
            have H1 : (if 0 ≤ x8_1 then (if x8_1 < (l0.length : Int) then ((sextonref08_Less.f ((rd_T26 l0 x8_1).f0.f0) ((rd_T26 l0 x8_1).f0.f1) a1_0 a1_1).bind fun t496 => (if t496 = true then (sextonref10_From.l0 kj4 l0 a2 x7_1 (wrap64 (x8_1 + 1)) a1_0 a1_1) else (if x7_1.length < 3518437208883 then (sextonref10_From.l0 kj4 l0 a2 (x7_1 ++ [(⟨(⟨(rd_T26 l0 x8_1).f0.f0, (rd_T26 l0 x8_1).f0.f1⟩ : S24), (rd_T26 l0 x8_1).f1⟩ : S26)]) (wrap64 (x8_1 + 1)) a1_0 a1_1) else (none)))) else (none)) else (none)) = some r := by rw [if_pos rfl] at H; exact H
            clear H
            have H := H1
            clear H1
            by_cases c9 : 0 ≤ x8_1
            · rw [if_pos c9] at H
              have c9b0 : decide (0 ≤ x8_1) = true := decide_eq_true c9
              clear c9
              by_cases c10 : x8_1 < (l0.length : Int)
              · rw [if_pos c10] at H
                have c10b0 : decide (x8_1 < (l0.length : Int)) = true := decide_eq_true c10
                clear c10
                replace H := Option.bind_eq_some_iff.mp H
                obtain ⟨t496, A110, H⟩ := H
                replace H : (if t496 = true then (sextonref10_From.l0 kj4 l0 a2 x7_1 (wrap64 (x8_1 + 1)) a1_0 a1_1) else (if x7_1.length < 3518437208883 then (sextonref10_From.l0 kj4 l0 a2 (x7_1 ++ [(⟨(⟨(rd_T26 l0 x8_1).f0.f0, (rd_T26 l0 x8_1).f0.f1⟩ : S24), (rd_T26 l0 x8_1).f1⟩ : S26)]) (wrap64 (x8_1 + 1)) a1_0 a1_1) else (none))) = some r := H
                have A11 := Aside0.mk A110
                clear A110
                by_cases c12 : t496 = true
                · subst c12
                  have H1 : (sextonref10_From.l0 kj4 l0 a2 x7_1 (wrap64 (x8_1 + 1)) a1_0 a1_1) = some r := by rw [if_pos rfl] at H; exact H
                  clear H
                  have H := H1
                  clear H1
                  have H' := Aside0.mk H
                  clear H
                  try go_wp2
                  have n0_ := Aside0.mk (Kd.R_drew HO_7.out)
                  have n1_ := Aside0.mk (blk_drew BK494.out)
                  have n2_ := Aside0.mk (below_drew1 HB.out)
                  clear HO_7
                  clear BK494
                  clear HB
                  have HO_7 := n0_
                  have BK494 := n1_
                  have HB := n2_
                  clear n0_ n1_ n2_
                  have p495 : 0 ≤ (x8_1 : Int) := of_decide_eq_true (by first | (with_reducible assumption) | assumption)
                  have q495 : x8_1 < (l0.length : Int) := of_decide_eq_true (by first | (with_reducible assumption) | assumption)
                  obtain ⟨ad495, e495, hx495_0, hx495_1, hx495_2⟩ := at_T26 HR0.out x8_1 p495 q495
                  have hw495_2 := hx495_2
                  have hw495_1 := hx495_1
                  have hw495_0 := hx495_0
                  cases e495
                  replace hx495_0 := (HB.out.cell (World.block_lt_of_cell? w _ hx495_0)).trans hx495_0
                  replace hx495_1 := (HB.out.cell (World.block_lt_of_cell? w _ hx495_1)).trans hx495_1
                  replace hx495_2 := (HB.out.cell (World.block_lt_of_cell? w _ hx495_2)).trans hx495_2
                  replace p495 := eq_true p495
                  replace q495 := eq_true q495
                  refine start_ (n := 8) (S := fun w' => w'.cell? ⟨gb494, 0, none⟩ = some (.string a1_0) ∧ w'.cell? ⟨gb494, 1, none⟩ = some (.int .i64 a1_1) ∧ w'.cell? (ad495.add ((x8_1).toNat * 3)) = some (.string ((rd_T26 l0 x8_1).f0.f0)) ∧ w'.cell? ⟨(ad495.add ((x8_1).toNat * 3)).block, (ad495.add ((x8_1).toNat * 3)).off + 1, none⟩ = some (.int .i64 ((rd_T26 l0 x8_1).f0.f1)) ∧ w'.cell? ⟨(ad495.add ((x8_1).toNat * 3)).block, (ad495.add ((x8_1).toNat * 3)).off + 2, none⟩ = some (.string ((rd_T26 l0 x8_1).f1))) (ds := []) #[false, false, false, false, false, false, false, false] (by kernel_rfl) rfl rfl ⟨(blk_cell BK494.out 0).trans rfl, (blk_cell BK494.out 1).trans rfl, ((HB.out.cell (World.block_lt_of_cell? w _ hw495_0)).trans hw495_0), ((HB.out.cell (World.block_lt_of_cell? w _ hw495_1)).trans hw495_1), ((HB.out.cell (World.block_lt_of_cell? w _ hw495_2)).trans hw495_2)⟩ (fun hHeld => ?_); refine with_tabW sextonref10_From.tab5 sextonref10_From.bits5 (fun HT_ HW_ => ?_)
                  generalize wc.drew = w13 at HO_7 BK494 HB hx495_0 hx495_1 hx495_2 hHeld ⊢
                  refine pure_ (i := 0) (N := some 21) (v := ?_) (a' := ?_) #[true, false, false, false, false, false, false, false] rfl rfl (any_of HT_.out (by kernel_rfl)) (fun _ _ _ h => h) (Or.inl ⟨by rfl, ?_⟩) ?_ ?_
                  rotate_left
                  · intro w'
                    go_simp
                    with_reducible rfl
                  rotate_left
                  · simp only [Act.put, List.setIfInBounds_toArray, List.set_cons_zero, List.set_cons_succ, i64_w, i32_w]
                    rfl
                  refine pure_ (i := 1) (N := some 22) (v := ?_) (a' := ?_) #[true, true, false, false, false, false, false, false] rfl rfl (any_of HT_.out (by kernel_rfl)) (fun _ _ _ h => h) (Or.inl ⟨by rfl, ?_⟩) ?_ ?_
                  rotate_left
                  · intro w'
                    go_simp
                    with_reducible rfl
                  rotate_left
                  · simp only [Act.put, List.setIfInBounds_toArray, List.set_cons_zero, List.set_cons_succ, i64_w, i32_w]
                    rfl
                  refine pure_ (i := 2) (N := some 23) (v := ?_) (a' := ?_) #[true, true, true, false, false, false, false, false] rfl rfl (any_of HT_.out (by kernel_rfl)) (fun _ _ _ h => h) (Or.inl ⟨by rfl, ?_⟩) ?_ ?_
                  rotate_left
                  · intro w'
                    go_simp
                    with_reducible rfl
                  rotate_left
                  · simp only [Act.put, List.setIfInBounds_toArray, List.set_cons_zero, List.set_cons_succ, i64_w, i32_w]
                    rfl
                  refine pure_ (i := 3) (N := some 24) (v := ?_) (a' := ?_) #[true, true, true, true, false, false, false, false] rfl rfl (any_of HT_.out (by kernel_rfl)) (fun _ _ _ h => h) (Or.inl ⟨by rfl, ?_⟩) ?_ ?_
                  rotate_left
                  · intro w'
                    go_simp
                    with_reducible rfl
                  rotate_left
                  · simp only [Act.put, List.setIfInBounds_toArray, List.set_cons_zero, List.set_cons_succ, i64_w, i32_w]
                    rfl
                  refine take_ (i := 4) (N := some 25) (v := ?_) (a' := ?_) #[true, true, true, true, true, false, false, false] rfl rfl (take_ofW HT_.out HW_.out (by kernel_rfl)) (fun _ _ _ h => h) (Or.inl ⟨by rfl, ?_⟩) hHeld ?_ ?_
                  rotate_left
                  · rintro w' ⟨s0, s1, s2, s3, s4⟩
                    go_simp
                    with_reducible rfl
                  rotate_left
                  · simp only [Act.put, List.setIfInBounds_toArray, List.set_cons_zero, List.set_cons_succ, i64_w, i32_w]
                    rfl
                  refine take_ (i := 5) (N := some 26) (v := ?_) (a' := ?_) #[true, true, true, true, true, true, false, false] rfl rfl (take_ofW HT_.out HW_.out (by kernel_rfl)) (fun _ _ _ h => h) (Or.inl ⟨by rfl, ?_⟩) hHeld ?_ ?_
                  rotate_left
                  · rintro w' ⟨s0, s1, s2, s3, s4⟩
                    go_simp
                    with_reducible rfl
                  rotate_left
                  · simp only [Act.put, List.setIfInBounds_toArray, List.set_cons_zero, List.set_cons_succ, i64_w, i32_w]
                    rfl
                  refine one_ (i := 6) (N := some 27) #[true, true, true, true, true, true, true, false] rfl rfl (one_of HT_.out (by kernel_rfl)) (by decide) (fun K hK => ?_)
                  refine goes_ Try.func47 (by kernel_rfl) rfl #[.agg #[.string ((rd_T26 l0 x8_1).f0.f0), .int .i64 ((rd_T26 l0 x8_1).f0.f1)], .agg #[.string a1_0, .int .i64 a1_1]] (by rfl) rfl rfl (by (try simp only [List.map_toArray, List.map_cons, List.map_nil]); first | done | rfl | (simp only [List.length_drop, List.length_take]; rfl)) ?_
                  with_reducible refine (sextonref08_Less.calls ((rd_T26 l0 x8_1).f0.f0) ((rd_T26 l0 x8_1).f0.f1) a1_0 a1_1 true _ A11.out).mono ?_
                  rintro e w14 ⟨rfl, hb⟩
                  refine ⟨_, rfl, ?_⟩
                  have n0_ := Aside0.mk (Kd.R_below (by (with_reducible repeat (first | apply Kd.R_alloc | apply Kd.R_drewN | apply Kd.R_drew)); exact HO_7.out) hb)
                  have n1_ := Aside0.mk (blk_below (g := gb494) (o := .cells #[.string a1_0, .int .i64 a1_1] 24 (0, 0)) (by (with_reducible repeat (first | refine blk_drewN ?_ _ | refine blk_drew ?_ | refine blk_alloc ?_ _)); exact BK494.out) hb)
                  have n2_ := Aside0.mk (below_step (by repeat (first | (with_reducible first | exact HB.out | apply below_alloc | apply pw_below_drewN | apply below_drew1 | refine below_set ?_ GE494.out) | exact HB.out)) hb)
                  clear HO_7
                  clear BK494
                  clear HB
                  have HO_7 := n0_
                  have BK494 := n1_
                  have HB := n2_
                  clear n0_ n1_ n2_
                  (try clear hb)
                  (try clear hb2)
                  (try clear hk)
                  (try clear hi)
                  refine hK.out _ _ ⟨(blk_cell BK494.out 0).trans rfl, (blk_cell BK494.out 1).trans rfl, ((HB.out.cell (World.block_lt_of_cell? w _ hw495_0)).trans hw495_0), ((HB.out.cell (World.block_lt_of_cell? w _ hw495_1)).trans hw495_1), ((HB.out.cell (World.block_lt_of_cell? w _ hw495_2)).trans hw495_2)⟩ (fun hHeld => ?_)
                  clear hK K
                  refine norm_ (a' := ?_) ?_ ?_
                  rotate_left
                  · show Act.put _ (some 27) _ = _
                    simp only [Act.put, List.setIfInBounds_toArray, List.set_cons_zero, List.set_cons_succ, i64_w, i32_w]
                    rfl
                  refine pure_ (i := 7) (N := some 28) (v := ?_) (a' := ?_) #[true, true, true, true, true, true, true, true] rfl rfl (any_of HT_.out (by kernel_rfl)) (fun _ _ _ h => h) (Or.inl ⟨by rfl, ?_⟩) ?_ ?_
                  rotate_left
                  · intro w'
                    go_simp
                    with_reducible rfl
                  rotate_left
                  · simp only [Act.put, List.setIfInBounds_toArray, List.set_cons_zero, List.set_cons_succ, i64_w, i32_w]
                    rfl
                  refine done_ (done_of HT_.out (by kernel_rfl)) ?_
                  try go_wp2
                  go_roundg kj4
                  case measure => have := HK1.out; have := HJ4.out; omega
                  case rel => exact ⟨(x7_1), (wrap64 (x8_1 + 1)), (by first | rfl | (simp; done) | (simp [*]; done)), H', ⟨by have := HK1.out; have := HJ4.out; omega⟩, ⟨by (with_reducible repeat (first | apply Kd.R_alloc | apply Kd.R_drewN | apply Kd.R_drew)); exact HO_7.out⟩, ⟨by (with_reducible repeat (first | refine blk_drewN ?_ _ | refine blk_drew ?_ | refine blk_alloc ?_ _)); exact BK494.out⟩, ⟨by repeat (first | (with_reducible first | exact HB.out | apply below_alloc | apply pw_below_drewN | apply below_drew1 | refine below_set ?_ GE494.out) | exact HB.out)⟩⟩
                · replace c12 := Bool.eq_false_iff.mpr c12
                  subst c12
                  have H1 : (if x7_1.length < 3518437208883 then (sextonref10_From.l0 kj4 l0 a2 (x7_1 ++ [(⟨(⟨(rd_T26 l0 x8_1).f0.f0, (rd_T26 l0 x8_1).f0.f1⟩ : S24), (rd_T26 l0 x8_1).f1⟩ : S26)]) (wrap64 (x8_1 + 1)) a1_0 a1_1) else (none)) = some r := by rw [if_neg (show ¬ (false = true) by decide)] at H; exact H
                  clear H
                  have H := H1
                  clear H1
                  by_cases c15 : x7_1.length < 3518437208883
                  · rw [if_pos c15] at H
                    have LMc15 := Aside0.mk c15
                    clear c15
                    obtain ⟨y498, hy498⟩ : ∃ y_ : List (S26), y_ = (x7_1 ++ [(⟨(⟨(rd_T26 l0 x8_1).f0.f0, (rd_T26 l0 x8_1).f0.f1⟩ : S24), (rd_T26 l0 x8_1).f1⟩ : S26)]) := ⟨_, rfl⟩
                    replace H : (sextonref10_From.l0 kj4 l0 a2 y498 (wrap64 (x8_1 + 1)) a1_0 a1_1) = some r := by first | (rw [hy498]; with_reducible exact H) | (have H2_ := (Option.bind_some _ _).symm.trans H; rw [hy498]; with_reducible exact H2_) | (have H2_ := (Option.bind_some _ _).symm.trans H; with_reducible exact H2_) | with_reducible exact H | (rw [hy498]; exact H) | exact H
                    have Ny498 := Aside0.mk hy498
                    clear hy498
                    have H' := Aside0.mk H
                    clear H
                    try go_wp2
                    have n0_ := Aside0.mk (Kd.R_drew HO_7.out)
                    have n1_ := Aside0.mk (blk_drew BK494.out)
                    have n2_ := Aside0.mk (below_drew1 HB.out)
                    clear HO_7
                    clear BK494
                    clear HB
                    have HO_7 := n0_
                    have BK494 := n1_
                    have HB := n2_
                    clear n0_ n1_ n2_
                    have p495 : 0 ≤ (x8_1 : Int) := of_decide_eq_true (by first | (with_reducible assumption) | assumption)
                    have q495 : x8_1 < (l0.length : Int) := of_decide_eq_true (by first | (with_reducible assumption) | assumption)
                    obtain ⟨ad495, e495, hx495_0, hx495_1, hx495_2⟩ := at_T26 HR0.out x8_1 p495 q495
                    have hw495_2 := hx495_2
                    have hw495_1 := hx495_1
                    have hw495_0 := hx495_0
                    cases e495
                    replace hx495_0 := (HB.out.cell (World.block_lt_of_cell? w _ hx495_0)).trans hx495_0
                    replace hx495_1 := (HB.out.cell (World.block_lt_of_cell? w _ hx495_1)).trans hx495_1
                    replace hx495_2 := (HB.out.cell (World.block_lt_of_cell? w _ hx495_2)).trans hx495_2
                    replace p495 := eq_true p495
                    replace q495 := eq_true q495
                    refine start_ (n := 8) (S := fun w' => w'.cell? ⟨gb494, 0, none⟩ = some (.string a1_0) ∧ w'.cell? ⟨gb494, 1, none⟩ = some (.int .i64 a1_1) ∧ w'.cell? (ad495.add ((x8_1).toNat * 3)) = some (.string ((rd_T26 l0 x8_1).f0.f0)) ∧ w'.cell? ⟨(ad495.add ((x8_1).toNat * 3)).block, (ad495.add ((x8_1).toNat * 3)).off + 1, none⟩ = some (.int .i64 ((rd_T26 l0 x8_1).f0.f1)) ∧ w'.cell? ⟨(ad495.add ((x8_1).toNat * 3)).block, (ad495.add ((x8_1).toNat * 3)).off + 2, none⟩ = some (.string ((rd_T26 l0 x8_1).f1))) (ds := []) #[false, false, false, false, false, false, false, false] (by kernel_rfl) rfl rfl ⟨(blk_cell BK494.out 0).trans rfl, (blk_cell BK494.out 1).trans rfl, ((HB.out.cell (World.block_lt_of_cell? w _ hw495_0)).trans hw495_0), ((HB.out.cell (World.block_lt_of_cell? w _ hw495_1)).trans hw495_1), ((HB.out.cell (World.block_lt_of_cell? w _ hw495_2)).trans hw495_2)⟩ (fun hHeld => ?_); refine with_tabW sextonref10_From.tab5 sextonref10_From.bits5 (fun HT_ HW_ => ?_)
                    generalize wc.drew = w16 at HO_7 BK494 HB hx495_0 hx495_1 hx495_2 hHeld ⊢
                    refine pure_ (i := 0) (N := some 21) (v := ?_) (a' := ?_) #[true, false, false, false, false, false, false, false] rfl rfl (any_of HT_.out (by kernel_rfl)) (fun _ _ _ h => h) (Or.inl ⟨by rfl, ?_⟩) ?_ ?_
                    rotate_left
                    · intro w'
                      go_simp
                      with_reducible rfl
                    rotate_left
                    · simp only [Act.put, List.setIfInBounds_toArray, List.set_cons_zero, List.set_cons_succ, i64_w, i32_w]
                      rfl
                    refine pure_ (i := 1) (N := some 22) (v := ?_) (a' := ?_) #[true, true, false, false, false, false, false, false] rfl rfl (any_of HT_.out (by kernel_rfl)) (fun _ _ _ h => h) (Or.inl ⟨by rfl, ?_⟩) ?_ ?_
                    rotate_left
                    · intro w'
                      go_simp
                      with_reducible rfl
                    rotate_left
                    · simp only [Act.put, List.setIfInBounds_toArray, List.set_cons_zero, List.set_cons_succ, i64_w, i32_w]
                      rfl
                    refine pure_ (i := 2) (N := some 23) (v := ?_) (a' := ?_) #[true, true, true, false, false, false, false, false] rfl rfl (any_of HT_.out (by kernel_rfl)) (fun _ _ _ h => h) (Or.inl ⟨by rfl, ?_⟩) ?_ ?_
                    rotate_left
                    · intro w'
                      go_simp
                      with_reducible rfl
                    rotate_left
                    · simp only [Act.put, List.setIfInBounds_toArray, List.set_cons_zero, List.set_cons_succ, i64_w, i32_w]
                      rfl
                    refine pure_ (i := 3) (N := some 24) (v := ?_) (a' := ?_) #[true, true, true, true, false, false, false, false] rfl rfl (any_of HT_.out (by kernel_rfl)) (fun _ _ _ h => h) (Or.inl ⟨by rfl, ?_⟩) ?_ ?_
                    rotate_left
                    · intro w'
                      go_simp
                      with_reducible rfl
                    rotate_left
                    · simp only [Act.put, List.setIfInBounds_toArray, List.set_cons_zero, List.set_cons_succ, i64_w, i32_w]
                      rfl
                    refine take_ (i := 4) (N := some 25) (v := ?_) (a' := ?_) #[true, true, true, true, true, false, false, false] rfl rfl (take_ofW HT_.out HW_.out (by kernel_rfl)) (fun _ _ _ h => h) (Or.inl ⟨by rfl, ?_⟩) hHeld ?_ ?_
                    rotate_left
                    · rintro w' ⟨s0, s1, s2, s3, s4⟩
                      go_simp
                      with_reducible rfl
                    rotate_left
                    · simp only [Act.put, List.setIfInBounds_toArray, List.set_cons_zero, List.set_cons_succ, i64_w, i32_w]
                      rfl
                    refine take_ (i := 5) (N := some 26) (v := ?_) (a' := ?_) #[true, true, true, true, true, true, false, false] rfl rfl (take_ofW HT_.out HW_.out (by kernel_rfl)) (fun _ _ _ h => h) (Or.inl ⟨by rfl, ?_⟩) hHeld ?_ ?_
                    rotate_left
                    · rintro w' ⟨s0, s1, s2, s3, s4⟩
                      go_simp
                      with_reducible rfl
                    rotate_left
                    · simp only [Act.put, List.setIfInBounds_toArray, List.set_cons_zero, List.set_cons_succ, i64_w, i32_w]
                      rfl
                    refine one_ (i := 6) (N := some 27) #[true, true, true, true, true, true, true, false] rfl rfl (one_of HT_.out (by kernel_rfl)) (by decide) (fun K hK => ?_)
                    refine goes_ Try.func47 (by kernel_rfl) rfl #[.agg #[.string ((rd_T26 l0 x8_1).f0.f0), .int .i64 ((rd_T26 l0 x8_1).f0.f1)], .agg #[.string a1_0, .int .i64 a1_1]] (by rfl) rfl rfl (by (try simp only [List.map_toArray, List.map_cons, List.map_nil]); first | done | rfl | (simp only [List.length_drop, List.length_take]; rfl)) ?_
                    with_reducible refine (sextonref08_Less.calls ((rd_T26 l0 x8_1).f0.f0) ((rd_T26 l0 x8_1).f0.f1) a1_0 a1_1 false _ A11.out).mono ?_
                    rintro e w17 ⟨rfl, hb⟩
                    refine ⟨_, rfl, ?_⟩
                    have n0_ := Aside0.mk (Kd.R_below (by (with_reducible repeat (first | apply Kd.R_alloc | apply Kd.R_drewN | apply Kd.R_drew)); exact HO_7.out) hb)
                    have n1_ := Aside0.mk (blk_below (g := gb494) (o := .cells #[.string a1_0, .int .i64 a1_1] 24 (0, 0)) (by (with_reducible repeat (first | refine blk_drewN ?_ _ | refine blk_drew ?_ | refine blk_alloc ?_ _)); exact BK494.out) hb)
                    have n2_ := Aside0.mk (below_step (by repeat (first | (with_reducible first | exact HB.out | apply below_alloc | apply pw_below_drewN | apply below_drew1 | refine below_set ?_ GE494.out) | exact HB.out)) hb)
                    clear HO_7
                    clear BK494
                    clear HB
                    have HO_7 := n0_
                    have BK494 := n1_
                    have HB := n2_
                    clear n0_ n1_ n2_
                    (try clear hb)
                    (try clear hb2)
                    (try clear hk)
                    (try clear hi)
                    refine hK.out _ _ ⟨(blk_cell BK494.out 0).trans rfl, (blk_cell BK494.out 1).trans rfl, ((HB.out.cell (World.block_lt_of_cell? w _ hw495_0)).trans hw495_0), ((HB.out.cell (World.block_lt_of_cell? w _ hw495_1)).trans hw495_1), ((HB.out.cell (World.block_lt_of_cell? w _ hw495_2)).trans hw495_2)⟩ (fun hHeld => ?_)
                    clear hK K
                    refine norm_ (a' := ?_) ?_ ?_
                    rotate_left
                    · show Act.put _ (some 27) _ = _
                      simp only [Act.put, List.setIfInBounds_toArray, List.set_cons_zero, List.set_cons_succ, i64_w, i32_w]
                      rfl
                    refine pure_ (i := 7) (N := some 28) (v := ?_) (a' := ?_) #[true, true, true, true, true, true, true, true] rfl rfl (any_of HT_.out (by kernel_rfl)) (fun _ _ _ h => h) (Or.inl ⟨by rfl, ?_⟩) ?_ ?_
                    rotate_left
                    · intro w'
                      go_simp
                      with_reducible rfl
                    rotate_left
                    · simp only [Act.put, List.setIfInBounds_toArray, List.set_cons_zero, List.set_cons_succ, i64_w, i32_w]
                      rfl
                    refine done_ (done_of HT_.out (by kernel_rfl)) ?_
                    have p497 : 0 ≤ (x8_1 : Int) := of_decide_eq_true (by first | (with_reducible assumption) | assumption)
                    have q497 : x8_1 < (l0.length : Int) := of_decide_eq_true (by first | (with_reducible assumption) | assumption)
                    obtain ⟨ad497, e497, hx497_0, hx497_1, hx497_2⟩ := at_T26 HR0.out x8_1 p497 q497
                    obtain rfl : ad495 = ad497 := (by injection e497)
                    replace hx497_0 := (HB.out.cell (World.block_lt_of_cell? w _ hx497_0)).trans hx497_0
                    replace hx497_1 := (HB.out.cell (World.block_lt_of_cell? w _ hx497_1)).trans hx497_1
                    replace hx497_2 := (HB.out.cell (World.block_lt_of_cell? w _ hx497_2)).trans hx497_2
                    replace p497 := eq_true p497
                    replace q497 := eq_true q497
                    try go_wp2_with (first | ((with_reducible refine gate_builtin (b := .append) (xs := #[.tmp 29, .tmp 34]) rfl ?_); (try (refine gate_guard (by rfl) ?_; dsimp only)); at_builtin; refine Kd.R_append k26 (w0 := w) w.heap.size rfl (.tmp 29) (.tmp 34) 22 26 (.agg #[(.string ⟨#[]⟩), (.int .i64 0), (.string ⟨#[]⟩)]) 40 rfl Try.underlying22 info26 rfl (by decide) (by omega) u7 x7_1 (⟨(⟨(rd_T26 l0 x8_1).f0.f0, (rd_T26 l0 x8_1).f0.f1⟩ : S24), (rd_T26 l0 x8_1).f1⟩ : S26) [.string ((rd_T26 l0 x8_1).f0.f0), .int .i64 ((rd_T26 l0 x8_1).f0.f1), .string ((rd_T26 l0 x8_1).f1)] (fun _ => True) (fun _ => False) rfl rfl ?aP (fun _ hk => hk.elim) ?aF ?aO ?aB ?aS ?aL ?_; (case aP => exact k26_mkM _ _ _ (⟨(⟨(rd_T26 l0 x8_1).f0.f0, (rd_T26 l0 x8_1).f0.f1⟩ : S24), (rd_T26 l0 x8_1).f1⟩ : S26)); (case aB => exact (by repeat (first | (with_reducible first | exact HB.out | apply below_alloc | apply pw_below_drewN | apply below_drew1 | refine below_set ?_ GE494.out) | exact HB.out))); (case aF => exact (fun _ _ => trivial)); (case aO => exact (by (with_reducible repeat (first | apply Kd.R_alloc | apply Kd.R_drewN | apply Kd.R_drew)); exact HO_7.out)); (case aS => exact (below_size (by repeat (first | (with_reducible first | exact HB.out | apply below_alloc | apply pw_below_drewN | apply below_drew1 | refine below_set ?_ GE494.out) | exact HB.out)))); (case aL => have := LMc15.out; omega); intro v499 w18 ho hb hg hat; rw [← Ny498.out] at ho; have n0_ := Aside0.mk (blk_grown (g := gb494) (o := .cells #[.string a1_0, .int .i64 a1_1] 24 (0, 0)) (by (with_reducible repeat (first | refine blk_drewN ?_ _ | refine blk_drew ?_ | refine blk_alloc ?_ _)); exact BK494.out) hg (Kd.R_ne HO_7.out BK494.out (by decide))); have n1_ := Aside0.mk (hb); have n2_ := Aside0.mk (ho); clear BK494; clear HB; clear HO_7; have BK494 := n0_; have HB := n1_; have HO500 := n2_; clear n0_ n1_ n2_; clear ho hb hg hat))
                    go_roundg kj4
                    case measure => have := HK1.out; have := HJ4.out; omega
                    case rel => exact ⟨(y498), (wrap64 (x8_1 + 1)), (by first | rfl | (simp; done) | (simp [*]; done)), H', ⟨by have := HK1.out; have := HJ4.out; omega⟩, ⟨by (with_reducible repeat (first | apply Kd.R_alloc | apply Kd.R_drewN | apply Kd.R_drew)); exact HO500.out⟩, ⟨by (with_reducible repeat (first | refine blk_drewN ?_ _ | refine blk_drew ?_ | refine blk_alloc ?_ _)); exact BK494.out⟩, ⟨by repeat (first | (with_reducible first | exact HB.out | apply below_alloc | apply pw_below_drewN | apply below_drew1 | refine below_set ?_ GE494.out) | exact HB.out)⟩⟩
                  · rw [if_neg c15] at H
                    exact absurd H (by simp)
              · rw [if_neg c10] at H
                exact absurd H (by simp)
            · rw [if_neg c9] at H
              exact absurd H (by simp)
          · replace c8 := Bool.eq_false_iff.mpr c8
            subst c8
            have H1 : (some x7_1) = some r := by rw [if_neg (show ¬ (false = true) by decide)] at H; exact H
            clear H
            have H := H1
            clear H1
            obtain rfl := Option.some.inj H
            go_wp2
            go_ret
            exact ⟨_, by first | rfl | (simp [errW_none, errW_some] <;> rfl) | (simp [*, errW_none, errW_some] <;> rfl), by (with_reducible repeat (first | apply Kd.R_alloc | apply Kd.R_drewN | apply Kd.R_drew)); exact HO_7.out, by repeat (first | (with_reducible first | exact HB.out | apply below_alloc | apply pw_below_drewN | apply below_drew1 | refine below_set ?_ GE494.out) | exact HB.out)⟩

end Go.Proofs.Ytoiohlmiofplcaa.P
