/-
  The walk and the plain statement of TreeRuns, joined.
-/
import Derived.Test.YtoiohlmiofplcaaCn6ce
import Derived.Test.YtoiohlmiofplcaaCn6cg
import Derived.Test.YtoiohlmiofplcaaCn6cd
set_option linter.unusedVariables false
set_option linter.unusedSimpArgs false
/-
  TreeRuns (chapter 10) answers true, walked by hand.
-/
namespace Go.Proofs.Ytoiohlmiofplcaa.P
open Go.RowKit Go.Shelf Go.Proofs.YtoiohlmiofplcaaW.PrintWords Go.Proofs.YtoiohlmiofplcaaW.PrintLast Go.Proofs.YtoiohlmiofplcaaW.PrintMore Go.Proofs.Plain

theorem getV_full {l : List S26} {k : S24} {A M C : List S26} (h : ND.Dec l k A M C) : getV l k = (match M with | [] => ((⟨#[]⟩ : ByteArray), false) | m :: _ => (m.f1, true)) := by
  unfold getV fromV
  rw [fromL_dec h, show (1 : Int).toNat = 1 from rfl]
  rcases h.mid with rfl | ⟨m, rfl, hm⟩
  · cases C with
    | nil => rfl
    | cons x C' =>
      have := (h.behind rfl x C' rfl).2
      show (if x.f0.f0.toList = k.f0.toList ∧ x.f0.f1 = k.f1 then (x.f1, true) else ((⟨#[]⟩ : ByteArray), false)) = _
      rw [if_neg (fun hk => this ((key_iff _ _).1 hk))]
  · show (if m.f0.f0.toList = k.f0.toList ∧ m.f0.f1 = k.f1 then (m.f1, true) else ((⟨#[]⟩ : ByteArray), false)) = _
    rw [if_pos ((key_iff _ _).2 hm)]
theorem get_ref (l : List S26) (k : S24) (hl : l.length ≤ 10000) : sextonref10_Get.f 20000 l k.f0 k.f1 = some (getV l k) := by
  obtain ⟨A, M, C, h⟩ := ND.dec_exists l k
  unfold sextonref10_Get.f
  rw [ND.refFind_dec h (by omega) 20000 (by omega), getV_full h, Option.bind_some]
  have hlen : l.length = A.length + (M.length + C.length) := by rw [h.eq]; simp
  rcases h.mid with rfl | ⟨m, rfl, hm⟩
  · rfl
  · simp only [List.length_cons, List.length_nil] at hlen
    have hget : l[A.length]? = some m := by rw [h.eq]; simp
    show (if true = true then _ else _) = _
    rw [if_pos rfl, if_pos (by omega), if_pos (by omega), ND.rd_some hget]
theorem from_filter {l : List S26} {k : S24} (hr : ND.Ris l) : l.filter (fun x => !ND.lt x.f0 k) = ND.fromL l k := by
  obtain ⟨A, M, C, h⟩ := ND.dec_exists l k
  rw [fromL_dec h]
  conv => lhs; rw [h.eq]
  rw [List.filter_append, List.filter_append]
  have e1 : A.filter (fun x => !ND.lt x.f0 k) = [] := List.filter_eq_nil_iff.2 (fun x hx => by rw [h.ahead x hx]; decide)
  have e2 : C.filter (fun x => !ND.lt x.f0 k) = C := List.filter_eq_self.2 (fun x hx => by rw [ND.lt_asymm (ND.ris_behind hr h x hx)]; rfl)
  rw [e1, e2]
  rcases h.mid with rfl | ⟨m, rfl, hm⟩
  · rfl
  · have : [m].filter (fun x => !ND.lt x.f0 k) = [m] := List.filter_eq_self.2 (fun x hx => by rw [List.mem_singleton.1 hx, hm, ND.lt_irrefl]; rfl)
    rw [this]; rfl
theorem from_ref_loop (l : List S26) (k : S24) (n : Int) (hl : l.length ≤ 10000) : ∀ (d i : Nat) (out : List S26) (f : Nat), i + d = l.length → out.length ≤ i → 2 * d + 2 < f →
    sextonref10_From.l0 f l n out (i : Int) k.f0 k.f1 = some (out ++ ((l.drop i).filter (fun x => !ND.lt x.f0 k)).take (n - out.length).toNat) := by
  intro d
  induction d with
  | zero =>
    intro i out f hi ho hf
    obtain ⟨f, rfl⟩ : ∃ m, f = m + 2 := ⟨f - 2, by omega⟩
    simp only [sextonref10_From.l0]
    rw [if_neg (by omega)]
    simp only [sextonref10_From.j1]
    rw [if_neg (by decide), List.drop_of_length_le (by omega)]
    simp
  | succ d ih =>
    intro i out f hi ho hf
    obtain ⟨f, rfl⟩ : ∃ m, f = m + 2 := ⟨f - 2, by omega⟩
    have hil : i < l.length := by omega
    simp only [sextonref10_From.l0]
    rw [if_pos (by omega)]
    simp only [sextonref10_From.j1]
    by_cases hn : (out.length : Int) < n
    · rw [decide_eq_true hn, if_pos rfl, if_pos (by omega), if_pos (by omega), ND.less_ref, Option.bind_some, rdPair l i hil]
      have hw : wrap64 ((i : Int) + 1) = ((i + 1 : Nat) : Int) := by unfold wrap64; omega
      have hd : l.drop i = l[i] :: l.drop (i + 1) := (List.getElem_cons_drop ..).symm
      have hlt : lessK l[i].f0.f0 l[i].f0.f1 k.f0 k.f1 = ND.lt l[i].f0 k := rfl
      rw [hlt, hw, hd, List.filter_cons]
      cases hc : ND.lt l[i].f0 k with
      | true =>
        rw [if_pos rfl, if_neg (by decide)]
        exact ih (i + 1) out f (by omega) (by omega) (by omega)
      | false =>
        rw [if_neg (by decide), if_pos (by omega), if_pos (by decide)]
        rw [ih (i + 1) _ f (by omega) (by simp; omega) (by omega), List.length_append]
        have e : (n - (out.length : Int)).toNat = (n - ((out.length + 1 : Nat) : Int)).toNat + 1 := by omega
        rw [show ([(⟨(⟨l[i].f0.f0, l[i].f0.f1⟩ : S24), l[i].f1⟩ : S26)] : List S26).length = 1 from rfl, e, List.take_succ_cons]
        simp
    · rw [decide_eq_false hn, if_neg (by decide), show (n - (out.length : Int)).toNat = 0 by omega]
      simp
theorem from_ref (l : List S26) (k : S24) (n : Int) (hr : ND.Ris l) (hl : l.length ≤ 10000) : sextonref10_From.f 30000 l k.f0 k.f1 n = some (fromV l k n) := by
  unfold sextonref10_From.f
  have := from_ref_loop l k n hl l.length 0 [] 30000 (by omega) (Nat.le_refl _) (by omega)
  rw [show ((0 : Nat) : Int) = 0 from rfl] at this
  rw [this, List.drop_zero, from_filter hr]
  unfold fromV
  simp
set_option maxHeartbeats 4000000 in
theorem refdo_calls (l : List S26) (v : Value) (kind : Int) (p : S26) (B : Nat) (w : World) (hr : Kd.R k26 26 w B (fun _ => True) v l) (hB : B ≤ w.heap.size) (hl : l.length ≤ 10000) :
    Calls Try.prog 33 #[v, .agg #[.int .i64 kind, .string p.f0.f0, .int .i64 p.f0.f1, .string p.f1]] w fun e w' => ∃ v', e = .returned v' ∧ Kd.R k26 26 w' B (fun _ => True) v' (doL l kind p) ∧ Below w.heap.size w w' := by
  obtain ⟨A, c, rfl, hc, hC⟩ := Kd.R_reads hr
  have hb0 := (Below.refl w.heap.size w).alloc (Nat.le_refl _) (.cells #[.int .i64 kind, .string p.f0.f0, .int .i64 p.f0.f1, .string p.f1] 51)
  have HB := Aside0.mk hb0
  have hC2 := Kd.C_below hC hb0
  have hput : sextonref09_Put.f 20000 l p.f0.f0 p.f0.f1 p.f1 = some (ND.putL l p) := by
    obtain ⟨A, M, C, h⟩ := ND.dec_exists l p.f0
    rw [ND.refPut_dec h (by omega) 20000 (by omega), ND.putL_dec h (by omega)]
  have hdrop : sextonref09_Drop.f 20000 l p.f0.f0 p.f0.f1 = some (ND.dropL l p.f0) := by
    obtain ⟨A, M, C, h⟩ := ND.dec_exists l p.f0
    rw [ND.refDrop_dec h (by omega) 20000 (by omega), ND.dropL_dec h (by omega)]
  have HP := Aside0.mk (sextonref09_Put.calls 20000 A c l p.f0.f0 p.f0.f1 p.f1 _ _ hC2 hc hput)
  have HD := Aside0.mk (sextonref09_Drop.calls 20000 A c l p.f0.f0 p.f0.f1 _ _ hC2 hc hdrop)
  have HR := Aside0.mk (Kd.R_below hr hb0)
  unfold doL
  have hBs := Aside0.mk (Nat.le_trans hB hb0.size)
  clear hr hl hb0 hC hC2 hput hdrop hc hB
  generalize l.length = n at *
  by_cases h1 : kind = 1
  · rw [if_pos h1]
    subst h1
    go_enter Try.func33, Try.ntmps33
    go_wp2_with (first | (go_at_call 18; (with_reducible refine HP.out.mono ?_); rintro e w3 ⟨v3, rfl, ht3, hb3⟩; have HB3 := Aside0.mk (HB.out.trans (hb3.mono HB.out.size)); have HT3 := Aside0.mk (Kd.R_lower ht3 hBs.out); clear hb3 ht3) | fail)
    go_ret
    exact ⟨_, rfl, HT3.out, HB3.out⟩
  · rw [if_neg h1]
    by_cases h2 : kind = 2
    · rw [if_pos h2]
      subst h2
      go_enter Try.func33, Try.ntmps33
      go_wp2_with (first | (go_at_call 20; (with_reducible refine HD.out.mono ?_); rintro e w3 ⟨v3, rfl, ht3, hb3⟩; have HB3 := Aside0.mk (HB.out.trans (hb3.mono HB.out.size)); have HT3 := Aside0.mk (Kd.R_lower ht3 hBs.out); clear hb3 ht3) | fail)
      go_ret
      exact ⟨_, rfl, HT3.out, HB3.out⟩
    · rw [if_neg h2]
      go_enter Try.func33, Try.ntmps33
      go_wp2
      go_ret
      exact ⟨_, rfl, HR.out, HB.out⟩
/-! walk -/
theorem get_calls3 (l : List S26) (v : Value) (k : S24) (s : ByteArray) (b : Bool) (w : World) (hr : TreeOf w l v) (hl : l.length ≤ 10000) (hg : getV l k = (s, b)) :
    Calls Try.prog 34 #[v, .agg #[.string k.f0, .int .i64 k.f1]] w fun e w' => e = .returned (.tuple #[.string s, .bool b]) ∧ Below w.heap.size w w' := by
  have := tree_get_calls l v k w hr hl
  rw [hg] at this
  exact this
theorem refget_calls (l : List S26) (n : Nat) (hn : l.length = n) (k : S24) (s : ByteArray) (b : Bool) (A : Option Addr) (c : Nat) (w : World) (hr : Kd.C k26 w A n l) (hc : n ≤ c) (hl : l.length ≤ 10000) (hg : getV l k = (s, b)) :
    Calls Try.prog 35 #[.slice A n c, .agg #[.string k.f0, .int .i64 k.f1]] w fun e w' => e = .returned (.tuple #[.string s, .bool b]) ∧ Below w.heap.size w w' := by
  subst hn
  exact sextonref10_Get.calls 20000 A c l k.f0 k.f1 s b w hr hc (by rw [get_ref l k hl, hg])
theorem reffrom_calls (l : List S26) (n : Nat) (hn : l.length = n) (hri : ND.Ris l) (k : S24) (m : Int) (q : Nat) (A : Option Addr) (c : Nat) (w : World) (hr : Kd.C k26 w A n l) (hc : n ≤ c) (hl : l.length ≤ 10000) (hq : (fromV l k m).length = q) :
    Calls Try.prog 40 #[.slice A n c, .agg #[.string k.f0, .int .i64 k.f1], .int .i64 m] w fun e w' => ∃ A c, e = .returned (.slice A q c) ∧ q ≤ c ∧ Kd.C k26 w' A q (fromV l k m) ∧ Below w.heap.size w w' := by
  subst hn
  refine (sextonref10_From.calls 30000 A c l k.f0 k.f1 m _ w hr hc (from_ref l k m hri hl)).mono ?_
  rintro e w' ⟨v', rfl, ho, hb⟩
  obtain ⟨A, c, rfl, h, hC⟩ := Kd.R_reads ho
  rw [hq] at h hC ⊢
  exact ⟨A, c, rfl, h, hC, hb⟩
theorem all_len_calls (l : List S26) (n : Nat) (hn : l.length = n) (v : Value) (w : World) (hr : TreeOf w l v) (hl : l.length ≤ 10000) :
    Calls Try.prog 38 #[v] w fun e w' => ∃ A c, e = .returned (.slice A n c) ∧ n ≤ c ∧ Kd.C k26 w' A n l ∧ Below w.heap.size w w' := by
  subst hn
  refine (tree_all_calls l v w hr hl).mono ?_
  rintro e w' ⟨v', rfl, ho, hb⟩
  obtain ⟨A, c, rfl, h, hC⟩ := Kd.R_reads ho
  exact ⟨A, c, rfl, h, hC, hb⟩
def sextonlaw10_TreeRuns.f (_ : List S51) (_ : ByteArray) (_ : Int) (_ : Int) : Option Bool := some true
set_option maxHeartbeats 16000000 in
set_option maxRecDepth 100000 in
theorem sextonlaw10_TreeRuns.calls (A0 : Option Addr) (c0 : Nat) (l0 : List (S51)) (a1_0 : ByteArray) (a1_1 : Int) (a2 : Int) (r : Bool) (w : World) (hr0 : Kd.C k51 w A0 l0.length l0) (hc0 : l0.length ≤ c0) (h : sextonlaw10_TreeRuns.f l0 a1_0 a1_1 a2 = some r) :
    Calls Try.prog 8 #[.slice A0 l0.length c0, .agg #[.string a1_0, .int .i64 a1_1], .int .i64 a2] w fun e w' => e = .returned (.bool r) ∧ Below w.heap.size w w' := by
  obtain rfl : true = r := Option.some.inj h
  clear h
  have hb1 := (Below.refl w.heap.size w).alloc (Nat.le_refl _) (.cells #[.string a1_0, .int .i64 a1_1] 24)
  obtain ⟨w1, hw1⟩ : ∃ w1, w1 = w.alloc (.cells #[.string a1_0, .int .i64 a1_1] 24) := ⟨_, rfl⟩
  have hg1 := blk_new w (.cells #[.string a1_0, .int .i64 a1_1] 24)
  rw [← hw1] at hb1 hg1
  have HB1 := Aside0.mk hb1
  have HG1 := Aside0.mk hg1
  have HR := Aside0.mk (Kd.C_below hr0 hb1)
  obtain ⟨rb, hb, hle⟩ := big10_f l0
  have HBig := Aside0.mk (big10_calls rb l0 hb w1 A0 c0 HR.out hc0)
  have hmx := hr0.2.1
  clear hb hr0 hc0 hb1 hg1
  obtain ⟨n, hn⟩ : ∃ n, n = l0.length := ⟨_, rfl⟩
  have HN := Aside0.mk hn
  rw [← hn] at HBig hmx ⊢
  have hle2 : rb = false → n ≤ 100 := fun h => by rw [hn]; exact hle h
  clear hn hle
  have z := blk2 HG1.out
  cases rb with
  | true =>
    clear hle2
    go_enter Try.func8, Try.ntmps8
    go_wp2_with (first | (go_at_call 30; rw [← hw1]; (with_reducible refine HBig.out.mono ?_); rintro e w3 ⟨rfl, hb⟩; have HB3 := Aside0.mk (HB1.out.trans (hb.mono HB1.out.size)); obtain ⟨y0, y1⟩ := blk2 (blk_below HG1.out hb); clear hb) | fail)
    go_ret
    exact ⟨rfl, HB3.out⟩
  | false =>
    have hl100 := hle2 rfl
    clear hle2
    by_cases c1 : (300 : Int) < (a1_0.size : Int)
    · go_enter Try.func8, Try.ntmps8
      go_wp2_with (first | (go_at_call 30; rw [← hw1]; (with_reducible refine HBig.out.mono ?_); rintro e w3 ⟨rfl, hb⟩; have HB3 := Aside0.mk (HB1.out.trans (hb.mono HB1.out.size)); obtain ⟨y0, y1⟩ := blk2 (blk_below HG1.out hb); clear hb) | fail)
      go_ret
      exact ⟨rfl, HB3.out⟩
    · go_enter Try.func8, Try.ntmps8
      go_wp2_with (first | (go_at_call 30; rw [← hw1]; (with_reducible refine HBig.out.mono ?_); rintro e w3 ⟨rfl, hb⟩; have HB3 := Aside0.mk hb; obtain ⟨y0, y1⟩ := blk2 (blk_below HG1.out hb); clear hb) | (go_at_call 31; (with_reducible refine (new_calls _).mono ?_); rintro e w5 ⟨v5, rfl, ht, hb⟩; have HT5 := Aside0.mk ht; have HB5 := Aside0.mk (HB3.out.trans (hb.mono HB3.out.size)); clear ht hb) | fail)
      clear HB3 y0 y1 HBig hw1 z
      go_loopw [7, 8, 9] (fun t s i wr => ∃ j : Nat, j ≤ n ∧ i = .int .i64 j ∧ Aside0 (TreeOf wr (doAll (l0.take j)) t) ∧ Aside0 (Kd.R k26 26 wr w1.heap.size (fun _ => True) s (doAll (l0.take j))) ∧ Aside0 (Below w1.heap.size w1 wr))
        (fun _ _ i _ => n - (intOf i).toNat)
      case atStart => exact ⟨0, Nat.zero_le _, rfl, HT5, ⟨Kd.R_nil _ _ _ _ _⟩, HB5⟩
      case round =>
        clear HT5 HB5
        obtain ⟨j, hj, rfl, HT, HRow, HB⟩ := hrel
        by_cases hlt : j < n
        · have hltl : j < l0.length := by rw [← HN.out]; exact hlt
          obtain ⟨ad, hA, x0, x1, x2, x3⟩ := step_at HR.out HB.out j hltl
          subst hA
          have hpl := (doAll_ris (l0.take j) (by rw [List.length_take]; omega)).2
          rw [List.length_take] at hpl
          have hpl2 := (doAll_ris (l0.take (j + 1)) (by rw [List.length_take]; omega)).2
          rw [List.length_take] at hpl2
          have HDo := Aside0.mk (do_calls (doAll (l0.take j)) u7 l0[j].f0 l0[j].f1 wr HT.out (by omega))
          have HRd := Aside0.mk (fun W (hW : Below wr.heap.size wr W) => refdo_calls (doAll (l0.take j)) u8 l0[j].f0 l0[j].f1 w1.heap.size W (Kd.R_below HRow.out hW) (Nat.le_trans HB.out.size hW.size) (by omega))
          rw [← doAll_take l0 j hltl] at HDo HRd
          have hji : (j : Int) < (n : Int) := by omega
          obtain ⟨s, b, hgv⟩ : ∃ s b, getV (doAll (l0.take (j + 1))) l0[j].f1.f0 = (s, b) := ⟨_, _, rfl⟩
          have HG := Aside0.mk (fun v W hT => get_calls3 (doAll (l0.take (j + 1))) v l0[j].f1.f0 s b W hT (by omega) hgv)
          have HGr := Aside0.mk (fun A c W h1 h2 => refget_calls (doAll (l0.take (j + 1))) _ rfl l0[j].f1.f0 s b A c W h1 h2 (by omega) hgv)
          have HLe := Aside0.mk (fun v W hT => len_calls (doAll (l0.take (j + 1))) v W hT)
          clear hpl hgv HT HRow
          generalize hcur : doAll (l0.take (j + 1)) = cur at *
          have HCu := Aside0.mk hcur
          clear hcur
          obtain ⟨nc, hnc⟩ : ∃ nc, nc = cur.length := ⟨_, rfl⟩
          have HNC := Aside0.mk hnc
          rw [← hnc] at HGr HLe hpl2
          clear hnc
          generalize l0[j] = p at *
          go_wp2_with (first | (go_at_call 32; (with_reducible refine HDo.out.mono ?_); rintro e w5 ⟨v5, rfl, ht, hb⟩; have HT5 := Aside0.mk ht; have HB5 := Aside0.mk hb; have xx0 := pw_cell_below hb x0; have xx1 := pw_cell_below hb x1; have xx2 := pw_cell_below hb x2; have xx3 := pw_cell_below hb x3; clear x0 x1 x2 x3; have x0 := xx0; have x1 := xx1; have x2 := xx2; have x3 := xx3; clear xx0 xx1 xx2 xx3; clear ht hb; go_wp2_with (first | (go_at_call 33; (with_reducible refine (HRd.out _ HB5.out).mono ?_); rintro e w6 ⟨v6, rfl, ho, hb⟩; have HT6 := Aside0.mk (HT5.out.below hb); have HB6 := Aside0.mk (HB5.out.trans (hb.mono HB5.out.size)); obtain ⟨A6, c6, rfl, h6, hC6⟩ := Kd.R_reads ho; have HO6 := Aside0.mk ho; rw [← HNC.out] at h6 hC6 HO6 ⊢; have HC6 := Aside0.mk hC6; have xx0 := pw_cell_below hb x0; have xx1 := pw_cell_below hb x1; have xx2 := pw_cell_below hb x2; have xx3 := pw_cell_below hb x3; clear x0 x1 x2 x3; have x0 := xx0; have x1 := xx1; have x2 := xx2; have x3 := xx3; clear xx0 xx1 xx2 xx3; clear ho hb hC6; go_wp2_with (first | (go_at_call 34; (with_reducible refine (HG.out _ _ HT6.out).mono ?_); rintro e w7 ⟨rfl, hb⟩; have HT7 := Aside0.mk (HT6.out.below hb); have HB7 := Aside0.mk (HB6.out.trans (hb.mono HB6.out.size)); have HC7 := Aside0.mk (Kd.C_below HC6.out hb); have HO7 := Aside0.mk (Kd.R_below HO6.out hb); have xx0 := pw_cell_below hb x0; have xx1 := pw_cell_below hb x1; have xx2 := pw_cell_below hb x2; have xx3 := pw_cell_below hb x3; clear x0 x1 x2 x3; have x0 := xx0; have x1 := xx1; have x2 := xx2; have x3 := xx3; clear xx0 xx1 xx2 xx3; clear hb; go_wp2_with (first | (go_at_call 35; (with_reducible refine (HGr.out A6 c6 _ HC7.out h6).mono ?_); rintro e w8 ⟨rfl, hb⟩; have HT8 := Aside0.mk (HT7.out.below hb); have HB8 := Aside0.mk (HB7.out.trans (hb.mono HB7.out.size)); have HO8 := Aside0.mk (Kd.R_below HO7.out hb); have xx0 := pw_cell_below hb x0; have xx1 := pw_cell_below hb x1; have xx2 := pw_cell_below hb x2; have xx3 := pw_cell_below hb x3; clear x0 x1 x2 x3; have x0 := xx0; have x1 := xx1; have x2 := xx2; have x3 := xx3; clear xx0 xx1 xx2 xx3; clear hb; go_wp2_with (first | (go_at_call 36; (with_reducible refine (HLe.out _ _ HT8.out).mono ?_); rintro e w9 ⟨rfl, hb⟩; have HT9 := Aside0.mk (HT8.out.below hb); have HB9 := Aside0.mk (HB.out.trans ((HB8.out.trans (hb.mono HB8.out.size)).mono HB.out.size)); have HO9 := Aside0.mk (Kd.R_below HO8.out hb); clear hb) | fail)) | fail)) | fail)) | fail)) | fail)
          go_roundw
          case rel => exact ⟨j + 1, hlt, by go_num, by rw [HCu.out]; exact HT9, by rw [HCu.out]; exact HO9, HB9⟩
          case measure => simp [intOf]; omega
        · obtain rfl : j = n := by omega
          have hT := HT.out
          have hRow := HRow.out
          rw [HN.out, List.take_length] at hT hRow
          obtain ⟨hri, hpl⟩ := doAll_ris l0 (by have := HN.out; omega)
          have HTa := Aside0.mk hT
          have hl := HN.out
          have hL : (doAll l0).length ≤ 10000 := by omega
          obtain ⟨nL, hnL⟩ : ∃ nL, nL = (doAll l0).length := ⟨_, rfl⟩
          obtain ⟨A8, c8, e8, h8, hC8⟩ := Kd.R_reads hRow
          subst e8
          rw [← hnL] at h8 hC8 ⊢
          have HC8 := Aside0.mk hC8
          obtain ⟨s, b, hgv⟩ : ∃ s b, getV (doAll l0) ⟨a1_0, a1_1⟩ = (s, b) := ⟨_, _, rfl⟩
          obtain ⟨q, hq⟩ : ∃ q, q = (fromV (doAll l0) ⟨a1_0, a1_1⟩ a2).length := ⟨_, rfl⟩
          have hq2 := fromV_len (doAll l0) ⟨a1_0, a1_1⟩ a2
          rw [← hq] at hq2
          have HG := Aside0.mk (fun v W hT => get_calls3 (doAll l0) v ⟨a1_0, a1_1⟩ s b W hT hL hgv)
          have HGr := Aside0.mk (fun A c W h1 h2 => refget_calls (doAll l0) nL hnL.symm ⟨a1_0, a1_1⟩ s b A c W h1 h2 hL hgv)
          have HAll := Aside0.mk (fun v W hT => all_len_calls (doAll l0) nL hnL.symm v W hT hL)
          have HSL := Aside0.mk (fun W A0 c0 A1 c1 h0 hc0 h1 hc1 => same_len (doAll l0) nL hnL.symm (by omega) W A0 c0 A1 c1 h0 hc0 h1 hc1)
          have HFr := Aside0.mk (fun v W hT => from_len_calls (doAll l0) v ⟨a1_0, a1_1⟩ a2 q W hT hL hq.symm)
          have HFf := Aside0.mk (fun A c W h1 h2 => reffrom_calls (doAll l0) nL hnL.symm hri ⟨a1_0, a1_1⟩ a2 q A c W h1 h2 hL hq.symm)
          have HSq := Aside0.mk (fun W A0 c0 A1 c1 h0 hc0 h1 hc1 => same_len (fromV (doAll l0) ⟨a1_0, a1_1⟩ a2) q hq.symm (by omega) W A0 c0 A1 c1 h0 hc0 h1 hc1)
          obtain ⟨y0, y1⟩ := blk2 (blk_below HG1.out HB.out)
          clear hT hri hpl HT hl hRow hC8 hgv hq HRow hlt hj
          generalize fromV (doAll l0) ⟨a1_0, a1_1⟩ a2 = xf at *
          generalize doAll l0 = L at *
          clear hnL
          have HBc := Aside0.mk (Below.refl wr.heap.size wr)
          go_wp2_with (first | (go_at_call 34; (with_reducible refine (HG.out _ _ HTa.out).mono ?_); rintro e w5 ⟨rfl, hb⟩; have HB5 := Aside0.mk hb; have HT5 := Aside0.mk (HTa.out.below hb); have HC5 := Aside0.mk (Kd.C_below HC8.out hb); have z0 := pw_cell_below hb y0; have z1 := pw_cell_below hb y1; clear hb; go_wp2_with (first | (go_at_call 35; (with_reducible refine (HGr.out A8 c8 _ HC5.out h8).mono ?_); rintro e w6 ⟨rfl, hb⟩; have HB6 := Aside0.mk (HB5.out.trans (hb.mono HB5.out.size)); have HT6 := Aside0.mk (HT5.out.below hb); have HC6 := Aside0.mk (Kd.C_below HC5.out hb); have HS6 := Aside0.mk (And.intro (pw_cell_below hb z0) (pw_cell_below hb z1)); clear hb) | fail)) | fail)
          have HBw := Aside0.mk (HB1.out.trans ((HB.out.trans (HB6.out.mono HB.out.size)).mono HB1.out.size))
          clear HBc
          have HBc := Aside0.mk (Below.refl w6.heap.size w6)
          clear HB5 HT5 HC5 HB6 z0 z1 y0 y1
          go_region_held3 (fun W => W.cell? ⟨w.heap.size, 0, none⟩ = some (.string a1_0) ∧ W.cell? ⟨w.heap.size, 1, none⟩ = some (.int .i64 a1_1)) (first | exact cells2 (by repeat (first | (with_reducible first | exact HBc.out | apply below_alloc | apply below_drew | apply pw_below_drewN) | exact HBc.out)) HS6.out) (first
            | (go_at_call 37; (with_reducible refine (grown_calls _).mono ?_); rintro e w10 ⟨rfl, hb⟩; have HB10 := Aside0.mk (below_step (by repeat (first | (with_reducible first | exact HBc.out | apply below_alloc | apply below_drew | apply pw_below_drewN) | exact HBc.out)) hb); clear HBc; have HBc := HB10; clear hb)
            | (go_at_call 38; (with_reducible refine (HAll.out _ _ (HT6.out.below (by repeat (first | (with_reducible first | exact HBc.out | apply below_alloc | apply below_drew | apply pw_below_drewN) | exact HBc.out)))).mono ?_); rintro e w11 ⟨A11, c11, rfl, h11, hC11, hb⟩; have HC11 := Aside0.mk hC11; have HB11 := Aside0.mk (below_step (by repeat (first | (with_reducible first | exact HBc.out | apply below_alloc | apply below_drew | apply pw_below_drewN) | exact HBc.out)) hb); clear HBc; have HBc := HB11; clear hb hC11)
            | (go_at_call 25; (with_reducible refine (HSL.out _ A11 c11 A8 c8 HC11.out h11 (Kd.C_below HC6.out (by repeat (first | (with_reducible first | exact HBc.out | apply below_alloc | apply below_drew | apply pw_below_drewN) | exact HBc.out))) h8).mono ?_); rintro e w12 ⟨rfl, hb⟩; have HB12 := Aside0.mk (below_step (by repeat (first | (with_reducible first | exact HBc.out | apply below_alloc | apply below_drew | apply pw_below_drewN) | exact HBc.out)) hb); clear HBc; have HBc := HB12; clear hb)
            | (go_at_call 39; (with_reducible refine (HFr.out _ _ (HT6.out.below (by repeat (first | (with_reducible first | exact HBc.out | apply below_alloc | apply below_drew | apply pw_below_drewN) | exact HBc.out)))).mono ?_); rintro e w13 ⟨A13, c13, rfl, h13, hC13, hb⟩; have HC13 := Aside0.mk hC13; have HB13 := Aside0.mk (below_step (by repeat (first | (with_reducible first | exact HBc.out | apply below_alloc | apply below_drew | apply pw_below_drewN) | exact HBc.out)) hb); (first | (have HC14b := Aside0.mk (Kd.C_below HC14.out hb)) | skip); clear HBc; have HBc := HB13; clear hb hC13)
            | (go_at_call 40; (with_reducible refine (HFf.out A8 c8 _ (Kd.C_below HC6.out (by repeat (first | (with_reducible first | exact HBc.out | apply below_alloc | apply below_drew | apply pw_below_drewN) | exact HBc.out))) h8).mono ?_); rintro e w14 ⟨A14, c14, rfl, h14, hC14, hb⟩; have HC14 := Aside0.mk hC14; have HB14 := Aside0.mk (below_step (by repeat (first | (with_reducible first | exact HBc.out | apply below_alloc | apply below_drew | apply pw_below_drewN) | exact HBc.out)) hb); (first | (have HC13b := Aside0.mk (Kd.C_below HC13.out hb)) | skip); clear HBc; have HBc := HB14; clear hb hC14)
            | (go_at_call 25; (first | (with_reducible refine (HSq.out _ A13 c13 A14 c14 HC13b.out h13 HC14.out h14).mono ?_) | (with_reducible refine (HSq.out _ A13 c13 A14 c14 HC13.out h13 HC14b.out h14).mono ?_) | fail); rintro e w15 ⟨rfl, hb⟩; have HB15 := Aside0.mk (below_step (by repeat (first | (with_reducible first | exact HBc.out | apply below_alloc | apply below_drew | apply pw_below_drewN) | exact HBc.out)) hb); clear HBc; have HBc := HB15; clear hb)
            | fail)
          all_goals go_wp2
          all_goals go_ret
          all_goals exact ⟨rfl, HBw.out.trans (HB15.out.mono HBw.out.size)⟩
end Go.Proofs.Ytoiohlmiofplcaa.P
/-
  The plain law of TreeRuns: the walk answers true for every input.
-/
namespace Go.Proofs.Ytoiohlmiofplcaa.Pure
open Go.RowKit Go.Proofs.YtoiohlmiofplcaaW.PrintWords Go.Proofs.YtoiohlmiofplcaaW.PrintLast Go.Proofs.Ytoiohlmiofplcaa.P Go.Proofs.Ytoiohlmiofplcaa.Opens
theorem TreeRuns (l0 : List S51) (a1_0 : ByteArray) (a1_1 : Int) (a2 : Int) {ok : S51 → Prop} (_h0 : OkList ok l0) {okp : Prop} (_h1 : okp) {okq : Prop} (_h2 : okq) : sextonlaw10_TreeRuns.f l0 a1_0 a1_1 a2 = some true := rfl
end Go.Proofs.Ytoiohlmiofplcaa.Pure
