/-
  Texts that the claims of this chapter share, joined.
-/
import Derived.BigQuiet
import Derived.Deep.QuietTactic
import Derived.Test.YtoiohlmiofplcaaCn6dc
import Derived.Test.YtoiohlmiofplcaaCn6db
import Derived.Test.YtoiohlmiofplcaaPx0
set_option linter.unusedVariables false
set_option linter.unusedSimpArgs false
/-
  (*Tree).All, Get, Depth; do (chapter 10).
-/
namespace Go.Proofs.Ytoiohlmiofplcaa.P
open Go.RowKit Go.Shelf Go.Proofs.YtoiohlmiofplcaaW.PrintWords Go.Proofs.YtoiohlmiofplcaaW.PrintLast Go.Proofs.YtoiohlmiofplcaaW.PrintMore Go.Proofs.Plain
attribute [local go_sem] as71_71 as84_71 as71_84 as84_84

theorem from_all {h : Nat} {t : T h} (hR : Root h t) (hne : ¬ (ND.flatT h t).length = 0) : fromV (ND.flatT h t) (firstT h t) (((ND.flatT h t).length : Nat) : Int) = ND.flatT h t := by
  have hNE : NE h t := by
    rcases root_ne hR with h0 | hn
    · subst h0
      show 0 < List.length (α := S26) t
      have : ¬ List.length (α := S26) t = 0 := hne
      omega
    · exact hn
  obtain ⟨x, r, e, e2⟩ := ND.first_flat hNE
  rw [e2, e]
  unfold fromV ND.fromL
  rw [List.dropWhile_cons, if_neg (by rw [ND.lt_irrefl]; decide)]
  exact List.take_of_length_le (by omega)
set_option maxHeartbeats 8000000 in
theorem tree_all_calls (l : List S26) (v : Value) (w : World) (hr : TreeOf w l v) (hl : l.length ≤ 10000) :
    Calls Try.prog 38 #[v] w fun e w' => ∃ v', e = .returned v' ∧ Kd.R k26 26 w' w.heap.size (fun _ => True) v' l ∧ Below w.heap.size w w' := by
  have HLen := Aside0.mk (fun W (hW : Below w.heap.size w W) => len_calls l v W (hr.below hW))
  by_cases h0 : l.length = 0
  · rw [h0] at HLen
    obtain rfl : l = [] := List.eq_nil_of_length_eq_zero h0
    replace HLen : Aside0 (∀ W, Below w.heap.size w W → Calls Try.prog 36 #[v] W fun e w' => e = .returned (.int .i64 0) ∧ Below W.heap.size W w') := HLen
    clear hr hl h0
    go_enter Try.func38, Try.ntmps38
    go_wp2_with (first | (go_at_call 36; (with_reducible refine (HLen.out _ (Below.refl _ _)).mono ?_); rintro e w3 ⟨rfl, hb3⟩; have HB3 := Aside0.mk hb3; clear hb3))
    go_ret
    exact ⟨_, rfl, Kd.R_nil _ _ _ _ _, HB3.out⟩
  · have HFr := Aside0.mk (fun W (hW : Below w.heap.size w W) k n => tree_from_calls l v k n W (hr.below hW) hl)
    obtain ⟨h, t, hT, hR, rfl⟩ := hr
    have hfa := from_all hR h0
    have HTop := Aside0.mk (fun W (hW : Below w.heap.size w W) => top_at h t v w hT W hW)
    have hNE : NE h t := by
      rcases root_ne hR with h0' | hn
      · subst h0'
        show 0 < List.length (α := S26) t
        have : ¬ List.length (α := S26) t = 0 := h0
        omega
      · exact hn
    have HFi := Aside0.mk (fun u W (hu : RepU w h t u) (hW : Below w.heap.size w W) => first_calls h t u W hNE (RepU.below hW h t u hu))
    generalize firstT h t = k at *
    have HFr := Aside0.mk (fun W (hW : Below w.heap.size w W) => HFr.out W hW k (((ND.flatT h t).length : Nat) : Int))
    rw [hfa] at HFr
    have hd : ¬ (((ND.flatT h t).length : Nat) : Int) = 0 := by omega
    clear hT hR hfa hNE h0 hl
    generalize hLL : (ND.flatT h t).length = L at *
    clear hLL
    generalize ND.flatT h t = l at *
    cases h with
    | zero =>
      replace HTop : Aside0 (∀ W, Below w.heap.size w W → Calls Try.prog 50 #[v] W fun e w' => ∃ u, e = .returned (.iface 71 u) ∧ RepU w _ t u ∧ Below W.heap.size W w') := HTop
      replace HFi : Aside0 (∀ u W, RepU w _ t u → Below w.heap.size w W → Calls Try.prog 77 #[u] W fun e w' => e = .returned (.agg #[.string k.f0, .int .i64 k.f1]) ∧ Below W.heap.size W w') := HFi
      go_enter Try.func38, Try.ntmps38
      go_wp2_with (first | (go_at_call 36; (with_reducible refine (HLen.out _ (Below.refl _ _)).mono ?_); rintro e w3 ⟨rfl, hb3⟩; have HB3 := Aside0.mk hb3; clear hb3; go_wp2_with (first | (go_at_call 50; (with_reducible refine (HTop.out _ HB3.out).mono ?_); rintro e w4 ⟨u4, rfl, hu4, hb4⟩; have HB4 := Aside0.mk (HB3.out.trans (hb4.mono HB3.out.size)); have HU4 := Aside0.mk hu4; clear hb4 hu4) | (go_at_call 77; (with_reducible refine (HFi.out u4 _ HU4.out HB4.out).mono ?_); rintro e w5 ⟨rfl, hb5⟩; have HB5 := Aside0.mk (HB4.out.trans (hb5.mono HB4.out.size)); clear hb5; go_wp2_with (first | (go_at_call 36; (with_reducible refine (HLen.out _ HB5.out).mono ?_); rintro e w6 ⟨rfl, hb6⟩; have HB6 := Aside0.mk (HB5.out.trans (hb6.mono HB5.out.size)); clear hb6) | (go_at_call 39; (with_reducible refine (HFr.out _ HB6.out).mono ?_); rintro e w7 ⟨v7, rfl, ho7, hb7⟩; have HB7 := Aside0.mk (HB6.out.trans (hb7.mono HB6.out.size)); have HO7 := Aside0.mk (Kd.R_lower ho7 HB6.out.size); clear hb7 ho7))))))
      go_ret
      exact ⟨_, rfl, HO7.out, HB7.out⟩
    | succ h =>
      replace HTop : Aside0 (∀ W, Below w.heap.size w W → Calls Try.prog 50 #[v] W fun e w' => ∃ u, e = .returned (.iface 84 u) ∧ RepU w _ t u ∧ Below W.heap.size W w') := HTop
      replace HFi : Aside0 (∀ u W, RepU w _ t u → Below w.heap.size w W → Calls Try.prog 84 #[u] W fun e w' => e = .returned (.agg #[.string k.f0, .int .i64 k.f1]) ∧ Below W.heap.size W w') := HFi
      go_enter Try.func38, Try.ntmps38
      go_wp2_with (first | (go_at_call 36; (with_reducible refine (HLen.out _ (Below.refl _ _)).mono ?_); rintro e w3 ⟨rfl, hb3⟩; have HB3 := Aside0.mk hb3; clear hb3; go_wp2_with (first | (go_at_call 50; (with_reducible refine (HTop.out _ HB3.out).mono ?_); rintro e w4 ⟨u4, rfl, hu4, hb4⟩; have HB4 := Aside0.mk (HB3.out.trans (hb4.mono HB3.out.size)); have HU4 := Aside0.mk hu4; clear hb4 hu4) | (go_at_call 84; (with_reducible refine (HFi.out u4 _ HU4.out HB4.out).mono ?_); rintro e w5 ⟨rfl, hb5⟩; have HB5 := Aside0.mk (HB4.out.trans (hb5.mono HB4.out.size)); clear hb5; go_wp2_with (first | (go_at_call 36; (with_reducible refine (HLen.out _ HB5.out).mono ?_); rintro e w6 ⟨rfl, hb6⟩; have HB6 := Aside0.mk (HB5.out.trans (hb6.mono HB5.out.size)); clear hb6) | (go_at_call 39; (with_reducible refine (HFr.out _ HB6.out).mono ?_); rintro e w7 ⟨v7, rfl, ho7, hb7⟩; have HB7 := Aside0.mk (HB6.out.trans (hb7.mono HB6.out.size)); have HO7 := Aside0.mk (Kd.R_lower ho7 HB6.out.size); clear hb7 ho7))))))
      go_ret
      exact ⟨_, rfl, HO7.out, HB7.out⟩

/-- What Get answers. -/
def getV (l : List S26) (k : S24) : ByteArray × Bool := match fromV l k 1 with
  | [] => (⟨#[]⟩, false)
  | x :: _ => if x.f0.f0.toList = k.f0.toList ∧ x.f0.f1 = k.f1 then (x.f1, true) else (⟨#[]⟩, false)
set_option maxHeartbeats 8000000 in
theorem tree_get_calls (l : List S26) (v : Value) (k : S24) (w : World) (hr : TreeOf w l v) (hl : l.length ≤ 10000) :
    Calls Try.prog 34 #[v, .agg #[.string k.f0, .int .i64 k.f1]] w fun e w' => e = .returned (.tuple #[.string (getV l k).1, .bool (getV l k).2]) ∧ Below w.heap.size w w' := by
  have hb0 := (Below.refl w.heap.size w).alloc (Nat.le_refl _) (.cells #[.string k.f0, .int .i64 k.f1] 24)
  have HB := Aside0.mk hb0
  have hg := blk_new w (.cells #[.string k.f0, .int .i64 k.f1] 24)
  have HFr := Aside0.mk (tree_from_calls l v k 1 (w.alloc (.cells #[.string k.f0, .int .i64 k.f1] 24)) (hr.below hb0) hl)
  have HG := Aside0.mk hg
  have hlen : (fromV l k 1).length ≤ 1 := by unfold fromV; rw [List.length_take]; omega
  have hgv : ∃ g1 g2, getV l k = (g1, g2) := ⟨_, _, rfl⟩
  obtain ⟨g1, g2, hgv⟩ := hgv
  rw [hgv]
  show Calls _ _ _ _ fun e w' => e = .returned (.tuple #[.string g1, .bool g2]) ∧ _
  unfold getV at hgv
  generalize fromV l k 1 = res at *
  clear hr hl hb0 hg
  cases res with
  | nil =>
    obtain ⟨rfl, rfl⟩ := Prod.mk.inj hgv
    clear hgv
    go_enter Try.func34, Try.ntmps34
    go_wp2_with (first | (go_at_call 39; (with_reducible refine HFr.out.mono ?_); rintro e w3 ⟨v3, rfl, ho3, hb3⟩; have HB3 := Aside0.mk (HB.out.trans (hb3.mono HB.out.size)); obtain ⟨A3, c3, rfl⟩ := Kd.R_slice ho3; have HO3 := Aside0.mk ho3; clear ho3 hb3))
    go_quiet (fail)
    go_wp2
    go_ret2
    exact ⟨rfl, pw_below_drewN HB3.out _⟩
  | cons x tl =>
    obtain rfl : tl = [] := by
      cases tl with
      | nil => rfl
      | cons y z => simp at hlen
    by_cases hk : x.f0.f0.toList = k.f0.toList ∧ x.f0.f1 = k.f1
    · rw [show (match [x] with | [] => ((⟨#[]⟩ : ByteArray), false) | x :: _ => if x.f0.f0.toList = k.f0.toList ∧ x.f0.f1 = k.f1 then (x.f1, true) else ((⟨#[]⟩ : ByteArray), false)) = if x.f0.f0.toList = k.f0.toList ∧ x.f0.f1 = k.f1 then (x.f1, true) else ((⟨#[]⟩ : ByteArray), false) from rfl, if_pos hk] at hgv
      obtain ⟨rfl, rfl⟩ := Prod.mk.inj hgv
      have heq : ∀ W, Sem.run Try.prog (binOp .neq 24 (.agg #[.string x.f0.f0, .int .i64 x.f0.f1]) (.agg #[.string k.f0, .int .i64 k.f1])) W = .ok (.bool false) W := fun W => by
        go_simp
        try simp [hk.1, hk.2]
      clear hgv hk
      go_enter Try.func34, Try.ntmps34
      go_wp2_with (first | (go_at_call 39; (with_reducible refine HFr.out.mono ?_); rintro e w3 ⟨v3, rfl, ho3, hb3⟩; have HB3 := Aside0.mk (HB.out.trans (hb3.mono HB.out.size)); obtain ⟨A3, c3, rfl⟩ := Kd.R_slice ho3; have HO3 := Aside0.mk ho3; have hk3 := blk_below HG.out hb3; have y0 := blk_cell hk3 0; have y1 := blk_cell hk3 1; simp only [List.getElem?_toArray, List.getElem?_cons_zero, List.getElem?_cons_succ] at y0 y1; clear ho3 hb3 hk3))
      obtain ⟨ad, hA3, hx0, hx1, hx2⟩ := at_T26 (Kd.R_reads' HO3.out).2.2 0 (by omega) (by simp)
      rw [show rd_T26 [x] 0 = x from rfl, show ((0 : Int)).toNat * 3 = 0 from rfl, Addr.add_zero'] at hx0 hx1 hx2
      subst hA3
      go_quiet (fail)
      go_wp2
      go_ret2
      exact ⟨rfl, pw_below_drewN HB3.out _⟩
    · rw [show (match [x] with | [] => ((⟨#[]⟩ : ByteArray), false) | x :: _ => if x.f0.f0.toList = k.f0.toList ∧ x.f0.f1 = k.f1 then (x.f1, true) else ((⟨#[]⟩ : ByteArray), false)) = if x.f0.f0.toList = k.f0.toList ∧ x.f0.f1 = k.f1 then (x.f1, true) else ((⟨#[]⟩ : ByteArray), false) from rfl, if_neg hk] at hgv
      obtain ⟨rfl, rfl⟩ := Prod.mk.inj hgv
      have heq : ∀ W, Sem.run Try.prog (binOp .neq 24 (.agg #[.string x.f0.f0, .int .i64 x.f0.f1]) (.agg #[.string k.f0, .int .i64 k.f1])) W = .ok (.bool true) W := fun W => by
        go_simp
        by_cases e1 : x.f0.f0.toList = k.f0.toList <;> by_cases e2 : x.f0.f1 = k.f1 <;> simp [e1, e2]
        exact absurd ⟨e1, e2⟩ hk
      clear hgv hk
      go_enter Try.func34, Try.ntmps34
      go_wp2_with (first | (go_at_call 39; (with_reducible refine HFr.out.mono ?_); rintro e w3 ⟨v3, rfl, ho3, hb3⟩; have HB3 := Aside0.mk (HB.out.trans (hb3.mono HB.out.size)); obtain ⟨A3, c3, rfl⟩ := Kd.R_slice ho3; have HO3 := Aside0.mk ho3; have hk3 := blk_below HG.out hb3; have y0 := blk_cell hk3 0; have y1 := blk_cell hk3 1; simp only [List.getElem?_toArray, List.getElem?_cons_zero, List.getElem?_cons_succ] at y0 y1; clear ho3 hb3 hk3))
      obtain ⟨ad, hA3, hx0, hx1, hx2⟩ := at_T26 (Kd.R_reads' HO3.out).2.2 0 (by omega) (by simp)
      rw [show rd_T26 [x] 0 = x from rfl, show ((0 : Int)).toNat * 3 = 0 from rfl, Addr.add_zero'] at hx0 hx1 hx2
      subst hA3
      go_quiet (fail)
      go_wp2
      go_ret2
      exact ⟨rfl, pw_below_drewN HB3.out _⟩
end Go.Proofs.Ytoiohlmiofplcaa.P
/-
  (*Tree).Depth of no pairs; do (chapter 10).
-/
namespace Go.Proofs.Ytoiohlmiofplcaa.P
open Go.RowKit Go.Shelf Go.Proofs.YtoiohlmiofplcaaW.PrintWords Go.Proofs.YtoiohlmiofplcaaW.PrintLast Go.Proofs.YtoiohlmiofplcaaW.PrintMore Go.Proofs.Plain
attribute [local go_sem] as71_71 as84_71 as71_84 as84_84

set_option maxHeartbeats 4000000 in
theorem tree_depth_calls (v : Value) (w : World) (hr : TreeOf w [] v) : Calls Try.prog 43 #[v] w fun e w' => e = .returned (.int .i64 1) ∧ Below w.heap.size w w' := by
  obtain ⟨h, t, hT, hR, hf⟩ := hr
  obtain rfl : h = 0 := by
    rcases root_ne hR with h0 | hn
    · exact h0
    · obtain ⟨x, r, e, _⟩ := ND.first_flat hn
      rw [hf] at e
      cases e
  have HTop := Aside0.mk (top_at 0 t v w hT w (Below.refl _ _))
  replace HTop : Aside0 (Calls Try.prog 50 #[v] w fun e w' => ∃ u, e = .returned (.iface 71 u) ∧ RepU w 0 t u ∧ Below w.heap.size w w') := HTop
  clear hT hR hf
  go_enter Try.func43, Try.ntmps43
  go_wp2_with (first | (go_at_call 50; (with_reducible refine HTop.out.mono ?_); rintro e w3 ⟨u, rfl, _, hb3⟩; have HB3 := Aside0.mk hb3; clear hb3))
  go_loopw [3, 4] (fun s x wr => s = .int .i64 1 ∧ x = .iface 71 u ∧ Aside0 (Below w.heap.size w wr)) (fun _ _ _ => 0)
  case atStart => exact ⟨rfl, rfl, HB3⟩
  case round =>
    obtain ⟨rfl, rfl, HB⟩ := hrel
    have HB4 := Aside0.mk (HB.out.alloc HB.out.size (.cells #[.slice none 0 0, .int .i64 0] 84))
    go_wp2
    go_ret
    exact ⟨rfl, HB4.out⟩
/-- Pairs behind a step. -/
def doL (l : List S26) (kind : Int) (p : S26) : List S26 := if kind = 1 then ND.putL l p else if kind = 2 then ND.dropL l p.f0 else l
set_option maxHeartbeats 4000000 in
theorem do_calls (l : List S26) (v : Value) (kind : Int) (p : S26) (w : World) (hr : TreeOf w l v) (hl : l.length ≤ 10000) :
    Calls Try.prog 32 #[v, .agg #[.int .i64 kind, .string p.f0.f0, .int .i64 p.f0.f1, .string p.f1]] w fun e w' => ∃ v', e = .returned v' ∧ TreeOf w' (doL l kind p) v' ∧ Below w.heap.size w w' := by
  have hb0 := (Below.refl w.heap.size w).alloc (Nat.le_refl _) (.cells #[.int .i64 kind, .string p.f0.f0, .int .i64 p.f0.f1, .string p.f1] 51)
  have HB := Aside0.mk hb0
  have HP := Aside0.mk (tree_put_calls l v p _ (hr.below hb0) hl)
  have HD := Aside0.mk (tree_drop_calls l v p.f0 _ (hr.below hb0) hl)
  have HT := Aside0.mk (hr.below hb0)
  unfold doL
  clear hr hl hb0
  by_cases h1 : kind = 1
  · rw [if_pos h1]
    subst h1
    go_enter Try.func32, Try.ntmps32
    go_wp2_with (first | (go_at_call 41; (with_reducible refine HP.out.mono ?_); rintro e w3 ⟨v3, rfl, ht3, hb3⟩; have HB3 := Aside0.mk (HB.out.trans (hb3.mono HB.out.size)); have HT3 := Aside0.mk ht3; clear hb3 ht3))
    go_ret
    exact ⟨_, rfl, HT3.out, HB3.out⟩
  · rw [if_neg h1]
    by_cases h2 : kind = 2
    · rw [if_pos h2]
      subst h2
      go_enter Try.func32, Try.ntmps32
      go_wp2_with (first | (go_at_call 42; (with_reducible refine HD.out.mono ?_); rintro e w3 ⟨v3, rfl, ht3, hb3⟩; have HB3 := Aside0.mk (HB.out.trans (hb3.mono HB.out.size)); have HT3 := Aside0.mk ht3; clear hb3 ht3))
      go_ret
      exact ⟨_, rfl, HT3.out, HB3.out⟩
    · rw [if_neg h2]
      go_enter Try.func32, Try.ntmps32
      go_wp2
      go_ret
      exact ⟨_, rfl, HT.out, HB.out⟩
end Go.Proofs.Ytoiohlmiofplcaa.P
/-
  The document's rows of chapter 10: what the tree's calls answer.
-/
namespace Go.Proofs.Ytoiohlmiofplcaa.P
open Go.RowKit Go.Proofs.YtoiohlmiofplcaaW.PrintWords Go.Proofs.YtoiohlmiofplcaaW.PrintLast Go.Proofs.Plain
def gB : S26 := ⟨⟨⟨#[98]⟩, 1⟩, ⟨#[120]⟩⟩
def gA : S26 := ⟨⟨⟨#[97]⟩, 2⟩, ⟨#[121]⟩⟩
theorem g1 : ND.putL [] gB = [gB] := by kernel_rfl
theorem g2 : ND.putL [gB] gA = [gA, gB] := by kernel_rfl
theorem g3 : ND.dropL [gA, gB] gA.f0 = [gB] := by kernel_rfl
theorem g4 : getV [gA, gB] gA.f0 = (⟨#[121]⟩, true) := by decide +kernel
theorem g5 : getV [gB] gA.f0 = (⟨#[]⟩, false) := by decide +kernel
theorem g6 : fromV [gA, gB] ⟨⟨#[97]⟩, 0⟩ 5 = [gB] := by kernel_rfl
end Go.Proofs.Ytoiohlmiofplcaa.P
/-
  sextonlaw10.grown answers true.
-/
namespace Go.Proofs.Ytoiohlmiofplcaa.P
open Go.RowKit Go.Shelf Go.Proofs.YtoiohlmiofplcaaW.PrintWords Go.Proofs.YtoiohlmiofplcaaW.PrintLast Go.Proofs.YtoiohlmiofplcaaW.PrintMore Go.Proofs.Plain

theorem same_yes_calls (l : List S26) (hl : l.length ≤ 100000) (W : World) (A0 : Option Addr) (c0 : Nat) (A1 : Option Addr) (c1 : Nat) (h0 : Kd.C k26 W A0 l.length l) (hc0 : l.length ≤ c0) (h1 : Kd.C k26 W A1 l.length l) (hc1 : l.length ≤ c1) :
    Calls Try.prog 25 #[.slice A0 l.length c0, .slice A1 l.length c1] W fun e w' => e = .returned (.bool true) ∧ Below W.heap.size W w' := by
  refine (sextonref09_Same.calls (l.length + 1) A0 c0 l A1 c1 l true W h0 hc0 h1 hc1 (ND.same_f l hl _ (by omega))).mono ?_
  rintro e w' ⟨rfl, nd, rfl⟩
  exact ⟨rfl, pw_below_drewN (Below.refl _ _) nd⟩
theorem putB (v : Value) (w : World) (h : TreeOf w [] v) : Calls Try.prog 41 #[v, .agg #[.string ⟨#[98]⟩, .int .i64 1, .string ⟨#[120]⟩]] w fun e w' => ∃ v', e = .returned v' ∧ TreeOf w' [gB] v' ∧ Below w.heap.size w w' := by
  have := tree_put_calls [] v gB w h (by decide)
  rw [g1] at this
  exact this
theorem putA (v : Value) (w : World) (h : TreeOf w [gB] v) : Calls Try.prog 41 #[v, .agg #[.string ⟨#[97]⟩, .int .i64 2, .string ⟨#[121]⟩]] w fun e w' => ∃ v', e = .returned v' ∧ TreeOf w' [gA, gB] v' ∧ Below w.heap.size w w' := by
  have := tree_put_calls [gB] v gA w h (by decide)
  rw [g2] at this
  exact this
theorem dropA (v : Value) (w : World) (h : TreeOf w [gA, gB] v) : Calls Try.prog 42 #[v, .agg #[.string ⟨#[97]⟩, .int .i64 2]] w fun e w' => ∃ v', e = .returned v' ∧ TreeOf w' [gB] v' ∧ Below w.heap.size w w' := by
  have := tree_drop_calls [gA, gB] v gA.f0 w h (by decide)
  rw [g3] at this
  exact this
theorem getA (v : Value) (w : World) (h : TreeOf w [gA, gB] v) : Calls Try.prog 34 #[v, .agg #[.string ⟨#[97]⟩, .int .i64 2]] w fun e w' => e = .returned (.tuple #[.string ⟨#[121]⟩, .bool true]) ∧ Below w.heap.size w w' := by
  have := tree_get_calls [gA, gB] v gA.f0 w h (by decide)
  rw [g4] at this
  exact this
theorem getA' (v : Value) (w : World) (h : TreeOf w [gB] v) : Calls Try.prog 34 #[v, .agg #[.string ⟨#[97]⟩, .int .i64 2]] w fun e w' => e = .returned (.tuple #[.string ⟨#[]⟩, .bool false]) ∧ Below w.heap.size w w' := by
  have := tree_get_calls [gB] v gA.f0 w h (by decide)
  rw [g5] at this
  exact this
theorem fromA (v : Value) (w : World) (h : TreeOf w [gA, gB] v) : Calls Try.prog 39 #[v, .agg #[.string ⟨#[97]⟩, .int .i64 0], .int .i64 5] w fun e w' => ∃ v', e = .returned v' ∧ Kd.R k26 26 w' w.heap.size (fun _ => True) v' [gB] ∧ Below w.heap.size w w' := by
  have := tree_from_calls [gA, gB] v ⟨⟨#[97]⟩, 0⟩ 5 w h (by decide)
  rw [g6] at this
  exact this
theorem lenB (v : Value) (w : World) (h : TreeOf w [gB] v) : Calls Try.prog 36 #[v] w fun e w' => e = .returned (.int .i64 1) ∧ Below w.heap.size w w' := len_calls [gB] v w h
theorem lenAB (v : Value) (w : World) (h : TreeOf w [gA, gB] v) : Calls Try.prog 36 #[v] w fun e w' => e = .returned (.int .i64 2) ∧ Below w.heap.size w w' := len_calls [gA, gB] v w h
theorem allAB (v : Value) (w : World) (h : TreeOf w [gA, gB] v) : Calls Try.prog 38 #[v] w fun e w' => ∃ v', e = .returned v' ∧ Kd.R k26 26 w' w.heap.size (fun _ => True) v' [gA, gB] ∧ Below w.heap.size w w' := tree_all_calls [gA, gB] v w h (by decide)
theorem lit_rows {W : World} {g e : Nat} {cs : List Value} {l : List S26} (hg : W.heap[g]? = some (.cells cs.toArray e (0, 0))) (hl : l.length ≤ 1000)
    (hx : ∀ j x, l[j]? = some x → cs[j * 3]? = some (.string x.f0.f0) ∧ cs[j * 3 + 1]? = some (.int .i64 x.f0.f1) ∧ cs[j * 3 + 2]? = some (.string x.f1)) : Kd.C k26 W (some ⟨g, 0, none⟩) l.length l := by
  refine ⟨rfl, by omega, fun _ => ⟨_, rfl, fun j x hj => ?_⟩⟩
  obtain ⟨h0, h1, h2⟩ := hx j x hj
  refine ⟨[.string x.f0.f0, .int .i64 x.f0.f1, .string x.f1], rfl, k26.K_of_M (k26_mkM W 0 (fun _ => True) x), fun i u hu => ?_⟩
  have hc := fun q => blk_cell hg q
  have ha : (⟨g, 0, none⟩ : Addr).add (j * 3 + i) = ⟨g, j * 3 + i, none⟩ := by simp [Addr.add]; omega
  show W.cell? ((⟨g, 0, none⟩ : Addr).add (j * 3 + i)) = _
  rw [ha, hc, List.getElem?_toArray]
  match i, hu with
  | 0, hu => rw [Nat.add_zero, h0]; exact hu
  | 1, hu => rw [h1]; exact hu
  | 2, hu => rw [h2]; exact hu
theorem lit2 {W : World} {g : Nat} (hg : W.heap[g]? = some (.cells #[.string ⟨#[97]⟩, .int .i64 2, .string ⟨#[121]⟩, .string ⟨#[98]⟩, .int .i64 1, .string ⟨#[120]⟩] 26 (0, 0))) : Kd.C k26 W (some ⟨g, 0, none⟩) 2 [gA, gB] :=
  lit_rows hg (by decide) (fun j x hj => by
    match j, hj with
    | 0, hj => cases hj; exact ⟨rfl, rfl, rfl⟩
    | 1, hj => cases hj; exact ⟨rfl, rfl, rfl⟩)
theorem lit1 {W : World} {g : Nat} (hg : W.heap[g]? = some (.cells #[.string ⟨#[98]⟩, .int .i64 1, .string ⟨#[120]⟩] 26 (0, 0))) : Kd.C k26 W (some ⟨g, 0, none⟩) 1 [gB] :=
  lit_rows hg (by decide) (fun j x hj => by
    match j, hj with
    | 0, hj => cases hj; exact ⟨rfl, rfl, rfl⟩)
theorem same2 (W : World) (A0 : Option Addr) (c0 : Nat) (A1 : Option Addr) (h0 : Kd.C k26 W A0 2 [gA, gB]) (hc0 : 2 ≤ c0) (h1 : Kd.C k26 W A1 2 [gA, gB]) : Calls Try.prog 25 #[.slice A0 2 c0, .slice A1 2 2] W fun e w' => e = .returned (.bool true) ∧ Below W.heap.size W w' :=
  same_yes_calls [gA, gB] (by decide) W A0 c0 A1 2 h0 hc0 h1 (Nat.le_refl _)
theorem same1 (W : World) (A0 : Option Addr) (c0 : Nat) (A1 : Option Addr) (h0 : Kd.C k26 W A0 1 [gB]) (hc0 : 1 ≤ c0) (h1 : Kd.C k26 W A1 1 [gB]) : Calls Try.prog 25 #[.slice A0 1 c0, .slice A1 1 1] W fun e w' => e = .returned (.bool true) ∧ Below W.heap.size W w' :=
  same_yes_calls [gB] (by decide) W A0 c0 A1 1 h0 hc0 h1 (Nat.le_refl _)
set_option maxHeartbeats 16000000 in
set_option maxRecDepth 100000 in
theorem grown_calls (w : World) : Calls Try.prog 37 #[] w fun e w' => e = .returned (.bool true) ∧ Below w.heap.size w w' := by
  obtain ⟨w2, hw2⟩ : ∃ w2, w2 = (w.alloc (.cells #[.string ⟨#[98]⟩, .int .i64 1, .string ⟨#[120]⟩] 26)).alloc (.cells #[.string ⟨#[97]⟩, .int .i64 2, .string ⟨#[121]⟩] 26) := ⟨_, rfl⟩
  have hb0 := (Below.refl w.heap.size w).alloc (Nat.le_refl _) (.cells #[.string ⟨#[98]⟩, .int .i64 1, .string ⟨#[120]⟩] 26)
  have HB2 := Aside0.mk (hb0.alloc hb0.size (.cells #[.string ⟨#[97]⟩, .int .i64 2, .string ⟨#[121]⟩] 26))
  have hS0 : w2.cell? ⟨w.heap.size, 0, none⟩ = some (.string ⟨#[98]⟩) ∧ w2.cell? ⟨w.heap.size, 1, none⟩ = some (.int .i64 1) ∧ w2.cell? ⟨w.heap.size, 2, none⟩ = some (.string ⟨#[120]⟩) ∧ w2.cell? ⟨w.heap.size + 1, 0, none⟩ = some (.string ⟨#[97]⟩) ∧ w2.cell? ⟨w.heap.size + 1, 1, none⟩ = some (.int .i64 2) ∧ w2.cell? ⟨w.heap.size + 1, 2, none⟩ = some (.string ⟨#[121]⟩) := by
    have g0 := blk_below (blk_new w (.cells #[.string ⟨#[98]⟩, .int .i64 1, .string ⟨#[120]⟩] 26)) ((Below.refl _ _).alloc (Nat.le_refl _) (.cells #[.string ⟨#[97]⟩, .int .i64 2, .string ⟨#[121]⟩] 26))
    have g1 := blk_new (w.alloc (.cells #[.string ⟨#[98]⟩, .int .i64 1, .string ⟨#[120]⟩] 26)) (.cells #[.string ⟨#[97]⟩, .int .i64 2, .string ⟨#[121]⟩] 26)
    rw [World.size_alloc] at g1
    rw [hw2]
    exact ⟨blk_cell g0 0, blk_cell g0 1, blk_cell g0 2, blk_cell g1 0, blk_cell g1 1, blk_cell g1 2⟩
  have HS2 := Aside0.mk hS0
  rw [← hw2] at HB2
  clear hb0 hS0
  go_enter Try.func37, Try.ntmps37
  go_wp2
  rw [← hw2]
  clear hw2
  have HBc := Aside0.mk (Below.refl w2.heap.size w2)
  go_region_held3 (fun W => W.cell? ⟨w.heap.size, 0, none⟩ = some (.string ⟨#[98]⟩) ∧ W.cell? ⟨w.heap.size, 1, none⟩ = some (.int .i64 1) ∧ W.cell? ⟨w.heap.size, 2, none⟩ = some (.string ⟨#[120]⟩) ∧ W.cell? ⟨w.heap.size + 1, 0, none⟩ = some (.string ⟨#[97]⟩) ∧ W.cell? ⟨w.heap.size + 1, 1, none⟩ = some (.int .i64 2) ∧ W.cell? ⟨w.heap.size + 1, 2, none⟩ = some (.string ⟨#[121]⟩)) (first | exact cells6 (by repeat (first | (with_reducible first | exact HBc.out | apply below_alloc | apply below_drew | apply pw_below_drewN) | exact HBc.out)) HS2.out) (first | (go_at_call 31; (with_reducible refine (new_calls _).mono ?_); rintro e w3 ⟨v3, rfl, ht, hb⟩; have HT3 := Aside0.mk ht; have HB3 := Aside0.mk (below_step (by repeat (first | (with_reducible first | exact HBc.out | apply below_alloc | apply below_drew | apply pw_below_drewN) | exact HBc.out)) hb); clear HBc; have HBc := HB3; clear ht hb) | (go_at_call 41; (with_reducible refine (putB v3 _ HT3.out).mono ?_); rintro e w4 ⟨v4, rfl, ht, hb⟩; have HT4 := Aside0.mk ht; have HB4 := Aside0.mk (below_step (by repeat (first | (with_reducible first | exact HBc.out | apply below_alloc | apply below_drew | apply pw_below_drewN) | exact HBc.out)) hb); clear HBc; have HBc := HB4; clear ht hb) | (go_at_call 41; (with_reducible refine (putA v4 _ HT4.out).mono ?_); rintro e w5 ⟨v5, rfl, ht, hb⟩; have HT5 := Aside0.mk ht; have HB5 := Aside0.mk (below_step (by repeat (first | (with_reducible first | exact HBc.out | apply below_alloc | apply below_drew | apply pw_below_drewN) | exact HBc.out)) hb); clear HBc; have HBc := HB5; clear ht hb))
  have HS5 := Aside0.mk (cells6 HB5.out HS2.out)
  obtain ⟨_, _, _, z0, z1, _⟩ := HS5.out
  have HB5w := Aside0.mk (HB2.out.trans (HB5.out.mono HB2.out.size))
  clear HBc HB3 HB4 HB5 HT3 HT4 HS2 HB2
  go_wp2_with (first | (go_at_call 42; (with_reducible refine (dropA v5 _ HT5.out).mono ?_); rintro e w6 ⟨v6, rfl, ht, hb⟩; have HT6 := Aside0.mk ht; have HB6 := Aside0.mk hb; have y0 := pw_cell_below hb z0; have y1 := pw_cell_below hb z1; clear ht hb; go_wp2_with (first | (go_at_call 34; (with_reducible refine (getA v5 _ (HT5.out.below HB6.out)).mono ?_); rintro e w7 ⟨rfl, hb⟩; have HB7 := Aside0.mk (HB6.out.trans (hb.mono HB6.out.size)); have HT7 := Aside0.mk (HT6.out.below hb); have x0 := pw_cell_below hb y0; have x1 := pw_cell_below hb y1; clear hb; go_wp2_with (first | (go_at_call 34; (with_reducible refine (getA' v6 _ HT7.out).mono ?_); rintro e w8 ⟨rfl, hb⟩; have HB8 := Aside0.mk (HB7.out.trans (hb.mono HB7.out.size)); have HT8 := Aside0.mk (HT7.out.below hb); clear hb))))))
  clear z0 z1 y0 y1 x0 x1
  have HT5' := Aside0.mk (HT5.out.below HB8.out)
  have HS8 := Aside0.mk (cells6 HB8.out HS5.out)
  have HBw := Aside0.mk (HB5w.out.trans (HB8.out.mono HB5w.out.size))
  clear HT5 HT6 HT7 HB6 HB7 HS5 HB5w HB8
  have HBc := Aside0.mk (Below.refl w8.heap.size w8)
  go_region_held3 (fun W => W.cell? ⟨w.heap.size, 0, none⟩ = some (.string ⟨#[98]⟩) ∧ W.cell? ⟨w.heap.size, 1, none⟩ = some (.int .i64 1) ∧ W.cell? ⟨w.heap.size, 2, none⟩ = some (.string ⟨#[120]⟩) ∧ W.cell? ⟨w.heap.size + 1, 0, none⟩ = some (.string ⟨#[97]⟩) ∧ W.cell? ⟨w.heap.size + 1, 1, none⟩ = some (.int .i64 2) ∧ W.cell? ⟨w.heap.size + 1, 2, none⟩ = some (.string ⟨#[121]⟩)) (first | exact cells6 (by repeat (first | (with_reducible first | exact HBc.out | apply below_alloc | apply below_drew | apply pw_below_drewN) | exact HBc.out)) HS8.out) (first
    | (go_at_call 38; (with_reducible refine (allAB v5 _ (HT5'.out.below (by repeat (first | (with_reducible first | exact HBc.out | apply below_alloc | apply below_drew | apply pw_below_drewN) | exact HBc.out)))).mono ?_); rintro e w9 ⟨v9, rfl, ho, hb⟩; have HB9 := Aside0.mk (below_step (by repeat (first | (with_reducible first | exact HBc.out | apply below_alloc | apply below_drew | apply pw_below_drewN) | exact HBc.out)) hb); clear HBc; have HBc := HB9; have HB38 := Aside0.mk hb; obtain ⟨A9, c9, rfl, h9, hC9⟩ := Kd.R_reads ho; have HC9 := Aside0.mk (show Kd.C k26 w9 A9 2 [gA, gB] from hC9); have h9 : 2 ≤ c9 := h9; clear ho hb hC9)
    | (go_at_call 25; (first | (with_reducible refine (same2 _ A9 c9 _ (Kd.C_below HC9.out (by first | exact Below.refl _ _ | exact below_alloc (Below.refl _ _) _)) h9 (lit2 (blk_new _ _))).mono ?_) | (with_reducible refine (same2 _ A9 c9 _ (Kd.C_below HC9.out (by first | exact Below.refl _ _ | exact below_alloc (Below.refl _ _) _)) h9 (lit2 (blk_below (blk_drew (blk_new _ _)) HB38.out))).mono ?_) | fail); rintro e w10 ⟨rfl, hb⟩; have HB10 := Aside0.mk (below_step (by repeat (first | (with_reducible first | exact HBc.out | apply below_alloc | apply below_drew | apply pw_below_drewN) | exact HBc.out)) hb); clear HBc; have HBc := HB10; clear hb)
    | (go_at_call 36; (with_reducible refine (lenB v6 _ (HT8.out.below (by repeat (first | (with_reducible first | exact HBc.out | apply below_alloc | apply below_drew | apply pw_below_drewN) | exact HBc.out)))).mono ?_); rintro e w11 ⟨rfl, hb⟩; have HB11 := Aside0.mk (below_step (by repeat (first | (with_reducible first | exact HBc.out | apply below_alloc | apply below_drew | apply pw_below_drewN) | exact HBc.out)) hb); clear HBc; have HBc := HB11; clear hb)
    | (go_at_call 36; (with_reducible refine (lenAB v5 _ (HT5'.out.below (by repeat (first | (with_reducible first | exact HBc.out | apply below_alloc | apply below_drew | apply pw_below_drewN) | exact HBc.out)))).mono ?_); rintro e w12 ⟨rfl, hb⟩; have HB12 := Aside0.mk (below_step (by repeat (first | (with_reducible first | exact HBc.out | apply below_alloc | apply below_drew | apply pw_below_drewN) | exact HBc.out)) hb); clear HBc; have HBc := HB12; clear hb)
    | (go_at_call 31; (with_reducible refine (new_calls _).mono ?_); rintro e w13 ⟨v13, rfl, ht, hb⟩; have HT13 := Aside0.mk ht; have HB13 := Aside0.mk (below_step (by repeat (first | (with_reducible first | exact HBc.out | apply below_alloc | apply below_drew | apply pw_below_drewN) | exact HBc.out)) hb); clear HBc; have HBc := HB13; clear ht hb)
    | (go_at_call 43; (with_reducible refine (tree_depth_calls v13 _ HT13.out).mono ?_); rintro e w14 ⟨rfl, hb⟩; have HB14 := Aside0.mk (below_step (by repeat (first | (with_reducible first | exact HBc.out | apply below_alloc | apply below_drew | apply pw_below_drewN) | exact HBc.out)) hb); clear HBc; have HBc := HB14; clear hb)
    | (go_at_call 39; (with_reducible refine (fromA v5 _ (HT5'.out.below (by repeat (first | (with_reducible first | exact HBc.out | apply below_alloc | apply below_drew | apply pw_below_drewN) | exact HBc.out)))).mono ?_); rintro e w15 ⟨v15, rfl, ho, hb⟩; have HB15 := Aside0.mk (below_step (by repeat (first | (with_reducible first | exact HBc.out | apply below_alloc | apply below_drew | apply pw_below_drewN) | exact HBc.out)) hb); clear HBc; have HBc := HB15; have HB39 := Aside0.mk hb; obtain ⟨A15, c15, rfl, h15, hC15⟩ := Kd.R_reads ho; have HC15 := Aside0.mk (show Kd.C k26 w15 A15 1 [gB] from hC15); have h15 : 1 ≤ c15 := h15; clear ho hb hC15)
    | (go_at_call 25; (first | (with_reducible refine (same1 _ A15 c15 _ (Kd.C_below HC15.out (by first | exact Below.refl _ _ | exact below_alloc (Below.refl _ _) _)) h15 (lit1 (blk_new _ _))).mono ?_) | (with_reducible refine (same1 _ A15 c15 _ (Kd.C_below HC15.out (by first | exact Below.refl _ _ | exact below_alloc (Below.refl _ _) _)) h15 (lit1 (blk_below (blk_new _ _) HB39.out))).mono ?_) | fail); rintro e w16 ⟨rfl, hb⟩; have HB16 := Aside0.mk (below_step (by repeat (first | (with_reducible first | exact HBc.out | apply below_alloc | apply below_drew | apply pw_below_drewN) | exact HBc.out)) hb); clear HBc; have HBc := HB16; clear hb)
    | fail)
  all_goals go_wp2
  all_goals go_ret
  all_goals exact ⟨rfl, HBw.out.trans (HB16.out.mono HBw.out.size)⟩
end Go.Proofs.Ytoiohlmiofplcaa.P
/-
  TreeOrder (chapter 10) answers true, walked by hand.
-/
namespace Go.Proofs.Ytoiohlmiofplcaa.P
open Go.RowKit Go.Shelf Go.Proofs.YtoiohlmiofplcaaW.PrintWords Go.Proofs.YtoiohlmiofplcaaW.PrintLast Go.Proofs.YtoiohlmiofplcaaW.PrintMore Go.Proofs.Plain

theorem key_ext {a b : S24} (h1 : a.f0.toList = b.f0.toList) (h2 : a.f1 = b.f1) : a = b := by
  cases a; cases b
  simp only at h1 h2
  rw [ND.tl_inj h1, h2]
end Go.Proofs.Ytoiohlmiofplcaa.P
/-
  TreeEmpty (chapter 10) answers true, walked by hand.
-/
namespace Go.Proofs.Ytoiohlmiofplcaa.P
open Go.RowKit Go.Shelf Go.Proofs.YtoiohlmiofplcaaW.PrintWords Go.Proofs.YtoiohlmiofplcaaW.PrintLast Go.Proofs.YtoiohlmiofplcaaW.PrintMore Go.Proofs.Plain

theorem key_iff (a b : S24) : (a.f0.toList = b.f0.toList ∧ a.f1 = b.f1) ↔ a = b := ⟨fun h => key_ext h.1 h.2, fun h => by rw [h]; exact ⟨rfl, rfl⟩⟩
theorem getV_dec {l : List S26} {k : S24} {A M C : List S26} (h : ND.Dec l k A M C) : (getV l k).2 = !M.isEmpty := by
  unfold getV fromV
  rw [fromL_dec h, show (1 : Int).toNat = 1 from rfl]
  rcases h.mid with rfl | ⟨m, rfl, hm⟩
  · cases C with
    | nil => rfl
    | cons x C' =>
      have := (h.behind rfl x C' rfl).2
      show (if x.f0.f0.toList = k.f0.toList ∧ x.f0.f1 = k.f1 then (x.f1, true) else ((⟨#[]⟩ : ByteArray), false)).2 = false
      rw [if_neg (fun hk => this ((key_iff _ _).1 hk))]
  · show (if m.f0.f0.toList = k.f0.toList ∧ m.f0.f1 = k.f1 then (m.f1, true) else ((⟨#[]⟩ : ByteArray), false)).2 = true
    rw [if_pos ((key_iff _ _).2 hm)]
/-- What is told of a drop: whether the key stood, how many pairs are left, which. -/
theorem drop_facts (l : List S26) (k : S24) (hr : ND.Ris l) (hl : l.length ≤ 1000) : ∃ b : Bool, (getV l k).2 = b ∧ (getV (ND.dropL l k) k).2 = false ∧ (b = true → (ND.dropL l k).length + 1 = l.length) ∧ (b = false → (ND.dropL l k).length = l.length) ∧ ND.Ris (ND.dropL l k) ∧ ∀ y ∈ ND.dropL l k, y ∈ l ∧ y.f0 ≠ k := by
  obtain ⟨A, M, C, h⟩ := ND.dec_exists l k
  rw [ND.dropL_dec h (by omega)]
  have hlen : l.length = A.length + (M.length + C.length) := by rw [h.eq]; simp
  refine ⟨!M.isEmpty, getV_dec h, getV_dec (ND.dec_drop hr h), fun hb => ?_, fun hb => ?_, ND.ris_drop hr h, fun y hy => ?_⟩
  · rcases h.mid with rfl | ⟨m, rfl, _⟩
    · cases hb
    · simp at hlen ⊢; omega
  · rcases h.mid with rfl | ⟨m, rfl, _⟩
    · simp at hlen ⊢; omega
    · cases hb
  · rcases List.mem_append.1 hy with hy | hy
    · exact ⟨by rw [h.eq]; simp [hy], ND.lt_ne (h.ahead y hy)⟩
    · exact ⟨by rw [h.eq]; simp [hy], fun e => ND.lt_ne (ND.ris_behind hr h y hy) e.symm⟩
/-! walk -/
end Go.Proofs.Ytoiohlmiofplcaa.P
-- Written by a program of this session (xprint.py) over the kit's print.py.
namespace Go.Proofs.Ytoiohlmiofplcaa.P
open Go.RowKit Go.Proofs.YtoiohlmiofplcaaW.PrintWords Go.Proofs.YtoiohlmiofplcaaW.PrintLast Go.Proofs.YtoiohlmiofplcaaW.PrintMore
attribute [local go_sem] max2_int min2_int max_two min_two max_three min_three max_four min_four   -- for this text's walks alone
set_option linter.unusedVariables false
set_option linter.unusedSimpArgs false

/-! ### sextonref10_Big: function 30 -/
mutual
def sextonref10_Big.l0 : Nat → List (S51) → Int → Option (Bool)
  | 0, _, _ => none
  | k + 1, x0, x3 => if x3 < (x0.length : Int) then (sextonref10_Big.j1 k x0 x3 (decide ((x0.length : Int) ≤ 100))) else (sextonref10_Big.j1 k x0 x3 false)
def sextonref10_Big.j1 : Nat → List (S51) → Int → Bool → Option (Bool)
  | 0, _, _, _ => none
  | k + 1, x0, x3, x12 => if x12 = true then (if 0 ≤ x3 then (if x3 < (x0.length : Int) then (if (((rd_T51 x0 x3).f1.f0.f0).size : Int) > 200 then (some true) else (if (((rd_T51 x0 x3).f1.f1).size : Int) > 300 then (some true) else (sextonref10_Big.l0 k x0 (wrap64 (x3 + 1))))) else (none)) else (none)) else (some (decide ((x0.length : Int) > 100)))
end
def sextonref10_Big.f (k : Nat) (l0 : List (S51)) : Option (Bool) := sextonref10_Big.l0 k l0 0
set_option maxHeartbeats 8000000 in
set_option maxRecDepth 100000 in
theorem sextonref10_Big.calls (k : Nat) (A0 : Option Addr) (c0 : Nat) (l0 : List (S51)) (r : Bool) (w : World) (hr0 : Kd.C k51 w A0 l0.length l0) (hc0 : l0.length ≤ c0) (h : sextonref10_Big.f k l0 = some r) :
    Calls Try.prog 30 #[.slice A0 l0.length c0] w fun e w' => e = .returned (.bool r) ∧ Drawn0 w w' := by
  have HR0 := Aside0.mk hr0
  have HC0 := Aside0.mk hc0
  clear hr0 hc0
  have H : (sextonref10_Big.l0 k l0 0) = some r := h
  clear h
  have H' := Aside0.mk H
  clear H
  go_enter Try.func30, Try.ntmps30
  go_wp2
  go_loopg [3] k (fun kq v3 w' => ∃ (x3_1 : Int), v3 = .int .i64 x3_1 ∧ Aside0 (sextonref10_Big.l0 kq l0 x3_1 = some r) ∧ Aside0 (kq ≤ k) ∧ Drawn0 w w')
  case atStart => exact ⟨(0), (by first | rfl | (simp; done) | (simp [*]; done)), H', ⟨Nat.le_refl _⟩, by repeat (first | exact Drawn0.refl _ | apply Drawn0.step)⟩
  case round =>
    clear H'
    obtain ⟨x3_1, rfl, HA, HK1, ⟨m1, rfl⟩⟩ := hrel
    cases gk with
    | zero => exact absurd HA.out (by simp [sextonref10_Big.l0])
    | succ k1 =>
      have H := HA.out
      clear HA
      simp only [sextonref10_Big.l0] at H
      have HC2 := Aside0.mk H
      clear H
      go_upto_region 2 with (fail)
      go_cut [12] (fun v12 wc => ∃ (kq : Nat) (x12_1 : Bool), v12 = .bool x12_1 ∧ Aside0 (sextonref10_Big.j1 kq l0 x3_1 x12_1 = some r) ∧ Aside0 (kq ≤ k1) ∧ Drawn0 w wc)
      case first =>
        have H := HC2.out
        clear HC2
        by_cases c3 : x3_1 < (l0.length : Int)
        · rw [if_pos c3] at H
          have c3b0 : decide (x3_1 < (l0.length : Int)) = true := decide_eq_true c3
          clear c3
          (first | rw [c3b0] | (simp only [i64_w, i32_w]; rw [c3b0]) | skip)
          have H' := Aside0.mk H
          clear H
          go_wp2
          go_meet
          case rel => exact ⟨_, (decide ((l0.length : Int) ≤ 100)), (by first | rfl | (simp; done) | (simp [*]; done)), H', ⟨by have := HK1.out; first | omega | exact Nat.le_refl _⟩, by repeat (first | exact Drawn0.refl _ | apply Drawn0.step)⟩
        · rw [if_neg c3] at H
          have c3b0 : decide (x3_1 < (l0.length : Int)) = false := decide_eq_false c3
          clear c3
          (first | rw [c3b0] | (simp only [i64_w, i32_w]; rw [c3b0]) | skip)
          have H' := Aside0.mk H
          clear H
          go_wp2
          go_meet
          case rel => exact ⟨_, (false), (by first | rfl | (simp; done) | (simp [*]; done)), H', ⟨by have := HK1.out; first | omega | exact Nat.le_refl _⟩, by repeat (first | exact Drawn0.refl _ | apply Drawn0.step)⟩
      case rest =>
        clear HC2
        try clear p2
        try clear c3
        try clear c3b0
        obtain ⟨kq, x12_1, rfl, HA, HJ1, ⟨mc1, rfl⟩⟩ := hcut
        cases kq with
        | zero => exact absurd HA.out (by simp [sextonref10_Big.j1])
        | succ kj1 =>
          have H := HA.out
          clear HA
          simp only [sextonref10_Big.j1] at H
          by_cases c4 : x12_1 = true
          · subst c4
            have H1 : (if 0 ≤ x3_1 then (if x3_1 < (l0.length : Int) then (if (((rd_T51 l0 x3_1).f1.f0.f0).size : Int) > 200 then (some true) else (if (((rd_T51 l0 x3_1).f1.f1).size : Int) > 300 then (some true) else (sextonref10_Big.l0 kj1 l0 (wrap64 (x3_1 + 1))))) else (none)) else (none)) = some r := by rw [if_pos rfl] at H; exact H
            clear H
            have H := H1
            clear H1
            by_cases c5 : 0 ≤ x3_1
            · rw [if_pos c5] at H
              have c5b0 : decide (0 ≤ x3_1) = true := decide_eq_true c5
              clear c5
              by_cases c6 : x3_1 < (l0.length : Int)
              · rw [if_pos c6] at H
                have c6b0 : decide (x3_1 < (l0.length : Int)) = true := decide_eq_true c6
                clear c6
                by_cases c7 : (((rd_T51 l0 x3_1).f1.f0.f0).size : Int) > 200
                · rw [if_pos c7] at H
                  have c7b0 : decide (200 < (((rd_T51 l0 x3_1).f1.f0.f0).size : Int)) = true := decide_eq_true c7
                  have c7b1 : decide (200 < ((rd_T51 l0 x3_1).f1.f0.f0).size) = true := decide_eq_true (by omega)
                  clear c7
                  obtain rfl := Option.some.inj H
                  have p479 : 0 ≤ (x3_1 : Int) := of_decide_eq_true (by first | (with_reducible assumption) | assumption)
                  have q479 : x3_1 < (l0.length : Int) := of_decide_eq_true (by first | (with_reducible assumption) | assumption)
                  obtain ⟨ad479, e479, hx479_0, hx479_1, hx479_2, hx479_3⟩ := at_T51 HR0.out x3_1 p479 q479
                  cases e479
                  replace p479 := eq_true p479
                  replace q479 := eq_true q479
                  go_wp2
                  go_ret
                  exact ⟨by first | rfl | (simp; done) | (simp [*]; done), by repeat (first | exact Drawn0.refl _ | apply Drawn0.step)⟩
                · rw [if_neg c7] at H
                  have c7b0 : decide (200 < (((rd_T51 l0 x3_1).f1.f0.f0).size : Int)) = false := decide_eq_false c7
                  have c7b1 : decide (200 < ((rd_T51 l0 x3_1).f1.f0.f0).size) = false := decide_eq_false (by omega)
                  clear c7
                  by_cases c8 : (((rd_T51 l0 x3_1).f1.f1).size : Int) > 300
                  · rw [if_pos c8] at H
                    have c8b0 : decide (300 < (((rd_T51 l0 x3_1).f1.f1).size : Int)) = true := decide_eq_true c8
                    have c8b1 : decide (300 < ((rd_T51 l0 x3_1).f1.f1).size) = true := decide_eq_true (by omega)
                    clear c8
                    obtain rfl := Option.some.inj H
                    have p479 : 0 ≤ (x3_1 : Int) := of_decide_eq_true (by first | (with_reducible assumption) | assumption)
                    have q479 : x3_1 < (l0.length : Int) := of_decide_eq_true (by first | (with_reducible assumption) | assumption)
                    obtain ⟨ad479, e479, hx479_0, hx479_1, hx479_2, hx479_3⟩ := at_T51 HR0.out x3_1 p479 q479
                    cases e479
                    replace p479 := eq_true p479
                    replace q479 := eq_true q479
                    have p480 : 0 ≤ (x3_1 : Int) := of_decide_eq_true (by first | (with_reducible assumption) | assumption)
                    have q480 : x3_1 < (l0.length : Int) := of_decide_eq_true (by first | (with_reducible assumption) | assumption)
                    obtain ⟨ad480, e480, hx480_0, hx480_1, hx480_2, hx480_3⟩ := at_T51 HR0.out x3_1 p480 q480
                    obtain rfl : ad479 = ad480 := (by injection e480)
                    replace p480 := eq_true p480
                    replace q480 := eq_true q480
                    go_wp2
                    go_ret
                    exact ⟨by first | rfl | (simp; done) | (simp [*]; done), by repeat (first | exact Drawn0.refl _ | apply Drawn0.step)⟩
                  · rw [if_neg c8] at H
                    have c8b0 : decide (300 < (((rd_T51 l0 x3_1).f1.f1).size : Int)) = false := decide_eq_false c8
                    have c8b1 : decide (300 < ((rd_T51 l0 x3_1).f1.f1).size) = false := decide_eq_false (by omega)
                    clear c8
                    have H' := Aside0.mk H
                    clear H
                    have p479 : 0 ≤ (x3_1 : Int) := of_decide_eq_true (by first | (with_reducible assumption) | assumption)
                    have q479 : x3_1 < (l0.length : Int) := of_decide_eq_true (by first | (with_reducible assumption) | assumption)
                    obtain ⟨ad479, e479, hx479_0, hx479_1, hx479_2, hx479_3⟩ := at_T51 HR0.out x3_1 p479 q479
                    cases e479
                    replace p479 := eq_true p479
                    replace q479 := eq_true q479
                    have p480 : 0 ≤ (x3_1 : Int) := of_decide_eq_true (by first | (with_reducible assumption) | assumption)
                    have q480 : x3_1 < (l0.length : Int) := of_decide_eq_true (by first | (with_reducible assumption) | assumption)
                    obtain ⟨ad480, e480, hx480_0, hx480_1, hx480_2, hx480_3⟩ := at_T51 HR0.out x3_1 p480 q480
                    obtain rfl : ad479 = ad480 := (by injection e480)
                    replace p480 := eq_true p480
                    replace q480 := eq_true q480
                    go_wp2
                    go_roundg kj1
                    case measure => have := HK1.out; have := HJ1.out; omega
                    case rel => exact ⟨(wrap64 (x3_1 + 1)), (by first | rfl | (simp; done) | (simp [*]; done)), H', ⟨by have := HK1.out; have := HJ1.out; omega⟩, by repeat (first | exact Drawn0.refl _ | apply Drawn0.step)⟩
              · rw [if_neg c6] at H
                exact absurd H (by simp)
            · rw [if_neg c5] at H
              exact absurd H (by simp)
          · replace c4 := Bool.eq_false_iff.mpr c4
            subst c4
            have H1 : (some (decide ((l0.length : Int) > 100))) = some r := by rw [if_neg (show ¬ (false = true) by decide)] at H; exact H
            clear H
            have H := H1
            clear H1
            obtain rfl := Option.some.inj H
            go_wp2
            go_ret
            exact ⟨by first | rfl | (simp; done) | (simp [*]; done), by repeat (first | exact Drawn0.refl _ | apply Drawn0.step)⟩

end Go.Proofs.Ytoiohlmiofplcaa.P
/-
  TreeFrom (chapter 10) answers true, walked by hand.
-/
namespace Go.Proofs.Ytoiohlmiofplcaa.P
open Go.RowKit Go.Shelf Go.Proofs.YtoiohlmiofplcaaW.PrintWords Go.Proofs.YtoiohlmiofplcaaW.PrintLast Go.Proofs.YtoiohlmiofplcaaW.PrintMore Go.Proofs.Plain

theorem big10_from (l : List S51) (h100 : l.length ≤ 100) : ∀ i : Nat, i ≤ l.length → ∃ r, ∀ k, 2 * (l.length - i) + 2 < k → sextonref10_Big.l0 k l (i : Int) = some r := by
  intro i
  induction hd : l.length - i generalizing i with
  | zero =>
    intro hi
    refine ⟨decide ((l.length : Int) > 100), fun k hk => ?_⟩
    obtain ⟨k, rfl⟩ : ∃ m, k = m + 2 := ⟨k - 2, by omega⟩
    simp only [sextonref10_Big.l0]
    rw [if_neg (by omega)]
    simp only [sextonref10_Big.j1]
    rw [if_neg (by decide)]
  | succ d ih =>
    intro hi
    obtain ⟨r, hr⟩ := ih (i + 1) (by omega) (by omega)
    have step : ∀ k, 2 * (d + 1) + 2 < k → sextonref10_Big.l0 k l (i : Int) = if ((rd_T51 l (i : Int)).f1.f0.f0.size : Int) > 200 then some true else if ((rd_T51 l (i : Int)).f1.f1.size : Int) > 300 then some true else some r := by
      intro k hk
      obtain ⟨k, rfl⟩ : ∃ m, k = m + 2 := ⟨k - 2, by omega⟩
      simp only [sextonref10_Big.l0]
      rw [if_pos (by omega), decide_eq_true (by omega)]
      simp only [sextonref10_Big.j1]
      rw [if_pos trivial, if_pos (by omega), if_pos (by omega), show wrap64 ((i : Int) + 1) = ((i + 1 : Nat) : Int) by unfold wrap64; omega, hr k (by omega)]
    by_cases h1 : ((rd_T51 l (i : Int)).f1.f0.f0.size : Int) > 200
    · exact ⟨true, fun k hk => by rw [step k hk, if_pos h1]⟩
    · by_cases h2 : ((rd_T51 l (i : Int)).f1.f1.size : Int) > 300
      · exact ⟨true, fun k hk => by rw [step k hk, if_neg h1, if_pos h2]⟩
      · exact ⟨r, fun k hk => by rw [step k hk, if_neg h1, if_neg h2]⟩
theorem big10_f (l : List S51) : ∃ r, (∀ k, 300 < k → sextonref10_Big.f k l = some r) ∧ (r = false → l.length ≤ 100) := by
  unfold sextonref10_Big.f
  by_cases h : l.length ≤ 100
  · obtain ⟨r, hr⟩ := big10_from l h 0 (by omega)
    exact ⟨r, fun k hk => hr k (by omega), fun _ => h⟩
  · refine ⟨true, fun k hk => ?_, fun h => by cases h⟩
    obtain ⟨k, rfl⟩ : ∃ m, k = m + 2 := ⟨k - 2, by omega⟩
    simp only [sextonref10_Big.l0]
    rw [if_pos (by omega), decide_eq_false (by omega)]
    simp only [sextonref10_Big.j1]
    rw [if_neg (by decide), decide_eq_true (by omega)]
theorem big10_calls (rb : Bool) (l : List S51) (hb : ∀ k, 300 < k → sextonref10_Big.f k l = some rb) (W : World) (A : Option Addr) (c : Nat) (hr : Kd.C k51 W A l.length l) (hc : l.length ≤ c) : Calls Try.prog 30 #[.slice A l.length c] W fun e w' => e = .returned (.bool rb) ∧ Below W.heap.size W w' := by
  refine (sextonref10_Big.calls 301 A c l rb W hr hc (hb 301 (by omega))).mono ?_
  rintro e w' ⟨rfl, nd, rfl⟩
  exact ⟨rfl, pw_below_drewN (Below.refl _ _) nd⟩
/-- Pairs behind the steps. -/
def doAll (s : List S51) : List S26 := s.foldl (fun l o => doL l o.f0 o.f1) []
theorem doAll_snoc (s : List S51) (o : S51) : doAll (s ++ [o]) = doL (doAll s) o.f0 o.f1 := by simp [doAll]
theorem doAll_take (s : List S51) (i : Nat) (hi : i < s.length) : doAll (s.take (i + 1)) = doL (doAll (s.take i)) s[i].f0 s[i].f1 := by
  rw [List.take_succ_eq_append_getElem hi, doAll_snoc]
theorem doL_ris {l : List S26} (k : Int) (p : S26) (hr : ND.Ris l) (hl : l.length ≤ 1000) : ND.Ris (doL l k p) ∧ (doL l k p).length ≤ l.length + 1 := by
  unfold doL
  split
  · exact ⟨putL_ris hr (by omega), ND.putL_len l p (by omega)⟩
  · split
    · refine ⟨dropL_ris hr (by omega), ?_⟩
      obtain ⟨b, _, _, h1, h2, _⟩ := drop_facts l p.f0 hr (by omega)
      cases b with
      | true => have := h1 rfl; omega
      | false => have := h2 rfl; omega
    · exact ⟨hr, by omega⟩
theorem doAll_ris : ∀ (s : List S51), s.length ≤ 500 → ND.Ris (doAll s) ∧ (doAll s).length ≤ s.length := by
  intro l
  induction h : l.length generalizing l with
  | zero => intro _; rw [List.eq_nil_of_length_eq_zero h]; exact ⟨List.Pairwise.nil, Nat.le_refl _⟩
  | succ n ih =>
    intro hn
    obtain ⟨m, x, rfl⟩ : ∃ m x, l = m ++ [x] := ⟨l.dropLast, l.getLast (by intro e; rw [e] at h; simp at h), (List.dropLast_concat_getLast _).symm⟩
    have hm : m.length = n := by simpa using h
    obtain ⟨h1, h2⟩ := ih m hm (by omega)
    rw [doAll_snoc]
    obtain ⟨h3, h4⟩ := doL_ris x.f0 x.f1 h1 (by omega)
    exact ⟨h3, by omega⟩
theorem step_at {w W : World} {A : Option Addr} {l : List S51} (hr : Kd.C k51 w A l.length l) (hW : Below w.heap.size w W) (i : Nat) (hi : i < l.length) : ∃ ad, A = some ad ∧ W.cell? (ad.add (i * 4)) = some (.int .i64 l[i].f0) ∧ W.cell? ⟨(ad.add (i * 4)).block, (ad.add (i * 4)).off + 1, none⟩ = some (.string l[i].f1.f0.f0) ∧ W.cell? ⟨(ad.add (i * 4)).block, (ad.add (i * 4)).off + 2, none⟩ = some (.int .i64 l[i].f1.f0.f1) ∧ W.cell? ⟨(ad.add (i * 4)).block, (ad.add (i * 4)).off + 3, none⟩ = some (.string l[i].f1.f1) := by
  obtain ⟨ad, e, h0, h1, h2, h3⟩ := at_T51 (Kd.C_below hr hW) (i : Int) (by omega) (by omega)
  have hrd : rd_T51 l (i : Int) = l[i] := by simp [rd_T51, List.getD_eq_getElem?_getD, hi]
  rw [hrd, Int.toNat_natCast] at h0 h1 h2 h3
  exact ⟨ad, e, h0, h1, h2, h3⟩
/-! walk -/
/-- Rows that are read, by their lengths. -/
theorem same_len (l : List S26) (n : Nat) (hn : l.length = n) (hl : n ≤ 100000) (W : World) (A0 : Option Addr) (c0 : Nat) (A1 : Option Addr) (c1 : Nat) (h0 : Kd.C k26 W A0 n l) (hc0 : n ≤ c0) (h1 : Kd.C k26 W A1 n l) (hc1 : n ≤ c1) :
    Calls Try.prog 25 #[.slice A0 n c0, .slice A1 n c1] W fun e w' => e = .returned (.bool true) ∧ Below W.heap.size W w' := by
  subst hn
  exact same_yes_calls l hl W A0 c0 A1 c1 h0 hc0 h1 hc1
end Go.Proofs.Ytoiohlmiofplcaa.P
-- Written by a program of this session (xprint.py) over the kit's print.py.
namespace Go.Proofs.Ytoiohlmiofplcaa.P
open Go.RowKit Go.Proofs.YtoiohlmiofplcaaW.PrintWords Go.Proofs.YtoiohlmiofplcaaW.PrintLast Go.Proofs.YtoiohlmiofplcaaW.PrintMore
attribute [local go_sem] max2_int min2_int max_two min_two max_three min_three max_four min_four   -- for this text's walks alone
set_option linter.unusedVariables false
set_option linter.unusedSimpArgs false

/-! ### sextonref08_Less: function 47 -/
def sextonref08_Less.f (a0_0 : ByteArray) (a0_1 : Int) (a1_0 : ByteArray) (a1_1 : Int) : Option (Bool) := if (Op.bytesLess a0_0.toList a1_0.toList) = true then (some true) else (if a0_0.toList = a1_0.toList then (some (decide (a0_1 > a1_1))) else (some false))
set_option maxHeartbeats 8000000 in
set_option maxRecDepth 100000 in
theorem sextonref08_Less.calls (a0_0 : ByteArray) (a0_1 : Int) (a1_0 : ByteArray) (a1_1 : Int) (r : Bool) (w : World) (h : sextonref08_Less.f a0_0 a0_1 a1_0 a1_1 = some r) :
    Calls Try.prog 47 #[.agg #[.string a0_0, .int .i64 a0_1], .agg #[.string a1_0, .int .i64 a1_1]] w fun e w' => e = .returned (.bool r) ∧ Below w.heap.size w w' := by
  have hu24 := Try.underlying24
  have HB := Aside0.mk (Below.refl w.heap.size w)
  have H : (if (Op.bytesLess a0_0.toList a1_0.toList) = true then (some true) else (if a0_0.toList = a1_0.toList then (some (decide (a0_1 > a1_1))) else (some false))) = some r := h
  clear h
  by_cases c3 : (Op.bytesLess a0_0.toList a1_0.toList) = true
  · rw [if_pos c3] at H
    have c3b0 : (Op.bytesLess a0_0.toList a1_0.toList) = true := c3
    clear c3
    obtain rfl := Option.some.inj H
    go_enter Try.func47, Try.ntmps47
    go_wp2_with (first | ((with_reducible refine gate_dst (N := 2) rfl ?_); refine box_event ?hg (N := 2) ?hd (cs := #[.string a0_0, .int .i64 a0_1]) (t := 24) ?hr ?_; (case hd => rfl); (case hg => rfl); (case hr => first | (go_simp; done) | (go_simp; rfl)); intro gb117 hg w4 hbox hb; have n0_ := Aside0.mk (below_step (by repeat (first | (with_reducible first | exact HB.out | apply below_alloc | apply pw_below_drewN | apply below_drew1) | exact HB.out)) hb); have n1_ := Aside0.mk (hbox); have n2_ := Aside0.mk ((by rw [hg]; exact (below_size (by repeat (first | (with_reducible first | exact HB.out | apply below_alloc | apply pw_below_drewN | apply below_drew1) | exact HB.out))) : w.heap.size ≤ gb117)); have n3_ := Aside0.mk ((by rw [hg]; exact (below_size (by repeat (first | (with_reducible first | exact HB.out | apply below_alloc | apply pw_below_drewN | apply below_drew1) | exact HB.out))) : w.heap.size ≤ gb117)); clear HB; have HB := n0_; have BK117 := n1_; have GW117 := n2_; have GE117 := n3_; clear n0_ n1_ n2_ n3_; clear hb hbox hg) | ((with_reducible refine gate_dst (N := 3) rfl ?_); refine box_event ?hg (N := 3) ?hd (cs := #[.string a1_0, .int .i64 a1_1]) (t := 24) ?hr ?_; (case hd => rfl); (case hg => rfl); (case hr => first | (go_simp; done) | (go_simp; rfl)); intro gb118 hg w5 hbox hb; have n0_ := Aside0.mk (blk_below (g := gb117) (o := .cells #[.string a0_0, .int .i64 a0_1] 24 (0, 0)) (by (with_reducible repeat (first | refine blk_drewN ?_ _ | refine blk_drew ?_ | refine blk_alloc ?_ _)); exact BK117.out) hb); have n1_ := Aside0.mk (below_step (by repeat (first | (with_reducible first | exact HB.out | apply below_alloc | apply pw_below_drewN | apply below_drew1 | refine below_set ?_ GE117.out) | exact HB.out)) hb); have n2_ := Aside0.mk (hbox); have n3_ := Aside0.mk ((by rw [hg]; exact (below_size (by repeat (first | (with_reducible first | exact HB.out | apply below_alloc | apply pw_below_drewN | apply below_drew1 | refine below_set ?_ GE117.out) | exact HB.out))) : w.heap.size ≤ gb118)); have n4_ := Aside0.mk ((by rw [hg]; exact (below_size (by repeat (first | (with_reducible first | exact HB.out | apply below_alloc | apply pw_below_drewN | apply below_drew1 | refine below_set ?_ GE117.out) | exact HB.out))) : w.heap.size ≤ gb118)); have n5_ := Aside0.mk ((by rw [hg]; exact Nat.ne_of_lt (blk_lt (g := gb117) (o := .cells #[.string a0_0, .int .i64 a0_1] 24 (0, 0)) (by (with_reducible repeat (first | refine blk_drewN ?_ _ | refine blk_drew ?_ | refine blk_alloc ?_ _)); exact BK117.out)) : gb117 ≠ gb118)); have n6_ := Aside0.mk ((by rw [hg]; exact Nat.ne_of_gt (blk_lt (g := gb117) (o := .cells #[.string a0_0, .int .i64 a0_1] 24 (0, 0)) (by (with_reducible repeat (first | refine blk_drewN ?_ _ | refine blk_drew ?_ | refine blk_alloc ?_ _)); exact BK117.out)) : gb118 ≠ gb117)); clear BK117; clear HB; have BK117 := n0_; have HB := n1_; have BK118 := n2_; have GW118 := n3_; have GE118 := n4_; have NB117_118 := n5_; have NB118_117 := n6_; clear n0_ n1_ n2_ n3_ n4_ n5_ n6_; clear hb hbox hg; have hnb6 := NB117_118.out; have hnc6 := NB118_117.out; have hcz7_0 : w5.cell? ⟨gb117, 0, none⟩ = some (.string a0_0) := (blk_cell BK117.out 0).trans rfl; have hcz7_1 : w5.cell? ⟨gb117, 1, none⟩ = some (.int .i64 a0_1) := (blk_cell BK117.out 1).trans rfl; have hfz7_0 := blk_frozen BK117.out 0; have hfz7_1 := blk_frozen BK117.out 1; have hcz8_0 : w5.cell? ⟨gb118, 0, none⟩ = some (.string a1_0) := (blk_cell BK118.out 0).trans rfl; have hcz8_1 : w5.cell? ⟨gb118, 1, none⟩ = some (.int .i64 a1_1) := (blk_cell BK118.out 1).trans rfl; have hfz8_0 := blk_frozen BK118.out 0; have hfz8_1 := blk_frozen BK118.out 1))
    go_ret
    exact ⟨by first | rfl | (simp [errW_none, errW_some] <;> rfl) | (simp [*, errW_none, errW_some] <;> rfl), by repeat (first | (with_reducible first | exact HB.out | apply below_alloc | apply pw_below_drewN | apply below_drew1 | refine below_set ?_ GE117.out | refine below_set ?_ GE118.out) | exact HB.out)⟩
  · rw [if_neg c3] at H
    have c3b0 : (Op.bytesLess a0_0.toList a1_0.toList) = false := by simpa using c3
    clear c3
    by_cases c9 : a0_0.toList = a1_0.toList
    · rw [if_pos c9] at H
      have c9b0 : (a0_0.toList == a1_0.toList) = true := beq_iff_eq.mpr c9
      have c9b1 : (a0_0.toList != a1_0.toList) = false := bne_eq_false_iff_eq.mpr c9
      clear c9
      obtain rfl := Option.some.inj H
      go_enter Try.func47, Try.ntmps47
      go_wp2_with (first | ((with_reducible refine gate_dst (N := 2) rfl ?_); refine box_event ?hg (N := 2) ?hd (cs := #[.string a0_0, .int .i64 a0_1]) (t := 24) ?hr ?_; (case hd => rfl); (case hg => rfl); (case hr => first | (go_simp; done) | (go_simp; rfl)); intro gb117 hg w10 hbox hb; have n0_ := Aside0.mk (below_step (by repeat (first | (with_reducible first | exact HB.out | apply below_alloc | apply pw_below_drewN | apply below_drew1) | exact HB.out)) hb); have n1_ := Aside0.mk (hbox); have n2_ := Aside0.mk ((by rw [hg]; exact (below_size (by repeat (first | (with_reducible first | exact HB.out | apply below_alloc | apply pw_below_drewN | apply below_drew1) | exact HB.out))) : w.heap.size ≤ gb117)); have n3_ := Aside0.mk ((by rw [hg]; exact (below_size (by repeat (first | (with_reducible first | exact HB.out | apply below_alloc | apply pw_below_drewN | apply below_drew1) | exact HB.out))) : w.heap.size ≤ gb117)); clear HB; have HB := n0_; have BK117 := n1_; have GW117 := n2_; have GE117 := n3_; clear n0_ n1_ n2_ n3_; clear hb hbox hg) | ((with_reducible refine gate_dst (N := 3) rfl ?_); refine box_event ?hg (N := 3) ?hd (cs := #[.string a1_0, .int .i64 a1_1]) (t := 24) ?hr ?_; (case hd => rfl); (case hg => rfl); (case hr => first | (go_simp; done) | (go_simp; rfl)); intro gb118 hg w11 hbox hb; have n0_ := Aside0.mk (blk_below (g := gb117) (o := .cells #[.string a0_0, .int .i64 a0_1] 24 (0, 0)) (by (with_reducible repeat (first | refine blk_drewN ?_ _ | refine blk_drew ?_ | refine blk_alloc ?_ _)); exact BK117.out) hb); have n1_ := Aside0.mk (below_step (by repeat (first | (with_reducible first | exact HB.out | apply below_alloc | apply pw_below_drewN | apply below_drew1 | refine below_set ?_ GE117.out) | exact HB.out)) hb); have n2_ := Aside0.mk (hbox); have n3_ := Aside0.mk ((by rw [hg]; exact (below_size (by repeat (first | (with_reducible first | exact HB.out | apply below_alloc | apply pw_below_drewN | apply below_drew1 | refine below_set ?_ GE117.out) | exact HB.out))) : w.heap.size ≤ gb118)); have n4_ := Aside0.mk ((by rw [hg]; exact (below_size (by repeat (first | (with_reducible first | exact HB.out | apply below_alloc | apply pw_below_drewN | apply below_drew1 | refine below_set ?_ GE117.out) | exact HB.out))) : w.heap.size ≤ gb118)); have n5_ := Aside0.mk ((by rw [hg]; exact Nat.ne_of_lt (blk_lt (g := gb117) (o := .cells #[.string a0_0, .int .i64 a0_1] 24 (0, 0)) (by (with_reducible repeat (first | refine blk_drewN ?_ _ | refine blk_drew ?_ | refine blk_alloc ?_ _)); exact BK117.out)) : gb117 ≠ gb118)); have n6_ := Aside0.mk ((by rw [hg]; exact Nat.ne_of_gt (blk_lt (g := gb117) (o := .cells #[.string a0_0, .int .i64 a0_1] 24 (0, 0)) (by (with_reducible repeat (first | refine blk_drewN ?_ _ | refine blk_drew ?_ | refine blk_alloc ?_ _)); exact BK117.out)) : gb118 ≠ gb117)); clear BK117; clear HB; have BK117 := n0_; have HB := n1_; have BK118 := n2_; have GW118 := n3_; have GE118 := n4_; have NB117_118 := n5_; have NB118_117 := n6_; clear n0_ n1_ n2_ n3_ n4_ n5_ n6_; clear hb hbox hg; have hnb12 := NB117_118.out; have hnc12 := NB118_117.out; have hcz13_0 : w11.cell? ⟨gb117, 0, none⟩ = some (.string a0_0) := (blk_cell BK117.out 0).trans rfl; have hcz13_1 : w11.cell? ⟨gb117, 1, none⟩ = some (.int .i64 a0_1) := (blk_cell BK117.out 1).trans rfl; have hfz13_0 := blk_frozen BK117.out 0; have hfz13_1 := blk_frozen BK117.out 1; have hcz14_0 : w11.cell? ⟨gb118, 0, none⟩ = some (.string a1_0) := (blk_cell BK118.out 0).trans rfl; have hcz14_1 : w11.cell? ⟨gb118, 1, none⟩ = some (.int .i64 a1_1) := (blk_cell BK118.out 1).trans rfl; have hfz14_0 := blk_frozen BK118.out 0; have hfz14_1 := blk_frozen BK118.out 1))
      go_ret
      exact ⟨by first | rfl | (simp [errW_none, errW_some] <;> rfl) | (simp [*, errW_none, errW_some] <;> rfl), by repeat (first | (with_reducible first | exact HB.out | apply below_alloc | apply pw_below_drewN | apply below_drew1 | refine below_set ?_ GE117.out | refine below_set ?_ GE118.out) | exact HB.out)⟩
    · rw [if_neg c9] at H
      have c9b0 : (a0_0.toList == a1_0.toList) = false := beq_eq_false_iff_ne.mpr c9
      have c9b1 : (a0_0.toList != a1_0.toList) = true := bne_iff_ne.mpr c9
      obtain rfl := Option.some.inj H
      go_enter Try.func47, Try.ntmps47
      go_wp2_with (first | ((with_reducible refine gate_dst (N := 2) rfl ?_); refine box_event ?hg (N := 2) ?hd (cs := #[.string a0_0, .int .i64 a0_1]) (t := 24) ?hr ?_; (case hd => rfl); (case hg => rfl); (case hr => first | (go_simp; done) | (go_simp; rfl)); intro gb117 hg w15 hbox hb; have n0_ := Aside0.mk (below_step (by repeat (first | (with_reducible first | exact HB.out | apply below_alloc | apply pw_below_drewN | apply below_drew1) | exact HB.out)) hb); have n1_ := Aside0.mk (hbox); have n2_ := Aside0.mk ((by rw [hg]; exact (below_size (by repeat (first | (with_reducible first | exact HB.out | apply below_alloc | apply pw_below_drewN | apply below_drew1) | exact HB.out))) : w.heap.size ≤ gb117)); have n3_ := Aside0.mk ((by rw [hg]; exact (below_size (by repeat (first | (with_reducible first | exact HB.out | apply below_alloc | apply pw_below_drewN | apply below_drew1) | exact HB.out))) : w.heap.size ≤ gb117)); clear HB; have HB := n0_; have BK117 := n1_; have GW117 := n2_; have GE117 := n3_; clear n0_ n1_ n2_ n3_; clear hb hbox hg) | ((with_reducible refine gate_dst (N := 3) rfl ?_); refine box_event ?hg (N := 3) ?hd (cs := #[.string a1_0, .int .i64 a1_1]) (t := 24) ?hr ?_; (case hd => rfl); (case hg => rfl); (case hr => first | (go_simp; done) | (go_simp; rfl)); intro gb118 hg w16 hbox hb; have n0_ := Aside0.mk (blk_below (g := gb117) (o := .cells #[.string a0_0, .int .i64 a0_1] 24 (0, 0)) (by (with_reducible repeat (first | refine blk_drewN ?_ _ | refine blk_drew ?_ | refine blk_alloc ?_ _)); exact BK117.out) hb); have n1_ := Aside0.mk (below_step (by repeat (first | (with_reducible first | exact HB.out | apply below_alloc | apply pw_below_drewN | apply below_drew1 | refine below_set ?_ GE117.out) | exact HB.out)) hb); have n2_ := Aside0.mk (hbox); have n3_ := Aside0.mk ((by rw [hg]; exact (below_size (by repeat (first | (with_reducible first | exact HB.out | apply below_alloc | apply pw_below_drewN | apply below_drew1 | refine below_set ?_ GE117.out) | exact HB.out))) : w.heap.size ≤ gb118)); have n4_ := Aside0.mk ((by rw [hg]; exact (below_size (by repeat (first | (with_reducible first | exact HB.out | apply below_alloc | apply pw_below_drewN | apply below_drew1 | refine below_set ?_ GE117.out) | exact HB.out))) : w.heap.size ≤ gb118)); have n5_ := Aside0.mk ((by rw [hg]; exact Nat.ne_of_lt (blk_lt (g := gb117) (o := .cells #[.string a0_0, .int .i64 a0_1] 24 (0, 0)) (by (with_reducible repeat (first | refine blk_drewN ?_ _ | refine blk_drew ?_ | refine blk_alloc ?_ _)); exact BK117.out)) : gb117 ≠ gb118)); have n6_ := Aside0.mk ((by rw [hg]; exact Nat.ne_of_gt (blk_lt (g := gb117) (o := .cells #[.string a0_0, .int .i64 a0_1] 24 (0, 0)) (by (with_reducible repeat (first | refine blk_drewN ?_ _ | refine blk_drew ?_ | refine blk_alloc ?_ _)); exact BK117.out)) : gb118 ≠ gb117)); clear BK117; clear HB; have BK117 := n0_; have HB := n1_; have BK118 := n2_; have GW118 := n3_; have GE118 := n4_; have NB117_118 := n5_; have NB118_117 := n6_; clear n0_ n1_ n2_ n3_ n4_ n5_ n6_; clear hb hbox hg; have hnb17 := NB117_118.out; have hnc17 := NB118_117.out; have hcz18_0 : w16.cell? ⟨gb117, 0, none⟩ = some (.string a0_0) := (blk_cell BK117.out 0).trans rfl; have hcz18_1 : w16.cell? ⟨gb117, 1, none⟩ = some (.int .i64 a0_1) := (blk_cell BK117.out 1).trans rfl; have hfz18_0 := blk_frozen BK117.out 0; have hfz18_1 := blk_frozen BK117.out 1; have hcz19_0 : w16.cell? ⟨gb118, 0, none⟩ = some (.string a1_0) := (blk_cell BK118.out 0).trans rfl; have hcz19_1 : w16.cell? ⟨gb118, 1, none⟩ = some (.int .i64 a1_1) := (blk_cell BK118.out 1).trans rfl; have hfz19_0 := blk_frozen BK118.out 0; have hfz19_1 := blk_frozen BK118.out 1))
      go_ret
      exact ⟨by first | rfl | (simp [errW_none, errW_some] <;> rfl) | (simp [*, errW_none, errW_some] <;> rfl), by repeat (first | (with_reducible first | exact HB.out | apply below_alloc | apply pw_below_drewN | apply below_drew1 | refine below_set ?_ GE117.out | refine below_set ?_ GE118.out) | exact HB.out)⟩

end Go.Proofs.Ytoiohlmiofplcaa.P
-- Written by a program of this session (xprint.py) over the kit's print.py.
namespace Go.Proofs.Ytoiohlmiofplcaa.P
open Go.RowKit Go.Proofs.YtoiohlmiofplcaaW.PrintWords Go.Proofs.YtoiohlmiofplcaaW.PrintLast Go.Proofs.YtoiohlmiofplcaaW.PrintMore
attribute [local go_sem] max2_int min2_int max_two min_two max_three min_three max_four min_four   -- for this text's walks alone
set_option linter.unusedVariables false
set_option linter.unusedSimpArgs false

attribute [local go_sem high] eqA24
/-! ### sextonref09_Find: function 16 -/
end Go.Proofs.Ytoiohlmiofplcaa.P
