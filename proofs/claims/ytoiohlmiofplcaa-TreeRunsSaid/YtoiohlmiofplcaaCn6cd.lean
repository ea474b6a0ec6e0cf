/-
  Texts that the claims of this chapter share, joined.
-/
import Derived.BigQuiet
import Derived.Deep.QuietTactic
import Derived.Test.YtoiohlmiofplcaaCn6cc
import Derived.Test.YtoiohlmiofplcaaCn6cb
import Derived.WalkKit
import Derived.ProofKit
import Derived.OpenShut
import Derived.ShutString
import Derived.ChangeOld
import Derived.Below
import Derived.SizedLaws
import Derived.ChangeArms
import Derived.Test.YtoiohlmiofplcaaWWords
set_option linter.unusedVariables false
set_option linter.unusedSimpArgs false
/-
  (*Tree).All, Get, Depth; do (chapter 10).
-/
namespace Go.Proofs.Ytoiohlmiofplcaa.P
open Go.RowKit Go.Shelf Go.Proofs.YtoiohlmiofplcaaW.PrintWords Go.Proofs.YtoiohlmiofplcaaW.PrintLast Go.Proofs.YtoiohlmiofplcaaW.PrintMore Go.Proofs.Plain
attribute [local go_sem] as71_71 as84_71 as71_84 as84_84

theorem from_all {h : Nat} {t : T h} (hR : Root h t) (hne : ¬ (ND.flatT h t).length = 0) : fromV (ND.flatT h t) (firstT h t) (((ND.flatT h t).length : Nat) : Int) = ND.flatT h t := by
  have hNE : NE h t := by
    rcases root_ne hR with h0 | hn
    · subst h0
      show 0 < List.length (α := S26) t
      have : ¬ List.length (α := S26) t = 0 := hne
      omega
    · exact hn
  obtain ⟨x, r, e, e2⟩ := ND.first_flat hNE
  rw [e2, e]
  unfold fromV ND.fromL
  rw [List.dropWhile_cons, if_neg (by rw [ND.lt_irrefl]; decide)]
  exact List.take_of_length_le (by omega)
set_option maxHeartbeats 8000000 in
theorem tree_all_calls (l : List S26) (v : Value) (w : World) (hr : TreeOf w l v) (hl : l.length ≤ 10000) :
    Calls Try.prog 38 #[v] w fun e w' => ∃ v', e = .returned v' ∧ Kd.R k26 26 w' w.heap.size (fun _ => True) v' l ∧ Below w.heap.size w w' := by
  have HLen := Aside0.mk (fun W (hW : Below w.heap.size w W) => len_calls l v W (hr.below hW))
  by_cases h0 : l.length = 0
  · rw [h0] at HLen
    obtain rfl : l = [] := List.eq_nil_of_length_eq_zero h0
    replace HLen : Aside0 (∀ W, Below w.heap.size w W → Calls Try.prog 36 #[v] W fun e w' => e = .returned (.int .i64 0) ∧ Below W.heap.size W w') := HLen
    clear hr hl h0
    go_enter Try.func38, Try.ntmps38
    go_wp2_with (first | (go_at_call 36; (with_reducible refine (HLen.out _ (Below.refl _ _)).mono ?_); rintro e w3 ⟨rfl, hb3⟩; have HB3 := Aside0.mk hb3; clear hb3))
    go_ret
    exact ⟨_, rfl, Kd.R_nil _ _ _ _ _, HB3.out⟩
  · have HFr := Aside0.mk (fun W (hW : Below w.heap.size w W) k n => tree_from_calls l v k n W (hr.below hW) hl)
    obtain ⟨h, t, hT, hR, rfl⟩ := hr
    have hfa := from_all hR h0
    have HTop := Aside0.mk (fun W (hW : Below w.heap.size w W) => top_at h t v w hT W hW)
    have hNE : NE h t := by
      rcases root_ne hR with h0' | hn
      · subst h0'
        show 0 < List.length (α := S26) t
        have : ¬ List.length (α := S26) t = 0 := h0
        omega
      · exact hn
    have HFi := Aside0.mk (fun u W (hu : RepU w h t u) (hW : Below w.heap.size w W) => first_calls h t u W hNE (RepU.below hW h t u hu))
    generalize firstT h t = k at *
    have HFr := Aside0.mk (fun W (hW : Below w.heap.size w W) => HFr.out W hW k (((ND.flatT h t).length : Nat) : Int))
    rw [hfa] at HFr
    have hd : ¬ (((ND.flatT h t).length : Nat) : Int) = 0 := by omega
    clear hT hR hfa hNE h0 hl
    generalize hLL : (ND.flatT h t).length = L at *
    clear hLL
    generalize ND.flatT h t = l at *
    cases h with
    | zero =>
      replace HTop : Aside0 (∀ W, Below w.heap.size w W → Calls Try.prog 50 #[v] W fun e w' => ∃ u, e = .returned (.iface 71 u) ∧ RepU w _ t u ∧ Below W.heap.size W w') := HTop
      replace HFi : Aside0 (∀ u W, RepU w _ t u → Below w.heap.size w W → Calls Try.prog 77 #[u] W fun e w' => e = .returned (.agg #[.string k.f0, .int .i64 k.f1]) ∧ Below W.heap.size W w') := HFi
      go_enter Try.func38, Try.ntmps38
      go_wp2_with (first | (go_at_call 36; (with_reducible refine (HLen.out _ (Below.refl _ _)).mono ?_); rintro e w3 ⟨rfl, hb3⟩; have HB3 := Aside0.mk hb3; clear hb3; go_wp2_with (first | (go_at_call 50; (with_reducible refine (HTop.out _ HB3.out).mono ?_); rintro e w4 ⟨u4, rfl, hu4, hb4⟩; have HB4 := Aside0.mk (HB3.out.trans (hb4.mono HB3.out.size)); have HU4 := Aside0.mk hu4; clear hb4 hu4) | (go_at_call 77; (with_reducible refine (HFi.out u4 _ HU4.out HB4.out).mono ?_); rintro e w5 ⟨rfl, hb5⟩; have HB5 := Aside0.mk (HB4.out.trans (hb5.mono HB4.out.size)); clear hb5; go_wp2_with (first | (go_at_call 36; (with_reducible refine (HLen.out _ HB5.out).mono ?_); rintro e w6 ⟨rfl, hb6⟩; have HB6 := Aside0.mk (HB5.out.trans (hb6.mono HB5.out.size)); clear hb6) | (go_at_call 39; (with_reducible refine (HFr.out _ HB6.out).mono ?_); rintro e w7 ⟨v7, rfl, ho7, hb7⟩; have HB7 := Aside0.mk (HB6.out.trans (hb7.mono HB6.out.size)); have HO7 := Aside0.mk (Kd.R_lower ho7 HB6.out.size); clear hb7 ho7))))))
      go_ret
      exact ⟨_, rfl, HO7.out, HB7.out⟩
    | succ h =>
      replace HTop : Aside0 (∀ W, Below w.heap.size w W → Calls Try.prog 50 #[v] W fun e w' => ∃ u, e = .returned (.iface 84 u) ∧ RepU w _ t u ∧ Below W.heap.size W w') := HTop
      replace HFi : Aside0 (∀ u W, RepU w _ t u → Below w.heap.size w W → Calls Try.prog 84 #[u] W fun e w' => e = .returned (.agg #[.string k.f0, .int .i64 k.f1]) ∧ Below W.heap.size W w') := HFi
      go_enter Try.func38, Try.ntmps38
      go_wp2_with (first | (go_at_call 36; (with_reducible refine (HLen.out _ (Below.refl _ _)).mono ?_); rintro e w3 ⟨rfl, hb3⟩; have HB3 := Aside0.mk hb3; clear hb3; go_wp2_with (first | (go_at_call 50; (with_reducible refine (HTop.out _ HB3.out).mono ?_); rintro e w4 ⟨u4, rfl, hu4, hb4⟩; have HB4 := Aside0.mk (HB3.out.trans (hb4.mono HB3.out.size)); have HU4 := Aside0.mk hu4; clear hb4 hu4) | (go_at_call 84; (with_reducible refine (HFi.out u4 _ HU4.out HB4.out).mono ?_); rintro e w5 ⟨rfl, hb5⟩; have HB5 := Aside0.mk (HB4.out.trans (hb5.mono HB4.out.size)); clear hb5; go_wp2_with (first | (go_at_call 36; (with_reducible refine (HLen.out _ HB5.out).mono ?_); rintro e w6 ⟨rfl, hb6⟩; have HB6 := Aside0.mk (HB5.out.trans (hb6.mono HB5.out.size)); clear hb6) | (go_at_call 39; (with_reducible refine (HFr.out _ HB6.out).mono ?_); rintro e w7 ⟨v7, rfl, ho7, hb7⟩; have HB7 := Aside0.mk (HB6.out.trans (hb7.mono HB6.out.size)); have HO7 := Aside0.mk (Kd.R_lower ho7 HB6.out.size); clear hb7 ho7))))))
      go_ret
      exact ⟨_, rfl, HO7.out, HB7.out⟩

/-- What Get answers. -/
def getV (l : List S26) (k : S24) : ByteArray × Bool := match fromV l k 1 with
  | [] => (⟨#[]⟩, false)
  | x :: _ => if x.f0.f0.toList = k.f0.toList ∧ x.f0.f1 = k.f1 then (x.f1, true) else (⟨#[]⟩, false)
set_option maxHeartbeats 8000000 in
theorem tree_get_calls (l : List S26) (v : Value) (k : S24) (w : World) (hr : TreeOf w l v) (hl : l.length ≤ 10000) :
    Calls Try.prog 34 #[v, .agg #[.string k.f0, .int .i64 k.f1]] w fun e w' => e = .returned (.tuple #[.string (getV l k).1, .bool (getV l k).2]) ∧ Below w.heap.size w w' := by
  have hb0 := (Below.refl w.heap.size w).alloc (Nat.le_refl _) (.cells #[.string k.f0, .int .i64 k.f1] 24)
  have HB := Aside0.mk hb0
  have hg := blk_new w (.cells #[.string k.f0, .int .i64 k.f1] 24)
  have HFr := Aside0.mk (tree_from_calls l v k 1 (w.alloc (.cells #[.string k.f0, .int .i64 k.f1] 24)) (hr.below hb0) hl)
  have HG := Aside0.mk hg
  have hlen : (fromV l k 1).length ≤ 1 := by unfold fromV; rw [List.length_take]; omega
  have hgv : ∃ g1 g2, getV l k = (g1, g2) := ⟨_, _, rfl⟩
  obtain ⟨g1, g2, hgv⟩ := hgv
  rw [hgv]
  show Calls _ _ _ _ fun e w' => e = .returned (.tuple #[.string g1, .bool g2]) ∧ _
  unfold getV at hgv
  generalize fromV l k 1 = res at *
  clear hr hl hb0 hg
  cases res with
  | nil =>
    obtain ⟨rfl, rfl⟩ := Prod.mk.inj hgv
    clear hgv
    go_enter Try.func34, Try.ntmps34
    go_wp2_with (first | (go_at_call 39; (with_reducible refine HFr.out.mono ?_); rintro e w3 ⟨v3, rfl, ho3, hb3⟩; have HB3 := Aside0.mk (HB.out.trans (hb3.mono HB.out.size)); obtain ⟨A3, c3, rfl⟩ := Kd.R_slice ho3; have HO3 := Aside0.mk ho3; clear ho3 hb3))
    go_quiet (fail)
    go_wp2
    go_ret2
    exact ⟨rfl, pw_below_drewN HB3.out _⟩
  | cons x tl =>
    obtain rfl : tl = [] := by
      cases tl with
      | nil => rfl
      | cons y z => simp at hlen
    by_cases hk : x.f0.f0.toList = k.f0.toList ∧ x.f0.f1 = k.f1
    · rw [show (match [x] with | [] => ((⟨#[]⟩ : ByteArray), false) | x :: _ => if x.f0.f0.toList = k.f0.toList ∧ x.f0.f1 = k.f1 then (x.f1, true) else ((⟨#[]⟩ : ByteArray), false)) = if x.f0.f0.toList = k.f0.toList ∧ x.f0.f1 = k.f1 then (x.f1, true) else ((⟨#[]⟩ : ByteArray), false) from rfl, if_pos hk] at hgv
      obtain ⟨rfl, rfl⟩ := Prod.mk.inj hgv
      have heq : ∀ W, Sem.run Try.prog (binOp .neq 24 (.agg #[.string x.f0.f0, .int .i64 x.f0.f1]) (.agg #[.string k.f0, .int .i64 k.f1])) W = .ok (.bool false) W := fun W => by
        go_simp
        try simp [hk.1, hk.2]
      clear hgv hk
      go_enter Try.func34, Try.ntmps34
      go_wp2_with (first | (go_at_call 39; (with_reducible refine HFr.out.mono ?_); rintro e w3 ⟨v3, rfl, ho3, hb3⟩; have HB3 := Aside0.mk (HB.out.trans (hb3.mono HB.out.size)); obtain ⟨A3, c3, rfl⟩ := Kd.R_slice ho3; have HO3 := Aside0.mk ho3; have hk3 := blk_below HG.out hb3; have y0 := blk_cell hk3 0; have y1 := blk_cell hk3 1; simp only [List.getElem?_toArray, List.getElem?_cons_zero, List.getElem?_cons_succ] at y0 y1; clear ho3 hb3 hk3))
      obtain ⟨ad, hA3, hx0, hx1, hx2⟩ := at_T26 (Kd.R_reads' HO3.out).2.2 0 (by omega) (by simp)
      rw [show rd_T26 [x] 0 = x from rfl, show ((0 : Int)).toNat * 3 = 0 from rfl, Addr.add_zero'] at hx0 hx1 hx2
      subst hA3
      go_quiet (fail)
      go_wp2
      go_ret2
      exact ⟨rfl, pw_below_drewN HB3.out _⟩
    · rw [show (match [x] with | [] => ((⟨#[]⟩ : ByteArray), false) | x :: _ => if x.f0.f0.toList = k.f0.toList ∧ x.f0.f1 = k.f1 then (x.f1, true) else ((⟨#[]⟩ : ByteArray), false)) = if x.f0.f0.toList = k.f0.toList ∧ x.f0.f1 = k.f1 then (x.f1, true) else ((⟨#[]⟩ : ByteArray), false) from rfl, if_neg hk] at hgv
      obtain ⟨rfl, rfl⟩ := Prod.mk.inj hgv
      have heq : ∀ W, Sem.run Try.prog (binOp .neq 24 (.agg #[.string x.f0.f0, .int .i64 x.f0.f1]) (.agg #[.string k.f0, .int .i64 k.f1])) W = .ok (.bool true) W := fun W => by
        go_simp
        by_cases e1 : x.f0.f0.toList = k.f0.toList <;> by_cases e2 : x.f0.f1 = k.f1 <;> simp [e1, e2]
        exact absurd ⟨e1, e2⟩ hk
      clear hgv hk
      go_enter Try.func34, Try.ntmps34
      go_wp2_with (first | (go_at_call 39; (with_reducible refine HFr.out.mono ?_); rintro e w3 ⟨v3, rfl, ho3, hb3⟩; have HB3 := Aside0.mk (HB.out.trans (hb3.mono HB.out.size)); obtain ⟨A3, c3, rfl⟩ := Kd.R_slice ho3; have HO3 := Aside0.mk ho3; have hk3 := blk_below HG.out hb3; have y0 := blk_cell hk3 0; have y1 := blk_cell hk3 1; simp only [List.getElem?_toArray, List.getElem?_cons_zero, List.getElem?_cons_succ] at y0 y1; clear ho3 hb3 hk3))
      obtain ⟨ad, hA3, hx0, hx1, hx2⟩ := at_T26 (Kd.R_reads' HO3.out).2.2 0 (by omega) (by simp)
      rw [show rd_T26 [x] 0 = x from rfl, show ((0 : Int)).toNat * 3 = 0 from rfl, Addr.add_zero'] at hx0 hx1 hx2
      subst hA3
      go_quiet (fail)
      go_wp2
      go_ret2
      exact ⟨rfl, pw_below_drewN HB3.out _⟩
end Go.Proofs.Ytoiohlmiofplcaa.P
/-
  (*Tree).Depth of no pairs; do (chapter 10).
-/
namespace Go.Proofs.Ytoiohlmiofplcaa.P
open Go.RowKit Go.Shelf Go.Proofs.YtoiohlmiofplcaaW.PrintWords Go.Proofs.YtoiohlmiofplcaaW.PrintLast Go.Proofs.YtoiohlmiofplcaaW.PrintMore Go.Proofs.Plain
attribute [local go_sem] as71_71 as84_71 as71_84 as84_84

set_option maxHeartbeats 4000000 in
theorem tree_depth_calls (v : Value) (w : World) (hr : TreeOf w [] v) : Calls Try.prog 43 #[v] w fun e w' => e = .returned (.int .i64 1) ∧ Below w.heap.size w w' := by
  obtain ⟨h, t, hT, hR, hf⟩ := hr
  obtain rfl : h = 0 := by
    rcases root_ne hR with h0 | hn
    · exact h0
    · obtain ⟨x, r, e, _⟩ := ND.first_flat hn
      rw [hf] at e
      cases e
  have HTop := Aside0.mk (top_at 0 t v w hT w (Below.refl _ _))
  replace HTop : Aside0 (Calls Try.prog 50 #[v] w fun e w' => ∃ u, e = .returned (.iface 71 u) ∧ RepU w 0 t u ∧ Below w.heap.size w w') := HTop
  clear hT hR hf
  go_enter Try.func43, Try.ntmps43
  go_wp2_with (first | (go_at_call 50; (with_reducible refine HTop.out.mono ?_); rintro e w3 ⟨u, rfl, _, hb3⟩; have HB3 := Aside0.mk hb3; clear hb3))
  go_loopw [3, 4] (fun s x wr => s = .int .i64 1 ∧ x = .iface 71 u ∧ Aside0 (Below w.heap.size w wr)) (fun _ _ _ => 0)
  case atStart => exact ⟨rfl, rfl, HB3⟩
  case round =>
    obtain ⟨rfl, rfl, HB⟩ := hrel
    have HB4 := Aside0.mk (HB.out.alloc HB.out.size (.cells #[.slice none 0 0, .int .i64 0] 84))
    go_wp2
    go_ret
    exact ⟨rfl, HB4.out⟩
/-- Pairs behind a step. -/
def doL (l : List S26) (kind : Int) (p : S26) : List S26 := if kind = 1 then ND.putL l p else if kind = 2 then ND.dropL l p.f0 else l
set_option maxHeartbeats 4000000 in
theorem do_calls (l : List S26) (v : Value) (kind : Int) (p : S26) (w : World) (hr : TreeOf w l v) (hl : l.length ≤ 10000) :
    Calls Try.prog 32 #[v, .agg #[.int .i64 kind, .string p.f0.f0, .int .i64 p.f0.f1, .string p.f1]] w fun e w' => ∃ v', e = .returned v' ∧ TreeOf w' (doL l kind p) v' ∧ Below w.heap.size w w' := by
  have hb0 := (Below.refl w.heap.size w).alloc (Nat.le_refl _) (.cells #[.int .i64 kind, .string p.f0.f0, .int .i64 p.f0.f1, .string p.f1] 51)
  have HB := Aside0.mk hb0
  have HP := Aside0.mk (tree_put_calls l v p _ (hr.below hb0) hl)
  have HD := Aside0.mk (tree_drop_calls l v p.f0 _ (hr.below hb0) hl)
  have HT := Aside0.mk (hr.below hb0)
  unfold doL
  clear hr hl hb0
  by_cases h1 : kind = 1
  · rw [if_pos h1]
    subst h1
    go_enter Try.func32, Try.ntmps32
    go_wp2_with (first | (go_at_call 41; (with_reducible refine HP.out.mono ?_); rintro e w3 ⟨v3, rfl, ht3, hb3⟩; have HB3 := Aside0.mk (HB.out.trans (hb3.mono HB.out.size)); have HT3 := Aside0.mk ht3; clear hb3 ht3))
    go_ret
    exact ⟨_, rfl, HT3.out, HB3.out⟩
  · rw [if_neg h1]
    by_cases h2 : kind = 2
    · rw [if_pos h2]
      subst h2
      go_enter Try.func32, Try.ntmps32
      go_wp2_with (first | (go_at_call 42; (with_reducible refine HD.out.mono ?_); rintro e w3 ⟨v3, rfl, ht3, hb3⟩; have HB3 := Aside0.mk (HB.out.trans (hb3.mono HB.out.size)); have HT3 := Aside0.mk ht3; clear hb3 ht3))
      go_ret
      exact ⟨_, rfl, HT3.out, HB3.out⟩
    · rw [if_neg h2]
      go_enter Try.func32, Try.ntmps32
      go_wp2
      go_ret
      exact ⟨_, rfl, HT.out, HB.out⟩
end Go.Proofs.Ytoiohlmiofplcaa.P
/-
  The document's rows of chapter 10: what the tree's calls answer.
-/
namespace Go.Proofs.Ytoiohlmiofplcaa.P
open Go.RowKit Go.Proofs.YtoiohlmiofplcaaW.PrintWords Go.Proofs.YtoiohlmiofplcaaW.PrintLast Go.Proofs.Plain
def gB : S26 := ⟨⟨⟨#[98]⟩, 1⟩, ⟨#[120]⟩⟩
def gA : S26 := ⟨⟨⟨#[97]⟩, 2⟩, ⟨#[121]⟩⟩
theorem g1 : ND.putL [] gB = [gB] := by kernel_rfl
theorem g2 : ND.putL [gB] gA = [gA, gB] := by kernel_rfl
theorem g3 : ND.dropL [gA, gB] gA.f0 = [gB] := by kernel_rfl
theorem g4 : getV [gA, gB] gA.f0 = (⟨#[121]⟩, true) := by decide +kernel
theorem g5 : getV [gB] gA.f0 = (⟨#[]⟩, false) := by decide +kernel
theorem g6 : fromV [gA, gB] ⟨⟨#[97]⟩, 0⟩ 5 = [gB] := by kernel_rfl
end Go.Proofs.Ytoiohlmiofplcaa.P
/-
  sextonlaw10.grown answers true.
-/
namespace Go.Proofs.Ytoiohlmiofplcaa.P
open Go.RowKit Go.Shelf Go.Proofs.YtoiohlmiofplcaaW.PrintWords Go.Proofs.YtoiohlmiofplcaaW.PrintLast Go.Proofs.YtoiohlmiofplcaaW.PrintMore Go.Proofs.Plain

theorem same_yes_calls (l : List S26) (hl : l.length ≤ 100000) (W : World) (A0 : Option Addr) (c0 : Nat) (A1 : Option Addr) (c1 : Nat) (h0 : Kd.C k26 W A0 l.length l) (hc0 : l.length ≤ c0) (h1 : Kd.C k26 W A1 l.length l) (hc1 : l.length ≤ c1) :
    Calls Try.prog 25 #[.slice A0 l.length c0, .slice A1 l.length c1] W fun e w' => e = .returned (.bool true) ∧ Below W.heap.size W w' := by
  refine (sextonref09_Same.calls (l.length + 1) A0 c0 l A1 c1 l true W h0 hc0 h1 hc1 (ND.same_f l hl _ (by omega))).mono ?_
  rintro e w' ⟨rfl, nd, rfl⟩
  exact ⟨rfl, pw_below_drewN (Below.refl _ _) nd⟩
theorem putB (v : Value) (w : World) (h : TreeOf w [] v) : Calls Try.prog 41 #[v, .agg #[.string ⟨#[98]⟩, .int .i64 1, .string ⟨#[120]⟩]] w fun e w' => ∃ v', e = .returned v' ∧ TreeOf w' [gB] v' ∧ Below w.heap.size w w' := by
  have := tree_put_calls [] v gB w h (by decide)
  rw [g1] at this
  exact this
theorem putA (v : Value) (w : World) (h : TreeOf w [gB] v) : Calls Try.prog 41 #[v, .agg #[.string ⟨#[97]⟩, .int .i64 2, .string ⟨#[121]⟩]] w fun e w' => ∃ v', e = .returned v' ∧ TreeOf w' [gA, gB] v' ∧ Below w.heap.size w w' := by
  have := tree_put_calls [gB] v gA w h (by decide)
  rw [g2] at this
  exact this
theorem dropA (v : Value) (w : World) (h : TreeOf w [gA, gB] v) : Calls Try.prog 42 #[v, .agg #[.string ⟨#[97]⟩, .int .i64 2]] w fun e w' => ∃ v', e = .returned v' ∧ TreeOf w' [gB] v' ∧ Below w.heap.size w w' := by
  have := tree_drop_calls [gA, gB] v gA.f0 w h (by decide)
  rw [g3] at this
  exact this
theorem getA (v : Value) (w : World) (h : TreeOf w [gA, gB] v) : Calls Try.prog 34 #[v, .agg #[.string ⟨#[97]⟩, .int .i64 2]] w fun e w' => e = .returned (.tuple #[.string ⟨#[121]⟩, .bool true]) ∧ Below w.heap.size w w' := by
  have := tree_get_calls [gA, gB] v gA.f0 w h (by decide)
  rw [g4] at this
  exact this
theorem getA' (v : Value) (w : World) (h : TreeOf w [gB] v) : Calls Try.prog 34 #[v, .agg #[.string ⟨#[97]⟩, .int .i64 2]] w fun e w' => e = .returned (.tuple #[.string ⟨#[]⟩, .bool false]) ∧ Below w.heap.size w w' := by
  have := tree_get_calls [gB] v gA.f0 w h (by decide)
  rw [g5] at this
  exact this
theorem fromA (v : Value) (w : World) (h : TreeOf w [gA, gB] v) : Calls Try.prog 39 #[v, .agg #[.string ⟨#[97]⟩, .int .i64 0], .int .i64 5] w fun e w' => ∃ v', e = .returned v' ∧ Kd.R k26 26 w' w.heap.size (fun _ => True) v' [gB] ∧ Below w.heap.size w w' := by
  have := tree_from_calls [gA, gB] v ⟨⟨#[97]⟩, 0⟩ 5 w h (by decide)
  rw [g6] at this
  exact this
theorem lenB (v : Value) (w : World) (h : TreeOf w [gB] v) : Calls Try.prog 36 #[v] w fun e w' => e = .returned (.int .i64 1) ∧ Below w.heap.size w w' := len_calls [gB] v w h
theorem lenAB (v : Value) (w : World) (h : TreeOf w [gA, gB] v) : Calls Try.prog 36 #[v] w fun e w' => e = .returned (.int .i64 2) ∧ Below w.heap.size w w' := len_calls [gA, gB] v w h
theorem allAB (v : Value) (w : World) (h : TreeOf w [gA, gB] v) : Calls Try.prog 38 #[v] w fun e w' => ∃ v', e = .returned v' ∧ Kd.R k26 26 w' w.heap.size (fun _ => True) v' [gA, gB] ∧ Below w.heap.size w w' := tree_all_calls [gA, gB] v w h (by decide)
theorem lit_rows {W : World} {g e : Nat} {cs : List Value} {l : List S26} (hg : W.heap[g]? = some (.cells cs.toArray e (0, 0))) (hl : l.length ≤ 1000)
    (hx : ∀ j x, l[j]? = some x → cs[j * 3]? = some (.string x.f0.f0) ∧ cs[j * 3 + 1]? = some (.int .i64 x.f0.f1) ∧ cs[j * 3 + 2]? = some (.string x.f1)) : Kd.C k26 W (some ⟨g, 0, none⟩) l.length l := by
  refine ⟨rfl, by omega, fun _ => ⟨_, rfl, fun j x hj => ?_⟩⟩
  obtain ⟨h0, h1, h2⟩ := hx j x hj
  refine ⟨[.string x.f0.f0, .int .i64 x.f0.f1, .string x.f1], rfl, k26.K_of_M (k26_mkM W 0 (fun _ => True) x), fun i u hu => ?_⟩
  have hc := fun q => blk_cell hg q
  have ha : (⟨g, 0, none⟩ : Addr).add (j * 3 + i) = ⟨g, j * 3 + i, none⟩ := by simp [Addr.add]; omega
  show W.cell? ((⟨g, 0, none⟩ : Addr).add (j * 3 + i)) = _
  rw [ha, hc, List.getElem?_toArray]
  match i, hu with
  | 0, hu => rw [Nat.add_zero, h0]; exact hu
  | 1, hu => rw [h1]; exact hu
  | 2, hu => rw [h2]; exact hu
theorem lit2 {W : World} {g : Nat} (hg : W.heap[g]? = some (.cells #[.string ⟨#[97]⟩, .int .i64 2, .string ⟨#[121]⟩, .string ⟨#[98]⟩, .int .i64 1, .string ⟨#[120]⟩] 26 (0, 0))) : Kd.C k26 W (some ⟨g, 0, none⟩) 2 [gA, gB] :=
  lit_rows hg (by decide) (fun j x hj => by
    match j, hj with
    | 0, hj => cases hj; exact ⟨rfl, rfl, rfl⟩
    | 1, hj => cases hj; exact ⟨rfl, rfl, rfl⟩)
theorem lit1 {W : World} {g : Nat} (hg : W.heap[g]? = some (.cells #[.string ⟨#[98]⟩, .int .i64 1, .string ⟨#[120]⟩] 26 (0, 0))) : Kd.C k26 W (some ⟨g, 0, none⟩) 1 [gB] :=
  lit_rows hg (by decide) (fun j x hj => by
    match j, hj with
    | 0, hj => cases hj; exact ⟨rfl, rfl, rfl⟩)
theorem same2 (W : World) (A0 : Option Addr) (c0 : Nat) (A1 : Option Addr) (h0 : Kd.C k26 W A0 2 [gA, gB]) (hc0 : 2 ≤ c0) (h1 : Kd.C k26 W A1 2 [gA, gB]) : Calls Try.prog 25 #[.slice A0 2 c0, .slice A1 2 2] W fun e w' => e = .returned (.bool true) ∧ Below W.heap.size W w' :=
  same_yes_calls [gA, gB] (by decide) W A0 c0 A1 2 h0 hc0 h1 (Nat.le_refl _)
theorem same1 (W : World) (A0 : Option Addr) (c0 : Nat) (A1 : Option Addr) (h0 : Kd.C k26 W A0 1 [gB]) (hc0 : 1 ≤ c0) (h1 : Kd.C k26 W A1 1 [gB]) : Calls Try.prog 25 #[.slice A0 1 c0, .slice A1 1 1] W fun e w' => e = .returned (.bool true) ∧ Below W.heap.size W w' :=
  same_yes_calls [gB] (by decide) W A0 c0 A1 1 h0 hc0 h1 (Nat.le_refl _)
set_option maxHeartbeats 16000000 in
set_option maxRecDepth 100000 in
theorem grown_calls (w : World) : Calls Try.prog 37 #[] w fun e w' => e = .returned (.bool true) ∧ Below w.heap.size w w' := by
  obtain ⟨w2, hw2⟩ : ∃ w2, w2 = (w.alloc (.cells #[.string ⟨#[98]⟩, .int .i64 1, .string ⟨#[120]⟩] 26)).alloc (.cells #[.string ⟨#[97]⟩, .int .i64 2, .string ⟨#[121]⟩] 26) := ⟨_, rfl⟩
  have hb0 := (Below.refl w.heap.size w).alloc (Nat.le_refl _) (.cells #[.string ⟨#[98]⟩, .int .i64 1, .string ⟨#[120]⟩] 26)
  have HB2 := Aside0.mk (hb0.alloc hb0.size (.cells #[.string ⟨#[97]⟩, .int .i64 2, .string ⟨#[121]⟩] 26))
  have hS0 : w2.cell? ⟨w.heap.size, 0, none⟩ = some (.string ⟨#[98]⟩) ∧ w2.cell? ⟨w.heap.size, 1, none⟩ = some (.int .i64 1) ∧ w2.cell? ⟨w.heap.size, 2, none⟩ = some (.string ⟨#[120]⟩) ∧ w2.cell? ⟨w.heap.size + 1, 0, none⟩ = some (.string ⟨#[97]⟩) ∧ w2.cell? ⟨w.heap.size + 1, 1, none⟩ = some (.int .i64 2) ∧ w2.cell? ⟨w.heap.size + 1, 2, none⟩ = some (.string ⟨#[121]⟩) := by
    have g0 := blk_below (blk_new w (.cells #[.string ⟨#[98]⟩, .int .i64 1, .string ⟨#[120]⟩] 26)) ((Below.refl _ _).alloc (Nat.le_refl _) (.cells #[.string ⟨#[97]⟩, .int .i64 2, .string ⟨#[121]⟩] 26))
    have g1 := blk_new (w.alloc (.cells #[.string ⟨#[98]⟩, .int .i64 1, .string ⟨#[120]⟩] 26)) (.cells #[.string ⟨#[97]⟩, .int .i64 2, .string ⟨#[121]⟩] 26)
    rw [World.size_alloc] at g1
    rw [hw2]
    exact ⟨blk_cell g0 0, blk_cell g0 1, blk_cell g0 2, blk_cell g1 0, blk_cell g1 1, blk_cell g1 2⟩
  have HS2 := Aside0.mk hS0
  rw [← hw2] at HB2
  clear hb0 hS0
  go_enter Try.func37, Try.ntmps37
  go_wp2
  rw [← hw2]
  clear hw2
  have HBc := Aside0.mk (Below.refl w2.heap.size w2)
  go_region_held3 (fun W => W.cell? ⟨w.heap.size, 0, none⟩ = some (.string ⟨#[98]⟩) ∧ W.cell? ⟨w.heap.size, 1, none⟩ = some (.int .i64 1) ∧ W.cell? ⟨w.heap.size, 2, none⟩ = some (.string ⟨#[120]⟩) ∧ W.cell? ⟨w.heap.size + 1, 0, none⟩ = some (.string ⟨#[97]⟩) ∧ W.cell? ⟨w.heap.size + 1, 1, none⟩ = some (.int .i64 2) ∧ W.cell? ⟨w.heap.size + 1, 2, none⟩ = some (.string ⟨#[121]⟩)) (first | exact cells6 (by repeat (first | (with_reducible first | exact HBc.out | apply below_alloc | apply below_drew | apply pw_below_drewN) | exact HBc.out)) HS2.out) (first | (go_at_call 31; (with_reducible refine (new_calls _).mono ?_); rintro e w3 ⟨v3, rfl, ht, hb⟩; have HT3 := Aside0.mk ht; have HB3 := Aside0.mk (below_step (by repeat (first | (with_reducible first | exact HBc.out | apply below_alloc | apply below_drew | apply pw_below_drewN) | exact HBc.out)) hb); clear HBc; have HBc := HB3; clear ht hb) | (go_at_call 41; (with_reducible refine (putB v3 _ HT3.out).mono ?_); rintro e w4 ⟨v4, rfl, ht, hb⟩; have HT4 := Aside0.mk ht; have HB4 := Aside0.mk (below_step (by repeat (first | (with_reducible first | exact HBc.out | apply below_alloc | apply below_drew | apply pw_below_drewN) | exact HBc.out)) hb); clear HBc; have HBc := HB4; clear ht hb) | (go_at_call 41; (with_reducible refine (putA v4 _ HT4.out).mono ?_); rintro e w5 ⟨v5, rfl, ht, hb⟩; have HT5 := Aside0.mk ht; have HB5 := Aside0.mk (below_step (by repeat (first | (with_reducible first | exact HBc.out | apply below_alloc | apply below_drew | apply pw_below_drewN) | exact HBc.out)) hb); clear HBc; have HBc := HB5; clear ht hb))
  have HS5 := Aside0.mk (cells6 HB5.out HS2.out)
  obtain ⟨_, _, _, z0, z1, _⟩ := HS5.out
  have HB5w := Aside0.mk (HB2.out.trans (HB5.out.mono HB2.out.size))
  clear HBc HB3 HB4 HB5 HT3 HT4 HS2 HB2
  go_wp2_with (first | (go_at_call 42; (with_reducible refine (dropA v5 _ HT5.out).mono ?_); rintro e w6 ⟨v6, rfl, ht, hb⟩; have HT6 := Aside0.mk ht; have HB6 := Aside0.mk hb; have y0 := pw_cell_below hb z0; have y1 := pw_cell_below hb z1; clear ht hb; go_wp2_with (first | (go_at_call 34; (with_reducible refine (getA v5 _ (HT5.out.below HB6.out)).mono ?_); rintro e w7 ⟨rfl, hb⟩; have HB7 := Aside0.mk (HB6.out.trans (hb.mono HB6.out.size)); have HT7 := Aside0.mk (HT6.out.below hb); have x0 := pw_cell_below hb y0; have x1 := pw_cell_below hb y1; clear hb; go_wp2_with (first | (go_at_call 34; (with_reducible refine (getA' v6 _ HT7.out).mono ?_); rintro e w8 ⟨rfl, hb⟩; have HB8 := Aside0.mk (HB7.out.trans (hb.mono HB7.out.size)); have HT8 := Aside0.mk (HT7.out.below hb); clear hb))))))
  clear z0 z1 y0 y1 x0 x1
  have HT5' := Aside0.mk (HT5.out.below HB8.out)
  have HS8 := Aside0.mk (cells6 HB8.out HS5.out)
  have HBw := Aside0.mk (HB5w.out.trans (HB8.out.mono HB5w.out.size))
  clear HT5 HT6 HT7 HB6 HB7 HS5 HB5w HB8
  have HBc := Aside0.mk (Below.refl w8.heap.size w8)
  go_region_held3 (fun W => W.cell? ⟨w.heap.size, 0, none⟩ = some (.string ⟨#[98]⟩) ∧ W.cell? ⟨w.heap.size, 1, none⟩ = some (.int .i64 1) ∧ W.cell? ⟨w.heap.size, 2, none⟩ = some (.string ⟨#[120]⟩) ∧ W.cell? ⟨w.heap.size + 1, 0, none⟩ = some (.string ⟨#[97]⟩) ∧ W.cell? ⟨w.heap.size + 1, 1, none⟩ = some (.int .i64 2) ∧ W.cell? ⟨w.heap.size + 1, 2, none⟩ = some (.string ⟨#[121]⟩)) (first | exact cells6 (by repeat (first | (with_reducible first | exact HBc.out | apply below_alloc | apply below_drew | apply pw_below_drewN) | exact HBc.out)) HS8.out) (first
    | (go_at_call 38; (with_reducible refine (allAB v5 _ (HT5'.out.below (by repeat (first | (with_reducible first | exact HBc.out | apply below_alloc | apply below_drew | apply pw_below_drewN) | exact HBc.out)))).mono ?_); rintro e w9 ⟨v9, rfl, ho, hb⟩; have HB9 := Aside0.mk (below_step (by repeat (first | (with_reducible first | exact HBc.out | apply below_alloc | apply below_drew | apply pw_below_drewN) | exact HBc.out)) hb); clear HBc; have HBc := HB9; have HB38 := Aside0.mk hb; obtain ⟨A9, c9, rfl, h9, hC9⟩ := Kd.R_reads ho; have HC9 := Aside0.mk (show Kd.C k26 w9 A9 2 [gA, gB] from hC9); have h9 : 2 ≤ c9 := h9; clear ho hb hC9)
    | (go_at_call 25; (first | (with_reducible refine (same2 _ A9 c9 _ (Kd.C_below HC9.out (by first | exact Below.refl _ _ | exact below_alloc (Below.refl _ _) _)) h9 (lit2 (blk_new _ _))).mono ?_) | (with_reducible refine (same2 _ A9 c9 _ (Kd.C_below HC9.out (by first | exact Below.refl _ _ | exact below_alloc (Below.refl _ _) _)) h9 (lit2 (blk_below (blk_drew (blk_new _ _)) HB38.out))).mono ?_) | fail); rintro e w10 ⟨rfl, hb⟩; have HB10 := Aside0.mk (below_step (by repeat (first | (with_reducible first | exact HBc.out | apply below_alloc | apply below_drew | apply pw_below_drewN) | exact HBc.out)) hb); clear HBc; have HBc := HB10; clear hb)
    | (go_at_call 36; (with_reducible refine (lenB v6 _ (HT8.out.below (by repeat (first | (with_reducible first | exact HBc.out | apply below_alloc | apply below_drew | apply pw_below_drewN) | exact HBc.out)))).mono ?_); rintro e w11 ⟨rfl, hb⟩; have HB11 := Aside0.mk (below_step (by repeat (first | (with_reducible first | exact HBc.out | apply below_alloc | apply below_drew | apply pw_below_drewN) | exact HBc.out)) hb); clear HBc; have HBc := HB11; clear hb)
    | (go_at_call 36; (with_reducible refine (lenAB v5 _ (HT5'.out.below (by repeat (first | (with_reducible first | exact HBc.out | apply below_alloc | apply below_drew | apply pw_below_drewN) | exact HBc.out)))).mono ?_); rintro e w12 ⟨rfl, hb⟩; have HB12 := Aside0.mk (below_step (by repeat (first | (with_reducible first | exact HBc.out | apply below_alloc | apply below_drew | apply pw_below_drewN) | exact HBc.out)) hb); clear HBc; have HBc := HB12; clear hb)
    | (go_at_call 31; (with_reducible refine (new_calls _).mono ?_); rintro e w13 ⟨v13, rfl, ht, hb⟩; have HT13 := Aside0.mk ht; have HB13 := Aside0.mk (below_step (by repeat (first | (with_reducible first | exact HBc.out | apply below_alloc | apply below_drew | apply pw_below_drewN) | exact HBc.out)) hb); clear HBc; have HBc := HB13; clear ht hb)
    | (go_at_call 43; (with_reducible refine (tree_depth_calls v13 _ HT13.out).mono ?_); rintro e w14 ⟨rfl, hb⟩; have HB14 := Aside0.mk (below_step (by repeat (first | (with_reducible first | exact HBc.out | apply below_alloc | apply below_drew | apply pw_below_drewN) | exact HBc.out)) hb); clear HBc; have HBc := HB14; clear hb)
    | (go_at_call 39; (with_reducible refine (fromA v5 _ (HT5'.out.below (by repeat (first | (with_reducible first | exact HBc.out | apply below_alloc | apply below_drew | apply pw_below_drewN) | exact HBc.out)))).mono ?_); rintro e w15 ⟨v15, rfl, ho, hb⟩; have HB15 := Aside0.mk (below_step (by repeat (first | (with_reducible first | exact HBc.out | apply below_alloc | apply below_drew | apply pw_below_drewN) | exact HBc.out)) hb); clear HBc; have HBc := HB15; have HB39 := Aside0.mk hb; obtain ⟨A15, c15, rfl, h15, hC15⟩ := Kd.R_reads ho; have HC15 := Aside0.mk (show Kd.C k26 w15 A15 1 [gB] from hC15); have h15 : 1 ≤ c15 := h15; clear ho hb hC15)
    | (go_at_call 25; (first | (with_reducible refine (same1 _ A15 c15 _ (Kd.C_below HC15.out (by first | exact Below.refl _ _ | exact below_alloc (Below.refl _ _) _)) h15 (lit1 (blk_new _ _))).mono ?_) | (with_reducible refine (same1 _ A15 c15 _ (Kd.C_below HC15.out (by first | exact Below.refl _ _ | exact below_alloc (Below.refl _ _) _)) h15 (lit1 (blk_below (blk_new _ _) HB39.out))).mono ?_) | fail); rintro e w16 ⟨rfl, hb⟩; have HB16 := Aside0.mk (below_step (by repeat (first | (with_reducible first | exact HBc.out | apply below_alloc | apply below_drew | apply pw_below_drewN) | exact HBc.out)) hb); clear HBc; have HBc := HB16; clear hb)
    | fail)
  all_goals go_wp2
  all_goals go_ret
  all_goals exact ⟨rfl, HBw.out.trans (HB16.out.mono HBw.out.size)⟩
end Go.Proofs.Ytoiohlmiofplcaa.P
/-
  TreeOrder (chapter 10) answers true, walked by hand.
-/
namespace Go.Proofs.Ytoiohlmiofplcaa.P
open Go.RowKit Go.Shelf Go.Proofs.YtoiohlmiofplcaaW.PrintWords Go.Proofs.YtoiohlmiofplcaaW.PrintLast Go.Proofs.YtoiohlmiofplcaaW.PrintMore Go.Proofs.Plain

theorem pair_at {w W : World} {A : Option Addr} {l : List S26} (hr : Kd.C k26 w A l.length l) (hW : Below w.heap.size w W) (i : Nat) (hi : i < l.length) : ∃ ad, A = some ad ∧ W.cell? (ad.add (i * 3)) = some (.string l[i].f0.f0) ∧ W.cell? ⟨(ad.add (i * 3)).block, (ad.add (i * 3)).off + 1, none⟩ = some (.int .i64 l[i].f0.f1) ∧ W.cell? ⟨(ad.add (i * 3)).block, (ad.add (i * 3)).off + 2, none⟩ = some (.string l[i].f1) := by
  obtain ⟨ad, e, h0, h1, h2⟩ := at_T26 (Kd.C_below hr hW) (i : Int) (by omega) (by omega)
  rw [rdPair l i hi, Int.toNat_natCast] at h0 h1 h2
  exact ⟨ad, e, h0, h1, h2⟩
theorem key_ext {a b : S24} (h1 : a.f0.toList = b.f0.toList) (h2 : a.f1 = b.f1) : a = b := by
  cases a; cases b
  simp only at h1 h2
  rw [ND.tl_inj h1, h2]
theorem puts_take (l : List S26) (i : Nat) (hi : i < l.length) : ND.puts (l.take (i + 1)) = ND.putL (ND.puts (l.take i)) l[i] := by
  rw [List.take_succ_eq_append_getElem hi, ND.puts_snoc]
end Go.Proofs.Ytoiohlmiofplcaa.P
/-
  TreeEmpty (chapter 10) answers true, walked by hand.
-/
namespace Go.Proofs.Ytoiohlmiofplcaa.P
open Go.RowKit Go.Shelf Go.Proofs.YtoiohlmiofplcaaW.PrintWords Go.Proofs.YtoiohlmiofplcaaW.PrintLast Go.Proofs.YtoiohlmiofplcaaW.PrintMore Go.Proofs.Plain

theorem key_iff (a b : S24) : (a.f0.toList = b.f0.toList ∧ a.f1 = b.f1) ↔ a = b := ⟨fun h => key_ext h.1 h.2, fun h => by rw [h]; exact ⟨rfl, rfl⟩⟩
theorem getV_dec {l : List S26} {k : S24} {A M C : List S26} (h : ND.Dec l k A M C) : (getV l k).2 = !M.isEmpty := by
  unfold getV fromV
  rw [fromL_dec h, show (1 : Int).toNat = 1 from rfl]
  rcases h.mid with rfl | ⟨m, rfl, hm⟩
  · cases C with
    | nil => rfl
    | cons x C' =>
      have := (h.behind rfl x C' rfl).2
      show (if x.f0.f0.toList = k.f0.toList ∧ x.f0.f1 = k.f1 then (x.f1, true) else ((⟨#[]⟩ : ByteArray), false)).2 = false
      rw [if_neg (fun hk => this ((key_iff _ _).1 hk))]
  · show (if m.f0.f0.toList = k.f0.toList ∧ m.f0.f1 = k.f1 then (m.f1, true) else ((⟨#[]⟩ : ByteArray), false)).2 = true
    rw [if_pos ((key_iff _ _).2 hm)]
theorem puts_ris : ∀ (l : List S26), l.length ≤ 1000 → ND.Ris (ND.puts l) ∧ ∀ y ∈ ND.puts l, y ∈ l := by
  intro l
  induction h : l.length generalizing l with
  | zero => intro _; rw [List.eq_nil_of_length_eq_zero h]; exact ⟨List.Pairwise.nil, fun y hy => hy⟩
  | succ n ih =>
    intro hn
    obtain ⟨m, x, rfl⟩ : ∃ m x, l = m ++ [x] := ⟨l.dropLast, l.getLast (by intro e; rw [e] at h; simp at h), (List.dropLast_concat_getLast _).symm⟩
    have hm : m.length = n := by simpa using h
    obtain ⟨h1, h2⟩ := ih m hm (by omega)
    have hpl := ND.puts_len m (by omega)
    obtain ⟨A, M, C, hd⟩ := ND.dec_exists (ND.puts m) x.f0
    rw [ND.puts_snoc, ND.putL_dec hd (by omega)]
    refine ⟨ND.ris_put h1 hd x.f1, fun y hy => ?_⟩
    rcases (ND.mem_put h1 hd y).1 hy with rfl | ⟨hy, _⟩
    · simp
    · exact List.mem_append_left _ (h2 y hy)
/-- What is told of a drop: whether the key stood, how many pairs are left, which. -/
theorem drop_facts (l : List S26) (k : S24) (hr : ND.Ris l) (hl : l.length ≤ 1000) : ∃ b : Bool, (getV l k).2 = b ∧ (getV (ND.dropL l k) k).2 = false ∧ (b = true → (ND.dropL l k).length + 1 = l.length) ∧ (b = false → (ND.dropL l k).length = l.length) ∧ ND.Ris (ND.dropL l k) ∧ ∀ y ∈ ND.dropL l k, y ∈ l ∧ y.f0 ≠ k := by
  obtain ⟨A, M, C, h⟩ := ND.dec_exists l k
  rw [ND.dropL_dec h (by omega)]
  have hlen : l.length = A.length + (M.length + C.length) := by rw [h.eq]; simp
  refine ⟨!M.isEmpty, getV_dec h, getV_dec (ND.dec_drop hr h), fun hb => ?_, fun hb => ?_, ND.ris_drop hr h, fun y hy => ?_⟩
  · rcases h.mid with rfl | ⟨m, rfl, _⟩
    · cases hb
    · simp at hlen ⊢; omega
  · rcases h.mid with rfl | ⟨m, rfl, _⟩
    · simp at hlen ⊢; omega
    · cases hb
  · rcases List.mem_append.1 hy with hy | hy
    · exact ⟨by rw [h.eq]; simp [hy], ND.lt_ne (h.ahead y hy)⟩
    · exact ⟨by rw [h.eq]; simp [hy], fun e => ND.lt_ne (ND.ris_behind hr h y hy) e.symm⟩
theorem put_one (p : S26) : ND.putL [] p = [p] := by
  have h : ND.Dec [] p.f0 [] [] [] := ⟨rfl, fun x hx => (by cases hx), .inl rfl, fun _ x C' e => (by cases e)⟩
  rw [ND.putL_dec h (by simp)]; rfl
theorem get_one (p : S26) : getV [p] p.f0 = (p.f1, true) := by
  unfold getV fromV ND.fromL
  rw [show (1 : Int).toNat = 1 from rfl, List.dropWhile_cons, if_neg (by rw [ND.lt_irrefl]; decide)]
  show (if p.f0.f0.toList = p.f0.f0.toList ∧ p.f0.f1 = p.f0.f1 then (p.f1, true) else ((⟨#[]⟩ : ByteArray), false)) = _
  rw [if_pos ⟨rfl, rfl⟩]
theorem drop_nil (k : S24) : ND.dropL [] k = [] := by
  have h : ND.Dec [] k [] [] [] := ⟨rfl, fun x hx => (by cases hx), .inl rfl, fun _ x C' e => (by cases e)⟩
  rw [ND.dropL_dec h (by simp)]; rfl
/-- Get, its text left untold. -/
theorem get_calls2 (l : List S26) (v : Value) (k : S24) (b : Bool) (w : World) (hr : TreeOf w l v) (hl : l.length ≤ 10000) (hb : (getV l k).2 = b) :
    Calls Try.prog 34 #[v, .agg #[.string k.f0, .int .i64 k.f1]] w fun e w' => ∃ s, e = .returned (.tuple #[.string s, .bool b]) ∧ Below w.heap.size w w' := by
  refine (tree_get_calls l v k w hr hl).mono ?_
  rintro e w' ⟨rfl, hb'⟩
  exact ⟨_, by rw [hb], hb'⟩
/-! walk -/
theorem big_calls (rb : Bool) (l : List S26) (hb : ∀ k, 200 < k → sextonref09_Big.f k l = some rb) (W : World) (A : Option Addr) (c : Nat) (hr : Kd.C k26 W A l.length l) (hc : l.length ≤ c) : Calls Try.prog 13 #[.slice A l.length c] W fun e w' => e = .returned (.bool rb) ∧ Below W.heap.size W w' := by
  refine (sextonref09_Big.calls 201 A c l rb W hr hc (hb 201 (by omega))).mono ?_
  rintro e w' ⟨rfl, nd, rfl⟩
  exact ⟨rfl, pw_below_drewN (Below.refl _ _) nd⟩
theorem lit_p {W : World} {g e : Nat} {a b : ByteArray} {i : Int} (hg : W.heap[g]? = some (.cells #[.string a, .int .i64 i, .string b] e (0, 0))) : Kd.C k26 W (some ⟨g, 0, none⟩) 1 [⟨⟨a, i⟩, b⟩] :=
  lit_rows hg (by simp) (fun j x hj => by
    match j, hj with
    | 0, hj => cases hj; exact ⟨rfl, rfl, rfl⟩)
theorem blk3 {W : World} {g : Nat} {a c : ByteArray} {b : Int} (h : W.heap[g]? = some (.cells #[.string a, .int .i64 b, .string c] 26 (0, 0))) : W.cell? ⟨g, 0, none⟩ = some (.string a) ∧ W.cell? ⟨g, 1, none⟩ = some (.int .i64 b) ∧ W.cell? ⟨g, 2, none⟩ = some (.string c) := ⟨blk_cell h 0, blk_cell h 1, blk_cell h 2⟩
theorem lenN (v : Value) (w : World) (h : TreeOf w [] v) : Calls Try.prog 36 #[v] w fun e w' => e = .returned (.int .i64 0) ∧ Below w.heap.size w w' := len_calls [] v w h
theorem allN (v : Value) (w : World) (h : TreeOf w [] v) : Calls Try.prog 38 #[v] w fun e w' => ∃ A c, e = .returned (.slice A 0 c) ∧ Below w.heap.size w w' := by
  refine (tree_all_calls [] v w h (by decide)).mono ?_
  rintro e w' ⟨v', rfl, ho, hb⟩
  obtain ⟨A, c, rfl⟩ := Kd.R_slice ho
  exact ⟨A, c, rfl, hb⟩
theorem putP (a b : ByteArray) (i : Int) (w : World) : Calls Try.prog 41 #[.pointer none, .agg #[.string a, .int .i64 i, .string b]] w fun e w' => ∃ v', e = .returned v' ∧ TreeOf w' [⟨⟨a, i⟩, b⟩] v' ∧ Below w.heap.size w w' := by
  have := tree_put_calls [] (.pointer none) ⟨⟨a, i⟩, b⟩ w (TreeOf.nil w) (by decide)
  rw [put_one] at this
  exact this
theorem getP (a b : ByteArray) (i : Int) (v : Value) (w : World) (h : TreeOf w [⟨⟨a, i⟩, b⟩] v) : Calls Try.prog 34 #[v, .agg #[.string a, .int .i64 i]] w fun e w' => e = .returned (.tuple #[.string b, .bool true]) ∧ Below w.heap.size w w' := by
  have := tree_get_calls [⟨⟨a, i⟩, b⟩] v ⟨a, i⟩ w h (by simp)
  rw [show (⟨a, i⟩ : S24) = (⟨⟨a, i⟩, b⟩ : S26).f0 from rfl, get_one] at this
  exact this
theorem dropN (a : ByteArray) (i : Int) (w : World) : Calls Try.prog 42 #[.pointer none, .agg #[.string a, .int .i64 i]] w fun e w' => ∃ v', e = .returned v' ∧ TreeOf w' [] v' ∧ Below w.heap.size w w' := by
  have := tree_drop_calls [] (.pointer none) ⟨a, i⟩ w (TreeOf.nil w) (by decide)
  rw [drop_nil] at this
  exact this
theorem fromN (a : ByteArray) (i n : Int) (w : World) : Calls Try.prog 39 #[.pointer none, .agg #[.string a, .int .i64 i], .int .i64 n] w fun e w' => ∃ A c, e = .returned (.slice A 0 c) ∧ Below w.heap.size w w' := by
  have := tree_from_calls [] (.pointer none) ⟨a, i⟩ n w (TreeOf.nil w) (by decide)
  rw [show fromV [] ⟨a, i⟩ n = [] by unfold fromV ND.fromL; simp] at this
  refine this.mono ?_
  rintro e w' ⟨v', rfl, ho, hb⟩
  obtain ⟨A, c, rfl⟩ := Kd.R_slice ho
  exact ⟨A, c, rfl, hb⟩
def sextonlaw10_TreeEmpty.f (_ : List S26) (_ : ByteArray) (_ : Int) (_ : ByteArray) : Option Bool := some true
set_option maxHeartbeats 16000000 in
set_option maxRecDepth 100000 in
theorem sextonlaw10_TreeEmpty.calls (A0 : Option Addr) (c0 : Nat) (l0 : List (S26)) (a1_0 : ByteArray) (a1_1 : Int) (a1_2 : ByteArray) (r : Bool) (w : World) (hr0 : Kd.C k26 w A0 l0.length l0) (hc0 : l0.length ≤ c0) (h : sextonlaw10_TreeEmpty.f l0 a1_0 a1_1 a1_2 = some r) :
    Calls Try.prog 11 #[.slice A0 l0.length c0, .agg #[.string a1_0, .int .i64 a1_1, .string a1_2]] w fun e w' => e = .returned (.bool r) ∧ Below w.heap.size w w' := by
  obtain rfl : true = r := Option.some.inj h
  clear h
  have hb1 := (Below.refl w.heap.size w).alloc (Nat.le_refl _) (.cells #[.string a1_0, .int .i64 a1_1, .string a1_2] 26)
  obtain ⟨w1, hw1⟩ : ∃ w1, w1 = w.alloc (.cells #[.string a1_0, .int .i64 a1_1, .string a1_2] 26) := ⟨_, rfl⟩
  have hg1 := blk_new w (.cells #[.string a1_0, .int .i64 a1_1, .string a1_2] 26)
  rw [← hw1] at hb1 hg1
  have HB1 := Aside0.mk hb1
  have HG1 := Aside0.mk hg1
  have HR := Aside0.mk (Kd.C_below hr0 hb1)
  obtain ⟨rb, hb, hle⟩ := ND.big_f l0
  obtain ⟨rb2, hb2, _⟩ := ND.big_f [⟨⟨a1_0, a1_1⟩, a1_2⟩]
  have HBig := Aside0.mk (big_calls rb l0 hb w1 A0 c0 HR.out hc0)
  have HBig2 := Aside0.mk (fun W A c h h2 => big_calls rb2 [⟨⟨a1_0, a1_1⟩, a1_2⟩] hb2 W A c h h2)
  replace HBig2 : Aside0 (∀ (W : World) (A : Option Addr) (c : Nat), Kd.C k26 W A 1 [⟨⟨a1_0, a1_1⟩, a1_2⟩] → 1 ≤ c → Calls Try.prog 13 #[.slice A 1 c] W fun e w' => e = .returned (.bool rb2) ∧ Below W.heap.size W w') := HBig2
  have hmx := hr0.2.1
  clear hb hr0 hc0 hb2 hb1 hg1
  cases rb with
  | true =>
    clear hle
    generalize l0.length = n at *
    go_enter Try.func11, Try.ntmps11
    go_wp2_with (first | (rw [← hw1]; fail) | (go_at_call 13; rw [← hw1]; (with_reducible refine HBig.out.mono ?_); rintro e w3 ⟨rfl, hb⟩; have HB3 := Aside0.mk (HB1.out.trans (hb.mono HB1.out.size)); clear hb) | fail)
    go_ret
    exact ⟨rfl, HB3.out⟩
  | false =>
    have hl80 := hle rfl
    clear hle
    obtain ⟨n, hn⟩ : ∃ n, n = l0.length := ⟨_, rfl⟩
    have HN := Aside0.mk hn
    rw [← hn] at HBig hmx hl80 ⊢
    clear hn
    cases rb2 with
    | true =>
      go_enter Try.func11, Try.ntmps11
      go_wp2_with (first | (go_at_call 13; rw [← hw1]; (with_reducible refine HBig.out.mono ?_); rintro e w3 ⟨rfl, hb⟩; have HB3 := Aside0.mk (HB1.out.trans (hb.mono HB1.out.size)); obtain ⟨y0, y1, y2⟩ := blk3 (blk_below HG1.out hb); clear hb) | (go_at_call 13; (with_reducible refine (HBig2.out _ _ _ (lit_p (blk_new _ _)) (Nat.le_refl _)).mono ?_); rintro e w4 ⟨rfl, hb⟩; have HB4 := Aside0.mk (HB3.out.trans ((below_step ((Below.refl _ _).alloc (Nat.le_refl _) _) hb).mono HB3.out.size)); clear hb) | fail)
      go_ret
      exact ⟨rfl, HB4.out⟩
    | false =>
      go_enter Try.func11, Try.ntmps11
      go_wp2_with (first | (go_at_call 13; rw [← hw1]; (with_reducible refine HBig.out.mono ?_); rintro e w3 ⟨rfl, hb⟩; have HB3 := Aside0.mk hb; obtain ⟨y0, y1, y2⟩ := blk3 (blk_below HG1.out hb); clear hb) | (go_at_call 13; (with_reducible refine (HBig2.out _ _ _ (lit_p (blk_new _ _)) (Nat.le_refl _)).mono ?_); rintro e w4 ⟨rfl, hb⟩; have HB4 := Aside0.mk (HB3.out.trans ((below_step ((Below.refl _ _).alloc (Nat.le_refl _) _) hb).mono HB3.out.size)); clear hb) | (go_at_call 31; (with_reducible refine (new_calls _).mono ?_); rintro e w5 ⟨v5, rfl, ht, hb⟩; have HT5 := Aside0.mk ht; have HB5 := Aside0.mk (HB4.out.trans (hb.mono HB4.out.size)); clear ht hb) | fail)
      clear HB3 HB4 y0 y1 y2 HBig HBig2 hw1
      go_loopw [5, 6] (fun s i wr => ∃ j : Nat, j ≤ n ∧ i = .int .i64 j ∧ Aside0 (TreeOf wr (ND.puts (l0.take j)) s) ∧ Aside0 (Below w1.heap.size w1 wr))
        (fun _ i _ => n - (intOf i).toNat)
      case atStart => exact ⟨0, Nat.zero_le _, rfl, HT5, HB5⟩
      case round =>
        clear HT5 HB5
        obtain ⟨j, hj, rfl, HT, HB⟩ := hrel
        by_cases hlt : j < n
        · have hltl : j < l0.length := by rw [← HN.out]; exact hlt
          obtain ⟨ad, hA, x0, x1, x2⟩ := pair_at HR.out HB.out j hltl
          subst hA
          have hpl := ND.puts_len (l0.take j) (by rw [List.length_take]; omega)
          rw [List.length_take] at hpl
          have HPut := Aside0.mk (tree_put_calls (ND.puts (l0.take j)) u5 l0[j] wr HT.out (by omega))
          rw [← puts_take l0 j hltl] at HPut
          have hji : (j : Int) < (n : Int) := by omega
          clear hpl HT
          generalize l0[j] = p at *
          go_wp2_with (first | (go_at_call 41; (with_reducible refine HPut.out.mono ?_); rintro e w6 ⟨v6, rfl, ht, hb⟩; have HT6 := Aside0.mk ht; have HB6 := Aside0.mk (HB.out.trans (hb.mono HB.out.size)); clear ht hb) | fail)
          go_roundw
          case rel => exact ⟨j + 1, hlt, by go_num, HT6, HB6⟩
          case measure => simp [intOf]; omega
        · obtain rfl : j = n := by omega
          have hlen := HN.out
          have hT := HT.out
          rw [hlen, List.take_length] at hT
          obtain ⟨hri, hmem⟩ := puts_ris l0 (by omega)
          have hpl := ND.puts_len l0 (by omega)
          have HC0 := Aside0.mk (show ∃ cur : List S26, TreeOf wr cur u5 ∧ ND.Ris cur ∧ cur.length ≤ 80 ∧ (∀ y ∈ cur, ∃ q, ∃ hq : q < l0.length, q < j ∧ l0[q].f0 = y.f0) from
            ⟨_, hT, hri, by omega, fun y hy => by
              obtain ⟨q, hq, e⟩ := List.mem_iff_getElem.1 (hmem y hy)
              exact ⟨q, hq, by omega, by rw [e]⟩⟩)
          clear hlen hT hri hmem hpl HT
          go_wp2
          go_loopw [5, 7] (fun s i wr => ∃ m : Nat, m ≤ j ∧ i = .int .i64 ((m : Int) - 1) ∧ Aside0 (∃ cur : List S26, TreeOf wr cur s ∧ ND.Ris cur ∧ cur.length ≤ 80 ∧ (∀ y ∈ cur, ∃ q, ∃ hq : q < l0.length, q < m ∧ l0[q].f0 = y.f0)) ∧ Aside0 (Below w1.heap.size w1 wr))
            (fun _ i _ => (intOf i + 1).toNat)
          case atStart => exact ⟨j, Nat.le_refl _, rfl, HC0, HB⟩
          case round =>
            clear HC0 HB
            obtain ⟨m, hm, rfl, HCur, HB⟩ := hrel
            obtain ⟨cur, hT, hri, hcl, hcm⟩ := HCur.out
            have HT := Aside0.mk hT
            clear HCur hT
            by_cases h0 : m = 0
            · subst h0
              obtain rfl : cur = [] := by
                cases cur with
                | nil => rfl
                | cons y c => obtain ⟨q, _, hq, _⟩ := hcm y (by simp); omega
              clear hcm hcl hri hm
              obtain ⟨y0, y1, y2⟩ := blk3 (blk_below HG1.out HB.out)
              have HB20 := Aside0.mk (HB1.out.trans (HB.out.mono HB1.out.size))
              go_wp2_with (first | (go_at_call 41; (with_reducible refine (putP a1_0 a1_2 a1_1 _).mono ?_); rintro e w21 ⟨v21, rfl, ht, hb⟩; have HB21 := Aside0.mk (HB20.out.trans (hb.mono HB20.out.size)); have yy0 := pw_cell_below hb y0; have yy1 := pw_cell_below hb y1; have yy2 := pw_cell_below hb y2; clear y0 y1 y2; have y0 := yy0; have y1 := yy1; have y2 := yy2; clear yy0 yy1 yy2; have HP21 := Aside0.mk ht; clear ht; have HT21 := Aside0.mk (HT.out.below hb); clear hb; go_wp2_with (first | (go_at_call 34; (with_reducible refine (getP a1_0 a1_2 a1_1 _ _ HP21.out).mono ?_); rintro e w22 ⟨rfl, hb⟩; have HB22 := Aside0.mk (HB21.out.trans (hb.mono HB21.out.size)); have yy0 := pw_cell_below hb y0; have yy1 := pw_cell_below hb y1; have yy2 := pw_cell_below hb y2; clear y0 y1 y2; have y0 := yy0; have y1 := yy1; have y2 := yy2; clear yy0 yy1 yy2; have HT22 := Aside0.mk (HT21.out.below hb); clear hb; go_wp2_with (first | (go_at_call 37; (with_reducible refine (grown_calls _).mono ?_); rintro e w23 ⟨rfl, hb⟩; have HB23 := Aside0.mk (HB22.out.trans (hb.mono HB22.out.size)); have yy0 := pw_cell_below hb y0; have yy1 := pw_cell_below hb y1; have yy2 := pw_cell_below hb y2; clear y0 y1 y2; have y0 := yy0; have y1 := yy1; have y2 := yy2; clear yy0 yy1 yy2; have HT23 := Aside0.mk (HT22.out.below hb); clear hb; go_wp2_with (first | (go_at_call 36; (with_reducible refine (lenN _ _ HT23.out).mono ?_); rintro e w24 ⟨rfl, hb⟩; have HB24 := Aside0.mk (HB23.out.trans (hb.mono HB23.out.size)); have yy0 := pw_cell_below hb y0; have yy1 := pw_cell_below hb y1; have yy2 := pw_cell_below hb y2; clear y0 y1 y2; have y0 := yy0; have y1 := yy1; have y2 := yy2; clear yy0 yy1 yy2; have HT24 := Aside0.mk (HT23.out.below hb); clear hb; go_wp2_with (first | (go_at_call 43; (with_reducible refine (tree_depth_calls _ _ HT24.out).mono ?_); rintro e w25 ⟨rfl, hb⟩; have HB25 := Aside0.mk (HB24.out.trans (hb.mono HB24.out.size)); have yy0 := pw_cell_below hb y0; have yy1 := pw_cell_below hb y1; have yy2 := pw_cell_below hb y2; clear y0 y1 y2; have y0 := yy0; have y1 := yy1; have y2 := yy2; clear yy0 yy1 yy2; have HT25 := Aside0.mk (HT24.out.below hb); clear hb; go_wp2_with (first | (go_at_call 38; (with_reducible refine (allN _ _ HT25.out).mono ?_); rintro e w26 ⟨A26, c26, rfl, hb⟩; have HB26 := Aside0.mk (HB25.out.trans (hb.mono HB25.out.size)); have yy0 := pw_cell_below hb y0; have yy1 := pw_cell_below hb y1; have yy2 := pw_cell_below hb y2; clear y0 y1 y2; have y0 := yy0; have y1 := yy1; have y2 := yy2; clear yy0 yy1 yy2; clear hb; go_wp2_with (first | (go_at_call 36; (with_reducible refine (lenN _ _ (TreeOf.nil _)).mono ?_); rintro e w27 ⟨rfl, hb⟩; have HB27 := Aside0.mk (HB26.out.trans (hb.mono HB26.out.size)); have yy0 := pw_cell_below hb y0; have yy1 := pw_cell_below hb y1; have yy2 := pw_cell_below hb y2; clear y0 y1 y2; have y0 := yy0; have y1 := yy1; have y2 := yy2; clear yy0 yy1 yy2; clear hb; go_wp2_with (first | (go_at_call 43; (with_reducible refine (tree_depth_calls _ _ (TreeOf.nil _)).mono ?_); rintro e w28 ⟨rfl, hb⟩; have HB28 := Aside0.mk (HB27.out.trans (hb.mono HB27.out.size)); have yy0 := pw_cell_below hb y0; have yy1 := pw_cell_below hb y1; have yy2 := pw_cell_below hb y2; clear y0 y1 y2; have y0 := yy0; have y1 := yy1; have y2 := yy2; clear yy0 yy1 yy2; clear hb; go_wp2_with (first | (go_at_call 42; (with_reducible refine (dropN a1_0 a1_1 _).mono ?_); rintro e w29 ⟨v29, rfl, ht, hb⟩; have HB29 := Aside0.mk (HB28.out.trans (hb.mono HB28.out.size)); have yy0 := pw_cell_below hb y0; have yy1 := pw_cell_below hb y1; have yy2 := pw_cell_below hb y2; clear y0 y1 y2; have y0 := yy0; have y1 := yy1; have y2 := yy2; clear yy0 yy1 yy2; have HD29 := Aside0.mk ht; clear ht; clear hb; go_wp2_with (first | (go_at_call 36; (with_reducible refine (lenN _ _ HD29.out).mono ?_); rintro e w30 ⟨rfl, hb⟩; have HB30 := Aside0.mk (HB29.out.trans (hb.mono HB29.out.size)); have yy0 := pw_cell_below hb y0; have yy1 := pw_cell_below hb y1; have yy2 := pw_cell_below hb y2; clear y0 y1 y2; have y0 := yy0; have y1 := yy1; have y2 := yy2; clear yy0 yy1 yy2; clear hb; go_wp2_with (first | (go_at_call 39; (with_reducible refine (fromN a1_0 a1_1 3 _).mono ?_); rintro e w31 ⟨A31, c31, rfl, hb⟩; have HB31 := Aside0.mk (HB30.out.trans (hb.mono HB30.out.size)); have yy0 := pw_cell_below hb y0; have yy1 := pw_cell_below hb y1; have yy2 := pw_cell_below hb y2; clear y0 y1 y2; have y0 := yy0; have y1 := yy1; have y2 := yy2; clear yy0 yy1 yy2; clear hb) | fail)) | fail)) | fail)) | fail)) | fail)) | fail)) | fail)) | fail)) | fail)) | fail)) | fail)
              go_ret
              exact ⟨rfl, HB31.out⟩
            · obtain ⟨q, rfl⟩ : ∃ q, m = q + 1 := ⟨m - 1, by omega⟩
              have hi1 : (((q + 1 : Nat) : Int) - 1) = (q : Int) := by omega
              rw [hi1]
              have hql : q < l0.length := by rw [← HN.out]; omega
              obtain ⟨ad, hA, x0, x1, x2⟩ := pair_at HR.out HB.out q hql
              subst hA
              obtain ⟨b, hb1, hb2, hb3, hb4, hri2, hm2⟩ := drop_facts cur l0[q].f0 hri (by omega)
              have hcm2 : ∀ y ∈ ND.dropL cur l0[q].f0, ∃ q', ∃ hq : q' < l0.length, q' < q ∧ l0[q'].f0 = y.f0 := fun y hy => by
                obtain ⟨hy1, hy2⟩ := hm2 y hy
                obtain ⟨q', hq, hlt, e⟩ := hcm y hy1
                by_cases e2 : q' = q
                · subst e2; exact absurd e.symm hy2
                · exact ⟨q', hq, by omega, e⟩
              have hcl2 : (ND.dropL cur l0[q].f0).length ≤ 80 := by
                cases b with
                | true => have := hb3 rfl; omega
                | false => have := hb4 rfl; omega
              have HLen := Aside0.mk (fun v W (hT : TreeOf W cur v) => len_calls cur v W hT)
              have HGet := Aside0.mk (fun v W (hT : TreeOf W cur v) => get_calls2 cur v l0[q].f0 b W hT (by omega) hb1)
              have HDr := Aside0.mk (fun v W (hT : TreeOf W cur v) => tree_drop_calls cur v l0[q].f0 W hT (by omega))
              have HGet2 := Aside0.mk (fun v W (hT : TreeOf W (ND.dropL cur l0[q].f0) v) => get_calls2 (ND.dropL cur l0[q].f0) v l0[q].f0 false W hT (by omega) hb2)
              have HLen2 := Aside0.mk (fun v W (hT : TreeOf W (ND.dropL cur l0[q].f0) v) => len_calls (ND.dropL cur l0[q].f0) v W hT)
              have HCm := Aside0.mk hcm2
              have HRi := Aside0.mk hri2
              clear hb1 hb2 hm2 hcm hcm2 hri hri2
              generalize ND.dropL cur l0[q].f0 = cur2 at *
              generalize hp : l0[q] = p at *
              clear hp
              obtain ⟨n1, hn1⟩ : ∃ n1, n1 = cur.length := ⟨_, rfl⟩
              obtain ⟨n2, hn2⟩ : ∃ n2, n2 = cur2.length := ⟨_, rfl⟩
              rw [← hn1] at HLen hb3 hb4 hcl
              rw [← hn2] at HLen2 hb3 hb4 hcl2
              have HL2 := Aside0.mk hn2
              clear hn1 hn2 x2
              have hqi : (q : Int) < (j : Int) := by omega
              have hq0 : (0 : Int) ≤ (q : Int) := by omega
              have hcl3 : n2 ≤ 80 := hcl2
              cases b with
              | true =>
                have hb5 := hb3 rfl
                have hbI : (n2 : Int) + 1 = (n1 : Int) := by omega
                clear hb3 hb4 hcl2
                go_wp2_with (first | (go_at_call 36; (with_reducible refine (HLen.out _ _ HT.out).mono ?_); rintro e w6 ⟨rfl, hb⟩; have HT6 := Aside0.mk (HT.out.below hb); have HB6 := Aside0.mk (HB.out.trans (hb.mono HB.out.size)); have y0 := pw_cell_below hb x0; have y1 := pw_cell_below hb x1; clear hb; go_wp2_with (first | (go_at_call 34; (with_reducible refine (HGet.out _ _ HT6.out).mono ?_); rintro e w7 ⟨s7, rfl, hb⟩; have HT7 := Aside0.mk (HT6.out.below hb); have HB7 := Aside0.mk (HB6.out.trans (hb.mono HB6.out.size)); have z0 := pw_cell_below hb y0; have z1 := pw_cell_below hb y1; clear hb; go_wp2_with (first | (go_at_call 42; (with_reducible refine (HDr.out _ _ HT7.out).mono ?_); rintro e w8 ⟨v8, rfl, ht, hb⟩; have HT8 := Aside0.mk ht; have HB8 := Aside0.mk (HB7.out.trans (hb.mono HB7.out.size)); have q0 := pw_cell_below hb z0; have q1 := pw_cell_below hb z1; clear ht hb; go_wp2_with (first | (go_at_call 34; (with_reducible refine (HGet2.out _ _ HT8.out).mono ?_); rintro e w9 ⟨s9, rfl, hb⟩; have HT9 := Aside0.mk (HT8.out.below hb); have HB9 := Aside0.mk (HB8.out.trans (hb.mono HB8.out.size)); clear hb; go_wp2_with (first | (go_at_call 36; (with_reducible refine (HLen2.out _ _ HT9.out).mono ?_); rintro e w10 ⟨rfl, hb⟩; have HT10 := Aside0.mk (HT9.out.below hb); have HB10 := Aside0.mk (HB9.out.trans (hb.mono HB9.out.size)); clear hb) | fail)) | fail)) | fail)) | fail)) | fail)
                go_roundw
                case rel => exact ⟨q, by omega, by first | rfl | go_num, ⟨cur2, HT10.out, HRi.out, by rw [← HL2.out]; exact hcl3, HCm.out⟩, HB10⟩
                case measure => first | (simp [intOf]; done) | (simp [intOf]; omega)
              | false =>
                have hb5 := hb4 rfl
                subst hb5
                clear hb3 hb4 hcl2
                go_wp2_with (first | (go_at_call 36; (with_reducible refine (HLen.out _ _ HT.out).mono ?_); rintro e w6 ⟨rfl, hb⟩; have HT6 := Aside0.mk (HT.out.below hb); have HB6 := Aside0.mk (HB.out.trans (hb.mono HB.out.size)); have y0 := pw_cell_below hb x0; have y1 := pw_cell_below hb x1; clear hb; go_wp2_with (first | (go_at_call 34; (with_reducible refine (HGet.out _ _ HT6.out).mono ?_); rintro e w7 ⟨s7, rfl, hb⟩; have HT7 := Aside0.mk (HT6.out.below hb); have HB7 := Aside0.mk (HB6.out.trans (hb.mono HB6.out.size)); have z0 := pw_cell_below hb y0; have z1 := pw_cell_below hb y1; clear hb; go_wp2_with (first | (go_at_call 42; (with_reducible refine (HDr.out _ _ HT7.out).mono ?_); rintro e w8 ⟨v8, rfl, ht, hb⟩; have HT8 := Aside0.mk ht; have HB8 := Aside0.mk (HB7.out.trans (hb.mono HB7.out.size)); have q0 := pw_cell_below hb z0; have q1 := pw_cell_below hb z1; clear ht hb; go_wp2_with (first | (go_at_call 34; (with_reducible refine (HGet2.out _ _ HT8.out).mono ?_); rintro e w9 ⟨s9, rfl, hb⟩; have HT9 := Aside0.mk (HT8.out.below hb); have HB9 := Aside0.mk (HB8.out.trans (hb.mono HB8.out.size)); clear hb; go_wp2_with (first | (go_at_call 36; (with_reducible refine (HLen2.out _ _ HT9.out).mono ?_); rintro e w10 ⟨rfl, hb⟩; have HT10 := Aside0.mk (HT9.out.below hb); have HB10 := Aside0.mk (HB9.out.trans (hb.mono HB9.out.size)); clear hb; go_wp2_with (first | (go_at_call 36; (with_reducible refine (HLen2.out _ _ HT10.out).mono ?_); rintro e w11 ⟨rfl, hb⟩; have HT11 := Aside0.mk (HT10.out.below hb); have HB11 := Aside0.mk (HB10.out.trans (hb.mono HB10.out.size)); clear hb) | fail)) | fail)) | fail)) | fail)) | fail)) | fail)
                go_roundw
                case rel => exact ⟨q, by omega, by first | rfl | go_num, ⟨cur2, HT11.out, HRi.out, by rw [← HL2.out]; exact hcl3, HCm.out⟩, HB11⟩
                case measure => first | (simp [intOf]; done) | (simp [intOf]; omega)
end Go.Proofs.Ytoiohlmiofplcaa.P
/-
  What can be read as data reads as a value of its kind: kind by kind, for the rows of the statements.
-/
namespace Go.Proofs.Ytoiohlmiofplcaa.Opens
open Go.ChangeShapes Go.WideShapes Go.ChangeAt Go.RowKit Go.Proofs.YtoiohlmiofplcaaW.PrintWords

def Opens (P : Program) {α : Type} (kd : Kd α) (ok : α → Prop) (t : TypeId) : Prop :=
  ∀ {H : Type} (enc : TypeId × Value → H) (W : World) (base : Nat) (spare : Nat → Bool) (held : Bool) (fuel : Nat) (cs : List Value) (x : DataW H × List MemPlace),
    DataW.trod enc P W base spare held fuel t cs = some x → ∃ a, kd.K W a cs ∧ ok a
def OkInt (k : IntKind) (n : Int) : Prop := (Lit.int k n).wf = true
def OkStr (s : ByteArray) : Prop := s.size ≤ maxLen
def OkList {α : Type} (ok : α → Prop) (l : List α) : Prop := l.length ≤ maxLen ∧ ∀ a ∈ l, ok a
def OkPair {α β : Type} (p : α → Prop) (q : β → Prop) (x : α × β) : Prop := p x.1 ∧ q x.2

section
variable {P : Program} {t e : TypeId}
theorem opens_int {k : IntKind} (ht : P.underlying t = some (.int k)) : Opens P (Kd.int k) (OkInt k) t := by
  intro H enc W base spare held fuel cs x h
  obtain ⟨n, rfl, _, hw⟩ := DataW.trod_int ht h
  exact ⟨n, rfl, hw⟩
theorem opens_string (ht : P.underlying t = some .string) : Opens P Kd.string OkStr t := by
  intro H enc W base spare held fuel cs x h
  obtain ⟨s, rfl, _, hs⟩ := DataW.trod_string ht h
  exact ⟨s, rfl, hs⟩
theorem addr_add (a : Addr) (x i : Nat) : a.add (x + i) = (a.add x).add i := by
  unfold Addr.add
  by_cases h1 : x = 0 <;> by_cases h2 : i = 0 <;> simp [h1, h2, Nat.add_assoc]
theorem opens_slice {α : Type} {kd : Kd α} {ok : α → Prop} (ht : P.underlying t = some (.slice e)) (hc : P.cellsOf e = kd.sz) (he : Opens P kd ok e) : Opens P (Kd.slice e kd) (OkList ok) t := by
  intro H enc W base spare held fuel cs x h
  rcases DataW.trod_slice ht h with ⟨rfl, _⟩ | ⟨a, len, cap, elems, rest, n, _, rfl, _, hb, hl, hm, hlen, hel, _, _⟩
  · exact ⟨[], ⟨none, 0, rfl, Nat.le_refl _, rfl, by simp, fun h0 => absurd h0 (Nat.lt_irrefl 0)⟩, by simp [maxLen], by simp⟩
  · have each : ∀ i, i < len → ∃ (y : α) (c : List Value), c.length = kd.sz ∧ kd.K W y c ∧ ok y ∧ ∀ j u, c[j]? = some u → W.cell? ((a.add (i * kd.sz)).add j) = some u := by
      intro i hi
      have h1 := hel i hi
      rw [hc, List.getElem?_eq_getElem (by omega), Option.bind_eq_some_iff] at h1
      obtain ⟨c, hcs, hy⟩ := h1
      obtain ⟨y, hK, hok⟩ := he enc W base spare held n c _ hy
      obtain ⟨_, hcl, hcell⟩ := World.cells?_some hcs
      refine ⟨y, c, kd.K_len hK, hK, hok, fun j u hj => ?_⟩
      have hjl : j < kd.sz := by have := (List.getElem?_eq_some_iff.1 hj).1; rw [kd.K_len hK] at this; exact this
      rw [hcell j hjl, hj]
    have pick : ∃ l : List α, l.length = len ∧ ∀ i y, l[i]? = some y → ∃ c : List Value, c.length = kd.sz ∧ kd.K W y c ∧ ok y ∧ ∀ j u, c[j]? = some u → W.cell? ((a.add (i * kd.sz)).add j) = some u := by
      have key : ∀ m, m ≤ len → ∃ l : List α, l.length = m ∧ ∀ i y, l[i]? = some y → ∃ c : List Value, c.length = kd.sz ∧ kd.K W y c ∧ ok y ∧ ∀ j u, c[j]? = some u → W.cell? ((a.add (i * kd.sz)).add j) = some u := by
        intro m
        induction m with
        | zero => intro _; exact ⟨[], rfl, fun i y h => by simp at h⟩
        | succ m ih =>
          intro hm
          obtain ⟨l, hl1, hl2⟩ := ih (by omega)
          obtain ⟨y, c, h1, h2, h3, h4⟩ := each m (by omega)
          refine ⟨l ++ [y], by simp [hl1], fun i z hz => ?_⟩
          rcases Nat.lt_or_ge i l.length with hi | hi
          · rw [List.getElem?_append_left hi] at hz
            exact hl2 i z hz
          · have : i = l.length := by
              have := (List.getElem?_eq_some_iff.1 hz).1
              rw [List.length_append, List.length_singleton] at this
              omega
            subst this
            have hz' : y = z := by simpa using hz
            subst hz'
            exact ⟨c, h1, h2, h3, by rw [hl1]; exact h4⟩
      exact key len (Nat.le_refl _)
    obtain ⟨l, hl1, hl2⟩ := pick
    subst hl1
    refine ⟨l, ⟨some a, cap, rfl, hl, rfl, by unfold maxLen at hm; omega, fun _ => ⟨a, rfl, fun j p hj => ?_⟩⟩, by omega, fun y hy => ?_⟩
    · obtain ⟨c, h1, h2, _, h4⟩ := hl2 j p hj
      refine ⟨c, h1, h2, fun i u hu => ?_⟩
      rw [← h4 i u hu, addr_add]
    · obtain ⟨i, hi⟩ := List.getElem?_of_mem hy
      obtain ⟨_, _, _, h3, _⟩ := hl2 i y hi
      exact h3

/-- The same of fields in line, from one place of the cells on. -/
def OpensF (P : Program) {α : Type} (kd : Kd α) (ok : α → Prop) (fs : List Field) (off len : Nat) : Prop :=
  ∀ {H : Type} (enc : TypeId × Value → H) (W : World) (base : Nat) (spare : Nat → Bool) (held : Bool) (n : Nat) (cs : List Value),
    (∀ f ∈ fs, ∃ y, DataW.trod enc P W base spare held n f.type ((cs.drop f.offset).take (P.cellsOf f.type)) = some y) → off + len ≤ cs.length → ∃ a, kd.K W a ((cs.drop off).take len) ∧ ok a
theorem opensF_one {α : Type} {kd : Kd α} {ok : α → Prop} {f : Field} {t off len : Nat} (h : Opens P kd ok t) (ht : f.type = t) (ho : f.offset = off) (hl : P.cellsOf t = len) : OpensF P kd ok [f] off len := by
  intro H enc W base spare held n cs hf _
  obtain ⟨y, hy⟩ := hf f List.mem_cons_self
  subst ht ho hl
  exact h enc W base spare held n _ y hy
theorem opensF_pair {α β : Type} {kd : Kd α} {kd' : Kd β} {ok : α → Prop} {ok' : β → Prop} {f : Field} {fs : List Field} {t off len len' : Nat} (h : Opens P kd ok t) (ht : f.type = t) (ho : f.offset = off) (hl : P.cellsOf t = len)
    (h' : OpensF P kd' ok' fs (off + len) len') : OpensF P (Kd.pair kd kd') (OkPair ok ok') (f :: fs) off (len + len') := by
  intro H enc W base spare held n cs hf hle
  obtain ⟨y, hy⟩ := hf f List.mem_cons_self
  subst ht ho hl
  obtain ⟨a, ha, hoka⟩ := h enc W base spare held n _ y hy
  obtain ⟨b, hb, hokb⟩ := h' enc W base spare held n cs (fun g hg => hf g (List.mem_cons_of_mem _ hg)) (by omega)
  refine ⟨(a, b), ⟨_, _, ?_, ha, hb⟩, hoka, hokb⟩
  rw [List.take_add, List.drop_drop]
theorem opens_struct {α β : Type} {kd : Kd α} {ok : α → Prop} {fs : Array Field} {len : Nat} (ht : P.underlying t = some (.struct fs)) (hc : P.cellsOf t = len) (h : OpensF P kd ok fs.toList 0 len) (f : β → α) (g : α → β) (hg : ∀ a, f (g a) = a) :
    Opens P (Kd.iso kd f) (fun b => ok (f b)) t := by
  intro H enc W base spare held fuel cs x hx
  obtain ⟨xs, n, _, _, hl, hlen, hf⟩ := DataW.trod_struct ht hx
  obtain ⟨a, ha, hok⟩ := h enc W base spare held n cs (fun fd hfd => by
    obtain ⟨i, hi⟩ := List.getElem?_of_mem hfd
    have h1 := hf i fd (by simpa using hi)
    have hi2 : i < xs.length := by
      have := (List.getElem?_eq_some_iff.1 hi).1
      rw [hlen]; simpa using this
    rw [List.getElem?_eq_getElem hi2] at h1
    exact ⟨_, h1⟩) (by omega)
  refine ⟨g a, ?_, by show ok (f (g a)); rw [hg]; exact hok⟩
  show kd.K W (f (g a)) cs
  rw [hg]
  have : (cs.drop 0).take len = cs := by rw [List.drop_zero]; exact List.take_of_length_le (by omega)
  rw [this] at ha
  exact ha
theorem opens_struct_id {α : Type} {kd : Kd α} {ok : α → Prop} {fs : Array Field} {len : Nat} (ht : P.underlying t = some (.struct fs)) (hc : P.cellsOf t = len) (h : OpensF P kd ok fs.toList 0 len) : Opens P kd ok t :=
  opens_struct ht hc h id id (fun _ => rfl)

/-! ### a parameter, opened -/
variable {H : Type} {enc : TypeId × Value → H} {W : World} {base : Nat} {spare : Nat → Bool} {held : Bool} {r : Reach} {b0 : Nat} {v : Value} {d : DataW H} {ps : List MemPlace}
theorem param_slice {α : Type} {kd : Kd α} {ok : List α → Prop} (ht : P.underlying t = some (.slice e)) (h : Opens P (Kd.slice e kd) ok t) (hval : Value.okWide P W r b0 t v) (hd : DataW.Trod enc P W base spare held t v d ps) :
    ∃ A c l, v = .slice A l.length c ∧ l.length ≤ c ∧ Kd.C kd W A l.length l ∧ ok l := by
  obtain ⟨a, len, cap, rfl⟩ := okWide_slice ht hval
  obtain ⟨fuel, hf⟩ := hd
  obtain ⟨l, ⟨A, c, hcs, hl, hC⟩, hok⟩ := h enc W base spare held fuel _ _ hf
  have : Value.slice a len cap = Value.slice A l.length c := by simpa [Value.cells] using hcs
  exact ⟨A, c, l, this, hl, hC, hok⟩
theorem param_struct {α : Type} {kd : Kd α} {ok : α → Prop} {fs : Array Field} (ht : P.underlying t = some (.struct fs)) (h : Opens P kd ok t) (hval : Value.okWide P W r b0 t v) (hd : DataW.Trod enc P W base spare held t v d ps) :
    ∃ cs a, v = .agg cs ∧ kd.K W a cs.toList ∧ ok a := by
  obtain ⟨cs, rfl, hsz⟩ := okWide_struct ht hval
  obtain ⟨fuel, hf⟩ := hd
  obtain ⟨a, hK, hok⟩ := h enc W base spare held fuel _ _ hf
  exact ⟨cs, a, rfl, hK, hok⟩
theorem agg_eq {cs : Array Value} {l : List Value} (h : cs.toList = l) : cs = l.toArray := by rw [← h]
end
end Go.Proofs.Ytoiohlmiofplcaa.Opens
