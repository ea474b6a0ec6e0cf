/-
  Texts that the claims of this chapter share, joined.
-/
import Derived.BigQuiet
import Derived.Deep.QuietTactic
import Derived.Test.YtoiohlmiofplcaaCn6ac
import Derived.Test.YtoiohlmiofplcaaCn6ab
import Derived.WalkKit
import Derived.ProofKit
import Derived.OpenShut
import Derived.ShutString
import Derived.ChangeOld
import Derived.Below
import Derived.SizedLaws
import Derived.ChangeArms
import Derived.Test.YtoiohlmiofplcaaWWords
set_option linter.unusedVariables false
set_option linter.unusedSimpArgs false
/-
  (*Tree).All, Get, Depth; do (chapter 10).
-/
namespace Go.Proofs.Ytoiohlmiofplcaa.P
open Go.RowKit Go.Shelf Go.Proofs.YtoiohlmiofplcaaW.PrintWords Go.Proofs.YtoiohlmiofplcaaW.PrintLast Go.Proofs.YtoiohlmiofplcaaW.PrintMore Go.Proofs.Plain
attribute [local go_sem] as71_71 as84_71 as71_84 as84_84

theorem from_all {h : Nat} {t : T h} (hR : Root h t) (hne : ¬ (ND.flatT h t).length = 0) : fromV (ND.flatT h t) (firstT h t) (((ND.flatT h t).length : Nat) : Int) = ND.flatT h t := by
  have hNE : NE h t := by
    rcases root_ne hR with h0 | hn
    · subst h0
      show 0 < List.length (α := S26) t
      have : ¬ List.length (α := S26) t = 0 := hne
      omega
    · exact hn
  obtain ⟨x, r, e, e2⟩ := ND.first_flat hNE
  rw [e2, e]
  unfold fromV ND.fromL
  rw [List.dropWhile_cons, if_neg (by rw [ND.lt_irrefl]; decide)]
  exact List.take_of_length_le (by omega)
set_option maxHeartbeats 8000000 in
theorem tree_all_calls (l : List S26) (v : Value) (w : World) (hr : TreeOf w l v) (hl : l.length ≤ 10000) :
    Calls Try.prog 38 #[v] w fun e w' => ∃ v', e = .returned v' ∧ Kd.R k26 26 w' w.heap.size (fun _ => True) v' l ∧ Below w.heap.size w w' := by
  have HLen := Aside0.mk (fun W (hW : Below w.heap.size w W) => len_calls l v W (hr.below hW))
  by_cases h0 : l.length = 0
  · rw [h0] at HLen
    obtain rfl : l = [] := List.eq_nil_of_length_eq_zero h0
    replace HLen : Aside0 (∀ W, Below w.heap.size w W → Calls Try.prog 36 #[v] W fun e w' => e = .returned (.int .i64 0) ∧ Below W.heap.size W w') := HLen
    clear hr hl h0
    go_enter Try.func38, Try.ntmps38
    go_wp2_with (first | (go_at_call 36; (with_reducible refine (HLen.out _ (Below.refl _ _)).mono ?_); rintro e w3 ⟨rfl, hb3⟩; have HB3 := Aside0.mk hb3; clear hb3))
    go_ret
    exact ⟨_, rfl, Kd.R_nil _ _ _ _ _, HB3.out⟩
  · have HFr := Aside0.mk (fun W (hW : Below w.heap.size w W) k n => tree_from_calls l v k n W (hr.below hW) hl)
    obtain ⟨h, t, hT, hR, rfl⟩ := hr
    have hfa := from_all hR h0
    have HTop := Aside0.mk (fun W (hW : Below w.heap.size w W) => top_at h t v w hT W hW)
    have hNE : NE h t := by
      rcases root_ne hR with h0' | hn
      · subst h0'
        show 0 < List.length (α := S26) t
        have : ¬ List.length (α := S26) t = 0 := h0
        omega
      · exact hn
    have HFi := Aside0.mk (fun u W (hu : RepU w h t u) (hW : Below w.heap.size w W) => first_calls h t u W hNE (RepU.below hW h t u hu))
    generalize firstT h t = k at *
    have HFr := Aside0.mk (fun W (hW : Below w.heap.size w W) => HFr.out W hW k (((ND.flatT h t).length : Nat) : Int))
    rw [hfa] at HFr
    have hd : ¬ (((ND.flatT h t).length : Nat) : Int) = 0 := by omega
    clear hT hR hfa hNE h0 hl
    generalize hLL : (ND.flatT h t).length = L at *
    clear hLL
    generalize ND.flatT h t = l at *
    cases h with
    | zero =>
      replace HTop : Aside0 (∀ W, Below w.heap.size w W → Calls Try.prog 50 #[v] W fun e w' => ∃ u, e = .returned (.iface 71 u) ∧ RepU w _ t u ∧ Below W.heap.size W w') := HTop
      replace HFi : Aside0 (∀ u W, RepU w _ t u → Below w.heap.size w W → Calls Try.prog 77 #[u] W fun e w' => e = .returned (.agg #[.string k.f0, .int .i64 k.f1]) ∧ Below W.heap.size W w') := HFi
      go_enter Try.func38, Try.ntmps38
      go_wp2_with (first | (go_at_call 36; (with_reducible refine (HLen.out _ (Below.refl _ _)).mono ?_); rintro e w3 ⟨rfl, hb3⟩; have HB3 := Aside0.mk hb3; clear hb3; go_wp2_with (first | (go_at_call 50; (with_reducible refine (HTop.out _ HB3.out).mono ?_); rintro e w4 ⟨u4, rfl, hu4, hb4⟩; have HB4 := Aside0.mk (HB3.out.trans (hb4.mono HB3.out.size)); have HU4 := Aside0.mk hu4; clear hb4 hu4) | (go_at_call 77; (with_reducible refine (HFi.out u4 _ HU4.out HB4.out).mono ?_); rintro e w5 ⟨rfl, hb5⟩; have HB5 := Aside0.mk (HB4.out.trans (hb5.mono HB4.out.size)); clear hb5; go_wp2_with (first | (go_at_call 36; (with_reducible refine (HLen.out _ HB5.out).mono ?_); rintro e w6 ⟨rfl, hb6⟩; have HB6 := Aside0.mk (HB5.out.trans (hb6.mono HB5.out.size)); clear hb6) | (go_at_call 39; (with_reducible refine (HFr.out _ HB6.out).mono ?_); rintro e w7 ⟨v7, rfl, ho7, hb7⟩; have HB7 := Aside0.mk (HB6.out.trans (hb7.mono HB6.out.size)); have HO7 := Aside0.mk (Kd.R_lower ho7 HB6.out.size); clear hb7 ho7))))))
      go_ret
      exact ⟨_, rfl, HO7.out, HB7.out⟩
    | succ h =>
      replace HTop : Aside0 (∀ W, Below w.heap.size w W → Calls Try.prog 50 #[v] W fun e w' => ∃ u, e = .returned (.iface 84 u) ∧ RepU w _ t u ∧ Below W.heap.size W w') := HTop
      replace HFi : Aside0 (∀ u W, RepU w _ t u → Below w.heap.size w W → Calls Try.prog 84 #[u] W fun e w' => e = .returned (.agg #[.string k.f0, .int .i64 k.f1]) ∧ Below W.heap.size W w') := HFi
      go_enter Try.func38, Try.ntmps38
      go_wp2_with (first | (go_at_call 36; (with_reducible refine (HLen.out _ (Below.refl _ _)).mono ?_); rintro e w3 ⟨rfl, hb3⟩; have HB3 := Aside0.mk hb3; clear hb3; go_wp2_with (first | (go_at_call 50; (with_reducible refine (HTop.out _ HB3.out).mono ?_); rintro e w4 ⟨u4, rfl, hu4, hb4⟩; have HB4 := Aside0.mk (HB3.out.trans (hb4.mono HB3.out.size)); have HU4 := Aside0.mk hu4; clear hb4 hu4) | (go_at_call 84; (with_reducible refine (HFi.out u4 _ HU4.out HB4.out).mono ?_); rintro e w5 ⟨rfl, hb5⟩; have HB5 := Aside0.mk (HB4.out.trans (hb5.mono HB4.out.size)); clear hb5; go_wp2_with (first | (go_at_call 36; (with_reducible refine (HLen.out _ HB5.out).mono ?_); rintro e w6 ⟨rfl, hb6⟩; have HB6 := Aside0.mk (HB5.out.trans (hb6.mono HB5.out.size)); clear hb6) | (go_at_call 39; (with_reducible refine (HFr.out _ HB6.out).mono ?_); rintro e w7 ⟨v7, rfl, ho7, hb7⟩; have HB7 := Aside0.mk (HB6.out.trans (hb7.mono HB6.out.size)); have HO7 := Aside0.mk (Kd.R_lower ho7 HB6.out.size); clear hb7 ho7))))))
      go_ret
      exact ⟨_, rfl, HO7.out, HB7.out⟩

/-- What Get answers. -/
def getV (l : List S26) (k : S24) : ByteArray × Bool := match fromV l k 1 with
  | [] => (⟨#[]⟩, false)
  | x :: _ => if x.f0.f0.toList = k.f0.toList ∧ x.f0.f1 = k.f1 then (x.f1, true) else (⟨#[]⟩, false)
set_option maxHeartbeats 8000000 in
theorem tree_get_calls (l : List S26) (v : Value) (k : S24) (w : World) (hr : TreeOf w l v) (hl : l.length ≤ 10000) :
    Calls Try.prog 34 #[v, .agg #[.string k.f0, .int .i64 k.f1]] w fun e w' => e = .returned (.tuple #[.string (getV l k).1, .bool (getV l k).2]) ∧ Below w.heap.size w w' := by
  have hb0 := (Below.refl w.heap.size w).alloc (Nat.le_refl _) (.cells #[.string k.f0, .int .i64 k.f1] 24)
  have HB := Aside0.mk hb0
  have hg := blk_new w (.cells #[.string k.f0, .int .i64 k.f1] 24)
  have HFr := Aside0.mk (tree_from_calls l v k 1 (w.alloc (.cells #[.string k.f0, .int .i64 k.f1] 24)) (hr.below hb0) hl)
  have HG := Aside0.mk hg
  have hlen : (fromV l k 1).length ≤ 1 := by unfold fromV; rw [List.length_take]; omega
  have hgv : ∃ g1 g2, getV l k = (g1, g2) := ⟨_, _, rfl⟩
  obtain ⟨g1, g2, hgv⟩ := hgv
  rw [hgv]
  show Calls _ _ _ _ fun e w' => e = .returned (.tuple #[.string g1, .bool g2]) ∧ _
  unfold getV at hgv
  generalize fromV l k 1 = res at *
  clear hr hl hb0 hg
  cases res with
  | nil =>
    obtain ⟨rfl, rfl⟩ := Prod.mk.inj hgv
    clear hgv
    go_enter Try.func34, Try.ntmps34
    go_wp2_with (first | (go_at_call 39; (with_reducible refine HFr.out.mono ?_); rintro e w3 ⟨v3, rfl, ho3, hb3⟩; have HB3 := Aside0.mk (HB.out.trans (hb3.mono HB.out.size)); obtain ⟨A3, c3, rfl⟩ := Kd.R_slice ho3; have HO3 := Aside0.mk ho3; clear ho3 hb3))
    go_quiet (fail)
    go_wp2
    go_ret2
    exact ⟨rfl, pw_below_drewN HB3.out _⟩
  | cons x tl =>
    obtain rfl : tl = [] := by
      cases tl with
      | nil => rfl
      | cons y z => simp at hlen
    by_cases hk : x.f0.f0.toList = k.f0.toList ∧ x.f0.f1 = k.f1
    · rw [show (match [x] with | [] => ((⟨#[]⟩ : ByteArray), false) | x :: _ => if x.f0.f0.toList = k.f0.toList ∧ x.f0.f1 = k.f1 then (x.f1, true) else ((⟨#[]⟩ : ByteArray), false)) = if x.f0.f0.toList = k.f0.toList ∧ x.f0.f1 = k.f1 then (x.f1, true) else ((⟨#[]⟩ : ByteArray), false) from rfl, if_pos hk] at hgv
      obtain ⟨rfl, rfl⟩ := Prod.mk.inj hgv
      have heq : ∀ W, Sem.run Try.prog (binOp .neq 24 (.agg #[.string x.f0.f0, .int .i64 x.f0.f1]) (.agg #[.string k.f0, .int .i64 k.f1])) W = .ok (.bool false) W := fun W => by
        go_simp
        try simp [hk.1, hk.2]
      clear hgv hk
      go_enter Try.func34, Try.ntmps34
      go_wp2_with (first | (go_at_call 39; (with_reducible refine HFr.out.mono ?_); rintro e w3 ⟨v3, rfl, ho3, hb3⟩; have HB3 := Aside0.mk (HB.out.trans (hb3.mono HB.out.size)); obtain ⟨A3, c3, rfl⟩ := Kd.R_slice ho3; have HO3 := Aside0.mk ho3; have hk3 := blk_below HG.out hb3; have y0 := blk_cell hk3 0; have y1 := blk_cell hk3 1; simp only [List.getElem?_toArray, List.getElem?_cons_zero, List.getElem?_cons_succ] at y0 y1; clear ho3 hb3 hk3))
      obtain ⟨ad, hA3, hx0, hx1, hx2⟩ := at_T26 (Kd.R_reads' HO3.out).2.2 0 (by omega) (by simp)
      rw [show rd_T26 [x] 0 = x from rfl, show ((0 : Int)).toNat * 3 = 0 from rfl, Addr.add_zero'] at hx0 hx1 hx2
      subst hA3
      go_quiet (fail)
      go_wp2
      go_ret2
      exact ⟨rfl, pw_below_drewN HB3.out _⟩
    · rw [show (match [x] with | [] => ((⟨#[]⟩ : ByteArray), false) | x :: _ => if x.f0.f0.toList = k.f0.toList ∧ x.f0.f1 = k.f1 then (x.f1, true) else ((⟨#[]⟩ : ByteArray), false)) = if x.f0.f0.toList = k.f0.toList ∧ x.f0.f1 = k.f1 then (x.f1, true) else ((⟨#[]⟩ : ByteArray), false) from rfl, if_neg hk] at hgv
      obtain ⟨rfl, rfl⟩ := Prod.mk.inj hgv
      have heq : ∀ W, Sem.run Try.prog (binOp .neq 24 (.agg #[.string x.f0.f0, .int .i64 x.f0.f1]) (.agg #[.string k.f0, .int .i64 k.f1])) W = .ok (.bool true) W := fun W => by
        go_simp
        by_cases e1 : x.f0.f0.toList = k.f0.toList <;> by_cases e2 : x.f0.f1 = k.f1 <;> simp [e1, e2]
        exact absurd ⟨e1, e2⟩ hk
      clear hgv hk
      go_enter Try.func34, Try.ntmps34
      go_wp2_with (first | (go_at_call 39; (with_reducible refine HFr.out.mono ?_); rintro e w3 ⟨v3, rfl, ho3, hb3⟩; have HB3 := Aside0.mk (HB.out.trans (hb3.mono HB.out.size)); obtain ⟨A3, c3, rfl⟩ := Kd.R_slice ho3; have HO3 := Aside0.mk ho3; have hk3 := blk_below HG.out hb3; have y0 := blk_cell hk3 0; have y1 := blk_cell hk3 1; simp only [List.getElem?_toArray, List.getElem?_cons_zero, List.getElem?_cons_succ] at y0 y1; clear ho3 hb3 hk3))
      obtain ⟨ad, hA3, hx0, hx1, hx2⟩ := at_T26 (Kd.R_reads' HO3.out).2.2 0 (by omega) (by simp)
      rw [show rd_T26 [x] 0 = x from rfl, show ((0 : Int)).toNat * 3 = 0 from rfl, Addr.add_zero'] at hx0 hx1 hx2
      subst hA3
      go_quiet (fail)
      go_wp2
      go_ret2
      exact ⟨rfl, pw_below_drewN HB3.out _⟩
end Go.Proofs.Ytoiohlmiofplcaa.P
/-
  (*Tree).Depth of no pairs; do (chapter 10).
-/
namespace Go.Proofs.Ytoiohlmiofplcaa.P
open Go.RowKit Go.Shelf Go.Proofs.YtoiohlmiofplcaaW.PrintWords Go.Proofs.YtoiohlmiofplcaaW.PrintLast Go.Proofs.YtoiohlmiofplcaaW.PrintMore Go.Proofs.Plain
attribute [local go_sem] as71_71 as84_71 as71_84 as84_84

set_option maxHeartbeats 4000000 in
theorem tree_depth_calls (v : Value) (w : World) (hr : TreeOf w [] v) : Calls Try.prog 43 #[v] w fun e w' => e = .returned (.int .i64 1) ∧ Below w.heap.size w w' := by
  obtain ⟨h, t, hT, hR, hf⟩ := hr
  obtain rfl : h = 0 := by
    rcases root_ne hR with h0 | hn
    · exact h0
    · obtain ⟨x, r, e, _⟩ := ND.first_flat hn
      rw [hf] at e
      cases e
  have HTop := Aside0.mk (top_at 0 t v w hT w (Below.refl _ _))
  replace HTop : Aside0 (Calls Try.prog 50 #[v] w fun e w' => ∃ u, e = .returned (.iface 71 u) ∧ RepU w 0 t u ∧ Below w.heap.size w w') := HTop
  clear hT hR hf
  go_enter Try.func43, Try.ntmps43
  go_wp2_with (first | (go_at_call 50; (with_reducible refine HTop.out.mono ?_); rintro e w3 ⟨u, rfl, _, hb3⟩; have HB3 := Aside0.mk hb3; clear hb3))
  go_loopw [3, 4] (fun s x wr => s = .int .i64 1 ∧ x = .iface 71 u ∧ Aside0 (Below w.heap.size w wr)) (fun _ _ _ => 0)
  case atStart => exact ⟨rfl, rfl, HB3⟩
  case round =>
    obtain ⟨rfl, rfl, HB⟩ := hrel
    have HB4 := Aside0.mk (HB.out.alloc HB.out.size (.cells #[.slice none 0 0, .int .i64 0] 84))
    go_wp2
    go_ret
    exact ⟨rfl, HB4.out⟩
end Go.Proofs.Ytoiohlmiofplcaa.P
/-
  The document's rows of chapter 10: what the tree's calls answer.
-/
namespace Go.Proofs.Ytoiohlmiofplcaa.P
open Go.RowKit Go.Proofs.YtoiohlmiofplcaaW.PrintWords Go.Proofs.YtoiohlmiofplcaaW.PrintLast Go.Proofs.Plain
def gB : S26 := ⟨⟨⟨#[98]⟩, 1⟩, ⟨#[120]⟩⟩
def gA : S26 := ⟨⟨⟨#[97]⟩, 2⟩, ⟨#[121]⟩⟩
theorem g1 : ND.putL [] gB = [gB] := by kernel_rfl
theorem g2 : ND.putL [gB] gA = [gA, gB] := by kernel_rfl
theorem g3 : ND.dropL [gA, gB] gA.f0 = [gB] := by kernel_rfl
theorem g4 : getV [gA, gB] gA.f0 = (⟨#[121]⟩, true) := by decide +kernel
theorem g5 : getV [gB] gA.f0 = (⟨#[]⟩, false) := by decide +kernel
theorem g6 : fromV [gA, gB] ⟨⟨#[97]⟩, 0⟩ 5 = [gB] := by kernel_rfl
end Go.Proofs.Ytoiohlmiofplcaa.P
/-
  sextonlaw10.grown answers true.
-/
namespace Go.Proofs.Ytoiohlmiofplcaa.P
open Go.RowKit Go.Shelf Go.Proofs.YtoiohlmiofplcaaW.PrintWords Go.Proofs.YtoiohlmiofplcaaW.PrintLast Go.Proofs.YtoiohlmiofplcaaW.PrintMore Go.Proofs.Plain

theorem same_yes_calls (l : List S26) (hl : l.length ≤ 100000) (W : World) (A0 : Option Addr) (c0 : Nat) (A1 : Option Addr) (c1 : Nat) (h0 : Kd.C k26 W A0 l.length l) (hc0 : l.length ≤ c0) (h1 : Kd.C k26 W A1 l.length l) (hc1 : l.length ≤ c1) :
    Calls Try.prog 25 #[.slice A0 l.length c0, .slice A1 l.length c1] W fun e w' => e = .returned (.bool true) ∧ Below W.heap.size W w' := by
  refine (sextonref09_Same.calls (l.length + 1) A0 c0 l A1 c1 l true W h0 hc0 h1 hc1 (ND.same_f l hl _ (by omega))).mono ?_
  rintro e w' ⟨rfl, nd, rfl⟩
  exact ⟨rfl, pw_below_drewN (Below.refl _ _) nd⟩
theorem putB (v : Value) (w : World) (h : TreeOf w [] v) : Calls Try.prog 41 #[v, .agg #[.string ⟨#[98]⟩, .int .i64 1, .string ⟨#[120]⟩]] w fun e w' => ∃ v', e = .returned v' ∧ TreeOf w' [gB] v' ∧ Below w.heap.size w w' := by
  have := tree_put_calls [] v gB w h (by decide)
  rw [g1] at this
  exact this
theorem putA (v : Value) (w : World) (h : TreeOf w [gB] v) : Calls Try.prog 41 #[v, .agg #[.string ⟨#[97]⟩, .int .i64 2, .string ⟨#[121]⟩]] w fun e w' => ∃ v', e = .returned v' ∧ TreeOf w' [gA, gB] v' ∧ Below w.heap.size w w' := by
  have := tree_put_calls [gB] v gA w h (by decide)
  rw [g2] at this
  exact this
theorem dropA (v : Value) (w : World) (h : TreeOf w [gA, gB] v) : Calls Try.prog 42 #[v, .agg #[.string ⟨#[97]⟩, .int .i64 2]] w fun e w' => ∃ v', e = .returned v' ∧ TreeOf w' [gB] v' ∧ Below w.heap.size w w' := by
  have := tree_drop_calls [gA, gB] v gA.f0 w h (by decide)
  rw [g3] at this
  exact this
theorem getA (v : Value) (w : World) (h : TreeOf w [gA, gB] v) : Calls Try.prog 34 #[v, .agg #[.string ⟨#[97]⟩, .int .i64 2]] w fun e w' => e = .returned (.tuple #[.string ⟨#[121]⟩, .bool true]) ∧ Below w.heap.size w w' := by
  have := tree_get_calls [gA, gB] v gA.f0 w h (by decide)
  rw [g4] at this
  exact this
theorem getA' (v : Value) (w : World) (h : TreeOf w [gB] v) : Calls Try.prog 34 #[v, .agg #[.string ⟨#[97]⟩, .int .i64 2]] w fun e w' => e = .returned (.tuple #[.string ⟨#[]⟩, .bool false]) ∧ Below w.heap.size w w' := by
  have := tree_get_calls [gB] v gA.f0 w h (by decide)
  rw [g5] at this
  exact this
theorem fromA (v : Value) (w : World) (h : TreeOf w [gA, gB] v) : Calls Try.prog 39 #[v, .agg #[.string ⟨#[97]⟩, .int .i64 0], .int .i64 5] w fun e w' => ∃ v', e = .returned v' ∧ Kd.R k26 26 w' w.heap.size (fun _ => True) v' [gB] ∧ Below w.heap.size w w' := by
  have := tree_from_calls [gA, gB] v ⟨⟨#[97]⟩, 0⟩ 5 w h (by decide)
  rw [g6] at this
  exact this
theorem lenB (v : Value) (w : World) (h : TreeOf w [gB] v) : Calls Try.prog 36 #[v] w fun e w' => e = .returned (.int .i64 1) ∧ Below w.heap.size w w' := len_calls [gB] v w h
theorem lenAB (v : Value) (w : World) (h : TreeOf w [gA, gB] v) : Calls Try.prog 36 #[v] w fun e w' => e = .returned (.int .i64 2) ∧ Below w.heap.size w w' := len_calls [gA, gB] v w h
theorem allAB (v : Value) (w : World) (h : TreeOf w [gA, gB] v) : Calls Try.prog 38 #[v] w fun e w' => ∃ v', e = .returned v' ∧ Kd.R k26 26 w' w.heap.size (fun _ => True) v' [gA, gB] ∧ Below w.heap.size w w' := tree_all_calls [gA, gB] v w h (by decide)
theorem lit_rows {W : World} {g e : Nat} {cs : List Value} {l : List S26} (hg : W.heap[g]? = some (.cells cs.toArray e (0, 0))) (hl : l.length ≤ 1000)
    (hx : ∀ j x, l[j]? = some x → cs[j * 3]? = some (.string x.f0.f0) ∧ cs[j * 3 + 1]? = some (.int .i64 x.f0.f1) ∧ cs[j * 3 + 2]? = some (.string x.f1)) : Kd.C k26 W (some ⟨g, 0, none⟩) l.length l := by
  refine ⟨rfl, by omega, fun _ => ⟨_, rfl, fun j x hj => ?_⟩⟩
  obtain ⟨h0, h1, h2⟩ := hx j x hj
  refine ⟨[.string x.f0.f0, .int .i64 x.f0.f1, .string x.f1], rfl, k26.K_of_M (k26_mkM W 0 (fun _ => True) x), fun i u hu => ?_⟩
  have hc := fun q => blk_cell hg q
  have ha : (⟨g, 0, none⟩ : Addr).add (j * 3 + i) = ⟨g, j * 3 + i, none⟩ := by simp [Addr.add]; omega
  show W.cell? ((⟨g, 0, none⟩ : Addr).add (j * 3 + i)) = _
  rw [ha, hc, List.getElem?_toArray]
  match i, hu with
  | 0, hu => rw [Nat.add_zero, h0]; exact hu
  | 1, hu => rw [h1]; exact hu
  | 2, hu => rw [h2]; exact hu
theorem lit2 {W : World} {g : Nat} (hg : W.heap[g]? = some (.cells #[.string ⟨#[97]⟩, .int .i64 2, .string ⟨#[121]⟩, .string ⟨#[98]⟩, .int .i64 1, .string ⟨#[120]⟩] 26 (0, 0))) : Kd.C k26 W (some ⟨g, 0, none⟩) 2 [gA, gB] :=
  lit_rows hg (by decide) (fun j x hj => by
    match j, hj with
    | 0, hj => cases hj; exact ⟨rfl, rfl, rfl⟩
    | 1, hj => cases hj; exact ⟨rfl, rfl, rfl⟩)
theorem lit1 {W : World} {g : Nat} (hg : W.heap[g]? = some (.cells #[.string ⟨#[98]⟩, .int .i64 1, .string ⟨#[120]⟩] 26 (0, 0))) : Kd.C k26 W (some ⟨g, 0, none⟩) 1 [gB] :=
  lit_rows hg (by decide) (fun j x hj => by
    match j, hj with
    | 0, hj => cases hj; exact ⟨rfl, rfl, rfl⟩)
theorem same2 (W : World) (A0 : Option Addr) (c0 : Nat) (A1 : Option Addr) (h0 : Kd.C k26 W A0 2 [gA, gB]) (hc0 : 2 ≤ c0) (h1 : Kd.C k26 W A1 2 [gA, gB]) : Calls Try.prog 25 #[.slice A0 2 c0, .slice A1 2 2] W fun e w' => e = .returned (.bool true) ∧ Below W.heap.size W w' :=
  same_yes_calls [gA, gB] (by decide) W A0 c0 A1 2 h0 hc0 h1 (Nat.le_refl _)
theorem same1 (W : World) (A0 : Option Addr) (c0 : Nat) (A1 : Option Addr) (h0 : Kd.C k26 W A0 1 [gB]) (hc0 : 1 ≤ c0) (h1 : Kd.C k26 W A1 1 [gB]) : Calls Try.prog 25 #[.slice A0 1 c0, .slice A1 1 1] W fun e w' => e = .returned (.bool true) ∧ Below W.heap.size W w' :=
  same_yes_calls [gB] (by decide) W A0 c0 A1 1 h0 hc0 h1 (Nat.le_refl _)
set_option maxHeartbeats 16000000 in
set_option maxRecDepth 100000 in
theorem grown_calls (w : World) : Calls Try.prog 37 #[] w fun e w' => e = .returned (.bool true) ∧ Below w.heap.size w w' := by
  obtain ⟨w2, hw2⟩ : ∃ w2, w2 = (w.alloc (.cells #[.string ⟨#[98]⟩, .int .i64 1, .string ⟨#[120]⟩] 26)).alloc (.cells #[.string ⟨#[97]⟩, .int .i64 2, .string ⟨#[121]⟩] 26) := ⟨_, rfl⟩
  have hb0 := (Below.refl w.heap.size w).alloc (Nat.le_refl _) (.cells #[.string ⟨#[98]⟩, .int .i64 1, .string ⟨#[120]⟩] 26)
  have HB2 := Aside0.mk (hb0.alloc hb0.size (.cells #[.string ⟨#[97]⟩, .int .i64 2, .string ⟨#[121]⟩] 26))
  have hS0 : w2.cell? ⟨w.heap.size, 0, none⟩ = some (.string ⟨#[98]⟩) ∧ w2.cell? ⟨w.heap.size, 1, none⟩ = some (.int .i64 1) ∧ w2.cell? ⟨w.heap.size, 2, none⟩ = some (.string ⟨#[120]⟩) ∧ w2.cell? ⟨w.heap.size + 1, 0, none⟩ = some (.string ⟨#[97]⟩) ∧ w2.cell? ⟨w.heap.size + 1, 1, none⟩ = some (.int .i64 2) ∧ w2.cell? ⟨w.heap.size + 1, 2, none⟩ = some (.string ⟨#[121]⟩) := by
    have g0 := blk_below (blk_new w (.cells #[.string ⟨#[98]⟩, .int .i64 1, .string ⟨#[120]⟩] 26)) ((Below.refl _ _).alloc (Nat.le_refl _) (.cells #[.string ⟨#[97]⟩, .int .i64 2, .string ⟨#[121]⟩] 26))
    have g1 := blk_new (w.alloc (.cells #[.string ⟨#[98]⟩, .int .i64 1, .string ⟨#[120]⟩] 26)) (.cells #[.string ⟨#[97]⟩, .int .i64 2, .string ⟨#[121]⟩] 26)
    rw [World.size_alloc] at g1
    rw [hw2]
    exact ⟨blk_cell g0 0, blk_cell g0 1, blk_cell g0 2, blk_cell g1 0, blk_cell g1 1, blk_cell g1 2⟩
  have HS2 := Aside0.mk hS0
  rw [← hw2] at HB2
  clear hb0 hS0
  go_enter Try.func37, Try.ntmps37
  go_wp2
  rw [← hw2]
  clear hw2
  have HBc := Aside0.mk (Below.refl w2.heap.size w2)
  go_region_held3 (fun W => W.cell? ⟨w.heap.size, 0, none⟩ = some (.string ⟨#[98]⟩) ∧ W.cell? ⟨w.heap.size, 1, none⟩ = some (.int .i64 1) ∧ W.cell? ⟨w.heap.size, 2, none⟩ = some (.string ⟨#[120]⟩) ∧ W.cell? ⟨w.heap.size + 1, 0, none⟩ = some (.string ⟨#[97]⟩) ∧ W.cell? ⟨w.heap.size + 1, 1, none⟩ = some (.int .i64 2) ∧ W.cell? ⟨w.heap.size + 1, 2, none⟩ = some (.string ⟨#[121]⟩)) (first | exact cells6 (by repeat (first | (with_reducible first | exact HBc.out | apply below_alloc | apply below_drew | apply pw_below_drewN) | exact HBc.out)) HS2.out) (first | (go_at_call 31; (with_reducible refine (new_calls _).mono ?_); rintro e w3 ⟨v3, rfl, ht, hb⟩; have HT3 := Aside0.mk ht; have HB3 := Aside0.mk (below_step (by repeat (first | (with_reducible first | exact HBc.out | apply below_alloc | apply below_drew | apply pw_below_drewN) | exact HBc.out)) hb); clear HBc; have HBc := HB3; clear ht hb) | (go_at_call 41; (with_reducible refine (putB v3 _ HT3.out).mono ?_); rintro e w4 ⟨v4, rfl, ht, hb⟩; have HT4 := Aside0.mk ht; have HB4 := Aside0.mk (below_step (by repeat (first | (with_reducible first | exact HBc.out | apply below_alloc | apply below_drew | apply pw_below_drewN) | exact HBc.out)) hb); clear HBc; have HBc := HB4; clear ht hb) | (go_at_call 41; (with_reducible refine (putA v4 _ HT4.out).mono ?_); rintro e w5 ⟨v5, rfl, ht, hb⟩; have HT5 := Aside0.mk ht; have HB5 := Aside0.mk (below_step (by repeat (first | (with_reducible first | exact HBc.out | apply below_alloc | apply below_drew | apply pw_below_drewN) | exact HBc.out)) hb); clear HBc; have HBc := HB5; clear ht hb))
  have HS5 := Aside0.mk (cells6 HB5.out HS2.out)
  obtain ⟨_, _, _, z0, z1, _⟩ := HS5.out
  have HB5w := Aside0.mk (HB2.out.trans (HB5.out.mono HB2.out.size))
  clear HBc HB3 HB4 HB5 HT3 HT4 HS2 HB2
  go_wp2_with (first | (go_at_call 42; (with_reducible refine (dropA v5 _ HT5.out).mono ?_); rintro e w6 ⟨v6, rfl, ht, hb⟩; have HT6 := Aside0.mk ht; have HB6 := Aside0.mk hb; have y0 := pw_cell_below hb z0; have y1 := pw_cell_below hb z1; clear ht hb; go_wp2_with (first | (go_at_call 34; (with_reducible refine (getA v5 _ (HT5.out.below HB6.out)).mono ?_); rintro e w7 ⟨rfl, hb⟩; have HB7 := Aside0.mk (HB6.out.trans (hb.mono HB6.out.size)); have HT7 := Aside0.mk (HT6.out.below hb); have x0 := pw_cell_below hb y0; have x1 := pw_cell_below hb y1; clear hb; go_wp2_with (first | (go_at_call 34; (with_reducible refine (getA' v6 _ HT7.out).mono ?_); rintro e w8 ⟨rfl, hb⟩; have HB8 := Aside0.mk (HB7.out.trans (hb.mono HB7.out.size)); have HT8 := Aside0.mk (HT7.out.below hb); clear hb))))))
  clear z0 z1 y0 y1 x0 x1
  have HT5' := Aside0.mk (HT5.out.below HB8.out)
  have HS8 := Aside0.mk (cells6 HB8.out HS5.out)
  have HBw := Aside0.mk (HB5w.out.trans (HB8.out.mono HB5w.out.size))
  clear HT5 HT6 HT7 HB6 HB7 HS5 HB5w HB8
  have HBc := Aside0.mk (Below.refl w8.heap.size w8)
  go_region_held3 (fun W => W.cell? ⟨w.heap.size, 0, none⟩ = some (.string ⟨#[98]⟩) ∧ W.cell? ⟨w.heap.size, 1, none⟩ = some (.int .i64 1) ∧ W.cell? ⟨w.heap.size, 2, none⟩ = some (.string ⟨#[120]⟩) ∧ W.cell? ⟨w.heap.size + 1, 0, none⟩ = some (.string ⟨#[97]⟩) ∧ W.cell? ⟨w.heap.size + 1, 1, none⟩ = some (.int .i64 2) ∧ W.cell? ⟨w.heap.size + 1, 2, none⟩ = some (.string ⟨#[121]⟩)) (first | exact cells6 (by repeat (first | (with_reducible first | exact HBc.out | apply below_alloc | apply below_drew | apply pw_below_drewN) | exact HBc.out)) HS8.out) (first
    | (go_at_call 38; (with_reducible refine (allAB v5 _ (HT5'.out.below (by repeat (first | (with_reducible first | exact HBc.out | apply below_alloc | apply below_drew | apply pw_below_drewN) | exact HBc.out)))).mono ?_); rintro e w9 ⟨v9, rfl, ho, hb⟩; have HB9 := Aside0.mk (below_step (by repeat (first | (with_reducible first | exact HBc.out | apply below_alloc | apply below_drew | apply pw_below_drewN) | exact HBc.out)) hb); clear HBc; have HBc := HB9; have HB38 := Aside0.mk hb; obtain ⟨A9, c9, rfl, h9, hC9⟩ := Kd.R_reads ho; have HC9 := Aside0.mk (show Kd.C k26 w9 A9 2 [gA, gB] from hC9); have h9 : 2 ≤ c9 := h9; clear ho hb hC9)
    | (go_at_call 25; (first | (with_reducible refine (same2 _ A9 c9 _ (Kd.C_below HC9.out (by first | exact Below.refl _ _ | exact below_alloc (Below.refl _ _) _)) h9 (lit2 (blk_new _ _))).mono ?_) | (with_reducible refine (same2 _ A9 c9 _ (Kd.C_below HC9.out (by first | exact Below.refl _ _ | exact below_alloc (Below.refl _ _) _)) h9 (lit2 (blk_below (blk_drew (blk_new _ _)) HB38.out))).mono ?_) | fail); rintro e w10 ⟨rfl, hb⟩; have HB10 := Aside0.mk (below_step (by repeat (first | (with_reducible first | exact HBc.out | apply below_alloc | apply below_drew | apply pw_below_drewN) | exact HBc.out)) hb); clear HBc; have HBc := HB10; clear hb)
    | (go_at_call 36; (with_reducible refine (lenB v6 _ (HT8.out.below (by repeat (first | (with_reducible first | exact HBc.out | apply below_alloc | apply below_drew | apply pw_below_drewN) | exact HBc.out)))).mono ?_); rintro e w11 ⟨rfl, hb⟩; have HB11 := Aside0.mk (below_step (by repeat (first | (with_reducible first | exact HBc.out | apply below_alloc | apply below_drew | apply pw_below_drewN) | exact HBc.out)) hb); clear HBc; have HBc := HB11; clear hb)
    | (go_at_call 36; (with_reducible refine (lenAB v5 _ (HT5'.out.below (by repeat (first | (with_reducible first | exact HBc.out | apply below_alloc | apply below_drew | apply pw_below_drewN) | exact HBc.out)))).mono ?_); rintro e w12 ⟨rfl, hb⟩; have HB12 := Aside0.mk (below_step (by repeat (first | (with_reducible first | exact HBc.out | apply below_alloc | apply below_drew | apply pw_below_drewN) | exact HBc.out)) hb); clear HBc; have HBc := HB12; clear hb)
    | (go_at_call 31; (with_reducible refine (new_calls _).mono ?_); rintro e w13 ⟨v13, rfl, ht, hb⟩; have HT13 := Aside0.mk ht; have HB13 := Aside0.mk (below_step (by repeat (first | (with_reducible first | exact HBc.out | apply below_alloc | apply below_drew | apply pw_below_drewN) | exact HBc.out)) hb); clear HBc; have HBc := HB13; clear ht hb)
    | (go_at_call 43; (with_reducible refine (tree_depth_calls v13 _ HT13.out).mono ?_); rintro e w14 ⟨rfl, hb⟩; have HB14 := Aside0.mk (below_step (by repeat (first | (with_reducible first | exact HBc.out | apply below_alloc | apply below_drew | apply pw_below_drewN) | exact HBc.out)) hb); clear HBc; have HBc := HB14; clear hb)
    | (go_at_call 39; (with_reducible refine (fromA v5 _ (HT5'.out.below (by repeat (first | (with_reducible first | exact HBc.out | apply below_alloc | apply below_drew | apply pw_below_drewN) | exact HBc.out)))).mono ?_); rintro e w15 ⟨v15, rfl, ho, hb⟩; have HB15 := Aside0.mk (below_step (by repeat (first | (with_reducible first | exact HBc.out | apply below_alloc | apply below_drew | apply pw_below_drewN) | exact HBc.out)) hb); clear HBc; have HBc := HB15; have HB39 := Aside0.mk hb; obtain ⟨A15, c15, rfl, h15, hC15⟩ := Kd.R_reads ho; have HC15 := Aside0.mk (show Kd.C k26 w15 A15 1 [gB] from hC15); have h15 : 1 ≤ c15 := h15; clear ho hb hC15)
    | (go_at_call 25; (first | (with_reducible refine (same1 _ A15 c15 _ (Kd.C_below HC15.out (by first | exact Below.refl _ _ | exact below_alloc (Below.refl _ _) _)) h15 (lit1 (blk_new _ _))).mono ?_) | (with_reducible refine (same1 _ A15 c15 _ (Kd.C_below HC15.out (by first | exact Below.refl _ _ | exact below_alloc (Below.refl _ _) _)) h15 (lit1 (blk_below (blk_new _ _) HB39.out))).mono ?_) | fail); rintro e w16 ⟨rfl, hb⟩; have HB16 := Aside0.mk (below_step (by repeat (first | (with_reducible first | exact HBc.out | apply below_alloc | apply below_drew | apply pw_below_drewN) | exact HBc.out)) hb); clear HBc; have HBc := HB16; clear hb)
    | fail)
  all_goals go_wp2
  all_goals go_ret
  all_goals exact ⟨rfl, HBw.out.trans (HB16.out.mono HBw.out.size)⟩
end Go.Proofs.Ytoiohlmiofplcaa.P
/-
  What can be read as data reads as a value of its kind: kind by kind, for the rows of the statements.
-/
namespace Go.Proofs.Ytoiohlmiofplcaa.Opens
open Go.ChangeShapes Go.WideShapes Go.ChangeAt Go.RowKit Go.Proofs.YtoiohlmiofplcaaW.PrintWords

def Opens (P : Program) {α : Type} (kd : Kd α) (ok : α → Prop) (t : TypeId) : Prop :=
  ∀ {H : Type} (enc : TypeId × Value → H) (W : World) (base : Nat) (spare : Nat → Bool) (held : Bool) (fuel : Nat) (cs : List Value) (x : DataW H × List MemPlace),
    DataW.trod enc P W base spare held fuel t cs = some x → ∃ a, kd.K W a cs ∧ ok a
def OkInt (k : IntKind) (n : Int) : Prop := (Lit.int k n).wf = true
def OkStr (s : ByteArray) : Prop := s.size ≤ maxLen
def OkList {α : Type} (ok : α → Prop) (l : List α) : Prop := l.length ≤ maxLen ∧ ∀ a ∈ l, ok a
def OkPair {α β : Type} (p : α → Prop) (q : β → Prop) (x : α × β) : Prop := p x.1 ∧ q x.2

section
variable {P : Program} {t e : TypeId}
theorem opens_int {k : IntKind} (ht : P.underlying t = some (.int k)) : Opens P (Kd.int k) (OkInt k) t := by
  intro H enc W base spare held fuel cs x h
  obtain ⟨n, rfl, _, hw⟩ := DataW.trod_int ht h
  exact ⟨n, rfl, hw⟩
theorem opens_string (ht : P.underlying t = some .string) : Opens P Kd.string OkStr t := by
  intro H enc W base spare held fuel cs x h
  obtain ⟨s, rfl, _, hs⟩ := DataW.trod_string ht h
  exact ⟨s, rfl, hs⟩
theorem addr_add (a : Addr) (x i : Nat) : a.add (x + i) = (a.add x).add i := by
  unfold Addr.add
  by_cases h1 : x = 0 <;> by_cases h2 : i = 0 <;> simp [h1, h2, Nat.add_assoc]
theorem opens_slice {α : Type} {kd : Kd α} {ok : α → Prop} (ht : P.underlying t = some (.slice e)) (hc : P.cellsOf e = kd.sz) (he : Opens P kd ok e) : Opens P (Kd.slice e kd) (OkList ok) t := by
  intro H enc W base spare held fuel cs x h
  rcases DataW.trod_slice ht h with ⟨rfl, _⟩ | ⟨a, len, cap, elems, rest, n, _, rfl, _, hb, hl, hm, hlen, hel, _, _⟩
  · exact ⟨[], ⟨none, 0, rfl, Nat.le_refl _, rfl, by simp, fun h0 => absurd h0 (Nat.lt_irrefl 0)⟩, by simp [maxLen], by simp⟩
  · have each : ∀ i, i < len → ∃ (y : α) (c : List Value), c.length = kd.sz ∧ kd.K W y c ∧ ok y ∧ ∀ j u, c[j]? = some u → W.cell? ((a.add (i * kd.sz)).add j) = some u := by
      intro i hi
      have h1 := hel i hi
      rw [hc, List.getElem?_eq_getElem (by omega), Option.bind_eq_some_iff] at h1
      obtain ⟨c, hcs, hy⟩ := h1
      obtain ⟨y, hK, hok⟩ := he enc W base spare held n c _ hy
      obtain ⟨_, hcl, hcell⟩ := World.cells?_some hcs
      refine ⟨y, c, kd.K_len hK, hK, hok, fun j u hj => ?_⟩
      have hjl : j < kd.sz := by have := (List.getElem?_eq_some_iff.1 hj).1; rw [kd.K_len hK] at this; exact this
      rw [hcell j hjl, hj]
    have pick : ∃ l : List α, l.length = len ∧ ∀ i y, l[i]? = some y → ∃ c : List Value, c.length = kd.sz ∧ kd.K W y c ∧ ok y ∧ ∀ j u, c[j]? = some u → W.cell? ((a.add (i * kd.sz)).add j) = some u := by
      have key : ∀ m, m ≤ len → ∃ l : List α, l.length = m ∧ ∀ i y, l[i]? = some y → ∃ c : List Value, c.length = kd.sz ∧ kd.K W y c ∧ ok y ∧ ∀ j u, c[j]? = some u → W.cell? ((a.add (i * kd.sz)).add j) = some u := by
        intro m
        induction m with
        | zero => intro _; exact ⟨[], rfl, fun i y h => by simp at h⟩
        | succ m ih =>
          intro hm
          obtain ⟨l, hl1, hl2⟩ := ih (by omega)
          obtain ⟨y, c, h1, h2, h3, h4⟩ := each m (by omega)
          refine ⟨l ++ [y], by simp [hl1], fun i z hz => ?_⟩
          rcases Nat.lt_or_ge i l.length with hi | hi
          · rw [List.getElem?_append_left hi] at hz
            exact hl2 i z hz
          · have : i = l.length := by
              have := (List.getElem?_eq_some_iff.1 hz).1
              rw [List.length_append, List.length_singleton] at this
              omega
            subst this
            have hz' : y = z := by simpa using hz
            subst hz'
            exact ⟨c, h1, h2, h3, by rw [hl1]; exact h4⟩
      exact key len (Nat.le_refl _)
    obtain ⟨l, hl1, hl2⟩ := pick
    subst hl1
    refine ⟨l, ⟨some a, cap, rfl, hl, rfl, by unfold maxLen at hm; omega, fun _ => ⟨a, rfl, fun j p hj => ?_⟩⟩, by omega, fun y hy => ?_⟩
    · obtain ⟨c, h1, h2, _, h4⟩ := hl2 j p hj
      refine ⟨c, h1, h2, fun i u hu => ?_⟩
      rw [← h4 i u hu, addr_add]
    · obtain ⟨i, hi⟩ := List.getElem?_of_mem hy
      obtain ⟨_, _, _, h3, _⟩ := hl2 i y hi
      exact h3

/-- The same of fields in line, from one place of the cells on. -/
def OpensF (P : Program) {α : Type} (kd : Kd α) (ok : α → Prop) (fs : List Field) (off len : Nat) : Prop :=
  ∀ {H : Type} (enc : TypeId × Value → H) (W : World) (base : Nat) (spare : Nat → Bool) (held : Bool) (n : Nat) (cs : List Value),
    (∀ f ∈ fs, ∃ y, DataW.trod enc P W base spare held n f.type ((cs.drop f.offset).take (P.cellsOf f.type)) = some y) → off + len ≤ cs.length → ∃ a, kd.K W a ((cs.drop off).take len) ∧ ok a
theorem opensF_one {α : Type} {kd : Kd α} {ok : α → Prop} {f : Field} {t off len : Nat} (h : Opens P kd ok t) (ht : f.type = t) (ho : f.offset = off) (hl : P.cellsOf t = len) : OpensF P kd ok [f] off len := by
  intro H enc W base spare held n cs hf _
  obtain ⟨y, hy⟩ := hf f List.mem_cons_self
  subst ht ho hl
  exact h enc W base spare held n _ y hy
theorem opensF_pair {α β : Type} {kd : Kd α} {kd' : Kd β} {ok : α → Prop} {ok' : β → Prop} {f : Field} {fs : List Field} {t off len len' : Nat} (h : Opens P kd ok t) (ht : f.type = t) (ho : f.offset = off) (hl : P.cellsOf t = len)
    (h' : OpensF P kd' ok' fs (off + len) len') : OpensF P (Kd.pair kd kd') (OkPair ok ok') (f :: fs) off (len + len') := by
  intro H enc W base spare held n cs hf hle
  obtain ⟨y, hy⟩ := hf f List.mem_cons_self
  subst ht ho hl
  obtain ⟨a, ha, hoka⟩ := h enc W base spare held n _ y hy
  obtain ⟨b, hb, hokb⟩ := h' enc W base spare held n cs (fun g hg => hf g (List.mem_cons_of_mem _ hg)) (by omega)
  refine ⟨(a, b), ⟨_, _, ?_, ha, hb⟩, hoka, hokb⟩
  rw [List.take_add, List.drop_drop]
theorem opens_struct {α β : Type} {kd : Kd α} {ok : α → Prop} {fs : Array Field} {len : Nat} (ht : P.underlying t = some (.struct fs)) (hc : P.cellsOf t = len) (h : OpensF P kd ok fs.toList 0 len) (f : β → α) (g : α → β) (hg : ∀ a, f (g a) = a) :
    Opens P (Kd.iso kd f) (fun b => ok (f b)) t := by
  intro H enc W base spare held fuel cs x hx
  obtain ⟨xs, n, _, _, hl, hlen, hf⟩ := DataW.trod_struct ht hx
  obtain ⟨a, ha, hok⟩ := h enc W base spare held n cs (fun fd hfd => by
    obtain ⟨i, hi⟩ := List.getElem?_of_mem hfd
    have h1 := hf i fd (by simpa using hi)
    have hi2 : i < xs.length := by
      have := (List.getElem?_eq_some_iff.1 hi).1
      rw [hlen]; simpa using this
    rw [List.getElem?_eq_getElem hi2] at h1
    exact ⟨_, h1⟩) (by omega)
  refine ⟨g a, ?_, by show ok (f (g a)); rw [hg]; exact hok⟩
  show kd.K W (f (g a)) cs
  rw [hg]
  have : (cs.drop 0).take len = cs := by rw [List.drop_zero]; exact List.take_of_length_le (by omega)
  rw [this] at ha
  exact ha
/-! ### a parameter, opened -/
variable {H : Type} {enc : TypeId × Value → H} {W : World} {base : Nat} {spare : Nat → Bool} {held : Bool} {r : Reach} {b0 : Nat} {v : Value} {d : DataW H} {ps : List MemPlace}
theorem param_slice {α : Type} {kd : Kd α} {ok : List α → Prop} (ht : P.underlying t = some (.slice e)) (h : Opens P (Kd.slice e kd) ok t) (hval : Value.okWide P W r b0 t v) (hd : DataW.Trod enc P W base spare held t v d ps) :
    ∃ A c l, v = .slice A l.length c ∧ l.length ≤ c ∧ Kd.C kd W A l.length l ∧ ok l := by
  obtain ⟨a, len, cap, rfl⟩ := okWide_slice ht hval
  obtain ⟨fuel, hf⟩ := hd
  obtain ⟨l, ⟨A, c, hcs, hl, hC⟩, hok⟩ := h enc W base spare held fuel _ _ hf
  have : Value.slice a len cap = Value.slice A l.length c := by simpa [Value.cells] using hcs
  exact ⟨A, c, l, this, hl, hC, hok⟩
end
end Go.Proofs.Ytoiohlmiofplcaa.Opens
