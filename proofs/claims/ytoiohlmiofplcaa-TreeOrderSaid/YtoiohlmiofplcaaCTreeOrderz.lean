/-
  The walk and the plain statement of TreeOrder, joined.
-/
import Derived.BigQuiet
import Derived.Deep.QuietTactic
import Derived.Test.YtoiohlmiofplcaaCn6ad
import Derived.Test.YtoiohlmiofplcaaCn6ab
set_option linter.unusedVariables false
set_option linter.unusedSimpArgs false
/-
  TreeOrder (chapter 10) answers true, walked by hand.
-/
namespace Go.Proofs.Ytoiohlmiofplcaa.P
open Go.RowKit Go.Shelf Go.Proofs.YtoiohlmiofplcaaW.PrintWords Go.Proofs.YtoiohlmiofplcaaW.PrintLast Go.Proofs.YtoiohlmiofplcaaW.PrintMore Go.Proofs.Plain

def sextonlaw10_TreeOrder.f (_ : List S26) : Option Bool := some true
theorem pair_at {w W : World} {A : Option Addr} {l : List S26} (hr : Kd.C k26 w A l.length l) (hW : Below w.heap.size w W) (i : Nat) (hi : i < l.length) : ∃ ad, A = some ad ∧ W.cell? (ad.add (i * 3)) = some (.string l[i].f0.f0) ∧ W.cell? ⟨(ad.add (i * 3)).block, (ad.add (i * 3)).off + 1, none⟩ = some (.int .i64 l[i].f0.f1) ∧ W.cell? ⟨(ad.add (i * 3)).block, (ad.add (i * 3)).off + 2, none⟩ = some (.string l[i].f1) := by
  obtain ⟨ad, e, h0, h1, h2⟩ := at_T26 (Kd.C_below hr hW) (i : Int) (by omega) (by omega)
  rw [rdPair l i hi, Int.toNat_natCast] at h0 h1 h2
  exact ⟨ad, e, h0, h1, h2⟩
theorem key_ext {a b : S24} (h1 : a.f0.toList = b.f0.toList) (h2 : a.f1 = b.f1) : a = b := by
  cases a; cases b
  simp only at h1 h2
  rw [ND.tl_inj h1, h2]
theorem puts_take (l : List S26) (i : Nat) (hi : i < l.length) : ND.puts (l.take (i + 1)) = ND.putL (ND.puts (l.take i)) l[i] := by
  rw [List.take_succ_eq_append_getElem hi, ND.puts_snoc]
set_option maxHeartbeats 16000000 in
set_option maxRecDepth 100000 in
theorem sextonlaw10_TreeOrder.calls (A0 : Option Addr) (c0 : Nat) (l0 : List (S26)) (r : Bool) (w : World) (hr0 : Kd.C k26 w A0 l0.length l0) (hc0 : l0.length ≤ c0) (h : sextonlaw10_TreeOrder.f l0 = some r) :
    Calls Try.prog 10 #[.slice A0 l0.length c0] w fun e w' => e = .returned (.bool r) ∧ Below w.heap.size w w' := by
  obtain rfl : true = r := Option.some.inj h
  clear h
  obtain ⟨rb, hb, hle⟩ := ND.big_f l0
  have HBig := Aside0.mk (sextonref09_Big.calls 201 A0 c0 l0 rb w hr0 hc0 (hb 201 (by omega)))
  have HR := Aside0.mk hr0
  have hmx := hr0.2.1
  clear hb hr0 hc0
  cases rb with
  | true =>
    clear hle
    generalize l0.length = n at *
    go_enter Try.func10, Try.ntmps10
    go_wp2_with (first | (go_at_call 13; (with_reducible refine HBig.out.mono ?_); rintro e w3 ⟨rfl, nd, rfl⟩))
    go_ret
    exact ⟨rfl, pw_below_drewN (Below.refl _ _) _⟩
  | false =>
    have hl80 := hle rfl
    clear hle
    have HL := Aside0.mk hl80
    obtain ⟨n, hn⟩ : ∃ n, n = l0.length := ⟨_, rfl⟩
    have HN := Aside0.mk hn
    rw [← hn] at HBig hmx hl80 ⊢
    clear hn
    go_enter Try.func10, Try.ntmps10
    go_wp2_with (first | (go_at_call 13; (with_reducible refine HBig.out.mono ?_); rintro e w2 ⟨rfl, nd, rfl⟩; have HB2 := Aside0.mk (pw_below_drewN (Below.refl w.heap.size w) nd); go_wp2_with (first | (go_at_call 31; (with_reducible refine (new_calls _).mono ?_); rintro e w3 ⟨v3, rfl, ht, hb⟩; have HT3 := Aside0.mk ht; have HB3 := Aside0.mk (HB2.out.trans (hb.mono HB2.out.size)); clear ht hb; go_wp2_with (first | (go_at_call 31; (with_reducible refine (new_calls _).mono ?_); rintro e w4 ⟨v4, rfl, ht, hb⟩; have HT4 := Aside0.mk ht; have HT3' := Aside0.mk (HT3.out.below hb); have HB4 := Aside0.mk (HB3.out.trans (hb.mono HB3.out.size)); clear ht hb))))))
    clear HT3 HB3 HB2 HBig
    go_loopw [3, 5] (fun s i wr => ∃ j : Nat, j ≤ n ∧ i = .int .i64 j ∧ Aside0 (TreeOf wr (ND.puts (l0.take j)) s) ∧ Aside0 (ND.Uniq (l0.take j)) ∧ Aside0 (TreeOf wr [] v4) ∧ Aside0 (Below w.heap.size w wr))
      (fun _ i _ => n - (intOf i).toNat)
    case atStart => exact ⟨0, Nat.zero_le _, rfl, HT3', ⟨List.Pairwise.nil⟩, HT4, HB4⟩
    case round =>
      clear HT3' HT4 HB4
      obtain ⟨j, hj, rfl, HT, HU, HT4, HB⟩ := hrel
      by_cases hlt : j < n
      · obtain ⟨w0, hw0⟩ : ∃ w0, w0 = wr := ⟨_, rfl⟩
        subst hw0
        have hltl : j < l0.length := by rw [← HN.out]; exact hlt
        obtain ⟨ad, hA, x0, x1, x2⟩ := pair_at HR.out HB.out j hltl
        subst hA
        have HX := Aside0.mk (And.intro x0 (And.intro x1 x2))
        clear x0 x1 x2
        go_wp2
        go_loopw [6] (fun i wr => ∃ q : Nat, q ≤ j ∧ i = .int .i64 q ∧ Aside0 (∀ m (hm : m < q) (hm2 : m < l0.length), l0[m].f0 ≠ l0[j].f0) ∧ Aside0 (Below w0.heap.size w0 wr))
          (fun i _ => j - (intOf i).toNat)
        case atStart => exact ⟨0, Nat.zero_le _, rfl, ⟨fun m hm => by omega⟩, ⟨Below.refl _ _⟩⟩
        case round =>
          obtain ⟨q, hq, rfl, HNe, HBq⟩ := hrel
          by_cases hlq : q < j
          · have hqn : q < n := by omega
            have hqn0 : q < l0.length := by rw [← HN.out]; exact hqn
            obtain ⟨ad', hA', y0, y1, y2⟩ := pair_at HR.out (HB.out.trans (HBq.out.mono HB.out.size)) q hqn0
            obtain rfl : ad = ad' := Option.some.inj hA'
            have x0 := pw_cell_below HBq.out HX.out.1
            have x1 := pw_cell_below HBq.out HX.out.2.1
            have HG := Aside0.mk (fun W => grown_calls W)
            have hqi : (q : Int) < (n : Int) := by omega
            have hji : (j : Int) < (n : Int) := by omega
            have HBwr := Aside0.mk (HB.out.trans (HBq.out.mono HB.out.size))
            clear hA' y2
            by_cases hk : l0[q].f0 = l0[j].f0
            · have heq : ∀ W, Sem.run Try.prog (binOp .eql 24 (.agg #[.string l0[q].f0.f0, .int .i64 l0[q].f0.f1]) (.agg #[.string l0[j].f0.f0, .int .i64 l0[j].f0.f1])) W = .ok (.bool true) W := fun W => by
                rw [hk]
                go_simp
                try simp
              clear hk
              generalize l0[q] = p at *
              generalize l0[j] = p2 at *
              go_wp2
              go_quiet (fail)
              go_wp2_with (first | (go_at_call 37; (with_reducible refine (HG.out _).mono ?_); rintro e w5 ⟨rfl, hb⟩; have HB5 := Aside0.mk (below_then (pw_below_drewN HBwr.out _) (pw_below_drewN HBwr.out _).size hb); clear hb) | fail)
              go_ret
              exact ⟨rfl, HB5.out⟩
            · have heq : ∀ W, Sem.run Try.prog (binOp .eql 24 (.agg #[.string l0[q].f0.f0, .int .i64 l0[q].f0.f1]) (.agg #[.string l0[j].f0.f0, .int .i64 l0[j].f0.f1])) W = .ok (.bool false) W := fun W => by
                go_simp
                by_cases e1 : l0[q].f0.f0.toList = l0[j].f0.f0.toList <;> by_cases e2 : l0[q].f0.f1 = l0[j].f0.f1 <;> simp [e1, e2]
                exact absurd (key_ext e1 e2) hk
              have HNe2 : Aside0 (∀ m (hm : m < q + 1) (hm2 : m < l0.length), l0[m].f0 ≠ l0[j].f0) := ⟨fun m hm hm2 => by
                by_cases e : m = q
                · subst e; exact hk
                · exact HNe.out m (by omega) hm2⟩
              clear hk
              generalize l0[q] = p at *
              go_wp2
              go_quiet (fail)
              go_wp2
              go_roundw
              case rel => exact ⟨q + 1, hlq, by go_num, HNe2, ⟨pw_below_drewN HBq.out _⟩⟩
              case measure => simp [intOf]; omega
          · obtain rfl : q = j := by omega
            have hq80 : q < 80 := by omega
            have hU2 : ND.Uniq (l0.take (q + 1)) := by
              rw [List.take_succ_eq_append_getElem hltl]
              refine List.pairwise_append.2 ⟨HU.out, List.pairwise_singleton _ _, fun x hx y hy => ?_⟩
              rw [List.mem_singleton.1 hy]
              obtain ⟨m, hm, rfl⟩ := List.mem_iff_getElem.1 hx
              rw [List.length_take] at hm
              rw [List.getElem_take]
              exact HNe.out m (by omega) (by omega)
            have HU2 := Aside0.mk hU2
            have HT2 := Aside0.mk (HT.out.below HBq.out)
            have hpl := ND.puts_len (l0.take q) (by rw [List.length_take]; omega)
            rw [List.length_take] at hpl
            have HPut := Aside0.mk (tree_put_calls (ND.puts (l0.take q)) u3 l0[q] wr HT2.out (by omega))
            rw [← puts_take l0 q hltl] at HPut
            have HT4' := Aside0.mk (HT4.out.below HBq.out)
            have x0 := pw_cell_below HBq.out HX.out.1
            have x1 := pw_cell_below HBq.out HX.out.2.1
            have x2 := pw_cell_below HBq.out HX.out.2.2
            have HBwr := Aside0.mk (HB.out.trans (HBq.out.mono HB.out.size))
            have hji : (q : Int) < (n : Int) := by omega
            clear hpl hU2 HX HT HU HT4 HNe HT2 hq hlq
            generalize l0[q] = p at *
            go_wp2_with (first | (go_at_call 41; (with_reducible refine HPut.out.mono ?_); rintro e w5 ⟨v5, rfl, ht, hb⟩; have HT5 := Aside0.mk ht; have HT45 := Aside0.mk (HT4'.out.below hb); have HB5 := Aside0.mk (HBwr.out.trans (hb.mono HBwr.out.size)); clear ht hb) | fail)
            go_roundw
            case rel => exact ⟨q + 1, hlt, by go_num, HT5, HU2, HT45, HB5⟩
            case measure => simp [intOf]; omega
      · obtain rfl : j = n := by omega
        have hlen := HN.out
        have hT := HT.out
        have hU := HU.out
        rw [hlen, List.take_length] at hT hU
        have HTa := Aside0.mk hT
        have HUq := Aside0.mk hU
        clear hT hU HT HU hlt hj hlen
        obtain ⟨w0, hw0⟩ : ∃ w0, w0 = wr := ⟨_, rfl⟩
        subst hw0
        obtain ⟨va, hva⟩ : ∃ va, va = u3 := ⟨_, rfl⟩
        subst hva
        go_wp2
        go_loopw [4, 7] (fun s i wr => ∃ m : Nat, m ≤ j ∧ i = .int .i64 ((m : Int) - 1) ∧ Aside0 (TreeOf wr (ND.puts (l0.reverse.take (j - m))) s) ∧ Aside0 (Below w0.heap.size w0 wr))
          (fun _ i _ => (intOf i + 1).toNat)
        case atStart => exact ⟨j, Nat.le_refl _, rfl, by rw [Nat.sub_self]; exact HT4, ⟨Below.refl _ _⟩⟩
        case round =>
          obtain ⟨m, hm, rfl, HTb, HBq⟩ := hrel
          by_cases h0 : m = 0
          · subst h0
            have hlen := HN.out
            have hTb := HTb.out
            rw [Nat.sub_zero, List.take_of_length_le (by rw [List.length_reverse]; omega), ND.puts_rev l0 (by omega) HUq.out] at hTb
            have hpl := (ND.puts_uniq l0 (by omega) HUq.out).2.2
            have HTaw := Aside0.mk (HTa.out.below HBq.out)
            have HTbw := Aside0.mk hTb
            have HBwr := Aside0.mk (HB.out.trans (HBq.out.mono HB.out.size))
            have hL : (ND.puts l0).length = j := by omega
            have HAll := Aside0.mk (fun v W (hT : TreeOf W (ND.puts l0) v) => tree_all_calls (ND.puts l0) v W hT (by omega))
            have HLen := Aside0.mk (fun v W (hT : TreeOf W (ND.puts l0) v) => len_calls (ND.puts l0) v W hT)
            have HSame := Aside0.mk (fun W A0 c0 A1 c1 h0 hc0 h1 hc1 => same_yes_calls (ND.puts l0) (by omega) W A0 c0 A1 c1 h0 hc0 h1 hc1)
            rw [hL] at HLen HSame
            clear hTb hpl hlen HTb hm
            have HLe := Aside0.mk hL
            clear hL
            generalize ND.puts l0 = ls at *
            have HG := Aside0.mk (fun W => grown_calls W)
            go_wp2_with (first | (go_at_call 37; (with_reducible refine (HG.out _).mono ?_); rintro e w5 ⟨rfl, hb⟩; have HB5 := Aside0.mk hb; have HTa5 := Aside0.mk (HTaw.out.below hb); have HTb5 := Aside0.mk (HTbw.out.below hb); clear hb; go_wp2_with (first | (go_at_call 38; (with_reducible refine (HAll.out va _ HTa5.out).mono ?_); rintro e w6 ⟨v6, rfl, ho, hb⟩; have HB6 := Aside0.mk (HB5.out.trans (hb.mono HB5.out.size)); have HTa6 := Aside0.mk (HTa5.out.below hb); have HTb6 := Aside0.mk (HTb5.out.below hb); obtain ⟨A6, c6, rfl, h6, hC6⟩ := Kd.R_reads ho; rw [HLe.out] at h6 hC6 ⊢; have HC6 := Aside0.mk hC6; clear ho hb hC6; go_wp2_with (first | (go_at_call 38; (with_reducible refine (HAll.out _ _ HTb6.out).mono ?_); rintro e w7 ⟨v7, rfl, ho, hb⟩; have HB7 := Aside0.mk (HB6.out.trans (hb.mono HB6.out.size)); have HTa7 := Aside0.mk (HTa6.out.below hb); have HC67 := Aside0.mk (Kd.C_below HC6.out hb); obtain ⟨A7, c7, rfl, h7, hC7⟩ := Kd.R_reads ho; rw [HLe.out] at h7 hC7 ⊢; have HC7 := Aside0.mk hC7; clear ho hb hC7; go_wp2_with (first | (go_at_call 25; (with_reducible refine (HSame.out _ A6 c6 A7 c7 HC67.out h6 HC7.out h7).mono ?_); rintro e w8 ⟨rfl, hb⟩; have HB8 := Aside0.mk (HB7.out.trans (hb.mono HB7.out.size)); have HTa8 := Aside0.mk (HTa7.out.below hb); clear hb; go_wp2_with (first | (go_at_call 36; (with_reducible refine (HLen.out va _ HTa8.out).mono ?_); rintro e w9 ⟨rfl, hb⟩; have HB9 := Aside0.mk (HBwr.out.trans ((HB8.out.trans (hb.mono HB8.out.size)).mono HBwr.out.size)); clear hb) | fail)) | fail)) | fail)) | fail)) | fail)
            go_ret
            exact ⟨rfl, HB9.out⟩
          · obtain ⟨q, rfl⟩ : ∃ q, m = q + 1 := ⟨m - 1, by omega⟩
            have hi1 : (((q + 1 : Nat) : Int) - 1) = (q : Int) := by omega
            rw [hi1]
            have hql : q < l0.length := by rw [← HN.out]; omega
            have hrt : ND.puts (l0.reverse.take (j - q)) = ND.putL (ND.puts (l0.reverse.take (j - (q + 1)))) l0[q] := by
              have hlen := HN.out
              rw [show j - q = (j - (q + 1)) + 1 by omega, List.take_succ_eq_append_getElem (by rw [List.length_reverse]; omega), ND.puts_snoc, List.getElem_reverse]
              congr 2
              omega
            obtain ⟨ad, hA, x0, x1, x2⟩ := pair_at HR.out (HB.out.trans (HBq.out.mono HB.out.size)) q hql
            subst hA
            have hpl := ND.puts_len (l0.reverse.take (j - (q + 1))) (by rw [List.length_take, List.length_reverse]; have := HN.out; omega)
            rw [List.length_take] at hpl
            have HPut := Aside0.mk (tree_put_calls (ND.puts (l0.reverse.take (j - (q + 1)))) u4 l0[q] wr HTb.out (by omega))
            rw [← hrt] at HPut
            have hqi : (q : Int) < (j : Int) := by omega
            have hq0 : (0 : Int) ≤ (q : Int) := by omega
            clear hpl HTb hrt
            generalize l0[q] = p at *
            go_wp2_with (first | (go_at_call 41; (with_reducible refine HPut.out.mono ?_); rintro e w5 ⟨v5, rfl, ht, hb⟩; have HT5 := Aside0.mk ht; have HB5 := Aside0.mk (HBq.out.trans (hb.mono HBq.out.size)); clear ht hb) | fail)
            go_roundw
            case rel => exact ⟨q, by omega, by first | rfl | go_num, HT5, HB5⟩
            case measure => first | (simp [intOf]; done) | (simp [intOf]; omega)
end Go.Proofs.Ytoiohlmiofplcaa.P
/-
  The plain law of TreeOrder: the walk answers true for every row.
-/
namespace Go.Proofs.Ytoiohlmiofplcaa.Pure
open Go.RowKit Go.Proofs.YtoiohlmiofplcaaW.PrintWords Go.Proofs.YtoiohlmiofplcaaW.PrintLast Go.Proofs.Ytoiohlmiofplcaa.P Go.Proofs.Ytoiohlmiofplcaa.Opens
theorem TreeOrder (l0 : List S26) {ok : S26 → Prop} (_h0 : OkList ok l0) : sextonlaw10_TreeOrder.f l0 = some true := rfl
end Go.Proofs.Ytoiohlmiofplcaa.Pure
