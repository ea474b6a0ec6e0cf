/-
  Texts of the claim NodeDoes, joined.
-/
import Derived.Test.YtoiohlmiofplcaaPx0
import Derived.Test.YtoiohlmiofplcaaCNodeDoesa
-- Written by a program of this session (xprint.py) over the kit's print.py.
namespace Go.Proofs.Ytoiohlmiofplcaa.P
open Go.RowKit Go.Proofs.YtoiohlmiofplcaaW.PrintWords Go.Proofs.YtoiohlmiofplcaaW.PrintLast Go.Proofs.YtoiohlmiofplcaaW.PrintMore
attribute [local go_sem] max2_int min2_int max_two min_two max_three min_three max_four min_four   -- for this text's walks alone
set_option linter.unusedVariables false
set_option linter.unusedSimpArgs false

/-! ### sextonref09_Put: function 18 -/
def sextonref09_Put.f (k : Nat) (l0 : List (S26)) (a1_0 : ByteArray) (a1_1 : Int) (a1_2 : ByteArray) : Option ((List (S26))) := (sextonref09_Find.f k l0 a1_0 a1_1).bind fun bt169 => (if 0 ≤ bt169.1 then (if bt169.1 ≤ (l0.length : Int) then ((some (l0.take (bt169.1 : Int).toNat : List (S26))).bind fun y171 => (if ([] : List (S26)).length + y171.length < 3518437208883 then ((some (([] : List (S26)) ++ y171 : List (S26))).bind fun y175 => (if y175.length < 3518437208883 then ((some (y175 ++ [(⟨(⟨a1_0, a1_1⟩ : S24), a1_2⟩ : S26)] : List (S26))).bind fun y178 => (if bt169.2 = true then (if 0 ≤ (wrap64 (bt169.1 + 1)) then (if (wrap64 (bt169.1 + 1)) ≤ (l0.length : Int) then ((some (l0.drop ((wrap64 (bt169.1 + 1)) : Int).toNat : List (S26))).bind fun y181 => (if y178.length + y181.length < 3518437208883 then (some (y178 ++ y181)) else (none))) else (none)) else (none)) else ((some (l0.drop (bt169.1 : Int).toNat : List (S26))).bind fun y188 => (if y178.length + y188.length < 3518437208883 then (some (y178 ++ y188)) else (none))))) else (none))) else (none))) else (none)) else (none))
theorem sextonref09_Put.mono : ∀ a0 a1 a2 a3 k, LeO (sextonref09_Put.f k a0 a1 a2 a3) (sextonref09_Put.f (k + 1) a0 a1 a2 a3) := by
  intro a0 a1 a2 a3 k
  unfold sextonref09_Put.f
  repeat' first
      | (with_reducible exact sextonref09_Find.mono _ _ _ _)
      | (with_reducible exact LeO.refl _)
      | (with_reducible exact LeO.none _)
      | (with_reducible refine LeO.ite ?_ ?_)
      | (with_reducible refine LeO.bind ?_ (fun _ => ?_))
      | exact sextonref09_Find.mono _ _ _ _
      | exact LeO.none _
      | refine LeO.ite ?_ ?_
      | refine LeO.bind ?_ (fun _ => ?_)
set_option maxHeartbeats 8000000 in
set_option maxRecDepth 100000 in
theorem sextonref09_Put.calls (k : Nat) (A0 : Option Addr) (c0 : Nat) (l0 : List (S26)) (a1_0 : ByteArray) (a1_1 : Int) (a1_2 : ByteArray) (r : List (S26)) (w : World) (hr0 : Kd.C k26 w A0 l0.length l0) (hc0 : l0.length ≤ c0) (h : sextonref09_Put.f k l0 a1_0 a1_1 a1_2 = some r) :
    Calls Try.prog 18 #[.slice A0 l0.length c0, .agg #[.string a1_0, .int .i64 a1_1, .string a1_2]] w fun e w' => ∃ v0_ : Value, e = .returned (v0_) ∧ Kd.R k26 26 w' w.heap.size (fun _ => True) v0_ r ∧ Below w.heap.size w w' := by
  have hu26 := Try.underlying26
  have hu24 := Try.underlying24
  have HR0 := Aside0.mk hr0
  have HC0 := Aside0.mk hc0
  clear hr0 hc0
  have HB := Aside0.mk (Below.refl w.heap.size w)
  have H : ((sextonref09_Find.f k l0 a1_0 a1_1).bind fun bt169 => (if 0 ≤ bt169.1 then (if bt169.1 ≤ (l0.length : Int) then ((some (l0.take (bt169.1 : Int).toNat : List (S26))).bind fun y171 => (if ([] : List (S26)).length + y171.length < 3518437208883 then ((some (([] : List (S26)) ++ y171 : List (S26))).bind fun y175 => (if y175.length < 3518437208883 then ((some (y175 ++ [(⟨(⟨a1_0, a1_1⟩ : S24), a1_2⟩ : S26)] : List (S26))).bind fun y178 => (if bt169.2 = true then (if 0 ≤ (wrap64 (bt169.1 + 1)) then (if (wrap64 (bt169.1 + 1)) ≤ (l0.length : Int) then ((some (l0.drop ((wrap64 (bt169.1 + 1)) : Int).toNat : List (S26))).bind fun y181 => (if y178.length + y181.length < 3518437208883 then (some (y178 ++ y181)) else (none))) else (none)) else (none)) else ((some (l0.drop (bt169.1 : Int).toNat : List (S26))).bind fun y188 => (if y178.length + y188.length < 3518437208883 then (some (y178 ++ y188)) else (none))))) else (none))) else (none))) else (none)) else (none))) = some r := h
  clear h
  replace H := Option.bind_eq_some_iff.mp H
  obtain ⟨⟨t169, t170⟩, A30, H⟩ := H
  replace H : (if 0 ≤ t169 then (if t169 ≤ (l0.length : Int) then ((some (l0.take (t169 : Int).toNat : List (S26))).bind fun y171 => (if ([] : List (S26)).length + y171.length < 3518437208883 then ((some (([] : List (S26)) ++ y171 : List (S26))).bind fun y175 => (if y175.length < 3518437208883 then ((some (y175 ++ [(⟨(⟨a1_0, a1_1⟩ : S24), a1_2⟩ : S26)] : List (S26))).bind fun y178 => (if t170 = true then (if 0 ≤ (wrap64 (t169 + 1)) then (if (wrap64 (t169 + 1)) ≤ (l0.length : Int) then ((some (l0.drop ((wrap64 (t169 + 1)) : Int).toNat : List (S26))).bind fun y181 => (if y178.length + y181.length < 3518437208883 then (some (y178 ++ y181)) else (none))) else (none)) else (none)) else ((some (l0.drop (t169 : Int).toNat : List (S26))).bind fun y188 => (if y178.length + y188.length < 3518437208883 then (some (y178 ++ y188)) else (none))))) else (none))) else (none))) else (none)) else (none)) = some r := H
  have A3 := Aside0.mk A30
  clear A30
  by_cases c4 : 0 ≤ t169
  · rw [if_pos c4] at H
    have c4b0 := eq_true c4
    have c4b1 : decide (0 ≤ t169) = true := decide_eq_true c4
    clear c4
    by_cases c5 : t169 ≤ (l0.length : Int)
    · rw [if_pos c5] at H
      have c5b0 := eq_true c5
      have c5b1 : decide (t169 ≤ (l0.length : Int)) = true := decide_eq_true c5
      clear c5
      obtain ⟨y171, hy171⟩ : ∃ y_ : List (S26), y_ = (l0.take (t169 : Int).toNat) := ⟨_, rfl⟩
      replace H : (if ([] : List (S26)).length + y171.length < 3518437208883 then ((some (([] : List (S26)) ++ y171 : List (S26))).bind fun y175 => (if y175.length < 3518437208883 then ((some (y175 ++ [(⟨(⟨a1_0, a1_1⟩ : S24), a1_2⟩ : S26)] : List (S26))).bind fun y178 => (if t170 = true then (if 0 ≤ (wrap64 (t169 + 1)) then (if (wrap64 (t169 + 1)) ≤ (l0.length : Int) then ((some (l0.drop ((wrap64 (t169 + 1)) : Int).toNat : List (S26))).bind fun y181 => (if y178.length + y181.length < 3518437208883 then (some (y178 ++ y181)) else (none))) else (none)) else (none)) else ((some (l0.drop (t169 : Int).toNat : List (S26))).bind fun y188 => (if y178.length + y188.length < 3518437208883 then (some (y178 ++ y188)) else (none))))) else (none))) else (none)) = some r := by first | (rw [hy171]; with_reducible exact H) | (have H2_ := (Option.bind_some _ _).symm.trans H; rw [hy171]; with_reducible exact H2_) | (have H2_ := (Option.bind_some _ _).symm.trans H; with_reducible exact H2_) | with_reducible exact H | (rw [hy171]; exact H) | exact H
      have Ny171 := Aside0.mk hy171
      clear hy171
      by_cases c6 : ([] : List (S26)).length + y171.length < 3518437208883
      · rw [if_pos c6] at H
        have LMc6 := Aside0.mk c6
        clear c6
        obtain ⟨y175, hy175⟩ : ∃ y_ : List (S26), y_ = (([] : List (S26)) ++ y171) := ⟨_, rfl⟩
        replace H : (if y175.length < 3518437208883 then ((some (y175 ++ [(⟨(⟨a1_0, a1_1⟩ : S24), a1_2⟩ : S26)] : List (S26))).bind fun y178 => (if t170 = true then (if 0 ≤ (wrap64 (t169 + 1)) then (if (wrap64 (t169 + 1)) ≤ (l0.length : Int) then ((some (l0.drop ((wrap64 (t169 + 1)) : Int).toNat : List (S26))).bind fun y181 => (if y178.length + y181.length < 3518437208883 then (some (y178 ++ y181)) else (none))) else (none)) else (none)) else ((some (l0.drop (t169 : Int).toNat : List (S26))).bind fun y188 => (if y178.length + y188.length < 3518437208883 then (some (y178 ++ y188)) else (none))))) else (none)) = some r := by first | (rw [hy175]; with_reducible exact H) | (have H2_ := (Option.bind_some _ _).symm.trans H; rw [hy175]; with_reducible exact H2_) | (have H2_ := (Option.bind_some _ _).symm.trans H; with_reducible exact H2_) | with_reducible exact H | (rw [hy175]; exact H) | exact H
        have Ny175 := Aside0.mk hy175
        clear hy175
        by_cases c7 : y175.length < 3518437208883
        · rw [if_pos c7] at H
          have LMc7 := Aside0.mk c7
          clear c7
          obtain ⟨y178, hy178⟩ : ∃ y_ : List (S26), y_ = (y175 ++ [(⟨(⟨a1_0, a1_1⟩ : S24), a1_2⟩ : S26)]) := ⟨_, rfl⟩
          replace H : (if t170 = true then (if 0 ≤ (wrap64 (t169 + 1)) then (if (wrap64 (t169 + 1)) ≤ (l0.length : Int) then ((some (l0.drop ((wrap64 (t169 + 1)) : Int).toNat : List (S26))).bind fun y181 => (if y178.length + y181.length < 3518437208883 then (some (y178 ++ y181)) else (none))) else (none)) else (none)) else ((some (l0.drop (t169 : Int).toNat : List (S26))).bind fun y188 => (if y178.length + y188.length < 3518437208883 then (some (y178 ++ y188)) else (none)))) = some r := by first | (rw [hy178]; with_reducible exact H) | (have H2_ := (Option.bind_some _ _).symm.trans H; rw [hy178]; with_reducible exact H2_) | (have H2_ := (Option.bind_some _ _).symm.trans H; with_reducible exact H2_) | with_reducible exact H | (rw [hy178]; exact H) | exact H
          have Ny178 := Aside0.mk hy178
          clear hy178
          by_cases c8 : t170 = true
          · subst c8
            have H1 : (if 0 ≤ (wrap64 (t169 + 1)) then (if (wrap64 (t169 + 1)) ≤ (l0.length : Int) then ((some (l0.drop ((wrap64 (t169 + 1)) : Int).toNat : List (S26))).bind fun y181 => (if y178.length + y181.length < 3518437208883 then (some (y178 ++ y181)) else (none))) else (none)) else (none)) = some r := by rw [if_pos rfl] at H; exact H
            clear H
            have H := H1
            clear H1
            obtain ⟨ji9, hji9⟩ : ∃ j_ : Int, (wrap64 (t169 + 1)) = j_ := ⟨_, rfl⟩
            replace H : (if 0 ≤ (ji9) then (if (ji9) ≤ (l0.length : Int) then ((some (l0.drop ((ji9) : Int).toNat : List (S26))).bind fun y181 => (if y178.length + y181.length < 3518437208883 then (some (y178 ++ y181)) else (none))) else (none)) else (none)) = some r := by first | (rw [hji9] at H; exact H) | (simp only [hji9] at H ⊢; exact H)
            (try rw [hji9] at A3)
            have hji9w : (IntKind.i64.wrap (t169 + 1)) = ji9 := (i64_w _).trans hji9
            by_cases c10 : 0 ≤ (ji9)
            · rw [if_pos c10] at H
              have c10b0 := eq_true c10
              have c10b1 : decide (0 ≤ (ji9)) = true := decide_eq_true c10
              clear c10
              by_cases c11 : (ji9) ≤ (l0.length : Int)
              · rw [if_pos c11] at H
                have c11b0 := eq_true c11
                have c11b1 : decide ((ji9) ≤ (l0.length : Int)) = true := decide_eq_true c11
                clear c11
                obtain ⟨y181, hy181⟩ : ∃ y_ : List (S26), y_ = (l0.drop ((ji9) : Int).toNat) := ⟨_, rfl⟩
                replace H : (if y178.length + y181.length < 3518437208883 then (some (y178 ++ y181)) else (none)) = some r := by first | (rw [hy181]; with_reducible exact H) | (have H2_ := (Option.bind_some _ _).symm.trans H; rw [hy181]; with_reducible exact H2_) | (have H2_ := (Option.bind_some _ _).symm.trans H; with_reducible exact H2_) | with_reducible exact H | (rw [hy181]; exact H) | exact H
                have Ny181 := Aside0.mk hy181
                clear hy181
                by_cases c12 : y178.length + y181.length < 3518437208883
                · rw [if_pos c12] at H
                  have LMc12 := Aside0.mk c12
                  clear c12
                  obtain ⟨y185, hy185⟩ : ∃ y_ : List (S26), y_ = (y178 ++ y181) := ⟨_, rfl⟩
                  replace H : (some y185) = some r := by first | (rw [hy185]; with_reducible exact H) | (have H2_ := (Option.bind_some _ _).symm.trans H; rw [hy185]; with_reducible exact H2_) | (have H2_ := (Option.bind_some _ _).symm.trans H; with_reducible exact H2_) | with_reducible exact H | (rw [hy185]; exact H) | exact H
                  have Ny185 := Aside0.mk hy185
                  clear hy185
                  obtain rfl := Option.some.inj H
                  go_enter Try.func18, Try.ntmps18
                  go_wp2_with (first | ((with_reducible refine gate_dst (N := 3) rfl ?_); refine box_event ?hg (N := 3) ?hd (cs := #[.string a1_0, .int .i64 a1_1, .string a1_2]) (t := 26) ?hr ?_; (case hd => rfl); (case hg => rfl); (case hr => first | (go_simp; done) | (go_simp; rfl)); intro gb168 hg w13 hbox hb; have n0_ := Aside0.mk (below_step (by repeat (first | (with_reducible first | exact HB.out | apply below_alloc | apply pw_below_drewN | apply below_drew1) | exact HB.out)) hb); have n1_ := Aside0.mk (hbox); have n2_ := Aside0.mk ((by rw [hg]; exact (below_size (by repeat (first | (with_reducible first | exact HB.out | apply below_alloc | apply pw_below_drewN | apply below_drew1) | exact HB.out))) : w.heap.size ≤ gb168)); have n3_ := Aside0.mk ((by rw [hg]; exact (below_size (by repeat (first | (with_reducible first | exact HB.out | apply below_alloc | apply pw_below_drewN | apply below_drew1) | exact HB.out))) : w.heap.size ≤ gb168)); clear HB; have HB := n0_; have BK168 := n1_; have GW168 := n2_; have GE168 := n3_; clear n0_ n1_ n2_ n3_; clear hb hbox hg; have hcz14_0 : w13.cell? ⟨gb168, 0, none⟩ = some (.string a1_0) := (blk_cell BK168.out 0).trans rfl; have hcz14_1 : w13.cell? ⟨gb168, 1, none⟩ = some (.int .i64 a1_1) := (blk_cell BK168.out 1).trans rfl; have hcz14_2 : w13.cell? ⟨gb168, 2, none⟩ = some (.string a1_2) := (blk_cell BK168.out 2).trans rfl; have hfz14_0 := blk_frozen BK168.out 0; have hfz14_1 := blk_frozen BK168.out 1; have hfz14_2 := blk_frozen BK168.out 2) | ((with_reducible refine gate_callee (f := 16) rfl ?_); refine goesL_ (some 12) rfl rfl Try.func16 (by kernel_rfl) rfl #[.slice A0 l0.length c0, .agg #[.string a1_0, .int .i64 a1_1]] rfl (by (try simp only [List.map_toArray, List.map_cons, List.map_nil]); first | done | rfl | (simp only [List.length_drop, List.length_take]; rfl)) ?_; (with_reducible refine (sextonref09_Find.calls k _ _ l0 a1_0 a1_1 t169 true _ ?side1 ?side2 A3.out).mono ?_); (case side1 => repeat (first | exact (Kd.C_below HR0.out HB.out) | (with_reducible refine Kd.C_alloc ?_ _) | (with_reducible refine Kd.C_drewN ?_ _) | (with_reducible refine Kd.C_drew ?_))); (case side2 => exact HC0.out); rintro e w15 ⟨rfl, hb⟩; refine ⟨_, rfl, ?_⟩; have n0_ := Aside0.mk (blk_below (g := gb168) (o := .cells #[.string a1_0, .int .i64 a1_1, .string a1_2] 26 (0, 0)) (by (with_reducible repeat (first | refine blk_drewN ?_ _ | refine blk_drew ?_ | refine blk_alloc ?_ _)); exact BK168.out) hb); have n1_ := Aside0.mk (below_step (by repeat (first | (with_reducible first | exact HB.out | apply below_alloc | apply pw_below_drewN | apply below_drew1 | refine below_set ?_ GE168.out) | exact HB.out)) hb); clear BK168; clear HB; have BK168 := n0_; have HB := n1_; clear n0_ n1_; (try clear hb); (try clear hb2); (try clear hk); (try clear hi); have q16 : (t169 : Int) ≤ ((l0.length : Int) : Int) := of_decide_eq_true (by first | (with_reducible assumption) | assumption); obtain ⟨i016, hi016, _, hsz16, _⟩ := info_parts info26; have hroom16 : l0.length ≤ c0 := HC0.out; have hC16 : Kd.C k26 _ A0 l0.length l0 := HR0.out; have hcut16 := cut_to (P := Try.prog) 22 26 .i64 Try.underlying22 hi016 A0 l0.length c0 t169 (of_decide_eq_true (by first | (with_reducible assumption) | assumption)) q16 hroom16; have hr16 := Kd.C_take (m := (t169 : Int).toNat) hC16 (by omega); have hy16 : y171.length = (t169 : Int).toNat := (by rw [Ny171.out, List.length_take]; omega); rw [← Ny171.out] at hr16; rw [← hy16] at hcut16; have HR174 := Aside0.mk hr16; have HC174 := Aside0.mk (show y171.length ≤ c0 from by omega); clear hr16 hC16 hroom16 hi016 hsz16; have KY16 := Aside0.mk hy16; clear hy16; replace q16 := eq_true q16) | ((with_reducible refine gate_builtin (b := .append) (xs := #[.tmp 15, .tmp 18]) rfl ?_); at_builtin; refine Kd.R_append_rows k26 (w0 := w) w.heap.size rfl (.tmp 15) (.tmp 18) 22 26 (.agg #[(.string ⟨#[]⟩), (.int .i64 0), (.string ⟨#[]⟩)]) 40 rfl Try.underlying22 info26 rfl (by decide) (by omega) (.slice none 0 0) ([] : List (S26)) y171 _ _ _ (fun k_ => k_ ≠ gb168) (fun _ => False) rfl rfl ?aO ?aR (fun _ _ h => h) (fun _ h => h.elim) ?aF ?aB ?aS ?aL ?_; (case aR => repeat (first | exact (Kd.C_below HR174.out HB.out) | (with_reducible refine Kd.C_alloc ?_ _) | (with_reducible refine Kd.C_drewN ?_ _) | (with_reducible refine Kd.C_drew ?_))); (case aB => exact (by repeat (first | (with_reducible first | exact HB.out | apply below_alloc | apply pw_below_drewN | apply below_drew1 | refine below_set ?_ GE168.out) | exact HB.out))); (case aF => exact (fun k_ hk => Kd.freshB (g := gb168) (o := .cells #[.string a1_0, .int .i64 a1_1, .string a1_2] 26 (0, 0)) (by (with_reducible repeat (first | refine blk_drewN ?_ _ | refine blk_drew ?_ | refine blk_alloc ?_ _)); exact BK168.out) k_ hk)); (case aO => exact ((Kd.R_nil _ _ _ _ (fun k_ => k_ ≠ gb168)))); (case aS => exact (below_size (by repeat (first | (with_reducible first | exact HB.out | apply below_alloc | apply pw_below_drewN | apply below_drew1 | refine below_set ?_ GE168.out) | exact HB.out)))); (case aL => have := LMc6.out; omega); intro v176 w17 ho hb hg hat; rw [← Ny175.out] at ho; have n0_ := Aside0.mk (blk_grown (g := gb168) (o := .cells #[.string a1_0, .int .i64 a1_1, .string a1_2] 26 (0, 0)) (by (with_reducible repeat (first | refine blk_drewN ?_ _ | refine blk_drew ?_ | refine blk_alloc ?_ _)); exact BK168.out) hg (by simp [Value.ownBlock])); have n1_ := Aside0.mk (hb); have n2_ := Aside0.mk (ho); clear BK168; clear HB; have BK168 := n0_; have HB := n1_; have HO177 := n2_; clear n0_ n1_ n2_; clear ho hb hg hat; have hcz18_0 : w17.cell? ⟨gb168, 0, none⟩ = some (.string a1_0) := (blk_cell BK168.out 0).trans rfl; have hcz18_1 : w17.cell? ⟨gb168, 1, none⟩ = some (.int .i64 a1_1) := (blk_cell BK168.out 1).trans rfl; have hcz18_2 : w17.cell? ⟨gb168, 2, none⟩ = some (.string a1_2) := (blk_cell BK168.out 2).trans rfl; have hfz18_0 := blk_frozen BK168.out 0; have hfz18_1 := blk_frozen BK168.out 1; have hfz18_2 := blk_frozen BK168.out 2) | ((with_reducible refine gate_builtin (b := .append) (xs := #[.tmp 20, .tmp 22]) rfl ?_); at_builtin; refine Kd.R_append k26 (w0 := w) w.heap.size rfl (.tmp 20) (.tmp 22) 22 26 (.agg #[(.string ⟨#[]⟩), (.int .i64 0), (.string ⟨#[]⟩)]) 40 rfl Try.underlying22 info26 rfl (by decide) (by omega) v176 y175 (⟨(⟨a1_0, a1_1⟩ : S24), a1_2⟩ : S26) [.string a1_0, .int .i64 a1_1, .string a1_2] (fun k_ => k_ ≠ gb168) (fun _ => False) rfl rfl ?aP (fun _ hk => hk.elim) ?aF ?aO ?aB ?aS ?aL ?_; (case aP => exact k26_mkM _ _ _ (⟨(⟨a1_0, a1_1⟩ : S24), a1_2⟩ : S26)); (case aB => exact (by repeat (first | (with_reducible first | exact HB.out | apply below_alloc | apply pw_below_drewN | apply below_drew1 | refine below_set ?_ GE168.out) | exact HB.out))); (case aF => exact (fun k_ hk => Kd.freshB (g := gb168) (o := .cells #[.string a1_0, .int .i64 a1_1, .string a1_2] 26 (0, 0)) (by (with_reducible repeat (first | refine blk_drewN ?_ _ | refine blk_drew ?_ | refine blk_alloc ?_ _)); exact BK168.out) k_ hk)); (case aO => exact (by (with_reducible repeat (first | apply Kd.R_alloc | apply Kd.R_drewN | apply Kd.R_drew)); exact HO177.out)); (case aS => exact (below_size (by repeat (first | (with_reducible first | exact HB.out | apply below_alloc | apply pw_below_drewN | apply below_drew1 | refine below_set ?_ GE168.out) | exact HB.out)))); (case aL => have := LMc7.out; omega); intro v179 w19 ho hb hg hat; rw [← Ny178.out] at ho; have n0_ := Aside0.mk (blk_grown (g := gb168) (o := .cells #[.string a1_0, .int .i64 a1_1, .string a1_2] 26 (0, 0)) (by (with_reducible repeat (first | refine blk_drewN ?_ _ | refine blk_drew ?_ | refine blk_alloc ?_ _)); exact BK168.out) hg (Kd.R_away HO177.out (fun _ hk => hk))); have n1_ := Aside0.mk (hb); have n2_ := Aside0.mk (ho); clear BK168; clear HB; clear HO177; have BK168 := n0_; have HB := n1_; have HO180 := n2_; clear n0_ n1_ n2_; clear ho hb hg hat; have q20 : ((ji9) : Int) ≤ ((l0.length : Int) : Int) := of_decide_eq_true (by first | (with_reducible assumption) | assumption); obtain ⟨i020, hi020, _, hsz20, _⟩ := info_parts info26; have hroom20 : l0.length ≤ c0 := HC0.out; have hC20 : Kd.C k26 _ A0 l0.length l0 := HR0.out; have q020 : (0 : Int) ≤ ((ji9) : Int) := of_decide_eq_true (by first | (with_reducible assumption) | assumption); have hcut20 := cut_from (P := Try.prog) 22 26 .i64 Try.underlying22 hi020 3 hsz20 A0 l0.length c0 (ji9) q020 q20; have hr20 := Kd.C_drop (m := ((ji9) : Int).toNat) (c := c0) hC20 (by omega) hroom20; obtain ⟨A20, hA20⟩ : ∃ A1, A1 = (if c0 = ((ji9) : Int).toNat then A0 else (A0 : Option Addr).map (·.add (((ji9) : Int).toNat * 3))) := ⟨_, rfl⟩; obtain ⟨c20, hc20⟩ : ∃ c1, c1 = c0 - ((ji9) : Int).toNat := ⟨_, rfl⟩; have hy20 : y181.length = l0.length - ((ji9) : Int).toNat := (by rw [Ny181.out, List.length_drop] <;> omega); rw [show (l0).drop ((ji9) : Int).toNat = y181 from Ny181.out.symm] at hr20; replace hr20 : Kd.C k26 _ A20 y181.length y181 := (by rw [hA20]; exact hr20); rw [← hy20, ← hA20, ← hc20] at hcut20; have HR184 := Aside0.mk hr20; have HC184 := Aside0.mk (show y181.length ≤ c20 from by rw [hy20, hc20]; exact Nat.sub_le_sub_right hroom20 _); clear hr20 hC20 hroom20 hi020 hsz20 hc20; have KY20 := Aside0.mk hy20; have KA20 := Aside0.mk hA20; clear hy20 hA20; replace q20 := eq_true q20) | ((with_reducible refine gate_builtin (b := .append) (xs := #[.tmp 27, .tmp 30]) rfl ?_); at_builtin; refine Kd.R_append_rows k26 (w0 := w) w.heap.size rfl (.tmp 27) (.tmp 30) 22 26 (.agg #[(.string ⟨#[]⟩), (.int .i64 0), (.string ⟨#[]⟩)]) 40 rfl Try.underlying22 info26 rfl (by decide) (by omega) v179 y178 y181 _ _ _ (fun k_ => k_ ≠ gb168) (fun _ => False) rfl rfl ?aO ?aR (fun _ _ h => h) (fun _ h => h.elim) ?aF ?aB ?aS ?aL ?_; (case aR => repeat (first | exact (Kd.C_below HR184.out HB.out) | (with_reducible refine Kd.C_alloc ?_ _) | (with_reducible refine Kd.C_drewN ?_ _) | (with_reducible refine Kd.C_drew ?_))); (case aB => exact (by repeat (first | (with_reducible first | exact HB.out | apply below_alloc | apply pw_below_drewN | apply below_drew1 | refine below_set ?_ GE168.out) | exact HB.out))); (case aF => exact (fun k_ hk => Kd.freshB (g := gb168) (o := .cells #[.string a1_0, .int .i64 a1_1, .string a1_2] 26 (0, 0)) (by (with_reducible repeat (first | refine blk_drewN ?_ _ | refine blk_drew ?_ | refine blk_alloc ?_ _)); exact BK168.out) k_ hk)); (case aO => exact (by (with_reducible repeat (first | apply Kd.R_alloc | apply Kd.R_drewN | apply Kd.R_drew)); exact HO180.out)); (case aS => exact (below_size (by repeat (first | (with_reducible first | exact HB.out | apply below_alloc | apply pw_below_drewN | apply below_drew1 | refine below_set ?_ GE168.out) | exact HB.out)))); (case aL => have := LMc12.out; omega); intro v186 w21 ho hb hg hat; rw [← Ny185.out] at ho; have n0_ := Aside0.mk (blk_grown (g := gb168) (o := .cells #[.string a1_0, .int .i64 a1_1, .string a1_2] 26 (0, 0)) (by (with_reducible repeat (first | refine blk_drewN ?_ _ | refine blk_drew ?_ | refine blk_alloc ?_ _)); exact BK168.out) hg (Kd.R_away HO180.out (fun _ hk => hk))); have n1_ := Aside0.mk (hb); have n2_ := Aside0.mk (ho); clear BK168; clear HB; clear HO180; have BK168 := n0_; have HB := n1_; have HO187 := n2_; clear n0_ n1_ n2_; clear ho hb hg hat))
                  go_ret
                  exact ⟨_, by first | rfl | (simp [errW_none, errW_some] <;> rfl) | (simp only [← hji9]; first | rfl | (simp [errW_none, errW_some] <;> rfl)) | (simp [*, errW_none, errW_some] <;> rfl), by (with_reducible repeat (first | apply Kd.R_alloc | apply Kd.R_drewN | apply Kd.R_drew)); exact Kd.R_mono HO187.out (fun _ hk => trivial), by repeat (first | (with_reducible first | exact HB.out | apply below_alloc | apply pw_below_drewN | apply below_drew1 | refine below_set ?_ GE168.out) | exact HB.out)⟩
                · rw [if_neg c12] at H
                  exact absurd H (by simp)
              · rw [if_neg c11] at H
                exact absurd H (by simp)
            · rw [if_neg c10] at H
              exact absurd H (by simp)
          · replace c8 := Bool.eq_false_iff.mpr c8
            subst c8
            have H1 : ((some (l0.drop (t169 : Int).toNat : List (S26))).bind fun y188 => (if y178.length + y188.length < 3518437208883 then (some (y178 ++ y188)) else (none))) = some r := by rw [if_neg (show ¬ (false = true) by decide)] at H; exact H
            clear H
            have H := H1
            clear H1
            have c22b0 := eq_true (of_decide_eq_true (by first | (with_reducible assumption) | assumption) : 0 ≤ t169)
            have c23b0 := eq_true (of_decide_eq_true (by first | (with_reducible assumption) | assumption) : t169 ≤ (l0.length : Int))
            obtain ⟨y188, hy188⟩ : ∃ y_ : List (S26), y_ = (l0.drop (t169 : Int).toNat) := ⟨_, rfl⟩
            replace H : (if y178.length + y188.length < 3518437208883 then (some (y178 ++ y188)) else (none)) = some r := by first | (rw [hy188]; with_reducible exact H) | (have H2_ := (Option.bind_some _ _).symm.trans H; rw [hy188]; with_reducible exact H2_) | (have H2_ := (Option.bind_some _ _).symm.trans H; with_reducible exact H2_) | with_reducible exact H | (rw [hy188]; exact H) | exact H
            have Ny188 := Aside0.mk hy188
            clear hy188
            by_cases c24 : y178.length + y188.length < 3518437208883
            · rw [if_pos c24] at H
              have LMc24 := Aside0.mk c24
              clear c24
              obtain ⟨y192, hy192⟩ : ∃ y_ : List (S26), y_ = (y178 ++ y188) := ⟨_, rfl⟩
              replace H : (some y192) = some r := by first | (rw [hy192]; with_reducible exact H) | (have H2_ := (Option.bind_some _ _).symm.trans H; rw [hy192]; with_reducible exact H2_) | (have H2_ := (Option.bind_some _ _).symm.trans H; with_reducible exact H2_) | with_reducible exact H | (rw [hy192]; exact H) | exact H
              have Ny192 := Aside0.mk hy192
              clear hy192
              obtain rfl := Option.some.inj H
              go_enter Try.func18, Try.ntmps18
              go_wp2_with (first | ((with_reducible refine gate_dst (N := 3) rfl ?_); refine box_event ?hg (N := 3) ?hd (cs := #[.string a1_0, .int .i64 a1_1, .string a1_2]) (t := 26) ?hr ?_; (case hd => rfl); (case hg => rfl); (case hr => first | (go_simp; done) | (go_simp; rfl)); intro gb168 hg w25 hbox hb; have n0_ := Aside0.mk (below_step (by repeat (first | (with_reducible first | exact HB.out | apply below_alloc | apply pw_below_drewN | apply below_drew1) | exact HB.out)) hb); have n1_ := Aside0.mk (hbox); have n2_ := Aside0.mk ((by rw [hg]; exact (below_size (by repeat (first | (with_reducible first | exact HB.out | apply below_alloc | apply pw_below_drewN | apply below_drew1) | exact HB.out))) : w.heap.size ≤ gb168)); have n3_ := Aside0.mk ((by rw [hg]; exact (below_size (by repeat (first | (with_reducible first | exact HB.out | apply below_alloc | apply pw_below_drewN | apply below_drew1) | exact HB.out))) : w.heap.size ≤ gb168)); clear HB; have HB := n0_; have BK168 := n1_; have GW168 := n2_; have GE168 := n3_; clear n0_ n1_ n2_ n3_; clear hb hbox hg; have hcz26_0 : w25.cell? ⟨gb168, 0, none⟩ = some (.string a1_0) := (blk_cell BK168.out 0).trans rfl; have hcz26_1 : w25.cell? ⟨gb168, 1, none⟩ = some (.int .i64 a1_1) := (blk_cell BK168.out 1).trans rfl; have hcz26_2 : w25.cell? ⟨gb168, 2, none⟩ = some (.string a1_2) := (blk_cell BK168.out 2).trans rfl; have hfz26_0 := blk_frozen BK168.out 0; have hfz26_1 := blk_frozen BK168.out 1; have hfz26_2 := blk_frozen BK168.out 2) | ((with_reducible refine gate_callee (f := 16) rfl ?_); refine goesL_ (some 12) rfl rfl Try.func16 (by kernel_rfl) rfl #[.slice A0 l0.length c0, .agg #[.string a1_0, .int .i64 a1_1]] rfl (by (try simp only [List.map_toArray, List.map_cons, List.map_nil]); first | done | rfl | (simp only [List.length_drop, List.length_take]; rfl)) ?_; (with_reducible refine (sextonref09_Find.calls k _ _ l0 a1_0 a1_1 t169 false _ ?side1 ?side2 A3.out).mono ?_); (case side1 => repeat (first | exact (Kd.C_below HR0.out HB.out) | (with_reducible refine Kd.C_alloc ?_ _) | (with_reducible refine Kd.C_drewN ?_ _) | (with_reducible refine Kd.C_drew ?_))); (case side2 => exact HC0.out); rintro e w27 ⟨rfl, hb⟩; refine ⟨_, rfl, ?_⟩; have n0_ := Aside0.mk (blk_below (g := gb168) (o := .cells #[.string a1_0, .int .i64 a1_1, .string a1_2] 26 (0, 0)) (by (with_reducible repeat (first | refine blk_drewN ?_ _ | refine blk_drew ?_ | refine blk_alloc ?_ _)); exact BK168.out) hb); have n1_ := Aside0.mk (below_step (by repeat (first | (with_reducible first | exact HB.out | apply below_alloc | apply pw_below_drewN | apply below_drew1 | refine below_set ?_ GE168.out) | exact HB.out)) hb); clear BK168; clear HB; have BK168 := n0_; have HB := n1_; clear n0_ n1_; (try clear hb); (try clear hb2); (try clear hk); (try clear hi); have q28 : (t169 : Int) ≤ ((l0.length : Int) : Int) := of_decide_eq_true (by first | (with_reducible assumption) | assumption); obtain ⟨i028, hi028, _, hsz28, _⟩ := info_parts info26; have hroom28 : l0.length ≤ c0 := HC0.out; have hC28 : Kd.C k26 _ A0 l0.length l0 := HR0.out; have hcut28 := cut_to (P := Try.prog) 22 26 .i64 Try.underlying22 hi028 A0 l0.length c0 t169 (of_decide_eq_true (by first | (with_reducible assumption) | assumption)) q28 hroom28; have hr28 := Kd.C_take (m := (t169 : Int).toNat) hC28 (by omega); have hy28 : y171.length = (t169 : Int).toNat := (by rw [Ny171.out, List.length_take]; omega); rw [← Ny171.out] at hr28; rw [← hy28] at hcut28; have HR174 := Aside0.mk hr28; have HC174 := Aside0.mk (show y171.length ≤ c0 from by omega); clear hr28 hC28 hroom28 hi028 hsz28; have KY28 := Aside0.mk hy28; clear hy28; replace q28 := eq_true q28) | ((with_reducible refine gate_builtin (b := .append) (xs := #[.tmp 15, .tmp 18]) rfl ?_); at_builtin; refine Kd.R_append_rows k26 (w0 := w) w.heap.size rfl (.tmp 15) (.tmp 18) 22 26 (.agg #[(.string ⟨#[]⟩), (.int .i64 0), (.string ⟨#[]⟩)]) 40 rfl Try.underlying22 info26 rfl (by decide) (by omega) (.slice none 0 0) ([] : List (S26)) y171 _ _ _ (fun k_ => k_ ≠ gb168) (fun _ => False) rfl rfl ?aO ?aR (fun _ _ h => h) (fun _ h => h.elim) ?aF ?aB ?aS ?aL ?_; (case aR => repeat (first | exact (Kd.C_below HR174.out HB.out) | (with_reducible refine Kd.C_alloc ?_ _) | (with_reducible refine Kd.C_drewN ?_ _) | (with_reducible refine Kd.C_drew ?_))); (case aB => exact (by repeat (first | (with_reducible first | exact HB.out | apply below_alloc | apply pw_below_drewN | apply below_drew1 | refine below_set ?_ GE168.out) | exact HB.out))); (case aF => exact (fun k_ hk => Kd.freshB (g := gb168) (o := .cells #[.string a1_0, .int .i64 a1_1, .string a1_2] 26 (0, 0)) (by (with_reducible repeat (first | refine blk_drewN ?_ _ | refine blk_drew ?_ | refine blk_alloc ?_ _)); exact BK168.out) k_ hk)); (case aO => exact ((Kd.R_nil _ _ _ _ (fun k_ => k_ ≠ gb168)))); (case aS => exact (below_size (by repeat (first | (with_reducible first | exact HB.out | apply below_alloc | apply pw_below_drewN | apply below_drew1 | refine below_set ?_ GE168.out) | exact HB.out)))); (case aL => have := LMc6.out; omega); intro v176 w29 ho hb hg hat; rw [← Ny175.out] at ho; have n0_ := Aside0.mk (blk_grown (g := gb168) (o := .cells #[.string a1_0, .int .i64 a1_1, .string a1_2] 26 (0, 0)) (by (with_reducible repeat (first | refine blk_drewN ?_ _ | refine blk_drew ?_ | refine blk_alloc ?_ _)); exact BK168.out) hg (by simp [Value.ownBlock])); have n1_ := Aside0.mk (hb); have n2_ := Aside0.mk (ho); clear BK168; clear HB; have BK168 := n0_; have HB := n1_; have HO177 := n2_; clear n0_ n1_ n2_; clear ho hb hg hat; have hcz30_0 : w29.cell? ⟨gb168, 0, none⟩ = some (.string a1_0) := (blk_cell BK168.out 0).trans rfl; have hcz30_1 : w29.cell? ⟨gb168, 1, none⟩ = some (.int .i64 a1_1) := (blk_cell BK168.out 1).trans rfl; have hcz30_2 : w29.cell? ⟨gb168, 2, none⟩ = some (.string a1_2) := (blk_cell BK168.out 2).trans rfl; have hfz30_0 := blk_frozen BK168.out 0; have hfz30_1 := blk_frozen BK168.out 1; have hfz30_2 := blk_frozen BK168.out 2) | ((with_reducible refine gate_builtin (b := .append) (xs := #[.tmp 20, .tmp 22]) rfl ?_); at_builtin; refine Kd.R_append k26 (w0 := w) w.heap.size rfl (.tmp 20) (.tmp 22) 22 26 (.agg #[(.string ⟨#[]⟩), (.int .i64 0), (.string ⟨#[]⟩)]) 40 rfl Try.underlying22 info26 rfl (by decide) (by omega) v176 y175 (⟨(⟨a1_0, a1_1⟩ : S24), a1_2⟩ : S26) [.string a1_0, .int .i64 a1_1, .string a1_2] (fun k_ => k_ ≠ gb168) (fun _ => False) rfl rfl ?aP (fun _ hk => hk.elim) ?aF ?aO ?aB ?aS ?aL ?_; (case aP => exact k26_mkM _ _ _ (⟨(⟨a1_0, a1_1⟩ : S24), a1_2⟩ : S26)); (case aB => exact (by repeat (first | (with_reducible first | exact HB.out | apply below_alloc | apply pw_below_drewN | apply below_drew1 | refine below_set ?_ GE168.out) | exact HB.out))); (case aF => exact (fun k_ hk => Kd.freshB (g := gb168) (o := .cells #[.string a1_0, .int .i64 a1_1, .string a1_2] 26 (0, 0)) (by (with_reducible repeat (first | refine blk_drewN ?_ _ | refine blk_drew ?_ | refine blk_alloc ?_ _)); exact BK168.out) k_ hk)); (case aO => exact (by (with_reducible repeat (first | apply Kd.R_alloc | apply Kd.R_drewN | apply Kd.R_drew)); exact HO177.out)); (case aS => exact (below_size (by repeat (first | (with_reducible first | exact HB.out | apply below_alloc | apply pw_below_drewN | apply below_drew1 | refine below_set ?_ GE168.out) | exact HB.out)))); (case aL => have := LMc7.out; omega); intro v179 w31 ho hb hg hat; rw [← Ny178.out] at ho; have n0_ := Aside0.mk (blk_grown (g := gb168) (o := .cells #[.string a1_0, .int .i64 a1_1, .string a1_2] 26 (0, 0)) (by (with_reducible repeat (first | refine blk_drewN ?_ _ | refine blk_drew ?_ | refine blk_alloc ?_ _)); exact BK168.out) hg (Kd.R_away HO177.out (fun _ hk => hk))); have n1_ := Aside0.mk (hb); have n2_ := Aside0.mk (ho); clear BK168; clear HB; clear HO177; have BK168 := n0_; have HB := n1_; have HO180 := n2_; clear n0_ n1_ n2_; clear ho hb hg hat; have q32 : (t169 : Int) ≤ ((l0.length : Int) : Int) := of_decide_eq_true (by first | (with_reducible assumption) | assumption); obtain ⟨i032, hi032, _, hsz32, _⟩ := info_parts info26; have hroom32 : l0.length ≤ c0 := HC0.out; have hC32 : Kd.C k26 _ A0 l0.length l0 := HR0.out; have q032 : (0 : Int) ≤ (t169 : Int) := of_decide_eq_true (by first | (with_reducible assumption) | assumption); have hcut32 := cut_from (P := Try.prog) 22 26 .i64 Try.underlying22 hi032 3 hsz32 A0 l0.length c0 t169 q032 q32; have hr32 := Kd.C_drop (m := (t169 : Int).toNat) (c := c0) hC32 (by omega) hroom32; obtain ⟨A32, hA32⟩ : ∃ A1, A1 = (if c0 = (t169 : Int).toNat then A0 else (A0 : Option Addr).map (·.add ((t169 : Int).toNat * 3))) := ⟨_, rfl⟩; obtain ⟨c32, hc32⟩ : ∃ c1, c1 = c0 - (t169 : Int).toNat := ⟨_, rfl⟩; have hy32 : y188.length = l0.length - (t169 : Int).toNat := (by rw [Ny188.out, List.length_drop] <;> omega); rw [show (l0).drop (t169 : Int).toNat = y188 from Ny188.out.symm] at hr32; replace hr32 : Kd.C k26 _ A32 y188.length y188 := (by rw [hA32]; exact hr32); rw [← hy32, ← hA32, ← hc32] at hcut32; have HR191 := Aside0.mk hr32; have HC191 := Aside0.mk (show y188.length ≤ c32 from by rw [hy32, hc32]; exact Nat.sub_le_sub_right hroom32 _); clear hr32 hC32 hroom32 hi032 hsz32 hc32; have KY32 := Aside0.mk hy32; have KA32 := Aside0.mk hA32; clear hy32 hA32; replace q32 := eq_true q32) | ((with_reducible refine gate_builtin (b := .append) (xs := #[.tmp 27, .tmp 30]) rfl ?_); at_builtin; refine Kd.R_append_rows k26 (w0 := w) w.heap.size rfl (.tmp 27) (.tmp 30) 22 26 (.agg #[(.string ⟨#[]⟩), (.int .i64 0), (.string ⟨#[]⟩)]) 40 rfl Try.underlying22 info26 rfl (by decide) (by omega) v179 y178 y188 _ _ _ (fun k_ => k_ ≠ gb168) (fun _ => False) rfl rfl ?aO ?aR (fun _ _ h => h) (fun _ h => h.elim) ?aF ?aB ?aS ?aL ?_; (case aR => repeat (first | exact (Kd.C_below HR191.out HB.out) | (with_reducible refine Kd.C_alloc ?_ _) | (with_reducible refine Kd.C_drewN ?_ _) | (with_reducible refine Kd.C_drew ?_))); (case aB => exact (by repeat (first | (with_reducible first | exact HB.out | apply below_alloc | apply pw_below_drewN | apply below_drew1 | refine below_set ?_ GE168.out) | exact HB.out))); (case aF => exact (fun k_ hk => Kd.freshB (g := gb168) (o := .cells #[.string a1_0, .int .i64 a1_1, .string a1_2] 26 (0, 0)) (by (with_reducible repeat (first | refine blk_drewN ?_ _ | refine blk_drew ?_ | refine blk_alloc ?_ _)); exact BK168.out) k_ hk)); (case aO => exact (by (with_reducible repeat (first | apply Kd.R_alloc | apply Kd.R_drewN | apply Kd.R_drew)); exact HO180.out)); (case aS => exact (below_size (by repeat (first | (with_reducible first | exact HB.out | apply below_alloc | apply pw_below_drewN | apply below_drew1 | refine below_set ?_ GE168.out) | exact HB.out)))); (case aL => have := LMc24.out; omega); intro v193 w33 ho hb hg hat; rw [← Ny192.out] at ho; have n0_ := Aside0.mk (blk_grown (g := gb168) (o := .cells #[.string a1_0, .int .i64 a1_1, .string a1_2] 26 (0, 0)) (by (with_reducible repeat (first | refine blk_drewN ?_ _ | refine blk_drew ?_ | refine blk_alloc ?_ _)); exact BK168.out) hg (Kd.R_away HO180.out (fun _ hk => hk))); have n1_ := Aside0.mk (hb); have n2_ := Aside0.mk (ho); clear BK168; clear HB; clear HO180; have BK168 := n0_; have HB := n1_; have HO194 := n2_; clear n0_ n1_ n2_; clear ho hb hg hat))
              go_ret
              exact ⟨_, by first | rfl | (simp [errW_none, errW_some] <;> rfl) | (simp [*, errW_none, errW_some] <;> rfl), by (with_reducible repeat (first | apply Kd.R_alloc | apply Kd.R_drewN | apply Kd.R_drew)); exact Kd.R_mono HO194.out (fun _ hk => trivial), by repeat (first | (with_reducible first | exact HB.out | apply below_alloc | apply pw_below_drewN | apply below_drew1 | refine below_set ?_ GE168.out) | exact HB.out)⟩
            · rw [if_neg c24] at H
              exact absurd H (by simp)
        · rw [if_neg c7] at H
          exact absurd H (by simp)
      · rw [if_neg c6] at H
        exact absurd H (by simp)
    · rw [if_neg c5] at H
      exact absurd H (by simp)
  · rw [if_neg c4] at H
    exact absurd H (by simp)

end Go.Proofs.Ytoiohlmiofplcaa.P
-- Written by a program of this session (xprint.py) over the kit's print.py.
namespace Go.Proofs.Ytoiohlmiofplcaa.P
open Go.RowKit Go.Proofs.YtoiohlmiofplcaaW.PrintWords Go.Proofs.YtoiohlmiofplcaaW.PrintLast Go.Proofs.YtoiohlmiofplcaaW.PrintMore
attribute [local go_sem] max2_int min2_int max_two min_two max_three min_three max_four min_four   -- for this text's walks alone
set_option linter.unusedVariables false
set_option linter.unusedSimpArgs false

/-! ### node_Drop: function 19 -/
def node_Drop.f (k : Nat) (l0 : List (S26)) (a1_0 : ByteArray) (a1_1 : Int) : Option ((List (S26))) := (node_Find.f l0 a1_0 a1_1).bind fun bt196 => (if bt196.2 = true then (if 0 ≤ bt196.1 then (if bt196.1 ≤ (l0.length : Int) then (if 0 ≤ (wrap64 (bt196.1 + 1)) then (if (wrap64 (bt196.1 + 1)) ≤ (l0.length : Int) then ((api_Pair.f k (([(l0.take (bt196.1 : Int).toNat), (l0.drop ((wrap64 (bt196.1 + 1)) : Int).toNat)] : List (List (S26))))).bind fun t211 => (some t211)) else (none)) else (none)) else (none)) else (none)) else ((api_Pair.f k (([l0] : List (List (S26))))).bind fun t217 => (some t217)))
theorem node_Drop.mono : ∀ a0 a1 a2 k, LeO (node_Drop.f k a0 a1 a2) (node_Drop.f (k + 1) a0 a1 a2) := by
  intro a0 a1 a2 k
  unfold node_Drop.f
  repeat' first
      | (with_reducible exact api_Pair.mono _ _)
      | (with_reducible exact LeO.refl _)
      | (with_reducible exact LeO.none _)
      | (with_reducible refine LeO.ite ?_ ?_)
      | (with_reducible refine LeO.bind ?_ (fun _ => ?_))
      | exact api_Pair.mono _ _
      | exact LeO.none _
      | refine LeO.ite ?_ ?_
      | refine LeO.bind ?_ (fun _ => ?_)
def node_Drop.T4 : Bool × List (List Nat × List Nat) := (true, [([], []), ([], []), ([0, 1], [0, 1]), ([], []), ([], []), ([4], [4]), ([3, 5], [3, 5]), ([2, 6], [2, 6]), ([7], [7]), ([8, 8, 0, 1, 2, 3, 4, 5, 6, 7, 8], [8])])
def node_Drop.B4 : List Nat := [0, 0, 3, 0, 0, 16, 56, 127, 255, 511]
theorem node_Drop.tab4 : rtab .any (opsOf Try.f19 4) = node_Drop.T4 := by kernel_rfl
theorem node_Drop.bits4 : waitsOk node_Drop.T4.2 node_Drop.B4 = true := by kernel_rfl
set_option maxHeartbeats 8000000 in
set_option maxRecDepth 100000 in
theorem node_Drop.calls (k : Nat) (P0_ : Nat → Prop) (A0 : Option Addr) (c0 : Nat) (l0 : List (S26)) (a1_0 : ByteArray) (a1_1 : Int) (r : List (S26)) (w : World) (hs0 : Kd.V k26 26 w w.heap.size (fun k_ => P0_ k_) (.slice A0 l0.length c0) l0) (h : node_Drop.f k l0 a1_0 a1_1 = some r) :
    Calls Try.prog 19 #[.slice A0 l0.length c0, .agg #[.string a1_0, .int .i64 a1_1]] w fun e w' => ∃ v0_ : Value, e = .returned (v0_) ∧ Kd.R k26 26 w' w.heap.size (fun k_ => (w.heap.size ≤ k_)) v0_ r ∧ Below w.heap.size w w' := by
  have hu24 := Try.underlying24
  have HO0 := Aside0.mk (show Kd.V k26 26 w w.heap.size (fun k_ => (P0_ k_ ∨ w.heap.size ≤ k_)) (.slice A0 l0.length c0) l0 from Kd.V_mono hs0 (fun k_ hk => .inl hk))
  have HB := Aside0.mk (Below.refl w.heap.size w)
  have H : ((node_Find.f l0 a1_0 a1_1).bind fun bt196 => (if bt196.2 = true then (if 0 ≤ bt196.1 then (if bt196.1 ≤ (l0.length : Int) then (if 0 ≤ (wrap64 (bt196.1 + 1)) then (if (wrap64 (bt196.1 + 1)) ≤ (l0.length : Int) then ((api_Pair.f k (([(l0.take (bt196.1 : Int).toNat), (l0.drop ((wrap64 (bt196.1 + 1)) : Int).toNat)] : List (List (S26))))).bind fun t211 => (some t211)) else (none)) else (none)) else (none)) else (none)) else ((api_Pair.f k (([l0] : List (List (S26))))).bind fun t217 => (some t217)))) = some r := h
  clear h
  replace H := Option.bind_eq_some_iff.mp H
  obtain ⟨⟨t196, t197⟩, A30, H⟩ := H
  replace H : (if t197 = true then (if 0 ≤ t196 then (if t196 ≤ (l0.length : Int) then (if 0 ≤ (wrap64 (t196 + 1)) then (if (wrap64 (t196 + 1)) ≤ (l0.length : Int) then ((api_Pair.f k (([(l0.take (t196 : Int).toNat), (l0.drop ((wrap64 (t196 + 1)) : Int).toNat)] : List (List (S26))))).bind fun t211 => (some t211)) else (none)) else (none)) else (none)) else (none)) else ((api_Pair.f k (([l0] : List (List (S26))))).bind fun t217 => (some t217))) = some r := H
  have A3 := Aside0.mk A30
  clear A30
  by_cases c4 : t197 = true
  · subst c4
    have H1 : (if 0 ≤ t196 then (if t196 ≤ (l0.length : Int) then (if 0 ≤ (wrap64 (t196 + 1)) then (if (wrap64 (t196 + 1)) ≤ (l0.length : Int) then ((api_Pair.f k (([(l0.take (t196 : Int).toNat), (l0.drop ((wrap64 (t196 + 1)) : Int).toNat)] : List (List (S26))))).bind fun t211 => (some t211)) else (none)) else (none)) else (none)) else (none)) = some r := by rw [if_pos rfl] at H; exact H
    clear H
    have H := H1
    clear H1
    by_cases c5 : 0 ≤ t196
    · rw [if_pos c5] at H
      have c5b0 := eq_true c5
      have c5b1 : decide (0 ≤ t196) = true := decide_eq_true c5
      clear c5
      by_cases c6 : t196 ≤ (l0.length : Int)
      · rw [if_pos c6] at H
        have c6b0 := eq_true c6
        have c6b1 : decide (t196 ≤ (l0.length : Int)) = true := decide_eq_true c6
        clear c6
        obtain ⟨y198, hy198⟩ : ∃ y_ : List (S26), y_ = (l0.take (t196 : Int).toNat) := ⟨_, rfl⟩
        replace H : (if 0 ≤ (wrap64 (t196 + 1)) then (if (wrap64 (t196 + 1)) ≤ (l0.length : Int) then ((api_Pair.f k (([y198, (l0.drop ((wrap64 (t196 + 1)) : Int).toNat)] : List (List (S26))))).bind fun t211 => (some t211)) else (none)) else (none)) = some r := by first | (rw [hy198]; with_reducible exact H) | (have H2_ := (Option.bind_some _ _).symm.trans H; rw [hy198]; with_reducible exact H2_) | (have H2_ := (Option.bind_some _ _).symm.trans H; with_reducible exact H2_) | with_reducible exact H | (rw [hy198]; exact H) | exact H
        have Ny198 := Aside0.mk hy198
        clear hy198
        obtain ⟨ji7, hji7⟩ : ∃ j_ : Int, (wrap64 (t196 + 1)) = j_ := ⟨_, rfl⟩
        replace H : (if 0 ≤ (ji7) then (if (ji7) ≤ (l0.length : Int) then ((api_Pair.f k (([y198, (l0.drop ((ji7) : Int).toNat)] : List (List (S26))))).bind fun t211 => (some t211)) else (none)) else (none)) = some r := by first | (rw [hji7] at H; exact H) | (simp only [hji7] at H ⊢; exact H)
        (try rw [hji7] at A3)
        have hji7w : (IntKind.i64.wrap (t196 + 1)) = ji7 := (i64_w _).trans hji7
        by_cases c8 : 0 ≤ (ji7)
        · rw [if_pos c8] at H
          have c8b0 := eq_true c8
          have c8b1 : decide (0 ≤ (ji7)) = true := decide_eq_true c8
          clear c8
          by_cases c9 : (ji7) ≤ (l0.length : Int)
          · rw [if_pos c9] at H
            have c9b0 := eq_true c9
            have c9b1 : decide ((ji7) ≤ (l0.length : Int)) = true := decide_eq_true c9
            clear c9
            obtain ⟨y203, hy203⟩ : ∃ y_ : List (S26), y_ = (l0.drop ((ji7) : Int).toNat) := ⟨_, rfl⟩
            replace H : ((api_Pair.f k (([y198, y203] : List (List (S26))))).bind fun t211 => (some t211)) = some r := by first | (rw [hy203]; with_reducible exact H) | (have H2_ := (Option.bind_some _ _).symm.trans H; rw [hy203]; with_reducible exact H2_) | (have H2_ := (Option.bind_some _ _).symm.trans H; with_reducible exact H2_) | with_reducible exact H | (rw [hy203]; exact H) | exact H
            have Ny203 := Aside0.mk hy203
            clear hy203
            obtain ⟨y208, hy208⟩ : ∃ y_ : List (List (S26)), y_ = (([y198, y203] : List (List (S26)))) := ⟨_, rfl⟩
            replace H : ((api_Pair.f k y208).bind fun t211 => (some t211)) = some r := by first | (rw [hy208]; with_reducible exact H) | (have H2_ := (Option.bind_some _ _).symm.trans H; rw [hy208]; with_reducible exact H2_) | (have H2_ := (Option.bind_some _ _).symm.trans H; with_reducible exact H2_) | with_reducible exact H | (rw [hy208]; exact H) | exact H
            have Ny208 := Aside0.mk hy208
            clear hy208
            replace H := Option.bind_eq_some_iff.mp H
            obtain ⟨t211, A100, H⟩ := H
            replace H : (some t211) = some r := H
            have A10 := Aside0.mk A100
            clear A100
            obtain rfl := Option.some.inj H
            go_enter Try.func19, Try.ntmps19
            try go_wp2_with (first | ((with_reducible refine gate_dst (N := 3) rfl ?_); refine box_event ?hg (N := 3) ?hd (cs := #[.string a1_0, .int .i64 a1_1]) (t := 24) ?hr ?_; (case hd => rfl); (case hg => rfl); (case hr => first | (go_simp; done) | (go_simp; rfl)); intro gb195 hg w11 hbox hb; have n0_ := Aside0.mk (Kd.V_below (Kd.V_elderB (by (with_reducible repeat (first | apply Kd.V_alloc | apply Kd.V_drewN | apply Kd.V_drew)); exact HO0.out) gb195 (Nat.le_of_eq hg.symm)) hb); have n1_ := Aside0.mk (below_step (by repeat (first | (with_reducible first | exact HB.out | apply below_alloc | apply pw_below_drewN | apply below_drew1) | exact HB.out)) hb); have n2_ := Aside0.mk (hbox); have n3_ := Aside0.mk ((by rw [hg]; exact (below_size (by repeat (first | (with_reducible first | exact HB.out | apply below_alloc | apply pw_below_drewN | apply below_drew1) | exact HB.out))) : w.heap.size ≤ gb195)); have n4_ := Aside0.mk ((by rw [hg]; exact (below_size (by repeat (first | (with_reducible first | exact HB.out | apply below_alloc | apply pw_below_drewN | apply below_drew1) | exact HB.out))) : w.heap.size ≤ gb195)); clear HO0; clear HB; have HO0 := n0_; have HB := n1_; have BK195 := n2_; have GW195 := n3_; have GE195 := n4_; clear n0_ n1_ n2_ n3_ n4_; clear hb hbox hg; have hcz12_0 : w11.cell? ⟨gb195, 0, none⟩ = some (.string a1_0) := (blk_cell BK195.out 0).trans rfl; have hcz12_1 : w11.cell? ⟨gb195, 1, none⟩ = some (.int .i64 a1_1) := (blk_cell BK195.out 1).trans rfl; have hfz12_0 := blk_frozen BK195.out 0; have hfz12_1 := blk_frozen BK195.out 1) | ((with_reducible refine gate_callee (f := 15) rfl ?_); refine goesL_ (some 10) rfl rfl Try.func15 (by kernel_rfl) rfl #[.slice A0 l0.length c0, .agg #[.string a1_0, .int .i64 a1_1]] rfl (by (try simp only [List.map_toArray, List.map_cons, List.map_nil]); first | done | rfl | (simp only [List.length_drop, List.length_take]; rfl)) ?_; (with_reducible refine (node_Find.calls _ _ l0 a1_0 a1_1 t196 true _ ?side1 ?side2 A3.out).mono ?_); (case side1 => repeat (first | exact (Kd.V_reads' HO0.out).2.2 | (with_reducible refine Kd.C_alloc ?_ _) | (with_reducible refine Kd.C_drewN ?_ _) | (with_reducible refine Kd.C_drew ?_))); (case side2 => exact (Kd.V_reads' HO0.out).2.1); rintro e w13 ⟨rfl, hb⟩; refine ⟨_, rfl, ?_⟩; have n0_ := Aside0.mk (Kd.V_below (by (with_reducible repeat (first | apply Kd.V_alloc | apply Kd.V_drewN | apply Kd.V_drew)); exact HO0.out) hb); have n1_ := Aside0.mk (blk_below (g := gb195) (o := .cells #[.string a1_0, .int .i64 a1_1] 24 (0, 0)) (by (with_reducible repeat (first | refine blk_drewN ?_ _ | refine blk_drew ?_ | refine blk_alloc ?_ _)); exact BK195.out) hb); have n2_ := Aside0.mk (below_step (by repeat (first | (with_reducible first | exact HB.out | apply below_alloc | apply pw_below_drewN | apply below_drew1 | refine below_set ?_ GE195.out) | exact HB.out)) hb); clear HO0; clear BK195; clear HB; have HO0 := n0_; have BK195 := n1_; have HB := n2_; clear n0_ n1_ n2_; (try clear hb); (try clear hb2); (try clear hk); (try clear hi)))
            have n0_ := Aside0.mk (Kd.V_drew HO0.out)
            have n1_ := Aside0.mk (blk_drew BK195.out)
            have n2_ := Aside0.mk (below_drew1 HB.out)
            clear HO0
            clear BK195
            clear HB
            have HO0 := n0_
            have BK195 := n1_
            have HB := n2_
            clear n0_ n1_ n2_
            have q15 : (t196 : Int) ≤ ((l0.length : Int) : Int) := of_decide_eq_true (by first | (with_reducible assumption) | assumption)
            obtain ⟨i015, hi015, _, hsz15, _⟩ := info_parts info26
            have hroom15 : l0.length ≤ c0 := (Kd.V_reads' HO0.out).2.1
            have hC15 : Kd.F k26 _ _ A0 l0.length l0 := (Kd.V_at (base := w.heap.size) HO0.out).2.2
            have hcut15 := cut_to (P := Try.prog) 22 26 .i64 Try.underlying22 hi015 A0 l0.length c0 t196 (of_decide_eq_true (by first | (with_reducible assumption) | assumption)) q15 hroom15
            have hr15 := Kd.F_take (m := (t196 : Int).toNat) hC15 (by omega)
            have hy15 : y198.length = (t196 : Int).toNat := (by rw [Ny198.out, List.length_take]; omega)
            rw [← Ny198.out] at hr15
            rw [← hy15] at hcut15
            have HO202 := Aside0.mk (show Kd.V k26 26 _ w.heap.size _ (.slice A0 y198.length c0) y198 from Kd.V_mk (by omega) hr15)
            have HC202 := Aside0.mk (show y198.length ≤ c0 from by omega)
            clear hr15 hC15 hroom15 hi015 hsz15
            have KY15 := Aside0.mk hy15
            clear hy15
            replace q15 := eq_true q15
            have q16 : ((ji7) : Int) ≤ ((l0.length : Int) : Int) := of_decide_eq_true (by first | (with_reducible assumption) | assumption)
            obtain ⟨i016, hi016, _, hsz16, _⟩ := info_parts info26
            have hroom16 : l0.length ≤ c0 := (Kd.V_reads' HO0.out).2.1
            have hC16 : Kd.F k26 _ _ A0 l0.length l0 := (Kd.V_at (base := w.heap.size) HO0.out).2.2
            have q016 : (0 : Int) ≤ ((ji7) : Int) := of_decide_eq_true (by first | (with_reducible assumption) | assumption)
            have hcut16 := cut_from (P := Try.prog) 22 26 .i64 Try.underlying22 hi016 3 hsz16 A0 l0.length c0 (ji7) q016 q16
            have hr16 := Kd.F_cut (m := ((ji7) : Int).toNat) (c := c0) hC16 (by omega) hroom16
            obtain ⟨A16, hA16⟩ : ∃ A1, A1 = (if c0 = ((ji7) : Int).toNat then A0 else (A0 : Option Addr).map (·.add (((ji7) : Int).toNat * 3))) := ⟨_, rfl⟩
            obtain ⟨c16, hc16⟩ : ∃ c1, c1 = c0 - ((ji7) : Int).toNat := ⟨_, rfl⟩
            have hy16 : y203.length = l0.length - ((ji7) : Int).toNat := (by rw [Ny203.out, List.length_drop] <;> omega)
            rw [show (l0).drop ((ji7) : Int).toNat = y203 from Ny203.out.symm] at hr16
            replace hr16 : Kd.F k26 _ _ A16 y203.length y203 := (by rw [hA16]; exact hr16)
            rw [← hy16, ← hA16, ← hc16] at hcut16
            have HO207 := Aside0.mk (show Kd.V k26 26 _ w.heap.size _ (.slice A16 y203.length c16) y203 from Kd.V_mk (by rw [hy16, hc16]; exact Nat.sub_le_sub_right hroom16 _) hr16)
            have HC207 := Aside0.mk (show y203.length ≤ c16 from by rw [hy16, hc16]; exact Nat.sub_le_sub_right hroom16 _)
            clear hr16 hC16 hroom16 hi016 hsz16 hc16
            have KY16 := Aside0.mk hy16
            have KA16 := Aside0.mk hA16
            clear hy16 hA16
            replace q16 := eq_true q16
            refine start_ (n := 10) (S := fun w' => True) (ds := []) #[false, false, false, false, false, false, false, false, false, false] (by kernel_rfl) rfl rfl trivial (fun hHeld => ?_); refine with_tabW node_Drop.tab4 node_Drop.bits4 (fun HT_ HW_ => ?_)
            generalize w13.drew = w14 at HO0 BK195 HB HO202 HO207 hHeld ⊢
            refine pure_ (i := 0) (N := some 18) (v := ?_) (a' := ?_) #[true, false, false, false, false, false, false, false, false, false] rfl rfl (any_of HT_.out (by kernel_rfl)) (fun _ _ _ h => h) (Or.inl ⟨by rfl, ?_⟩) ?_ ?_
            rotate_left
            · intro w'
              go_simp
              with_reducible rfl
            rotate_left
            · simp only [Act.put, List.setIfInBounds_toArray, List.set_cons_zero, List.set_cons_succ, i64_w, i32_w]
              rfl
            refine pure_ (i := 1) (N := some 19) (v := ?_) (a' := ?_) #[true, true, false, false, false, false, false, false, false, false] rfl rfl (any_of HT_.out (by kernel_rfl)) (fun _ _ _ h => h) (Or.inl ⟨by rfl, ?_⟩) ?_ ?_
            rotate_left
            · intro w'
              go_simp
              with_reducible rfl
            rotate_left
            · simp only [Act.put, List.setIfInBounds_toArray, List.set_cons_zero, List.set_cons_succ, i64_w, i32_w]
              rfl
            refine pure_ (i := 2) (N := some 20) (v := ?_) (a' := ?_) #[true, true, true, false, false, false, false, false, false, false] rfl rfl (any_of HT_.out (by kernel_rfl)) (fun _ _ _ h => h) (Or.inl ⟨by rfl, ?_⟩) ?_ ?_
            rotate_left
            · intro w'
              go_simp
              with_reducible rfl
            rotate_left
            · simp only [Act.put, List.setIfInBounds_toArray, List.set_cons_zero, List.set_cons_succ, i64_w, i32_w]
              rfl
            refine pure_ (i := 3) (N := some 21) (v := ?_) (a' := ?_) #[true, true, true, true, false, false, false, false, false, false] rfl rfl (any_of HT_.out (by kernel_rfl)) (fun _ _ _ h => h) (Or.inl ⟨by rfl, ?_⟩) ?_ ?_
            rotate_left
            · intro w'
              go_simp
              with_reducible rfl
            rotate_left
            · simp only [Act.put, List.setIfInBounds_toArray, List.set_cons_zero, List.set_cons_succ, i64_w, i32_w]
              rfl
            refine pure_ (i := 4) (N := some 22) (v := ?_) (a' := ?_) #[true, true, true, true, true, false, false, false, false, false] rfl rfl (any_of HT_.out (by kernel_rfl)) (fun _ _ _ h => h) (Or.inl ⟨by rfl, ?_⟩) ?_ ?_
            rotate_left
            · intro w'
              go_simp
              with_reducible rfl
            rotate_left
            · simp only [Act.put, List.setIfInBounds_toArray, List.set_cons_zero, List.set_cons_succ, i64_w, i32_w]
              rfl
            refine pure_ (i := 5) (N := some 23) (v := ?_) (a' := ?_) #[true, true, true, true, true, true, false, false, false, false] rfl rfl (any_of HT_.out (by kernel_rfl)) (fun _ _ _ h => h) (Or.inl ⟨by rfl, ?_⟩) ?_ ?_
            rotate_left
            · intro w'
              go_simp
              with_reducible rfl
            rotate_left
            · simp only [Act.put, List.setIfInBounds_toArray, List.set_cons_zero, List.set_cons_succ, i64_w, i32_w]
              rfl
            refine pure_ (i := 6) (N := some 24) (v := ?_) (a' := ?_) #[true, true, true, true, true, true, true, false, false, false] rfl rfl (any_of HT_.out (by kernel_rfl)) (fun _ _ _ h => h) (Or.inl ⟨by rfl, ?_⟩) ?_ ?_
            rotate_left
            · intro w'
              go_simp
              with_reducible rfl
            rotate_left
            · simp only [Act.put, List.setIfInBounds_toArray, List.set_cons_zero, List.set_cons_succ, i64_w, i32_w]
              rfl
            refine one_ (i := 7) (N := some 25) #[true, true, true, true, true, true, true, true, false, false] rfl rfl (one_of HT_.out (by kernel_rfl)) (by decide) (fun K hK => ?_)
            refine Kd.N_lit_step (Kd.slice 26 k26) _ 22 ?hg (N' := 25) ?hd (xs := ([y198, y203] : List (List (S26)))) (inner := [.slice A0 y198.length c0, .slice A16 y203.length c16]) (ok := (fun k_ => (P0_ k_ ∨ w.heap.size ≤ k_) ∧ k_ ≠ gb195)) (okp := (fun k_ => (P0_ k_ ∨ w.heap.size ≤ k_) ∧ k_ ≠ gb195)) ?hr ?hp (fun _ hk => hk) ((show ∀ k_, w14.heap.size ≤ k_ → (fun k_ => (P0_ k_ ∨ w.heap.size ≤ k_) ∧ k_ ≠ gb195) k_ from fun k_ hk => ⟨(.inr (Nat.le_trans (below_size (by repeat (first | (with_reducible first | exact HB.out | apply below_alloc | apply pw_below_drewN | apply below_drew1 | refine below_set ?_ GE195.out) | exact HB.out))) hk)), Kd.freshB (g := gb195) (o := .cells #[.string a1_0, .int .i64 a1_1] 24 (0, 0)) (by (with_reducible repeat (first | refine blk_drewN ?_ _ | refine blk_drew ?_ | refine blk_alloc ?_ _)); exact BK195.out) k_ hk⟩) _ (Nat.le_refl _)) (Below.refl _ _) (Nat.le_refl _) (by simp) ?_; (case hd => rfl); (case hg => rfl); (case hr => first | (go_simp; done) | (go_simp; rfl)); (case hp => exact (Reps.one (show Kd.FK (Kd.slice 26 k26) _ _ y198 [.slice A0 y198.length c0] from (Kd.FK_slice_mk (Kd.V_reads' (Kd.V_mono (ok' := (fun k_ => (P0_ k_ ∨ w.heap.size ≤ k_) ∧ k_ ≠ gb195)) (HO202.out) (fun k_ hk => ⟨hk.1, hk.2⟩))).2.1 (Kd.V_F (Kd.V_mono (ok' := (fun k_ => (P0_ k_ ∨ w.heap.size ≤ k_) ∧ k_ ≠ gb195)) (HO202.out) (fun k_ hk => ⟨hk.1, hk.2⟩))))) (Reps.one (show Kd.FK (Kd.slice 26 k26) _ _ y203 [.slice A16 y203.length c16] from (Kd.FK_slice_mk (Kd.V_reads' (Kd.V_mono (ok' := (fun k_ => (P0_ k_ ∨ w.heap.size ≤ k_) ∧ k_ ≠ gb195)) (HO207.out) (fun k_ hk => ⟨hk.1, hk.2⟩))).2.1 (Kd.V_F (Kd.V_mono (ok' := (fun k_ => (P0_ k_ ∨ w.heap.size ≤ k_) ∧ k_ ≠ gb195)) (HO207.out) (fun k_ hk => ⟨hk.1, hk.2⟩))))) (Reps.none _ _))))
            intro v209 w17 ho18 hb hg_ hnew_
            clear hg_ hnew_
            (first | rw [← Ny208.out] at ho18 | (simp only [Int.reduceToNat] at ho18; rw [← Ny208.out] at ho18))
            have n0_ := Aside0.mk (Kd.V_elder' (by (with_reducible repeat (first | apply Kd.V_alloc | apply Kd.V_drewN | apply Kd.V_drew)); exact HO0.out) (Kd.N_base ho18) hb)
            have n1_ := Aside0.mk (Kd.V_elder' (by (with_reducible repeat (first | apply Kd.V_alloc | apply Kd.V_drewN | apply Kd.V_drew)); exact HO202.out) (Kd.N_base ho18) hb)
            have n2_ := Aside0.mk (Kd.V_elder' (by (with_reducible repeat (first | apply Kd.V_alloc | apply Kd.V_drewN | apply Kd.V_drew)); exact HO207.out) (Kd.N_base ho18) hb)
            have n3_ := Aside0.mk (Kd.N_lower ho18 (below_size (by repeat (first | (with_reducible first | exact HB.out | apply below_alloc | apply pw_below_drewN | apply below_drew1 | refine below_set ?_ GE195.out) | exact HB.out))))
            have n4_ := Aside0.mk (blk_below (g := gb195) (o := .cells #[.string a1_0, .int .i64 a1_1] 24 (0, 0)) (by (with_reducible repeat (first | refine blk_drewN ?_ _ | refine blk_drew ?_ | refine blk_alloc ?_ _)); exact BK195.out) hb)
            have n5_ := Aside0.mk (below_step (by repeat (first | (with_reducible first | exact HB.out | apply below_alloc | apply pw_below_drewN | apply below_drew1 | refine below_set ?_ GE195.out) | exact HB.out)) hb)
            clear HO0
            clear HO202
            clear HO207
            clear BK195
            clear HB
            have HO0 := n0_
            have HO202 := n1_
            have HO207 := n2_
            have HO210 := n3_
            have BK195 := n4_
            have HB := n5_
            clear n0_ n1_ n2_ n3_ n4_ n5_
            clear hb ho18
            obtain ⟨Ao19, co19, eo19⟩ := Kd.N_slice HO210.out
            (first | subst eo19 | (injection eo19 with f1_ f2_ f3_; have f4_ := f1_.symm; have f5_ := f3_.symm; clear f1_ f2_ f3_; subst f4_; subst f5_))
            refine hK.out _ _ trivial (fun hHeld => ?_)
            clear hK K
            refine norm_ (a' := ?_) ?_ ?_
            rotate_left
            · show Act.put _ (some 25) _ = _
              simp only [Act.put, List.setIfInBounds_toArray, List.set_cons_zero, List.set_cons_succ, i64_w, i32_w]
              rfl
            refine one_ (i := 8) (N := some 26) #[true, true, true, true, true, true, true, true, true, false] rfl rfl (one_of HT_.out (by kernel_rfl)) (by decide) (fun K hK => ?_)
            refine goes_ Try.func48 (by kernel_rfl) rfl #[.slice Ao19 y208.length co19] (by rfl) rfl rfl (by (try simp only [List.map_toArray, List.map_cons, List.map_nil]); first | done | rfl | (simp only [List.length_drop, List.length_take]; rfl)) ?_
            with_reducible refine (api_Pair.calls k _ _ y208 t211 _ ?side1 ?side2 A10.out).mono ?_
            (case side1 => repeat (first | exact (Kd.N_reads' HO210.out).2.2 | (with_reducible refine Kd.C_alloc ?_ _) | (with_reducible refine Kd.C_drewN ?_ _) | (with_reducible refine Kd.C_drew ?_)))
            (case side2 => exact (Kd.N_reads' HO210.out).2.1)
            rintro e w20 ⟨v212, rfl, ho0, hb⟩
            refine ⟨_, rfl, ?_⟩
            have n0_ := Aside0.mk (Kd.V_elder' (by (with_reducible repeat (first | apply Kd.V_alloc | apply Kd.V_drewN | apply Kd.V_drew)); exact HO0.out) (Kd.R_base ho0) hb)
            have n1_ := Aside0.mk (Kd.V_elder' (by (with_reducible repeat (first | apply Kd.V_alloc | apply Kd.V_drewN | apply Kd.V_drew)); exact HO202.out) (Kd.R_base ho0) hb)
            have n2_ := Aside0.mk (Kd.V_elder' (by (with_reducible repeat (first | apply Kd.V_alloc | apply Kd.V_drewN | apply Kd.V_drew)); exact HO207.out) (Kd.R_base ho0) hb)
            have n3_ := Aside0.mk (Kd.N_elder' (by (with_reducible repeat (first | apply Kd.N_alloc | apply Kd.N_drewN | apply Kd.N_drew)); exact HO210.out) (Kd.R_base ho0) hb)
            have n4_ := Aside0.mk (Kd.R_lower (Kd.R_newM (M := fun k_ => (w.heap.size ≤ k_)) ho0 (below_size (by repeat (first | (with_reducible first | exact HB.out | apply below_alloc | apply pw_below_drewN | apply below_drew1 | refine below_set ?_ GE195.out) | exact HB.out))) (fun k_ h_ => h_)) (below_size (by repeat (first | (with_reducible first | exact HB.out | apply below_alloc | apply pw_below_drewN | apply below_drew1 | refine below_set ?_ GE195.out) | exact HB.out))))
            have n5_ := Aside0.mk (blk_below (g := gb195) (o := .cells #[.string a1_0, .int .i64 a1_1] 24 (0, 0)) (by (with_reducible repeat (first | refine blk_drewN ?_ _ | refine blk_drew ?_ | refine blk_alloc ?_ _)); exact BK195.out) hb)
            have n6_ := Aside0.mk (below_step (by repeat (first | (with_reducible first | exact HB.out | apply below_alloc | apply pw_below_drewN | apply below_drew1 | refine below_set ?_ GE195.out) | exact HB.out)) hb)
            clear HO0
            clear HO202
            clear HO207
            clear HO210
            clear BK195
            clear HB
            have HO0 := n0_
            have HO202 := n1_
            have HO207 := n2_
            have HO210 := n3_
            have HO213 := n4_
            have BK195 := n5_
            have HB := n6_
            clear n0_ n1_ n2_ n3_ n4_ n5_ n6_
            (try clear hb)
            (try clear hb2)
            (try clear hk)
            (try clear hi)
            (try clear ho0)
            refine hK.out _ _ trivial (fun hHeld => ?_)
            clear hK K
            refine norm_ (a' := ?_) ?_ ?_
            rotate_left
            · show Act.put _ (some 26) _ = _
              simp only [Act.put, List.setIfInBounds_toArray, List.set_cons_zero, List.set_cons_succ, i64_w, i32_w]
              rfl
            refine pure_ (i := 9) (N := some 4) (v := ?_) (a' := ?_) #[true, true, true, true, true, true, true, true, true, true] rfl rfl (any_of HT_.out (by kernel_rfl)) (fun _ _ _ h => h) (Or.inl ⟨by rfl, ?_⟩) ?_ ?_
            rotate_left
            · intro w'
              go_simp
              with_reducible rfl
            rotate_left
            · simp only [Act.put, List.setIfInBounds_toArray, List.set_cons_zero, List.set_cons_succ, i64_w, i32_w]
              rfl
            refine done_ (done_of HT_.out (by kernel_rfl)) ?_
            try go_wp2
            go_ret
            exact ⟨_, by first | rfl | (simp [errW_none, errW_some] <;> rfl) | (simp only [← hji7]; first | rfl | (simp [errW_none, errW_some] <;> rfl)) | (simp [*, errW_none, errW_some] <;> rfl), by (with_reducible repeat (first | apply Kd.R_alloc | apply Kd.R_drewN | apply Kd.R_drew)); exact Kd.R_mono HO213.out (fun _ hk => hk.1), by repeat (first | (with_reducible first | exact HB.out | apply below_alloc | apply pw_below_drewN | apply below_drew1 | refine below_set ?_ GE195.out) | exact HB.out)⟩
          · rw [if_neg c9] at H
            exact absurd H (by simp)
        · rw [if_neg c8] at H
          exact absurd H (by simp)
      · rw [if_neg c6] at H
        exact absurd H (by simp)
    · rw [if_neg c5] at H
      exact absurd H (by simp)
  · replace c4 := Bool.eq_false_iff.mpr c4
    subst c4
    have H1 : ((api_Pair.f k (([l0] : List (List (S26))))).bind fun t217 => (some t217)) = some r := by rw [if_neg (show ¬ (false = true) by decide)] at H; exact H
    clear H
    have H := H1
    clear H1
    obtain ⟨y214, hy214⟩ : ∃ y_ : List (List (S26)), y_ = (([l0] : List (List (S26)))) := ⟨_, rfl⟩
    replace H : ((api_Pair.f k y214).bind fun t217 => (some t217)) = some r := by first | (rw [hy214]; with_reducible exact H) | (have H2_ := (Option.bind_some _ _).symm.trans H; rw [hy214]; with_reducible exact H2_) | (have H2_ := (Option.bind_some _ _).symm.trans H; with_reducible exact H2_) | with_reducible exact H | (rw [hy214]; exact H) | exact H
    have Ny214 := Aside0.mk hy214
    clear hy214
    replace H := Option.bind_eq_some_iff.mp H
    obtain ⟨t217, A210, H⟩ := H
    replace H : (some t217) = some r := H
    have A21 := Aside0.mk A210
    clear A210
    obtain rfl := Option.some.inj H
    go_enter Try.func19, Try.ntmps19
    go_wp2_with (first | ((with_reducible refine gate_dst (N := 3) rfl ?_); refine box_event ?hg (N := 3) ?hd (cs := #[.string a1_0, .int .i64 a1_1]) (t := 24) ?hr ?_; (case hd => rfl); (case hg => rfl); (case hr => first | (go_simp; done) | (go_simp; rfl)); intro gb195 hg w22 hbox hb; have n0_ := Aside0.mk (Kd.V_below (Kd.V_elderB (by (with_reducible repeat (first | apply Kd.V_alloc | apply Kd.V_drewN | apply Kd.V_drew)); exact HO0.out) gb195 (Nat.le_of_eq hg.symm)) hb); have n1_ := Aside0.mk (below_step (by repeat (first | (with_reducible first | exact HB.out | apply below_alloc | apply pw_below_drewN | apply below_drew1) | exact HB.out)) hb); have n2_ := Aside0.mk (hbox); have n3_ := Aside0.mk ((by rw [hg]; exact (below_size (by repeat (first | (with_reducible first | exact HB.out | apply below_alloc | apply pw_below_drewN | apply below_drew1) | exact HB.out))) : w.heap.size ≤ gb195)); have n4_ := Aside0.mk ((by rw [hg]; exact (below_size (by repeat (first | (with_reducible first | exact HB.out | apply below_alloc | apply pw_below_drewN | apply below_drew1) | exact HB.out))) : w.heap.size ≤ gb195)); clear HO0; clear HB; have HO0 := n0_; have HB := n1_; have BK195 := n2_; have GW195 := n3_; have GE195 := n4_; clear n0_ n1_ n2_ n3_ n4_; clear hb hbox hg; have hcz23_0 : w22.cell? ⟨gb195, 0, none⟩ = some (.string a1_0) := (blk_cell BK195.out 0).trans rfl; have hcz23_1 : w22.cell? ⟨gb195, 1, none⟩ = some (.int .i64 a1_1) := (blk_cell BK195.out 1).trans rfl; have hfz23_0 := blk_frozen BK195.out 0; have hfz23_1 := blk_frozen BK195.out 1) | ((with_reducible refine gate_callee (f := 15) rfl ?_); refine goesL_ (some 10) rfl rfl Try.func15 (by kernel_rfl) rfl #[.slice A0 l0.length c0, .agg #[.string a1_0, .int .i64 a1_1]] rfl (by (try simp only [List.map_toArray, List.map_cons, List.map_nil]); first | done | rfl | (simp only [List.length_drop, List.length_take]; rfl)) ?_; (with_reducible refine (node_Find.calls _ _ l0 a1_0 a1_1 t196 false _ ?side1 ?side2 A3.out).mono ?_); (case side1 => repeat (first | exact (Kd.V_reads' HO0.out).2.2 | (with_reducible refine Kd.C_alloc ?_ _) | (with_reducible refine Kd.C_drewN ?_ _) | (with_reducible refine Kd.C_drew ?_))); (case side2 => exact (Kd.V_reads' HO0.out).2.1); rintro e w24 ⟨rfl, hb⟩; refine ⟨_, rfl, ?_⟩; have n0_ := Aside0.mk (Kd.V_below (by (with_reducible repeat (first | apply Kd.V_alloc | apply Kd.V_drewN | apply Kd.V_drew)); exact HO0.out) hb); have n1_ := Aside0.mk (blk_below (g := gb195) (o := .cells #[.string a1_0, .int .i64 a1_1] 24 (0, 0)) (by (with_reducible repeat (first | refine blk_drewN ?_ _ | refine blk_drew ?_ | refine blk_alloc ?_ _)); exact BK195.out) hb); have n2_ := Aside0.mk (below_step (by repeat (first | (with_reducible first | exact HB.out | apply below_alloc | apply pw_below_drewN | apply below_drew1 | refine below_set ?_ GE195.out) | exact HB.out)) hb); clear HO0; clear BK195; clear HB; have HO0 := n0_; have BK195 := n1_; have HB := n2_; clear n0_ n1_ n2_; (try clear hb); (try clear hb2); (try clear hk); (try clear hi)) | ((with_reducible refine gate_dst (N := 16) rfl ?_); refine Kd.N_lit (Kd.slice 26 k26) _ 22 ?hg (N' := 16) ?hd (xs := ([l0] : List (List (S26)))) (inner := [.slice A0 l0.length c0]) (ok := (fun k_ => (P0_ k_ ∨ w.heap.size ≤ k_) ∧ k_ ≠ gb195)) (okp := (fun k_ => (P0_ k_ ∨ w.heap.size ≤ k_) ∧ k_ ≠ gb195)) ?hr ?hp (fun _ hk => hk) ((show ∀ k_, w24.heap.size ≤ k_ → (fun k_ => (P0_ k_ ∨ w.heap.size ≤ k_) ∧ k_ ≠ gb195) k_ from fun k_ hk => ⟨(.inr (Nat.le_trans (below_size (by repeat (first | (with_reducible first | exact HB.out | apply below_alloc | apply pw_below_drewN | apply below_drew1 | refine below_set ?_ GE195.out) | exact HB.out))) hk)), Kd.freshB (g := gb195) (o := .cells #[.string a1_0, .int .i64 a1_1] 24 (0, 0)) (by (with_reducible repeat (first | refine blk_drewN ?_ _ | refine blk_drew ?_ | refine blk_alloc ?_ _)); exact BK195.out) k_ hk⟩) _ (Nat.le_refl _)) (Below.refl _ _) (Nat.le_refl _) (by simp) ?_; (case hd => rfl); (case hg => rfl); (case hr => first | (go_simp; done) | (go_simp; rfl)); (case hp => exact (Reps.one (show Kd.FK (Kd.slice 26 k26) _ _ l0 [.slice A0 l0.length c0] from (Kd.FK_slice_mk (Kd.V_reads' (Kd.V_mono (ok' := (fun k_ => (P0_ k_ ∨ w.heap.size ≤ k_) ∧ k_ ≠ gb195)) (HO0.out) (fun k_ hk => ⟨hk.1, hk.2⟩))).2.1 (Kd.V_F (Kd.V_mono (ok' := (fun k_ => (P0_ k_ ∨ w.heap.size ≤ k_) ∧ k_ ≠ gb195)) (HO0.out) (fun k_ hk => ⟨hk.1, hk.2⟩))))) (Reps.none _ _))); intro v215 w25 ho26 hb hg_ hnew_; clear hg_ hnew_; (first | rw [← Ny214.out] at ho26 | (simp only [Int.reduceToNat] at ho26; rw [← Ny214.out] at ho26)); have n0_ := Aside0.mk (Kd.V_elder' (by (with_reducible repeat (first | apply Kd.V_alloc | apply Kd.V_drewN | apply Kd.V_drew)); exact HO0.out) (Kd.N_base ho26) hb); have n1_ := Aside0.mk (Kd.N_lower ho26 (below_size (by repeat (first | (with_reducible first | exact HB.out | apply below_alloc | apply pw_below_drewN | apply below_drew1 | refine below_set ?_ GE195.out) | exact HB.out)))); have n2_ := Aside0.mk (blk_below (g := gb195) (o := .cells #[.string a1_0, .int .i64 a1_1] 24 (0, 0)) (by (with_reducible repeat (first | refine blk_drewN ?_ _ | refine blk_drew ?_ | refine blk_alloc ?_ _)); exact BK195.out) hb); have n3_ := Aside0.mk (below_step (by repeat (first | (with_reducible first | exact HB.out | apply below_alloc | apply pw_below_drewN | apply below_drew1 | refine below_set ?_ GE195.out) | exact HB.out)) hb); clear HO0; clear BK195; clear HB; have HO0 := n0_; have HO216 := n1_; have BK195 := n2_; have HB := n3_; clear n0_ n1_ n2_ n3_; clear hb ho26; obtain ⟨Ao27, co27, eo27⟩ := Kd.N_slice HO216.out; subst eo27) | ((with_reducible refine gate_callee (f := 48) rfl ?_); refine goesL_ (some 17) rfl rfl Try.func48 (by kernel_rfl) rfl #[.slice Ao27 y214.length co27] rfl (by (try simp only [List.map_toArray, List.map_cons, List.map_nil]); first | done | rfl | (simp only [List.length_drop, List.length_take]; rfl)) ?_; (with_reducible refine (api_Pair.calls k _ _ y214 t217 _ ?side1 ?side2 A21.out).mono ?_); (case side1 => repeat (first | exact (Kd.N_reads' HO216.out).2.2 | (with_reducible refine Kd.C_alloc ?_ _) | (with_reducible refine Kd.C_drewN ?_ _) | (with_reducible refine Kd.C_drew ?_))); (case side2 => exact (Kd.N_reads' HO216.out).2.1); rintro e w28 ⟨v218, rfl, ho0, hb⟩; refine ⟨_, rfl, ?_⟩; have n0_ := Aside0.mk (Kd.V_elder' (by (with_reducible repeat (first | apply Kd.V_alloc | apply Kd.V_drewN | apply Kd.V_drew)); exact HO0.out) (Kd.R_base ho0) hb); have n1_ := Aside0.mk (Kd.N_elder' (by (with_reducible repeat (first | apply Kd.N_alloc | apply Kd.N_drewN | apply Kd.N_drew)); exact HO216.out) (Kd.R_base ho0) hb); have n2_ := Aside0.mk (Kd.R_lower (Kd.R_newM (M := fun k_ => (w.heap.size ≤ k_)) ho0 (below_size (by repeat (first | (with_reducible first | exact HB.out | apply below_alloc | apply pw_below_drewN | apply below_drew1 | refine below_set ?_ GE195.out) | exact HB.out))) (fun k_ h_ => h_)) (below_size (by repeat (first | (with_reducible first | exact HB.out | apply below_alloc | apply pw_below_drewN | apply below_drew1 | refine below_set ?_ GE195.out) | exact HB.out)))); have n3_ := Aside0.mk (blk_below (g := gb195) (o := .cells #[.string a1_0, .int .i64 a1_1] 24 (0, 0)) (by (with_reducible repeat (first | refine blk_drewN ?_ _ | refine blk_drew ?_ | refine blk_alloc ?_ _)); exact BK195.out) hb); have n4_ := Aside0.mk (below_step (by repeat (first | (with_reducible first | exact HB.out | apply below_alloc | apply pw_below_drewN | apply below_drew1 | refine below_set ?_ GE195.out) | exact HB.out)) hb); clear HO0; clear HO216; clear BK195; clear HB; have HO0 := n0_; have HO216 := n1_; have HO219 := n2_; have BK195 := n3_; have HB := n4_; clear n0_ n1_ n2_ n3_ n4_; (try clear hb); (try clear hb2); (try clear hk); (try clear hi); (try clear ho0)))
    go_ret
    exact ⟨_, by first | rfl | (simp [errW_none, errW_some] <;> rfl) | (simp [*, errW_none, errW_some] <;> rfl), by (with_reducible repeat (first | apply Kd.R_alloc | apply Kd.R_drewN | apply Kd.R_drew)); exact Kd.R_mono HO219.out (fun _ hk => hk.1), by repeat (first | (with_reducible first | exact HB.out | apply below_alloc | apply pw_below_drewN | apply below_drew1 | refine below_set ?_ GE195.out) | exact HB.out)⟩

end Go.Proofs.Ytoiohlmiofplcaa.P
-- Written by a program of this session (xprint.py) over the kit's print.py.
namespace Go.Proofs.Ytoiohlmiofplcaa.P
open Go.RowKit Go.Proofs.YtoiohlmiofplcaaW.PrintWords Go.Proofs.YtoiohlmiofplcaaW.PrintLast Go.Proofs.YtoiohlmiofplcaaW.PrintMore
attribute [local go_sem] max2_int min2_int max_two min_two max_three min_three max_four min_four   -- for this text's walks alone
set_option linter.unusedVariables false
set_option linter.unusedSimpArgs false

/-! ### sextonref09_Drop: function 20 -/
def sextonref09_Drop.f (k : Nat) (l0 : List (S26)) (a1_0 : ByteArray) (a1_1 : Int) : Option ((List (S26))) := (sextonref09_Find.f k l0 a1_0 a1_1).bind fun bt221 => (if 0 ≤ bt221.1 then (if bt221.1 ≤ (l0.length : Int) then ((some (l0.take (bt221.1 : Int).toNat : List (S26))).bind fun y223 => (if ([] : List (S26)).length + y223.length < 3518437208883 then ((some (([] : List (S26)) ++ y223 : List (S26))).bind fun y227 => (if bt221.2 = true then (if 0 ≤ (wrap64 (bt221.1 + 1)) then (if (wrap64 (bt221.1 + 1)) ≤ (l0.length : Int) then ((some (l0.drop ((wrap64 (bt221.1 + 1)) : Int).toNat : List (S26))).bind fun y230 => (if y227.length + y230.length < 3518437208883 then (some (y227 ++ y230)) else (none))) else (none)) else (none)) else ((some (l0.drop (bt221.1 : Int).toNat : List (S26))).bind fun y237 => (if y227.length + y237.length < 3518437208883 then (some (y227 ++ y237)) else (none))))) else (none))) else (none)) else (none))
theorem sextonref09_Drop.mono : ∀ a0 a1 a2 k, LeO (sextonref09_Drop.f k a0 a1 a2) (sextonref09_Drop.f (k + 1) a0 a1 a2) := by
  intro a0 a1 a2 k
  unfold sextonref09_Drop.f
  repeat' first
      | (with_reducible exact sextonref09_Find.mono _ _ _ _)
      | (with_reducible exact LeO.refl _)
      | (with_reducible exact LeO.none _)
      | (with_reducible refine LeO.ite ?_ ?_)
      | (with_reducible refine LeO.bind ?_ (fun _ => ?_))
      | exact sextonref09_Find.mono _ _ _ _
      | exact LeO.none _
      | refine LeO.ite ?_ ?_
      | refine LeO.bind ?_ (fun _ => ?_)
set_option maxHeartbeats 8000000 in
set_option maxRecDepth 100000 in
theorem sextonref09_Drop.calls (k : Nat) (A0 : Option Addr) (c0 : Nat) (l0 : List (S26)) (a1_0 : ByteArray) (a1_1 : Int) (r : List (S26)) (w : World) (hr0 : Kd.C k26 w A0 l0.length l0) (hc0 : l0.length ≤ c0) (h : sextonref09_Drop.f k l0 a1_0 a1_1 = some r) :
    Calls Try.prog 20 #[.slice A0 l0.length c0, .agg #[.string a1_0, .int .i64 a1_1]] w fun e w' => ∃ v0_ : Value, e = .returned (v0_) ∧ Kd.R k26 26 w' w.heap.size (fun _ => True) v0_ r ∧ Below w.heap.size w w' := by
  have hu24 := Try.underlying24
  have HR0 := Aside0.mk hr0
  have HC0 := Aside0.mk hc0
  clear hr0 hc0
  have HB := Aside0.mk (Below.refl w.heap.size w)
  have H : ((sextonref09_Find.f k l0 a1_0 a1_1).bind fun bt221 => (if 0 ≤ bt221.1 then (if bt221.1 ≤ (l0.length : Int) then ((some (l0.take (bt221.1 : Int).toNat : List (S26))).bind fun y223 => (if ([] : List (S26)).length + y223.length < 3518437208883 then ((some (([] : List (S26)) ++ y223 : List (S26))).bind fun y227 => (if bt221.2 = true then (if 0 ≤ (wrap64 (bt221.1 + 1)) then (if (wrap64 (bt221.1 + 1)) ≤ (l0.length : Int) then ((some (l0.drop ((wrap64 (bt221.1 + 1)) : Int).toNat : List (S26))).bind fun y230 => (if y227.length + y230.length < 3518437208883 then (some (y227 ++ y230)) else (none))) else (none)) else (none)) else ((some (l0.drop (bt221.1 : Int).toNat : List (S26))).bind fun y237 => (if y227.length + y237.length < 3518437208883 then (some (y227 ++ y237)) else (none))))) else (none))) else (none)) else (none))) = some r := h
  clear h
  replace H := Option.bind_eq_some_iff.mp H
  obtain ⟨⟨t221, t222⟩, A30, H⟩ := H
  replace H : (if 0 ≤ t221 then (if t221 ≤ (l0.length : Int) then ((some (l0.take (t221 : Int).toNat : List (S26))).bind fun y223 => (if ([] : List (S26)).length + y223.length < 3518437208883 then ((some (([] : List (S26)) ++ y223 : List (S26))).bind fun y227 => (if t222 = true then (if 0 ≤ (wrap64 (t221 + 1)) then (if (wrap64 (t221 + 1)) ≤ (l0.length : Int) then ((some (l0.drop ((wrap64 (t221 + 1)) : Int).toNat : List (S26))).bind fun y230 => (if y227.length + y230.length < 3518437208883 then (some (y227 ++ y230)) else (none))) else (none)) else (none)) else ((some (l0.drop (t221 : Int).toNat : List (S26))).bind fun y237 => (if y227.length + y237.length < 3518437208883 then (some (y227 ++ y237)) else (none))))) else (none))) else (none)) else (none)) = some r := H
  have A3 := Aside0.mk A30
  clear A30
  by_cases c4 : 0 ≤ t221
  · rw [if_pos c4] at H
    have c4b0 := eq_true c4
    have c4b1 : decide (0 ≤ t221) = true := decide_eq_true c4
    clear c4
    by_cases c5 : t221 ≤ (l0.length : Int)
    · rw [if_pos c5] at H
      have c5b0 := eq_true c5
      have c5b1 : decide (t221 ≤ (l0.length : Int)) = true := decide_eq_true c5
      clear c5
      obtain ⟨y223, hy223⟩ : ∃ y_ : List (S26), y_ = (l0.take (t221 : Int).toNat) := ⟨_, rfl⟩
      replace H : (if ([] : List (S26)).length + y223.length < 3518437208883 then ((some (([] : List (S26)) ++ y223 : List (S26))).bind fun y227 => (if t222 = true then (if 0 ≤ (wrap64 (t221 + 1)) then (if (wrap64 (t221 + 1)) ≤ (l0.length : Int) then ((some (l0.drop ((wrap64 (t221 + 1)) : Int).toNat : List (S26))).bind fun y230 => (if y227.length + y230.length < 3518437208883 then (some (y227 ++ y230)) else (none))) else (none)) else (none)) else ((some (l0.drop (t221 : Int).toNat : List (S26))).bind fun y237 => (if y227.length + y237.length < 3518437208883 then (some (y227 ++ y237)) else (none))))) else (none)) = some r := by first | (rw [hy223]; with_reducible exact H) | (have H2_ := (Option.bind_some _ _).symm.trans H; rw [hy223]; with_reducible exact H2_) | (have H2_ := (Option.bind_some _ _).symm.trans H; with_reducible exact H2_) | with_reducible exact H | (rw [hy223]; exact H) | exact H
      have Ny223 := Aside0.mk hy223
      clear hy223
      by_cases c6 : ([] : List (S26)).length + y223.length < 3518437208883
      · rw [if_pos c6] at H
        have LMc6 := Aside0.mk c6
        clear c6
        obtain ⟨y227, hy227⟩ : ∃ y_ : List (S26), y_ = (([] : List (S26)) ++ y223) := ⟨_, rfl⟩
        replace H : (if t222 = true then (if 0 ≤ (wrap64 (t221 + 1)) then (if (wrap64 (t221 + 1)) ≤ (l0.length : Int) then ((some (l0.drop ((wrap64 (t221 + 1)) : Int).toNat : List (S26))).bind fun y230 => (if y227.length + y230.length < 3518437208883 then (some (y227 ++ y230)) else (none))) else (none)) else (none)) else ((some (l0.drop (t221 : Int).toNat : List (S26))).bind fun y237 => (if y227.length + y237.length < 3518437208883 then (some (y227 ++ y237)) else (none)))) = some r := by first | (rw [hy227]; with_reducible exact H) | (have H2_ := (Option.bind_some _ _).symm.trans H; rw [hy227]; with_reducible exact H2_) | (have H2_ := (Option.bind_some _ _).symm.trans H; with_reducible exact H2_) | with_reducible exact H | (rw [hy227]; exact H) | exact H
        have Ny227 := Aside0.mk hy227
        clear hy227
        by_cases c7 : t222 = true
        · subst c7
          have H1 : (if 0 ≤ (wrap64 (t221 + 1)) then (if (wrap64 (t221 + 1)) ≤ (l0.length : Int) then ((some (l0.drop ((wrap64 (t221 + 1)) : Int).toNat : List (S26))).bind fun y230 => (if y227.length + y230.length < 3518437208883 then (some (y227 ++ y230)) else (none))) else (none)) else (none)) = some r := by rw [if_pos rfl] at H; exact H
          clear H
          have H := H1
          clear H1
          obtain ⟨ji8, hji8⟩ : ∃ j_ : Int, (wrap64 (t221 + 1)) = j_ := ⟨_, rfl⟩
          replace H : (if 0 ≤ (ji8) then (if (ji8) ≤ (l0.length : Int) then ((some (l0.drop ((ji8) : Int).toNat : List (S26))).bind fun y230 => (if y227.length + y230.length < 3518437208883 then (some (y227 ++ y230)) else (none))) else (none)) else (none)) = some r := by first | (rw [hji8] at H; exact H) | (simp only [hji8] at H ⊢; exact H)
          (try rw [hji8] at A3)
          have hji8w : (IntKind.i64.wrap (t221 + 1)) = ji8 := (i64_w _).trans hji8
          by_cases c9 : 0 ≤ (ji8)
          · rw [if_pos c9] at H
            have c9b0 := eq_true c9
            have c9b1 : decide (0 ≤ (ji8)) = true := decide_eq_true c9
            clear c9
            by_cases c10 : (ji8) ≤ (l0.length : Int)
            · rw [if_pos c10] at H
              have c10b0 := eq_true c10
              have c10b1 : decide ((ji8) ≤ (l0.length : Int)) = true := decide_eq_true c10
              clear c10
              obtain ⟨y230, hy230⟩ : ∃ y_ : List (S26), y_ = (l0.drop ((ji8) : Int).toNat) := ⟨_, rfl⟩
              replace H : (if y227.length + y230.length < 3518437208883 then (some (y227 ++ y230)) else (none)) = some r := by first | (rw [hy230]; with_reducible exact H) | (have H2_ := (Option.bind_some _ _).symm.trans H; rw [hy230]; with_reducible exact H2_) | (have H2_ := (Option.bind_some _ _).symm.trans H; with_reducible exact H2_) | with_reducible exact H | (rw [hy230]; exact H) | exact H
              have Ny230 := Aside0.mk hy230
              clear hy230
              by_cases c11 : y227.length + y230.length < 3518437208883
              · rw [if_pos c11] at H
                have LMc11 := Aside0.mk c11
                clear c11
                obtain ⟨y234, hy234⟩ : ∃ y_ : List (S26), y_ = (y227 ++ y230) := ⟨_, rfl⟩
                replace H : (some y234) = some r := by first | (rw [hy234]; with_reducible exact H) | (have H2_ := (Option.bind_some _ _).symm.trans H; rw [hy234]; with_reducible exact H2_) | (have H2_ := (Option.bind_some _ _).symm.trans H; with_reducible exact H2_) | with_reducible exact H | (rw [hy234]; exact H) | exact H
                have Ny234 := Aside0.mk hy234
                clear hy234
                obtain rfl := Option.some.inj H
                go_enter Try.func20, Try.ntmps20
                go_wp2_with (first | ((with_reducible refine gate_dst (N := 3) rfl ?_); refine box_event ?hg (N := 3) ?hd (cs := #[.string a1_0, .int .i64 a1_1]) (t := 24) ?hr ?_; (case hd => rfl); (case hg => rfl); (case hr => first | (go_simp; done) | (go_simp; rfl)); intro gb220 hg w12 hbox hb; have n0_ := Aside0.mk (below_step (by repeat (first | (with_reducible first | exact HB.out | apply below_alloc | apply pw_below_drewN | apply below_drew1) | exact HB.out)) hb); have n1_ := Aside0.mk (hbox); have n2_ := Aside0.mk ((by rw [hg]; exact (below_size (by repeat (first | (with_reducible first | exact HB.out | apply below_alloc | apply pw_below_drewN | apply below_drew1) | exact HB.out))) : w.heap.size ≤ gb220)); have n3_ := Aside0.mk ((by rw [hg]; exact (below_size (by repeat (first | (with_reducible first | exact HB.out | apply below_alloc | apply pw_below_drewN | apply below_drew1) | exact HB.out))) : w.heap.size ≤ gb220)); clear HB; have HB := n0_; have BK220 := n1_; have GW220 := n2_; have GE220 := n3_; clear n0_ n1_ n2_ n3_; clear hb hbox hg; have hcz13_0 : w12.cell? ⟨gb220, 0, none⟩ = some (.string a1_0) := (blk_cell BK220.out 0).trans rfl; have hcz13_1 : w12.cell? ⟨gb220, 1, none⟩ = some (.int .i64 a1_1) := (blk_cell BK220.out 1).trans rfl; have hfz13_0 := blk_frozen BK220.out 0; have hfz13_1 := blk_frozen BK220.out 1) | ((with_reducible refine gate_callee (f := 16) rfl ?_); refine goesL_ (some 11) rfl rfl Try.func16 (by kernel_rfl) rfl #[.slice A0 l0.length c0, .agg #[.string a1_0, .int .i64 a1_1]] rfl (by (try simp only [List.map_toArray, List.map_cons, List.map_nil]); first | done | rfl | (simp only [List.length_drop, List.length_take]; rfl)) ?_; (with_reducible refine (sextonref09_Find.calls k _ _ l0 a1_0 a1_1 t221 true _ ?side1 ?side2 A3.out).mono ?_); (case side1 => repeat (first | exact (Kd.C_below HR0.out HB.out) | (with_reducible refine Kd.C_alloc ?_ _) | (with_reducible refine Kd.C_drewN ?_ _) | (with_reducible refine Kd.C_drew ?_))); (case side2 => exact HC0.out); rintro e w14 ⟨rfl, hb⟩; refine ⟨_, rfl, ?_⟩; have n0_ := Aside0.mk (blk_below (g := gb220) (o := .cells #[.string a1_0, .int .i64 a1_1] 24 (0, 0)) (by (with_reducible repeat (first | refine blk_drewN ?_ _ | refine blk_drew ?_ | refine blk_alloc ?_ _)); exact BK220.out) hb); have n1_ := Aside0.mk (below_step (by repeat (first | (with_reducible first | exact HB.out | apply below_alloc | apply pw_below_drewN | apply below_drew1 | refine below_set ?_ GE220.out) | exact HB.out)) hb); clear BK220; clear HB; have BK220 := n0_; have HB := n1_; clear n0_ n1_; (try clear hb); (try clear hb2); (try clear hk); (try clear hi); have q15 : (t221 : Int) ≤ ((l0.length : Int) : Int) := of_decide_eq_true (by first | (with_reducible assumption) | assumption); obtain ⟨i015, hi015, _, hsz15, _⟩ := info_parts info26; have hroom15 : l0.length ≤ c0 := HC0.out; have hC15 : Kd.C k26 _ A0 l0.length l0 := HR0.out; have hcut15 := cut_to (P := Try.prog) 22 26 .i64 Try.underlying22 hi015 A0 l0.length c0 t221 (of_decide_eq_true (by first | (with_reducible assumption) | assumption)) q15 hroom15; have hr15 := Kd.C_take (m := (t221 : Int).toNat) hC15 (by omega); have hy15 : y223.length = (t221 : Int).toNat := (by rw [Ny223.out, List.length_take]; omega); rw [← Ny223.out] at hr15; rw [← hy15] at hcut15; have HR226 := Aside0.mk hr15; have HC226 := Aside0.mk (show y223.length ≤ c0 from by omega); clear hr15 hC15 hroom15 hi015 hsz15; have KY15 := Aside0.mk hy15; clear hy15; replace q15 := eq_true q15) | ((with_reducible refine gate_builtin (b := .append) (xs := #[.tmp 14, .tmp 17]) rfl ?_); at_builtin; refine Kd.R_append_rows k26 (w0 := w) w.heap.size rfl (.tmp 14) (.tmp 17) 22 26 (.agg #[(.string ⟨#[]⟩), (.int .i64 0), (.string ⟨#[]⟩)]) 40 rfl Try.underlying22 info26 rfl (by decide) (by omega) (.slice none 0 0) ([] : List (S26)) y223 _ _ _ (fun _ => True) (fun _ => False) rfl rfl ?aO ?aR (fun _ _ h => h) (fun _ h => h.elim) ?aF ?aB ?aS ?aL ?_; (case aR => repeat (first | exact (Kd.C_below HR226.out HB.out) | (with_reducible refine Kd.C_alloc ?_ _) | (with_reducible refine Kd.C_drewN ?_ _) | (with_reducible refine Kd.C_drew ?_))); (case aB => exact (by repeat (first | (with_reducible first | exact HB.out | apply below_alloc | apply pw_below_drewN | apply below_drew1 | refine below_set ?_ GE220.out) | exact HB.out))); (case aF => exact (fun _ _ => trivial)); (case aO => exact ((Kd.R_nil _ _ _ _ (fun _ => True)))); (case aS => exact (below_size (by repeat (first | (with_reducible first | exact HB.out | apply below_alloc | apply pw_below_drewN | apply below_drew1 | refine below_set ?_ GE220.out) | exact HB.out)))); (case aL => have := LMc6.out; omega); intro v228 w16 ho hb hg hat; rw [← Ny227.out] at ho; have n0_ := Aside0.mk (blk_grown (g := gb220) (o := .cells #[.string a1_0, .int .i64 a1_1] 24 (0, 0)) (by (with_reducible repeat (first | refine blk_drewN ?_ _ | refine blk_drew ?_ | refine blk_alloc ?_ _)); exact BK220.out) hg (by simp [Value.ownBlock])); have n1_ := Aside0.mk (hb); have n2_ := Aside0.mk (ho); clear BK220; clear HB; have BK220 := n0_; have HB := n1_; have HO229 := n2_; clear n0_ n1_ n2_; clear ho hb hg hat; have q17 : ((ji8) : Int) ≤ ((l0.length : Int) : Int) := of_decide_eq_true (by first | (with_reducible assumption) | assumption); obtain ⟨i017, hi017, _, hsz17, _⟩ := info_parts info26; have hroom17 : l0.length ≤ c0 := HC0.out; have hC17 : Kd.C k26 _ A0 l0.length l0 := HR0.out; have q017 : (0 : Int) ≤ ((ji8) : Int) := of_decide_eq_true (by first | (with_reducible assumption) | assumption); have hcut17 := cut_from (P := Try.prog) 22 26 .i64 Try.underlying22 hi017 3 hsz17 A0 l0.length c0 (ji8) q017 q17; have hr17 := Kd.C_drop (m := ((ji8) : Int).toNat) (c := c0) hC17 (by omega) hroom17; obtain ⟨A17, hA17⟩ : ∃ A1, A1 = (if c0 = ((ji8) : Int).toNat then A0 else (A0 : Option Addr).map (·.add (((ji8) : Int).toNat * 3))) := ⟨_, rfl⟩; obtain ⟨c17, hc17⟩ : ∃ c1, c1 = c0 - ((ji8) : Int).toNat := ⟨_, rfl⟩; have hy17 : y230.length = l0.length - ((ji8) : Int).toNat := (by rw [Ny230.out, List.length_drop] <;> omega); rw [show (l0).drop ((ji8) : Int).toNat = y230 from Ny230.out.symm] at hr17; replace hr17 : Kd.C k26 _ A17 y230.length y230 := (by rw [hA17]; exact hr17); rw [← hy17, ← hA17, ← hc17] at hcut17; have HR233 := Aside0.mk hr17; have HC233 := Aside0.mk (show y230.length ≤ c17 from by rw [hy17, hc17]; exact Nat.sub_le_sub_right hroom17 _); clear hr17 hC17 hroom17 hi017 hsz17 hc17; have KY17 := Aside0.mk hy17; have KA17 := Aside0.mk hA17; clear hy17 hA17; replace q17 := eq_true q17) | ((with_reducible refine gate_builtin (b := .append) (xs := #[.tmp 22, .tmp 25]) rfl ?_); at_builtin; refine Kd.R_append_rows k26 (w0 := w) w.heap.size rfl (.tmp 22) (.tmp 25) 22 26 (.agg #[(.string ⟨#[]⟩), (.int .i64 0), (.string ⟨#[]⟩)]) 40 rfl Try.underlying22 info26 rfl (by decide) (by omega) v228 y227 y230 _ _ _ (fun _ => True) (fun _ => False) rfl rfl ?aO ?aR (fun _ _ h => h) (fun _ h => h.elim) ?aF ?aB ?aS ?aL ?_; (case aR => repeat (first | exact (Kd.C_below HR233.out HB.out) | (with_reducible refine Kd.C_alloc ?_ _) | (with_reducible refine Kd.C_drewN ?_ _) | (with_reducible refine Kd.C_drew ?_))); (case aB => exact (by repeat (first | (with_reducible first | exact HB.out | apply below_alloc | apply pw_below_drewN | apply below_drew1 | refine below_set ?_ GE220.out) | exact HB.out))); (case aF => exact (fun _ _ => trivial)); (case aO => exact (by (with_reducible repeat (first | apply Kd.R_alloc | apply Kd.R_drewN | apply Kd.R_drew)); exact HO229.out)); (case aS => exact (below_size (by repeat (first | (with_reducible first | exact HB.out | apply below_alloc | apply pw_below_drewN | apply below_drew1 | refine below_set ?_ GE220.out) | exact HB.out)))); (case aL => have := LMc11.out; omega); intro v235 w18 ho hb hg hat; rw [← Ny234.out] at ho; have n0_ := Aside0.mk (blk_grown (g := gb220) (o := .cells #[.string a1_0, .int .i64 a1_1] 24 (0, 0)) (by (with_reducible repeat (first | refine blk_drewN ?_ _ | refine blk_drew ?_ | refine blk_alloc ?_ _)); exact BK220.out) hg (Kd.R_ne HO229.out BK220.out (by decide))); have n1_ := Aside0.mk (hb); have n2_ := Aside0.mk (ho); clear BK220; clear HB; clear HO229; have BK220 := n0_; have HB := n1_; have HO236 := n2_; clear n0_ n1_ n2_; clear ho hb hg hat))
                go_ret
                exact ⟨_, by first | rfl | (simp [errW_none, errW_some] <;> rfl) | (simp only [← hji8]; first | rfl | (simp [errW_none, errW_some] <;> rfl)) | (simp [*, errW_none, errW_some] <;> rfl), by (with_reducible repeat (first | apply Kd.R_alloc | apply Kd.R_drewN | apply Kd.R_drew)); exact HO236.out, by repeat (first | (with_reducible first | exact HB.out | apply below_alloc | apply pw_below_drewN | apply below_drew1 | refine below_set ?_ GE220.out) | exact HB.out)⟩
              · rw [if_neg c11] at H
                exact absurd H (by simp)
            · rw [if_neg c10] at H
              exact absurd H (by simp)
          · rw [if_neg c9] at H
            exact absurd H (by simp)
        · replace c7 := Bool.eq_false_iff.mpr c7
          subst c7
          have H1 : ((some (l0.drop (t221 : Int).toNat : List (S26))).bind fun y237 => (if y227.length + y237.length < 3518437208883 then (some (y227 ++ y237)) else (none))) = some r := by rw [if_neg (show ¬ (false = true) by decide)] at H; exact H
          clear H
          have H := H1
          clear H1
          have c19b0 := eq_true (of_decide_eq_true (by first | (with_reducible assumption) | assumption) : 0 ≤ t221)
          have c20b0 := eq_true (of_decide_eq_true (by first | (with_reducible assumption) | assumption) : t221 ≤ (l0.length : Int))
          obtain ⟨y237, hy237⟩ : ∃ y_ : List (S26), y_ = (l0.drop (t221 : Int).toNat) := ⟨_, rfl⟩
          replace H : (if y227.length + y237.length < 3518437208883 then (some (y227 ++ y237)) else (none)) = some r := by first | (rw [hy237]; with_reducible exact H) | (have H2_ := (Option.bind_some _ _).symm.trans H; rw [hy237]; with_reducible exact H2_) | (have H2_ := (Option.bind_some _ _).symm.trans H; with_reducible exact H2_) | with_reducible exact H | (rw [hy237]; exact H) | exact H
          have Ny237 := Aside0.mk hy237
          clear hy237
          by_cases c21 : y227.length + y237.length < 3518437208883
          · rw [if_pos c21] at H
            have LMc21 := Aside0.mk c21
            clear c21
            obtain ⟨y241, hy241⟩ : ∃ y_ : List (S26), y_ = (y227 ++ y237) := ⟨_, rfl⟩
            replace H : (some y241) = some r := by first | (rw [hy241]; with_reducible exact H) | (have H2_ := (Option.bind_some _ _).symm.trans H; rw [hy241]; with_reducible exact H2_) | (have H2_ := (Option.bind_some _ _).symm.trans H; with_reducible exact H2_) | with_reducible exact H | (rw [hy241]; exact H) | exact H
            have Ny241 := Aside0.mk hy241
            clear hy241
            obtain rfl := Option.some.inj H
            go_enter Try.func20, Try.ntmps20
            go_wp2_with (first | ((with_reducible refine gate_dst (N := 3) rfl ?_); refine box_event ?hg (N := 3) ?hd (cs := #[.string a1_0, .int .i64 a1_1]) (t := 24) ?hr ?_; (case hd => rfl); (case hg => rfl); (case hr => first | (go_simp; done) | (go_simp; rfl)); intro gb220 hg w22 hbox hb; have n0_ := Aside0.mk (below_step (by repeat (first | (with_reducible first | exact HB.out | apply below_alloc | apply pw_below_drewN | apply below_drew1) | exact HB.out)) hb); have n1_ := Aside0.mk (hbox); have n2_ := Aside0.mk ((by rw [hg]; exact (below_size (by repeat (first | (with_reducible first | exact HB.out | apply below_alloc | apply pw_below_drewN | apply below_drew1) | exact HB.out))) : w.heap.size ≤ gb220)); have n3_ := Aside0.mk ((by rw [hg]; exact (below_size (by repeat (first | (with_reducible first | exact HB.out | apply below_alloc | apply pw_below_drewN | apply below_drew1) | exact HB.out))) : w.heap.size ≤ gb220)); clear HB; have HB := n0_; have BK220 := n1_; have GW220 := n2_; have GE220 := n3_; clear n0_ n1_ n2_ n3_; clear hb hbox hg; have hcz23_0 : w22.cell? ⟨gb220, 0, none⟩ = some (.string a1_0) := (blk_cell BK220.out 0).trans rfl; have hcz23_1 : w22.cell? ⟨gb220, 1, none⟩ = some (.int .i64 a1_1) := (blk_cell BK220.out 1).trans rfl; have hfz23_0 := blk_frozen BK220.out 0; have hfz23_1 := blk_frozen BK220.out 1) | ((with_reducible refine gate_callee (f := 16) rfl ?_); refine goesL_ (some 11) rfl rfl Try.func16 (by kernel_rfl) rfl #[.slice A0 l0.length c0, .agg #[.string a1_0, .int .i64 a1_1]] rfl (by (try simp only [List.map_toArray, List.map_cons, List.map_nil]); first | done | rfl | (simp only [List.length_drop, List.length_take]; rfl)) ?_; (with_reducible refine (sextonref09_Find.calls k _ _ l0 a1_0 a1_1 t221 false _ ?side1 ?side2 A3.out).mono ?_); (case side1 => repeat (first | exact (Kd.C_below HR0.out HB.out) | (with_reducible refine Kd.C_alloc ?_ _) | (with_reducible refine Kd.C_drewN ?_ _) | (with_reducible refine Kd.C_drew ?_))); (case side2 => exact HC0.out); rintro e w24 ⟨rfl, hb⟩; refine ⟨_, rfl, ?_⟩; have n0_ := Aside0.mk (blk_below (g := gb220) (o := .cells #[.string a1_0, .int .i64 a1_1] 24 (0, 0)) (by (with_reducible repeat (first | refine blk_drewN ?_ _ | refine blk_drew ?_ | refine blk_alloc ?_ _)); exact BK220.out) hb); have n1_ := Aside0.mk (below_step (by repeat (first | (with_reducible first | exact HB.out | apply below_alloc | apply pw_below_drewN | apply below_drew1 | refine below_set ?_ GE220.out) | exact HB.out)) hb); clear BK220; clear HB; have BK220 := n0_; have HB := n1_; clear n0_ n1_; (try clear hb); (try clear hb2); (try clear hk); (try clear hi); have q25 : (t221 : Int) ≤ ((l0.length : Int) : Int) := of_decide_eq_true (by first | (with_reducible assumption) | assumption); obtain ⟨i025, hi025, _, hsz25, _⟩ := info_parts info26; have hroom25 : l0.length ≤ c0 := HC0.out; have hC25 : Kd.C k26 _ A0 l0.length l0 := HR0.out; have hcut25 := cut_to (P := Try.prog) 22 26 .i64 Try.underlying22 hi025 A0 l0.length c0 t221 (of_decide_eq_true (by first | (with_reducible assumption) | assumption)) q25 hroom25; have hr25 := Kd.C_take (m := (t221 : Int).toNat) hC25 (by omega); have hy25 : y223.length = (t221 : Int).toNat := (by rw [Ny223.out, List.length_take]; omega); rw [← Ny223.out] at hr25; rw [← hy25] at hcut25; have HR226 := Aside0.mk hr25; have HC226 := Aside0.mk (show y223.length ≤ c0 from by omega); clear hr25 hC25 hroom25 hi025 hsz25; have KY25 := Aside0.mk hy25; clear hy25; replace q25 := eq_true q25) | ((with_reducible refine gate_builtin (b := .append) (xs := #[.tmp 14, .tmp 17]) rfl ?_); at_builtin; refine Kd.R_append_rows k26 (w0 := w) w.heap.size rfl (.tmp 14) (.tmp 17) 22 26 (.agg #[(.string ⟨#[]⟩), (.int .i64 0), (.string ⟨#[]⟩)]) 40 rfl Try.underlying22 info26 rfl (by decide) (by omega) (.slice none 0 0) ([] : List (S26)) y223 _ _ _ (fun _ => True) (fun _ => False) rfl rfl ?aO ?aR (fun _ _ h => h) (fun _ h => h.elim) ?aF ?aB ?aS ?aL ?_; (case aR => repeat (first | exact (Kd.C_below HR226.out HB.out) | (with_reducible refine Kd.C_alloc ?_ _) | (with_reducible refine Kd.C_drewN ?_ _) | (with_reducible refine Kd.C_drew ?_))); (case aB => exact (by repeat (first | (with_reducible first | exact HB.out | apply below_alloc | apply pw_below_drewN | apply below_drew1 | refine below_set ?_ GE220.out) | exact HB.out))); (case aF => exact (fun _ _ => trivial)); (case aO => exact ((Kd.R_nil _ _ _ _ (fun _ => True)))); (case aS => exact (below_size (by repeat (first | (with_reducible first | exact HB.out | apply below_alloc | apply pw_below_drewN | apply below_drew1 | refine below_set ?_ GE220.out) | exact HB.out)))); (case aL => have := LMc6.out; omega); intro v228 w26 ho hb hg hat; rw [← Ny227.out] at ho; have n0_ := Aside0.mk (blk_grown (g := gb220) (o := .cells #[.string a1_0, .int .i64 a1_1] 24 (0, 0)) (by (with_reducible repeat (first | refine blk_drewN ?_ _ | refine blk_drew ?_ | refine blk_alloc ?_ _)); exact BK220.out) hg (by simp [Value.ownBlock])); have n1_ := Aside0.mk (hb); have n2_ := Aside0.mk (ho); clear BK220; clear HB; have BK220 := n0_; have HB := n1_; have HO229 := n2_; clear n0_ n1_ n2_; clear ho hb hg hat; have q27 : (t221 : Int) ≤ ((l0.length : Int) : Int) := of_decide_eq_true (by first | (with_reducible assumption) | assumption); obtain ⟨i027, hi027, _, hsz27, _⟩ := info_parts info26; have hroom27 : l0.length ≤ c0 := HC0.out; have hC27 : Kd.C k26 _ A0 l0.length l0 := HR0.out; have q027 : (0 : Int) ≤ (t221 : Int) := of_decide_eq_true (by first | (with_reducible assumption) | assumption); have hcut27 := cut_from (P := Try.prog) 22 26 .i64 Try.underlying22 hi027 3 hsz27 A0 l0.length c0 t221 q027 q27; have hr27 := Kd.C_drop (m := (t221 : Int).toNat) (c := c0) hC27 (by omega) hroom27; obtain ⟨A27, hA27⟩ : ∃ A1, A1 = (if c0 = (t221 : Int).toNat then A0 else (A0 : Option Addr).map (·.add ((t221 : Int).toNat * 3))) := ⟨_, rfl⟩; obtain ⟨c27, hc27⟩ : ∃ c1, c1 = c0 - (t221 : Int).toNat := ⟨_, rfl⟩; have hy27 : y237.length = l0.length - (t221 : Int).toNat := (by rw [Ny237.out, List.length_drop] <;> omega); rw [show (l0).drop (t221 : Int).toNat = y237 from Ny237.out.symm] at hr27; replace hr27 : Kd.C k26 _ A27 y237.length y237 := (by rw [hA27]; exact hr27); rw [← hy27, ← hA27, ← hc27] at hcut27; have HR240 := Aside0.mk hr27; have HC240 := Aside0.mk (show y237.length ≤ c27 from by rw [hy27, hc27]; exact Nat.sub_le_sub_right hroom27 _); clear hr27 hC27 hroom27 hi027 hsz27 hc27; have KY27 := Aside0.mk hy27; have KA27 := Aside0.mk hA27; clear hy27 hA27; replace q27 := eq_true q27) | ((with_reducible refine gate_builtin (b := .append) (xs := #[.tmp 22, .tmp 25]) rfl ?_); at_builtin; refine Kd.R_append_rows k26 (w0 := w) w.heap.size rfl (.tmp 22) (.tmp 25) 22 26 (.agg #[(.string ⟨#[]⟩), (.int .i64 0), (.string ⟨#[]⟩)]) 40 rfl Try.underlying22 info26 rfl (by decide) (by omega) v228 y227 y237 _ _ _ (fun _ => True) (fun _ => False) rfl rfl ?aO ?aR (fun _ _ h => h) (fun _ h => h.elim) ?aF ?aB ?aS ?aL ?_; (case aR => repeat (first | exact (Kd.C_below HR240.out HB.out) | (with_reducible refine Kd.C_alloc ?_ _) | (with_reducible refine Kd.C_drewN ?_ _) | (with_reducible refine Kd.C_drew ?_))); (case aB => exact (by repeat (first | (with_reducible first | exact HB.out | apply below_alloc | apply pw_below_drewN | apply below_drew1 | refine below_set ?_ GE220.out) | exact HB.out))); (case aF => exact (fun _ _ => trivial)); (case aO => exact (by (with_reducible repeat (first | apply Kd.R_alloc | apply Kd.R_drewN | apply Kd.R_drew)); exact HO229.out)); (case aS => exact (below_size (by repeat (first | (with_reducible first | exact HB.out | apply below_alloc | apply pw_below_drewN | apply below_drew1 | refine below_set ?_ GE220.out) | exact HB.out)))); (case aL => have := LMc21.out; omega); intro v242 w28 ho hb hg hat; rw [← Ny241.out] at ho; have n0_ := Aside0.mk (blk_grown (g := gb220) (o := .cells #[.string a1_0, .int .i64 a1_1] 24 (0, 0)) (by (with_reducible repeat (first | refine blk_drewN ?_ _ | refine blk_drew ?_ | refine blk_alloc ?_ _)); exact BK220.out) hg (Kd.R_ne HO229.out BK220.out (by decide))); have n1_ := Aside0.mk (hb); have n2_ := Aside0.mk (ho); clear BK220; clear HB; clear HO229; have BK220 := n0_; have HB := n1_; have HO243 := n2_; clear n0_ n1_ n2_; clear ho hb hg hat))
            go_ret
            exact ⟨_, by first | rfl | (simp [errW_none, errW_some] <;> rfl) | (simp [*, errW_none, errW_some] <;> rfl), by (with_reducible repeat (first | apply Kd.R_alloc | apply Kd.R_drewN | apply Kd.R_drew)); exact HO243.out, by repeat (first | (with_reducible first | exact HB.out | apply below_alloc | apply pw_below_drewN | apply below_drew1 | refine below_set ?_ GE220.out) | exact HB.out)⟩
          · rw [if_neg c21] at H
            exact absurd H (by simp)
      · rw [if_neg c6] at H
        exact absurd H (by simp)
    · rw [if_neg c5] at H
      exact absurd H (by simp)
  · rw [if_neg c4] at H
    exact absurd H (by simp)

end Go.Proofs.Ytoiohlmiofplcaa.P
-- Written by a program of this session (xprint.py) over the kit's print.py.
namespace Go.Proofs.Ytoiohlmiofplcaa.P
open Go.RowKit Go.Proofs.YtoiohlmiofplcaaW.PrintWords Go.Proofs.YtoiohlmiofplcaaW.PrintLast Go.Proofs.YtoiohlmiofplcaaW.PrintMore
attribute [local go_sem] max2_int min2_int max_two min_two max_three min_three max_four min_four   -- for this text's walks alone
set_option linter.unusedVariables false
set_option linter.unusedSimpArgs false

/-! ### node_Split: function 21 -/
def node_Split.f (k : Nat) (l0 : List (S26)) : Option ((List (S26)) × (List (S26))) := if 0 ≤ (wrap64 ((l0.length : Int) / 2)) then (if (wrap64 ((l0.length : Int) / 2)) ≤ (l0.length : Int) then ((api_Pair.f k (([(l0.take ((wrap64 ((l0.length : Int) / 2)) : Int).toNat)] : List (List (S26))))).bind fun t252 => ((api_Pair.f k (([(l0.drop ((wrap64 ((l0.length : Int) / 2)) : Int).toNat)] : List (List (S26))))).bind fun t263 => (some (t252, t263)))) else (none)) else (none)
theorem node_Split.mono : ∀ a0 k, LeO (node_Split.f k a0) (node_Split.f (k + 1) a0) := by
  intro a0 k
  unfold node_Split.f
  repeat' first
      | (with_reducible exact api_Pair.mono _ _)
      | (with_reducible exact LeO.refl _)
      | (with_reducible exact LeO.none _)
      | (with_reducible refine LeO.ite ?_ ?_)
      | (with_reducible refine LeO.bind ?_ (fun _ => ?_))
      | exact api_Pair.mono _ _
      | exact LeO.none _
      | refine LeO.ite ?_ ?_
      | refine LeO.bind ?_ (fun _ => ?_)
def node_Split.T2 : Bool × List (List Nat × List Nat) := (true, [([], []), ([], []), ([0, 1], [0, 1]), ([2], [2]), ([3], [3]), ([], []), ([], []), ([5, 6], [5, 6]), ([7], [7]), ([8, 4], [8]), ([4, 9, 0, 1, 2, 3, 4], [4]), ([9, 10, 0, 1, 2, 3, 4, 5, 6, 7, 8, 9, 10], [9])])
def node_Split.B2 : List Nat := [0, 0, 3, 7, 15, 0, 0, 96, 224, 511, 1023, 2047]
theorem node_Split.tab2 : rtab .any (opsOf Try.f21 2) = node_Split.T2 := by kernel_rfl
theorem node_Split.bits2 : waitsOk node_Split.T2.2 node_Split.B2 = true := by kernel_rfl
set_option maxHeartbeats 8000000 in
set_option maxRecDepth 100000 in
theorem node_Split.calls (k : Nat) (P0_ : Nat → Prop) (A0 : Option Addr) (c0 : Nat) (l0 : List (S26)) (r1 : List (S26)) (r2 : List (S26)) (w : World) (hs0 : Kd.V k26 26 w w.heap.size (fun k_ => P0_ k_) (.slice A0 l0.length c0) l0) (h : node_Split.f k l0 = some (r1, r2)) :
    Calls Try.prog 21 #[.slice A0 l0.length c0] w fun e w' => ∃ v0_ v1_ : Value, e = .returned (.tuple #[v0_, v1_]) ∧ Kd.R k26 26 w' w.heap.size (fun k_ => (w.heap.size ≤ k_) ∧ some k_ ≠ (v1_ : Value).ownBlock) v0_ r1 ∧ Kd.R k26 26 w' w.heap.size (fun k_ => (w.heap.size ≤ k_) ∧ some k_ ≠ (v0_ : Value).ownBlock) v1_ r2 ∧ Below w.heap.size w w' := by
  have HO0 := Aside0.mk (show Kd.V k26 26 w w.heap.size (fun k_ => (P0_ k_ ∨ w.heap.size ≤ k_)) (.slice A0 l0.length c0) l0 from Kd.V_mono hs0 (fun k_ hk => .inl hk))
  have HB := Aside0.mk (Below.refl w.heap.size w)
  have H : (if 0 ≤ (wrap64 ((l0.length : Int) / 2)) then (if (wrap64 ((l0.length : Int) / 2)) ≤ (l0.length : Int) then ((api_Pair.f k (([(l0.take ((wrap64 ((l0.length : Int) / 2)) : Int).toNat)] : List (List (S26))))).bind fun t252 => ((api_Pair.f k (([(l0.drop ((wrap64 ((l0.length : Int) / 2)) : Int).toNat)] : List (List (S26))))).bind fun t263 => (some (t252, t263)))) else (none)) else (none)) = some (r1, r2) := h
  clear h
  obtain ⟨ji2, hji2⟩ : ∃ j_ : Int, (wrap64 ((l0.length : Int) / 2)) = j_ := ⟨_, rfl⟩
  replace H : (if 0 ≤ (ji2) then (if (ji2) ≤ (l0.length : Int) then ((api_Pair.f k (([(l0.take ((ji2) : Int).toNat)] : List (List (S26))))).bind fun t252 => ((api_Pair.f k (([(l0.drop ((ji2) : Int).toNat)] : List (List (S26))))).bind fun t263 => (some (t252, t263)))) else (none)) else (none)) = some (r1, r2) := by first | (rw [hji2] at H; exact H) | (simp only [hji2] at H ⊢; exact H)
  have hji2w : (IntKind.i64.wrap ((l0.length : Int) / 2)) = ji2 := (i64_w _).trans hji2
  by_cases c3 : 0 ≤ (ji2)
  · rw [if_pos c3] at H
    have c3b0 := eq_true c3
    have c3b1 : decide (0 ≤ (ji2)) = true := decide_eq_true c3
    clear c3
    by_cases c4 : (ji2) ≤ (l0.length : Int)
    · rw [if_pos c4] at H
      have c4b0 := eq_true c4
      have c4b1 : decide ((ji2) ≤ (l0.length : Int)) = true := decide_eq_true c4
      clear c4
      obtain ⟨y244, hy244⟩ : ∃ y_ : List (S26), y_ = (l0.take ((ji2) : Int).toNat) := ⟨_, rfl⟩
      replace H : ((api_Pair.f k (([y244] : List (List (S26))))).bind fun t252 => ((api_Pair.f k (([(l0.drop ((ji2) : Int).toNat)] : List (List (S26))))).bind fun t263 => (some (t252, t263)))) = some (r1, r2) := by first | (rw [hy244]; with_reducible exact H) | (have H2_ := (Option.bind_some _ _).symm.trans H; rw [hy244]; with_reducible exact H2_) | (have H2_ := (Option.bind_some _ _).symm.trans H; with_reducible exact H2_) | with_reducible exact H | (rw [hy244]; exact H) | exact H
      have Ny244 := Aside0.mk hy244
      clear hy244
      obtain ⟨y249, hy249⟩ : ∃ y_ : List (List (S26)), y_ = (([y244] : List (List (S26)))) := ⟨_, rfl⟩
      replace H : ((api_Pair.f k y249).bind fun t252 => ((api_Pair.f k (([(l0.drop ((ji2) : Int).toNat)] : List (List (S26))))).bind fun t263 => (some (t252, t263)))) = some (r1, r2) := by first | (rw [hy249]; with_reducible exact H) | (have H2_ := (Option.bind_some _ _).symm.trans H; rw [hy249]; with_reducible exact H2_) | (have H2_ := (Option.bind_some _ _).symm.trans H; with_reducible exact H2_) | with_reducible exact H | (rw [hy249]; exact H) | exact H
      have Ny249 := Aside0.mk hy249
      clear hy249
      replace H := Option.bind_eq_some_iff.mp H
      obtain ⟨t252, A50, H⟩ := H
      replace H : ((api_Pair.f k (([(l0.drop ((ji2) : Int).toNat)] : List (List (S26))))).bind fun t263 => (some (t252, t263))) = some (r1, r2) := H
      have A5 := Aside0.mk A50
      clear A50
      have c6b0 := eq_true (of_decide_eq_true (by first | (with_reducible assumption) | assumption) : 0 ≤ (ji2))
      have c7b0 := eq_true (of_decide_eq_true (by first | (with_reducible assumption) | assumption) : (ji2) ≤ (l0.length : Int))
      obtain ⟨y255, hy255⟩ : ∃ y_ : List (S26), y_ = (l0.drop ((ji2) : Int).toNat) := ⟨_, rfl⟩
      replace H : ((api_Pair.f k (([y255] : List (List (S26))))).bind fun t263 => (some (t252, t263))) = some (r1, r2) := by first | (rw [hy255]; with_reducible exact H) | (have H2_ := (Option.bind_some _ _).symm.trans H; rw [hy255]; with_reducible exact H2_) | (have H2_ := (Option.bind_some _ _).symm.trans H; with_reducible exact H2_) | with_reducible exact H | (rw [hy255]; exact H) | exact H
      have Ny255 := Aside0.mk hy255
      clear hy255
      obtain ⟨y260, hy260⟩ : ∃ y_ : List (List (S26)), y_ = (([y255] : List (List (S26)))) := ⟨_, rfl⟩
      replace H : ((api_Pair.f k y260).bind fun t263 => (some (t252, t263))) = some (r1, r2) := by first | (rw [hy260]; with_reducible exact H) | (have H2_ := (Option.bind_some _ _).symm.trans H; rw [hy260]; with_reducible exact H2_) | (have H2_ := (Option.bind_some _ _).symm.trans H; with_reducible exact H2_) | with_reducible exact H | (rw [hy260]; exact H) | exact H
      have Ny260 := Aside0.mk hy260
      clear hy260
      replace H := Option.bind_eq_some_iff.mp H
      obtain ⟨t263, A80, H⟩ := H
      replace H : (some (t252, t263)) = some (r1, r2) := H
      have A8 := Aside0.mk A80
      clear A80
      simp only [Option.some.injEq, Prod.mk.injEq] at H
      obtain ⟨rfl, rfl⟩ := H
      go_enter Try.func21, Try.ntmps21
      try go_wp2
      have n0_ := Aside0.mk (Kd.V_drew HO0.out)
      have n1_ := Aside0.mk (below_drew1 HB.out)
      clear HO0
      clear HB
      have HO0 := n0_
      have HB := n1_
      clear n0_ n1_
      have q10 : ((ji2) : Int) ≤ ((l0.length : Int) : Int) := of_decide_eq_true (by first | (with_reducible assumption) | assumption)
      obtain ⟨i010, hi010, _, hsz10, _⟩ := info_parts info26
      have hroom10 : l0.length ≤ c0 := (Kd.V_reads' HO0.out).2.1
      have hC10 : Kd.F k26 _ _ A0 l0.length l0 := (Kd.V_at (base := w.heap.size) HO0.out).2.2
      have hcut10 := cut_to (P := Try.prog) 22 26 .i64 Try.underlying22 hi010 A0 l0.length c0 (ji2) (of_decide_eq_true (by first | (with_reducible assumption) | assumption)) q10 hroom10
      have hr10 := Kd.F_take (m := ((ji2) : Int).toNat) hC10 (by omega)
      have hy10 : y244.length = ((ji2) : Int).toNat := (by rw [Ny244.out, List.length_take]; omega)
      rw [← Ny244.out] at hr10
      rw [← hy10] at hcut10
      have HO248 := Aside0.mk (show Kd.V k26 26 _ w.heap.size _ (.slice A0 y244.length c0) y244 from Kd.V_mk (by omega) hr10)
      have HC248 := Aside0.mk (show y244.length ≤ c0 from by omega)
      clear hr10 hC10 hroom10 hi010 hsz10
      have KY10 := Aside0.mk hy10
      clear hy10
      replace q10 := eq_true q10
      have q11 : ((ji2) : Int) ≤ ((l0.length : Int) : Int) := of_decide_eq_true (by first | (with_reducible assumption) | assumption)
      obtain ⟨i011, hi011, _, hsz11, _⟩ := info_parts info26
      have hroom11 : l0.length ≤ c0 := (Kd.V_reads' HO0.out).2.1
      have hC11 : Kd.F k26 _ _ A0 l0.length l0 := (Kd.V_at (base := w.heap.size) HO0.out).2.2
      have q011 : (0 : Int) ≤ ((ji2) : Int) := of_decide_eq_true (by first | (with_reducible assumption) | assumption)
      have hcut11 := cut_from (P := Try.prog) 22 26 .i64 Try.underlying22 hi011 3 hsz11 A0 l0.length c0 (ji2) q011 q11
      have hr11 := Kd.F_cut (m := ((ji2) : Int).toNat) (c := c0) hC11 (by omega) hroom11
      obtain ⟨A11, hA11⟩ : ∃ A1, A1 = (if c0 = ((ji2) : Int).toNat then A0 else (A0 : Option Addr).map (·.add (((ji2) : Int).toNat * 3))) := ⟨_, rfl⟩
      obtain ⟨c11, hc11⟩ : ∃ c1, c1 = c0 - ((ji2) : Int).toNat := ⟨_, rfl⟩
      have hy11 : y255.length = l0.length - ((ji2) : Int).toNat := (by rw [Ny255.out, List.length_drop] <;> omega)
      rw [show (l0).drop ((ji2) : Int).toNat = y255 from Ny255.out.symm] at hr11
      replace hr11 : Kd.F k26 _ _ A11 y255.length y255 := (by rw [hA11]; exact hr11)
      rw [← hy11, ← hA11, ← hc11] at hcut11
      have HO259 := Aside0.mk (show Kd.V k26 26 _ w.heap.size _ (.slice A11 y255.length c11) y255 from Kd.V_mk (by rw [hy11, hc11]; exact Nat.sub_le_sub_right hroom11 _) hr11)
      have HC259 := Aside0.mk (show y255.length ≤ c11 from by rw [hy11, hc11]; exact Nat.sub_le_sub_right hroom11 _)
      clear hr11 hC11 hroom11 hi011 hsz11 hc11
      have KY11 := Aside0.mk hy11
      have KA11 := Aside0.mk hA11
      clear hy11 hA11
      replace q11 := eq_true q11
      refine start_ (n := 12) (S := fun w' => True) (ds := []) #[false, false, false, false, false, false, false, false, false, false, false, false] (by kernel_rfl) rfl rfl trivial (fun hHeld => ?_); refine with_tabW node_Split.tab2 node_Split.bits2 (fun HT_ HW_ => ?_)
      generalize w.drew = w9 at HO0 HB HO248 HO259 hHeld ⊢
      refine pure_ (i := 0) (N := some 8) (v := ?_) (a' := ?_) #[true, false, false, false, false, false, false, false, false, false, false, false] rfl rfl (any_of HT_.out (by kernel_rfl)) (fun _ _ _ h => h) (Or.inl ⟨by rfl, ?_⟩) ?_ ?_
      rotate_left
      · intro w'
        go_simp
        with_reducible rfl
      rotate_left
      · simp only [Act.put, List.setIfInBounds_toArray, List.set_cons_zero, List.set_cons_succ, i64_w, i32_w]
        rfl
      refine pure_ (i := 1) (N := some 9) (v := ?_) (a' := ?_) #[true, true, false, false, false, false, false, false, false, false, false, false] rfl rfl (any_of HT_.out (by kernel_rfl)) (fun _ _ _ h => h) (Or.inl ⟨by rfl, ?_⟩) ?_ ?_
      rotate_left
      · intro w'
        go_simp
        with_reducible rfl
      rotate_left
      · simp only [Act.put, List.setIfInBounds_toArray, List.set_cons_zero, List.set_cons_succ, i64_w, i32_w]
        rfl
      refine pure_ (i := 2) (N := some 10) (v := ?_) (a' := ?_) #[true, true, true, false, false, false, false, false, false, false, false, false] rfl rfl (any_of HT_.out (by kernel_rfl)) (fun _ _ _ h => h) (Or.inl ⟨by rfl, ?_⟩) ?_ ?_
      rotate_left
      · intro w'
        go_simp
        with_reducible rfl
      rotate_left
      · simp only [Act.put, List.setIfInBounds_toArray, List.set_cons_zero, List.set_cons_succ, i64_w, i32_w]
        rfl
      refine pure_ (i := 5) (N := some 13) (v := ?_) (a' := ?_) #[true, true, true, false, false, true, false, false, false, false, false, false] rfl rfl (any_of HT_.out (by kernel_rfl)) (fun _ _ _ h => h) (Or.inl ⟨by rfl, ?_⟩) ?_ ?_
      rotate_left
      · intro w'
        go_simp
        with_reducible rfl
      rotate_left
      · simp only [Act.put, List.setIfInBounds_toArray, List.set_cons_zero, List.set_cons_succ, i64_w, i32_w]
        rfl
      refine pure_ (i := 6) (N := some 14) (v := ?_) (a' := ?_) #[true, true, true, false, false, true, true, false, false, false, false, false] rfl rfl (any_of HT_.out (by kernel_rfl)) (fun _ _ _ h => h) (Or.inl ⟨by rfl, ?_⟩) ?_ ?_
      rotate_left
      · intro w'
        go_simp
        with_reducible rfl
      rotate_left
      · simp only [Act.put, List.setIfInBounds_toArray, List.set_cons_zero, List.set_cons_succ, i64_w, i32_w]
        rfl
      refine pure_ (i := 7) (N := some 15) (v := ?_) (a' := ?_) #[true, true, true, false, false, true, true, true, false, false, false, false] rfl rfl (any_of HT_.out (by kernel_rfl)) (fun _ _ _ h => h) (Or.inl ⟨by rfl, ?_⟩) ?_ ?_
      rotate_left
      · intro w'
        go_simp
        with_reducible rfl
      rotate_left
      · simp only [Act.put, List.setIfInBounds_toArray, List.set_cons_zero, List.set_cons_succ, i64_w, i32_w]
        rfl
      refine join_ (σ := Value × Value × Value) 3 #[true, true, true, true, true, true, true, true, true, false, false, false] (fun s_ => [(11, s_.1), (12, s_.2.1), (16, s_.2.2)]) (fun s_ w' => (Kd.V k26 26 w' w.heap.size (fun k_ => (P0_ k_ ∨ w.heap.size ≤ k_) ∧ some k_ ≠ (s_.1 : Value).ownBlock ∧ some k_ ≠ (s_.2.1 : Value).ownBlock ∧ some k_ ≠ (s_.2.2 : Value).ownBlock) (.slice A0 l0.length c0) l0) ∧ (Kd.V k26 26 w' w.heap.size (fun k_ => (P0_ k_ ∨ w.heap.size ≤ k_) ∧ some k_ ≠ (s_.1 : Value).ownBlock ∧ some k_ ≠ (s_.2.1 : Value).ownBlock ∧ some k_ ≠ (s_.2.2 : Value).ownBlock) (.slice A0 y244.length c0) y244) ∧ (Kd.N (Kd.slice 26 k26) 22 w' w.heap.size (fun k_ => (P0_ k_ ∨ w.heap.size ≤ k_) ∧ some k_ ≠ (s_.2.1 : Value).ownBlock ∧ some k_ ≠ (s_.2.2 : Value).ownBlock) s_.1 y249) ∧ (Kd.R k26 26 w' w.heap.size (fun k_ => (w.heap.size ≤ k_)) s_.2.1 t252) ∧ (Kd.V k26 26 w' w.heap.size (fun k_ => (P0_ k_ ∨ w.heap.size ≤ k_) ∧ some k_ ≠ (s_.1 : Value).ownBlock ∧ some k_ ≠ (s_.2.1 : Value).ownBlock ∧ some k_ ≠ (s_.2.2 : Value).ownBlock) (.slice A11 y255.length c11) y255) ∧ (Kd.N (Kd.slice 26 k26) 22 w' w.heap.size (fun k_ => (P0_ k_ ∨ w.heap.size ≤ k_) ∧ some k_ ≠ (s_.1 : Value).ownBlock ∧ some k_ ≠ (s_.2.1 : Value).ownBlock) s_.2.2 y260) ∧ (Below w.heap.size w w')) ?_ ?_
      rotate_left
      · intro hCont
        refine two_ (i := 3) (j := 8) (Ni := some 11) (Nj := some 16) #[true, true, true, true, false, true, true, true, false, false, false, false] #[true, true, true, false, false, true, true, true, true, false, false, false] rfl rfl rfl rfl (two_of HT_.out (by kernel_rfl)) (by decide) (by decide) (fun K hK => ?_) (fun K hK => ?_)
        · skip
          refine Kd.N_lit_step (Kd.slice 26 k26) _ 22 ?hg (N' := 11) ?hd (xs := ([y244] : List (List (S26)))) (inner := [.slice A0 y244.length c0]) (ok := (fun k_ => (P0_ k_ ∨ w.heap.size ≤ k_))) (okp := (fun k_ => (P0_ k_ ∨ w.heap.size ≤ k_))) ?hr ?hp (fun _ hk => hk) ((show ∀ k_, w9.heap.size ≤ k_ → (fun k_ => (P0_ k_ ∨ w.heap.size ≤ k_)) k_ from fun k_ hk => (.inr (Nat.le_trans (below_size (by repeat (first | (with_reducible first | exact HB.out | apply below_alloc | apply pw_below_drewN | apply below_drew1) | exact HB.out))) hk))) _ (Nat.le_refl _)) (Below.refl _ _) (Nat.le_refl _) (by simp) ?_; (case hd => rfl); (case hg => rfl); (case hr => first | (go_simp; done) | (go_simp; rfl)); (case hp => exact (Reps.one (show Kd.FK (Kd.slice 26 k26) _ _ y244 [.slice A0 y244.length c0] from (Kd.FK_slice_mk (Kd.V_reads' (Kd.V_mono (ok' := (fun k_ => (P0_ k_ ∨ w.heap.size ≤ k_))) (HO248.out) (fun k_ hk => hk))).2.1 (Kd.V_F (Kd.V_mono (ok' := (fun k_ => (P0_ k_ ∨ w.heap.size ≤ k_))) (HO248.out) (fun k_ hk => hk))))) (Reps.none _ _)))
          intro v250 w12 ho13 hb hg_ hnew_
          clear hg_ hnew_
          (first | rw [← Ny249.out] at ho13 | (simp only [Int.reduceToNat] at ho13; rw [← Ny249.out] at ho13))
          have n0_ := Aside0.mk (Kd.V_elder' (by (with_reducible repeat (first | apply Kd.V_alloc | apply Kd.V_drewN | apply Kd.V_drew)); exact HO0.out) (Kd.N_base ho13) hb)
          have n1_ := Aside0.mk (Kd.V_elder' (by (with_reducible repeat (first | apply Kd.V_alloc | apply Kd.V_drewN | apply Kd.V_drew)); exact HO248.out) (Kd.N_base ho13) hb)
          have n2_ := Aside0.mk (Kd.V_elder' (by (with_reducible repeat (first | apply Kd.V_alloc | apply Kd.V_drewN | apply Kd.V_drew)); exact HO259.out) (Kd.N_base ho13) hb)
          have n3_ := Aside0.mk (Kd.N_lower ho13 (below_size (by repeat (first | (with_reducible first | exact HB.out | apply below_alloc | apply pw_below_drewN | apply below_drew1) | exact HB.out))))
          have n4_ := Aside0.mk (below_step (by repeat (first | (with_reducible first | exact HB.out | apply below_alloc | apply pw_below_drewN | apply below_drew1) | exact HB.out)) hb)
          clear HO0
          clear HO248
          clear HO259
          clear HB
          have HO0 := n0_
          have HO248 := n1_
          have HO259 := n2_
          have HO251 := n3_
          have HB := n4_
          clear n0_ n1_ n2_ n3_ n4_
          clear hb ho13
          obtain ⟨Ao14, co14, eo14⟩ := Kd.N_slice HO251.out
          (first | subst eo14 | (injection eo14 with f1_ f2_ f3_; have f4_ := f1_.symm; have f5_ := f3_.symm; clear f1_ f2_ f3_; subst f4_; subst f5_))
          refine hK.out _ _ trivial (fun hHeld => ?_)
          clear hK K
          refine norm_ (a' := ?_) ?_ ?_
          rotate_left
          · show Act.put _ (some 11) _ = _
            simp only [Act.put, List.setIfInBounds_toArray, List.set_cons_zero, List.set_cons_succ, i64_w, i32_w]
            rfl
          refine two_ (i := 4) (j := 8) (Ni := some 12) (Nj := some 16) #[true, true, true, true, true, true, true, true, false, false, false, false] #[true, true, true, true, false, true, true, true, true, false, false, false] rfl rfl rfl rfl (two_of HT_.out (by kernel_rfl)) (by decide) (by decide) (fun K hK => ?_) (fun K hK => ?_)
          · skip
            refine goes_ Try.func48 (by kernel_rfl) rfl #[.slice Ao14 y249.length co14] (by rfl) rfl rfl (by (try simp only [List.map_toArray, List.map_cons, List.map_nil]); first | done | rfl | (simp only [List.length_drop, List.length_take]; rfl)) ?_
            with_reducible refine (api_Pair.calls k _ _ y249 t252 _ ?side1 ?side2 A5.out).mono ?_
            (case side1 => repeat (first | exact (Kd.N_reads' HO251.out).2.2 | (with_reducible refine Kd.C_alloc ?_ _) | (with_reducible refine Kd.C_drewN ?_ _) | (with_reducible refine Kd.C_drew ?_)))
            (case side2 => exact (Kd.N_reads' HO251.out).2.1)
            rintro e w15 ⟨v253, rfl, ho0, hb⟩
            refine ⟨_, rfl, ?_⟩
            have n0_ := Aside0.mk (Kd.V_elder' (by (with_reducible repeat (first | apply Kd.V_alloc | apply Kd.V_drewN | apply Kd.V_drew)); exact HO0.out) (Kd.R_base ho0) hb)
            have n1_ := Aside0.mk (Kd.V_elder' (by (with_reducible repeat (first | apply Kd.V_alloc | apply Kd.V_drewN | apply Kd.V_drew)); exact HO248.out) (Kd.R_base ho0) hb)
            have n2_ := Aside0.mk (Kd.V_elder' (by (with_reducible repeat (first | apply Kd.V_alloc | apply Kd.V_drewN | apply Kd.V_drew)); exact HO259.out) (Kd.R_base ho0) hb)
            have n3_ := Aside0.mk (Kd.N_elder' (by (with_reducible repeat (first | apply Kd.N_alloc | apply Kd.N_drewN | apply Kd.N_drew)); exact HO251.out) (Kd.R_base ho0) hb)
            have n4_ := Aside0.mk (Kd.R_lower (Kd.R_newM (M := fun k_ => (w.heap.size ≤ k_)) ho0 (below_size (by repeat (first | (with_reducible first | exact HB.out | apply below_alloc | apply pw_below_drewN | apply below_drew1) | exact HB.out))) (fun k_ h_ => h_)) (below_size (by repeat (first | (with_reducible first | exact HB.out | apply below_alloc | apply pw_below_drewN | apply below_drew1) | exact HB.out))))
            have n5_ := Aside0.mk (below_step (by repeat (first | (with_reducible first | exact HB.out | apply below_alloc | apply pw_below_drewN | apply below_drew1) | exact HB.out)) hb)
            clear HO0
            clear HO248
            clear HO259
            clear HO251
            clear HB
            have HO0 := n0_
            have HO248 := n1_
            have HO259 := n2_
            have HO251 := n3_
            have HO254 := n4_
            have HB := n5_
            clear n0_ n1_ n2_ n3_ n4_ n5_
            (try clear hb)
            (try clear hb2)
            (try clear hk)
            (try clear hi)
            (try clear ho0)
            refine hK.out _ _ trivial (fun hHeld => ?_)
            clear hK K
            refine norm_ (a' := ?_) ?_ ?_
            rotate_left
            · show Act.put _ (some 12) _ = _
              simp only [Act.put, List.setIfInBounds_toArray, List.set_cons_zero, List.set_cons_succ, i64_w, i32_w]
              rfl
            refine one_ (i := 8) (N := some 16) #[true, true, true, true, true, true, true, true, true, false, false, false] rfl rfl (one_of HT_.out (by kernel_rfl)) (by decide) (fun K hK => ?_)
            refine Kd.N_lit_step (Kd.slice 26 k26) _ 22 ?hg (N' := 16) ?hd (xs := ([y255] : List (List (S26)))) (inner := [.slice A11 y255.length c11]) (ok := (fun k_ => (P0_ k_ ∨ w.heap.size ≤ k_) ∧ some k_ ≠ (.slice Ao14 y249.length co14 : Value).ownBlock ∧ some k_ ≠ (v253 : Value).ownBlock)) (okp := (fun k_ => (P0_ k_ ∨ w.heap.size ≤ k_) ∧ some k_ ≠ (.slice Ao14 y249.length co14 : Value).ownBlock ∧ some k_ ≠ (v253 : Value).ownBlock)) ?hr ?hp (fun _ hk => hk) ((show ∀ k_, w15.heap.size ≤ k_ → (fun k_ => (P0_ k_ ∨ w.heap.size ≤ k_) ∧ some k_ ≠ (.slice Ao14 y249.length co14 : Value).ownBlock ∧ some k_ ≠ (v253 : Value).ownBlock) k_ from fun k_ hk => ⟨(.inr (Nat.le_trans (below_size (by repeat (first | (with_reducible first | exact HB.out | apply below_alloc | apply pw_below_drewN | apply below_drew1) | exact HB.out))) hk)), Kd.fresh' (Kd.N_lt (by (with_reducible repeat (first | apply Kd.N_alloc | apply Kd.N_drewN | apply Kd.N_drew)); exact HO251.out)) k_ hk, Kd.fresh' (Kd.R_lt (by (with_reducible repeat (first | apply Kd.R_alloc | apply Kd.R_drewN | apply Kd.R_drew)); exact HO254.out)) k_ hk⟩) _ (Nat.le_refl _)) (Below.refl _ _) (Nat.le_refl _) (by simp) ?_; (case hd => rfl); (case hg => rfl); (case hr => first | (go_simp; done) | (go_simp; rfl)); (case hp => exact (Reps.one (show Kd.FK (Kd.slice 26 k26) _ _ y255 [.slice A11 y255.length c11] from (Kd.FK_slice_mk (Kd.V_reads' (Kd.V_mono (ok' := (fun k_ => (P0_ k_ ∨ w.heap.size ≤ k_) ∧ some k_ ≠ (.slice Ao14 y249.length co14 : Value).ownBlock ∧ some k_ ≠ (v253 : Value).ownBlock)) (HO259.out) (fun k_ hk => ⟨hk.1.1, ⟨hk.1.2, hk.2⟩⟩))).2.1 (Kd.V_F (Kd.V_mono (ok' := (fun k_ => (P0_ k_ ∨ w.heap.size ≤ k_) ∧ some k_ ≠ (.slice Ao14 y249.length co14 : Value).ownBlock ∧ some k_ ≠ (v253 : Value).ownBlock)) (HO259.out) (fun k_ hk => ⟨hk.1.1, ⟨hk.1.2, hk.2⟩⟩))))) (Reps.none _ _)))
            intro v261 w16 ho17 hb hg_ hnew_
            clear hg_ hnew_
            (first | rw [← Ny260.out] at ho17 | (simp only [Int.reduceToNat] at ho17; rw [← Ny260.out] at ho17))
            have n0_ := Aside0.mk (Kd.V_elder' (by (with_reducible repeat (first | apply Kd.V_alloc | apply Kd.V_drewN | apply Kd.V_drew)); exact HO0.out) (Kd.N_base ho17) hb)
            have n1_ := Aside0.mk (Kd.V_elder' (by (with_reducible repeat (first | apply Kd.V_alloc | apply Kd.V_drewN | apply Kd.V_drew)); exact HO248.out) (Kd.N_base ho17) hb)
            have n2_ := Aside0.mk (Kd.V_elder' (by (with_reducible repeat (first | apply Kd.V_alloc | apply Kd.V_drewN | apply Kd.V_drew)); exact HO259.out) (Kd.N_base ho17) hb)
            have n3_ := Aside0.mk (Kd.N_elder' (by (with_reducible repeat (first | apply Kd.N_alloc | apply Kd.N_drewN | apply Kd.N_drew)); exact HO251.out) (Kd.N_base ho17) hb)
            have n4_ := Aside0.mk (Kd.R_below (by (with_reducible repeat (first | apply Kd.R_alloc | apply Kd.R_drewN | apply Kd.R_drew)); exact HO254.out) hb)
            have n5_ := Aside0.mk (Kd.N_lower ho17 (below_size (by repeat (first | (with_reducible first | exact HB.out | apply below_alloc | apply pw_below_drewN | apply below_drew1) | exact HB.out))))
            have n6_ := Aside0.mk (below_step (by repeat (first | (with_reducible first | exact HB.out | apply below_alloc | apply pw_below_drewN | apply below_drew1) | exact HB.out)) hb)
            clear HO0
            clear HO248
            clear HO259
            clear HO251
            clear HO254
            clear HB
            have HO0 := n0_
            have HO248 := n1_
            have HO259 := n2_
            have HO251 := n3_
            have HO254 := n4_
            have HO262 := n5_
            have HB := n6_
            clear n0_ n1_ n2_ n3_ n4_ n5_ n6_
            clear hb ho17
            refine hK.out _ _ trivial (fun hHeld => ?_)
            clear hK K
            refine norm_ (a' := ?_) ?_ ?_
            rotate_left
            · show Act.put _ (some 16) _ = _
              simp only [Act.put, List.setIfInBounds_toArray, List.set_cons_zero, List.set_cons_succ, i64_w, i32_w]
              rfl
            exact norm_ (by simp only [putAll, Act.put, List.setIfInBounds_toArray, List.set_cons_zero, List.set_cons_succ]) (hCont (.slice Ao14 y249.length co14, v253, v261) _ ⟨(by (with_reducible repeat (first | apply Kd.V_alloc | apply Kd.V_drewN | apply Kd.V_drew)); exact Kd.V_mono HO0.out (fun _ hk => ⟨hk.1.1.1, ⟨hk.1.1.2, ⟨hk.1.2, hk.2⟩⟩⟩)), (by (with_reducible repeat (first | apply Kd.V_alloc | apply Kd.V_drewN | apply Kd.V_drew)); exact Kd.V_mono HO248.out (fun _ hk => ⟨hk.1.1.1, ⟨hk.1.1.2, ⟨hk.1.2, hk.2⟩⟩⟩)), (by (with_reducible repeat (first | apply Kd.N_alloc | apply Kd.N_drewN | apply Kd.N_drew)); exact Kd.N_mono HO251.out (fun _ hk => ⟨hk.1.1, ⟨hk.1.2, hk.2⟩⟩)), (by (with_reducible repeat (first | apply Kd.R_alloc | apply Kd.R_drewN | apply Kd.R_drew)); exact Kd.R_mono HO254.out (fun _ hk => hk.1)), (by (with_reducible repeat (first | apply Kd.V_alloc | apply Kd.V_drewN | apply Kd.V_drew)); exact Kd.V_mono HO259.out (fun _ hk => ⟨hk.1.1.1, ⟨hk.1.1.2, ⟨hk.1.2, hk.2⟩⟩⟩)), (by (with_reducible repeat (first | apply Kd.N_alloc | apply Kd.N_drewN | apply Kd.N_drew)); exact HO262.out), (by repeat (first | (with_reducible first | exact HB.out | apply below_alloc | apply pw_below_drewN | apply below_drew1) | exact HB.out))⟩)
          · skip
            refine Kd.N_lit_step (Kd.slice 26 k26) _ 22 ?hg (N' := 16) ?hd (xs := ([y255] : List (List (S26)))) (inner := [.slice A11 y255.length c11]) (ok := (fun k_ => (P0_ k_ ∨ w.heap.size ≤ k_) ∧ some k_ ≠ ((Value.slice Ao14 y249.length co14) : Value).ownBlock)) (okp := (fun k_ => (P0_ k_ ∨ w.heap.size ≤ k_) ∧ some k_ ≠ ((Value.slice Ao14 y249.length co14) : Value).ownBlock)) ?hr ?hp (fun _ hk => hk) ((show ∀ k_, w12.heap.size ≤ k_ → (fun k_ => (P0_ k_ ∨ w.heap.size ≤ k_) ∧ some k_ ≠ ((Value.slice Ao14 y249.length co14) : Value).ownBlock) k_ from fun k_ hk => ⟨(.inr (Nat.le_trans (below_size (by repeat (first | (with_reducible first | exact HB.out | apply below_alloc | apply pw_below_drewN | apply below_drew1) | exact HB.out))) hk)), Kd.fresh' (Kd.N_lt (by (with_reducible repeat (first | apply Kd.N_alloc | apply Kd.N_drewN | apply Kd.N_drew)); exact HO251.out)) k_ hk⟩) _ (Nat.le_refl _)) (Below.refl _ _) (Nat.le_refl _) (by simp) ?_; (case hd => rfl); (case hg => rfl); (case hr => first | (go_simp; done) | (go_simp; rfl)); (case hp => exact (Reps.one (show Kd.FK (Kd.slice 26 k26) _ _ y255 [.slice A11 y255.length c11] from (Kd.FK_slice_mk (Kd.V_reads' (Kd.V_mono (ok' := (fun k_ => (P0_ k_ ∨ w.heap.size ≤ k_) ∧ some k_ ≠ ((Value.slice Ao14 y249.length co14) : Value).ownBlock)) (HO259.out) (fun k_ hk => ⟨hk.1, hk.2⟩))).2.1 (Kd.V_F (Kd.V_mono (ok' := (fun k_ => (P0_ k_ ∨ w.heap.size ≤ k_) ∧ some k_ ≠ ((Value.slice Ao14 y249.length co14) : Value).ownBlock)) (HO259.out) (fun k_ hk => ⟨hk.1, hk.2⟩))))) (Reps.none _ _)))
            intro v261 w14 ho15 hb hg_ hnew_
            clear hg_ hnew_
            (first | rw [← Ny260.out] at ho15 | (simp only [Int.reduceToNat] at ho15; rw [← Ny260.out] at ho15))
            have n0_ := Aside0.mk (Kd.V_elder' (by (with_reducible repeat (first | apply Kd.V_alloc | apply Kd.V_drewN | apply Kd.V_drew)); exact HO0.out) (Kd.N_base ho15) hb)
            have n1_ := Aside0.mk (Kd.V_elder' (by (with_reducible repeat (first | apply Kd.V_alloc | apply Kd.V_drewN | apply Kd.V_drew)); exact HO248.out) (Kd.N_base ho15) hb)
            have n2_ := Aside0.mk (Kd.V_elder' (by (with_reducible repeat (first | apply Kd.V_alloc | apply Kd.V_drewN | apply Kd.V_drew)); exact HO259.out) (Kd.N_base ho15) hb)
            have n3_ := Aside0.mk (Kd.N_elder' (by (with_reducible repeat (first | apply Kd.N_alloc | apply Kd.N_drewN | apply Kd.N_drew)); exact HO251.out) (Kd.N_base ho15) hb)
            have n4_ := Aside0.mk (Kd.N_lower ho15 (below_size (by repeat (first | (with_reducible first | exact HB.out | apply below_alloc | apply pw_below_drewN | apply below_drew1) | exact HB.out))))
            have n5_ := Aside0.mk (below_step (by repeat (first | (with_reducible first | exact HB.out | apply below_alloc | apply pw_below_drewN | apply below_drew1) | exact HB.out)) hb)
            clear HO0
            clear HO248
            clear HO259
            clear HO251
            clear HB
            have HO0 := n0_
            have HO248 := n1_
            have HO259 := n2_
            have HO251 := n3_
            have HO262 := n4_
            have HB := n5_
            clear n0_ n1_ n2_ n3_ n4_ n5_
            clear hb ho15
            obtain ⟨Ao16, co16, eo16⟩ := Kd.N_slice HO251.out
            (first | subst eo16 | (injection eo16 with f1_ f2_ f3_; have f4_ := f1_.symm; have f5_ := f3_.symm; clear f1_ f2_ f3_; subst f4_; subst f5_))
            refine hK.out _ _ trivial (fun hHeld => ?_)
            clear hK K
            refine norm_ (a' := ?_) ?_ ?_
            rotate_left
            · show Act.put _ (some 16) _ = _
              simp only [Act.put, List.setIfInBounds_toArray, List.set_cons_zero, List.set_cons_succ, i64_w, i32_w]
              rfl
            refine one_ (i := 4) (N := some 12) #[true, true, true, true, true, true, true, true, true, false, false, false] rfl rfl (one_of HT_.out (by kernel_rfl)) (by decide) (fun K hK => ?_)
            refine goes_ Try.func48 (by kernel_rfl) rfl #[.slice Ao16 y249.length co16] (by rfl) rfl rfl (by (try simp only [List.map_toArray, List.map_cons, List.map_nil]); first | done | rfl | (simp only [List.length_drop, List.length_take]; rfl)) ?_
            with_reducible refine (api_Pair.calls k _ _ y249 t252 _ ?side1 ?side2 A5.out).mono ?_
            (case side1 => repeat (first | exact (Kd.N_reads' HO251.out).2.2 | (with_reducible refine Kd.C_alloc ?_ _) | (with_reducible refine Kd.C_drewN ?_ _) | (with_reducible refine Kd.C_drew ?_)))
            (case side2 => exact (Kd.N_reads' HO251.out).2.1)
            rintro e w17 ⟨v253, rfl, ho0, hb⟩
            refine ⟨_, rfl, ?_⟩
            have n0_ := Aside0.mk (Kd.V_elder' (by (with_reducible repeat (first | apply Kd.V_alloc | apply Kd.V_drewN | apply Kd.V_drew)); exact HO0.out) (Kd.R_base ho0) hb)
            have n1_ := Aside0.mk (Kd.V_elder' (by (with_reducible repeat (first | apply Kd.V_alloc | apply Kd.V_drewN | apply Kd.V_drew)); exact HO248.out) (Kd.R_base ho0) hb)
            have n2_ := Aside0.mk (Kd.V_elder' (by (with_reducible repeat (first | apply Kd.V_alloc | apply Kd.V_drewN | apply Kd.V_drew)); exact HO259.out) (Kd.R_base ho0) hb)
            have n3_ := Aside0.mk (Kd.N_elder' (by (with_reducible repeat (first | apply Kd.N_alloc | apply Kd.N_drewN | apply Kd.N_drew)); exact HO251.out) (Kd.R_base ho0) hb)
            have n4_ := Aside0.mk (Kd.N_elder' (by (with_reducible repeat (first | apply Kd.N_alloc | apply Kd.N_drewN | apply Kd.N_drew)); exact HO262.out) (Kd.R_base ho0) hb)
            have n5_ := Aside0.mk (Kd.R_lower (Kd.R_newM (M := fun k_ => (w.heap.size ≤ k_)) ho0 (below_size (by repeat (first | (with_reducible first | exact HB.out | apply below_alloc | apply pw_below_drewN | apply below_drew1) | exact HB.out))) (fun k_ h_ => h_)) (below_size (by repeat (first | (with_reducible first | exact HB.out | apply below_alloc | apply pw_below_drewN | apply below_drew1) | exact HB.out))))
            have n6_ := Aside0.mk (below_step (by repeat (first | (with_reducible first | exact HB.out | apply below_alloc | apply pw_below_drewN | apply below_drew1) | exact HB.out)) hb)
            clear HO0
            clear HO248
            clear HO259
            clear HO251
            clear HO262
            clear HB
            have HO0 := n0_
            have HO248 := n1_
            have HO259 := n2_
            have HO251 := n3_
            have HO262 := n4_
            have HO254 := n5_
            have HB := n6_
            clear n0_ n1_ n2_ n3_ n4_ n5_ n6_
            (try clear hb)
            (try clear hb2)
            (try clear hk)
            (try clear hi)
            (try clear ho0)
            refine hK.out _ _ trivial (fun hHeld => ?_)
            clear hK K
            refine norm_ (a' := ?_) ?_ ?_
            rotate_left
            · show Act.put _ (some 12) _ = _
              simp only [Act.put, List.setIfInBounds_toArray, List.set_cons_zero, List.set_cons_succ, i64_w, i32_w]
              rfl
            exact norm_ (by simp only [putAll, Act.put, List.setIfInBounds_toArray, List.set_cons_zero, List.set_cons_succ]) (hCont (.slice Ao16 y249.length co16, v253, v261) _ ⟨(by (with_reducible repeat (first | apply Kd.V_alloc | apply Kd.V_drewN | apply Kd.V_drew)); exact Kd.V_mono HO0.out (fun _ hk => ⟨hk.1.1.1, ⟨hk.1.1.2, ⟨hk.2, hk.1.2⟩⟩⟩)), (by (with_reducible repeat (first | apply Kd.V_alloc | apply Kd.V_drewN | apply Kd.V_drew)); exact Kd.V_mono HO248.out (fun _ hk => ⟨hk.1.1.1, ⟨hk.1.1.2, ⟨hk.2, hk.1.2⟩⟩⟩)), (by (with_reducible repeat (first | apply Kd.N_alloc | apply Kd.N_drewN | apply Kd.N_drew)); exact Kd.N_mono HO251.out (fun _ hk => ⟨hk.1.1, ⟨hk.2, hk.1.2⟩⟩)), (by (with_reducible repeat (first | apply Kd.R_alloc | apply Kd.R_drewN | apply Kd.R_drew)); exact Kd.R_mono HO254.out (fun _ hk => hk.1)), (by (with_reducible repeat (first | apply Kd.V_alloc | apply Kd.V_drewN | apply Kd.V_drew)); exact Kd.V_mono HO259.out (fun _ hk => ⟨hk.1.1.1, ⟨hk.1.1.2, ⟨hk.2, hk.1.2⟩⟩⟩)), (by (with_reducible repeat (first | apply Kd.N_alloc | apply Kd.N_drewN | apply Kd.N_drew)); exact Kd.N_mono HO262.out (fun _ hk => ⟨hk.1.1, ⟨hk.1.2, hk.2⟩⟩)), (by repeat (first | (with_reducible first | exact HB.out | apply below_alloc | apply pw_below_drewN | apply below_drew1) | exact HB.out))⟩)
        · skip
          refine Kd.N_lit_step (Kd.slice 26 k26) _ 22 ?hg (N' := 16) ?hd (xs := ([y255] : List (List (S26)))) (inner := [.slice A11 y255.length c11]) (ok := (fun k_ => (P0_ k_ ∨ w.heap.size ≤ k_))) (okp := (fun k_ => (P0_ k_ ∨ w.heap.size ≤ k_))) ?hr ?hp (fun _ hk => hk) ((show ∀ k_, w9.heap.size ≤ k_ → (fun k_ => (P0_ k_ ∨ w.heap.size ≤ k_)) k_ from fun k_ hk => (.inr (Nat.le_trans (below_size (by repeat (first | (with_reducible first | exact HB.out | apply below_alloc | apply pw_below_drewN | apply below_drew1) | exact HB.out))) hk))) _ (Nat.le_refl _)) (Below.refl _ _) (Nat.le_refl _) (by simp) ?_; (case hd => rfl); (case hg => rfl); (case hr => first | (go_simp; done) | (go_simp; rfl)); (case hp => exact (Reps.one (show Kd.FK (Kd.slice 26 k26) _ _ y255 [.slice A11 y255.length c11] from (Kd.FK_slice_mk (Kd.V_reads' (Kd.V_mono (ok' := (fun k_ => (P0_ k_ ∨ w.heap.size ≤ k_))) (HO259.out) (fun k_ hk => hk))).2.1 (Kd.V_F (Kd.V_mono (ok' := (fun k_ => (P0_ k_ ∨ w.heap.size ≤ k_))) (HO259.out) (fun k_ hk => hk))))) (Reps.none _ _)))
          intro v261 w12 ho13 hb hg_ hnew_
          clear hg_ hnew_
          (first | rw [← Ny260.out] at ho13 | (simp only [Int.reduceToNat] at ho13; rw [← Ny260.out] at ho13))
          have n0_ := Aside0.mk (Kd.V_elder' (by (with_reducible repeat (first | apply Kd.V_alloc | apply Kd.V_drewN | apply Kd.V_drew)); exact HO0.out) (Kd.N_base ho13) hb)
          have n1_ := Aside0.mk (Kd.V_elder' (by (with_reducible repeat (first | apply Kd.V_alloc | apply Kd.V_drewN | apply Kd.V_drew)); exact HO248.out) (Kd.N_base ho13) hb)
          have n2_ := Aside0.mk (Kd.V_elder' (by (with_reducible repeat (first | apply Kd.V_alloc | apply Kd.V_drewN | apply Kd.V_drew)); exact HO259.out) (Kd.N_base ho13) hb)
          have n3_ := Aside0.mk (Kd.N_lower ho13 (below_size (by repeat (first | (with_reducible first | exact HB.out | apply below_alloc | apply pw_below_drewN | apply below_drew1) | exact HB.out))))
          have n4_ := Aside0.mk (below_step (by repeat (first | (with_reducible first | exact HB.out | apply below_alloc | apply pw_below_drewN | apply below_drew1) | exact HB.out)) hb)
          clear HO0
          clear HO248
          clear HO259
          clear HB
          have HO0 := n0_
          have HO248 := n1_
          have HO259 := n2_
          have HO262 := n3_
          have HB := n4_
          clear n0_ n1_ n2_ n3_ n4_
          clear hb ho13
          refine hK.out _ _ trivial (fun hHeld => ?_)
          clear hK K
          refine norm_ (a' := ?_) ?_ ?_
          rotate_left
          · show Act.put _ (some 16) _ = _
            simp only [Act.put, List.setIfInBounds_toArray, List.set_cons_zero, List.set_cons_succ, i64_w, i32_w]
            rfl
          refine one_ (i := 3) (N := some 11) #[true, true, true, true, false, true, true, true, true, false, false, false] rfl rfl (one_of HT_.out (by kernel_rfl)) (by decide) (fun K hK => ?_)
          refine Kd.N_lit_step (Kd.slice 26 k26) _ 22 ?hg (N' := 11) ?hd (xs := ([y244] : List (List (S26)))) (inner := [.slice A0 y244.length c0]) (ok := (fun k_ => (P0_ k_ ∨ w.heap.size ≤ k_) ∧ some k_ ≠ (v261 : Value).ownBlock)) (okp := (fun k_ => (P0_ k_ ∨ w.heap.size ≤ k_) ∧ some k_ ≠ (v261 : Value).ownBlock)) ?hr ?hp (fun _ hk => hk) ((show ∀ k_, w12.heap.size ≤ k_ → (fun k_ => (P0_ k_ ∨ w.heap.size ≤ k_) ∧ some k_ ≠ (v261 : Value).ownBlock) k_ from fun k_ hk => ⟨(.inr (Nat.le_trans (below_size (by repeat (first | (with_reducible first | exact HB.out | apply below_alloc | apply pw_below_drewN | apply below_drew1) | exact HB.out))) hk)), Kd.fresh' (Kd.N_lt (by (with_reducible repeat (first | apply Kd.N_alloc | apply Kd.N_drewN | apply Kd.N_drew)); exact HO262.out)) k_ hk⟩) _ (Nat.le_refl _)) (Below.refl _ _) (Nat.le_refl _) (by simp) ?_; (case hd => rfl); (case hg => rfl); (case hr => first | (go_simp; done) | (go_simp; rfl)); (case hp => exact (Reps.one (show Kd.FK (Kd.slice 26 k26) _ _ y244 [.slice A0 y244.length c0] from (Kd.FK_slice_mk (Kd.V_reads' (Kd.V_mono (ok' := (fun k_ => (P0_ k_ ∨ w.heap.size ≤ k_) ∧ some k_ ≠ (v261 : Value).ownBlock)) (HO248.out) (fun k_ hk => ⟨hk.1, hk.2⟩))).2.1 (Kd.V_F (Kd.V_mono (ok' := (fun k_ => (P0_ k_ ∨ w.heap.size ≤ k_) ∧ some k_ ≠ (v261 : Value).ownBlock)) (HO248.out) (fun k_ hk => ⟨hk.1, hk.2⟩))))) (Reps.none _ _)))
          intro v250 w14 ho15 hb hg_ hnew_
          clear hg_ hnew_
          (first | rw [← Ny249.out] at ho15 | (simp only [Int.reduceToNat] at ho15; rw [← Ny249.out] at ho15))
          have n0_ := Aside0.mk (Kd.V_elder' (by (with_reducible repeat (first | apply Kd.V_alloc | apply Kd.V_drewN | apply Kd.V_drew)); exact HO0.out) (Kd.N_base ho15) hb)
          have n1_ := Aside0.mk (Kd.V_elder' (by (with_reducible repeat (first | apply Kd.V_alloc | apply Kd.V_drewN | apply Kd.V_drew)); exact HO248.out) (Kd.N_base ho15) hb)
          have n2_ := Aside0.mk (Kd.V_elder' (by (with_reducible repeat (first | apply Kd.V_alloc | apply Kd.V_drewN | apply Kd.V_drew)); exact HO259.out) (Kd.N_base ho15) hb)
          have n3_ := Aside0.mk (Kd.N_elder' (by (with_reducible repeat (first | apply Kd.N_alloc | apply Kd.N_drewN | apply Kd.N_drew)); exact HO262.out) (Kd.N_base ho15) hb)
          have n4_ := Aside0.mk (Kd.N_lower ho15 (below_size (by repeat (first | (with_reducible first | exact HB.out | apply below_alloc | apply pw_below_drewN | apply below_drew1) | exact HB.out))))
          have n5_ := Aside0.mk (below_step (by repeat (first | (with_reducible first | exact HB.out | apply below_alloc | apply pw_below_drewN | apply below_drew1) | exact HB.out)) hb)
          clear HO0
          clear HO248
          clear HO259
          clear HO262
          clear HB
          have HO0 := n0_
          have HO248 := n1_
          have HO259 := n2_
          have HO262 := n3_
          have HO251 := n4_
          have HB := n5_
          clear n0_ n1_ n2_ n3_ n4_ n5_
          clear hb ho15
          obtain ⟨Ao16, co16, eo16⟩ := Kd.N_slice HO251.out
          (first | subst eo16 | (injection eo16 with f1_ f2_ f3_; have f4_ := f1_.symm; have f5_ := f3_.symm; clear f1_ f2_ f3_; subst f4_; subst f5_))
          refine hK.out _ _ trivial (fun hHeld => ?_)
          clear hK K
          refine norm_ (a' := ?_) ?_ ?_
          rotate_left
          · show Act.put _ (some 11) _ = _
            simp only [Act.put, List.setIfInBounds_toArray, List.set_cons_zero, List.set_cons_succ, i64_w, i32_w]
            rfl
          refine one_ (i := 4) (N := some 12) #[true, true, true, true, true, true, true, true, true, false, false, false] rfl rfl (one_of HT_.out (by kernel_rfl)) (by decide) (fun K hK => ?_)
          refine goes_ Try.func48 (by kernel_rfl) rfl #[.slice Ao16 y249.length co16] (by rfl) rfl rfl (by (try simp only [List.map_toArray, List.map_cons, List.map_nil]); first | done | rfl | (simp only [List.length_drop, List.length_take]; rfl)) ?_
          with_reducible refine (api_Pair.calls k _ _ y249 t252 _ ?side1 ?side2 A5.out).mono ?_
          (case side1 => repeat (first | exact (Kd.N_reads' HO251.out).2.2 | (with_reducible refine Kd.C_alloc ?_ _) | (with_reducible refine Kd.C_drewN ?_ _) | (with_reducible refine Kd.C_drew ?_)))
          (case side2 => exact (Kd.N_reads' HO251.out).2.1)
          rintro e w17 ⟨v253, rfl, ho0, hb⟩
          refine ⟨_, rfl, ?_⟩
          have n0_ := Aside0.mk (Kd.V_elder' (by (with_reducible repeat (first | apply Kd.V_alloc | apply Kd.V_drewN | apply Kd.V_drew)); exact HO0.out) (Kd.R_base ho0) hb)
          have n1_ := Aside0.mk (Kd.V_elder' (by (with_reducible repeat (first | apply Kd.V_alloc | apply Kd.V_drewN | apply Kd.V_drew)); exact HO248.out) (Kd.R_base ho0) hb)
          have n2_ := Aside0.mk (Kd.V_elder' (by (with_reducible repeat (first | apply Kd.V_alloc | apply Kd.V_drewN | apply Kd.V_drew)); exact HO259.out) (Kd.R_base ho0) hb)
          have n3_ := Aside0.mk (Kd.N_elder' (by (with_reducible repeat (first | apply Kd.N_alloc | apply Kd.N_drewN | apply Kd.N_drew)); exact HO262.out) (Kd.R_base ho0) hb)
          have n4_ := Aside0.mk (Kd.N_elder' (by (with_reducible repeat (first | apply Kd.N_alloc | apply Kd.N_drewN | apply Kd.N_drew)); exact HO251.out) (Kd.R_base ho0) hb)
          have n5_ := Aside0.mk (Kd.R_lower (Kd.R_newM (M := fun k_ => (w.heap.size ≤ k_)) ho0 (below_size (by repeat (first | (with_reducible first | exact HB.out | apply below_alloc | apply pw_below_drewN | apply below_drew1) | exact HB.out))) (fun k_ h_ => h_)) (below_size (by repeat (first | (with_reducible first | exact HB.out | apply below_alloc | apply pw_below_drewN | apply below_drew1) | exact HB.out))))
          have n6_ := Aside0.mk (below_step (by repeat (first | (with_reducible first | exact HB.out | apply below_alloc | apply pw_below_drewN | apply below_drew1) | exact HB.out)) hb)
          clear HO0
          clear HO248
          clear HO259
          clear HO262
          clear HO251
          clear HB
          have HO0 := n0_
          have HO248 := n1_
          have HO259 := n2_
          have HO262 := n3_
          have HO251 := n4_
          have HO254 := n5_
          have HB := n6_
          clear n0_ n1_ n2_ n3_ n4_ n5_ n6_
          (try clear hb)
          (try clear hb2)
          (try clear hk)
          (try clear hi)
          (try clear ho0)
          refine hK.out _ _ trivial (fun hHeld => ?_)
          clear hK K
          refine norm_ (a' := ?_) ?_ ?_
          rotate_left
          · show Act.put _ (some 12) _ = _
            simp only [Act.put, List.setIfInBounds_toArray, List.set_cons_zero, List.set_cons_succ, i64_w, i32_w]
            rfl
          exact norm_ (by simp only [putAll, Act.put, List.setIfInBounds_toArray, List.set_cons_zero, List.set_cons_succ]) (hCont (.slice Ao16 y249.length co16, v253, v261) _ ⟨(by (with_reducible repeat (first | apply Kd.V_alloc | apply Kd.V_drewN | apply Kd.V_drew)); exact Kd.V_mono HO0.out (fun _ hk => ⟨hk.1.1.1, ⟨hk.1.2, ⟨hk.2, hk.1.1.2⟩⟩⟩)), (by (with_reducible repeat (first | apply Kd.V_alloc | apply Kd.V_drewN | apply Kd.V_drew)); exact Kd.V_mono HO248.out (fun _ hk => ⟨hk.1.1.1, ⟨hk.1.2, ⟨hk.2, hk.1.1.2⟩⟩⟩)), (by (with_reducible repeat (first | apply Kd.N_alloc | apply Kd.N_drewN | apply Kd.N_drew)); exact Kd.N_mono HO251.out (fun _ hk => ⟨hk.1.1, ⟨hk.2, hk.1.2⟩⟩)), (by (with_reducible repeat (first | apply Kd.R_alloc | apply Kd.R_drewN | apply Kd.R_drew)); exact Kd.R_mono HO254.out (fun _ hk => hk.1)), (by (with_reducible repeat (first | apply Kd.V_alloc | apply Kd.V_drewN | apply Kd.V_drew)); exact Kd.V_mono HO259.out (fun _ hk => ⟨hk.1.1.1, ⟨hk.1.2, ⟨hk.2, hk.1.1.2⟩⟩⟩)), (by (with_reducible repeat (first | apply Kd.N_alloc | apply Kd.N_drewN | apply Kd.N_drew)); exact Kd.N_mono HO262.out (fun _ hk => ⟨hk.1.1, ⟨hk.1.2, hk.2⟩⟩)), (by repeat (first | (with_reducible first | exact HB.out | apply below_alloc | apply pw_below_drewN | apply below_drew1) | exact HB.out))⟩)
      rintro ⟨v250, v253, v261⟩ w18 ⟨h0_, h1_, h2_, h3_, h4_, h5_, h6_⟩
      have n0_ : Aside0 (Kd.V k26 26 w18 w.heap.size (fun k_ => (P0_ k_ ∨ w.heap.size ≤ k_) ∧ some k_ ≠ (v250 : Value).ownBlock ∧ some k_ ≠ (v253 : Value).ownBlock ∧ some k_ ≠ (v261 : Value).ownBlock) (.slice A0 l0.length c0) l0) := ⟨h0_⟩
      have n1_ : Aside0 (Kd.V k26 26 w18 w.heap.size (fun k_ => (P0_ k_ ∨ w.heap.size ≤ k_) ∧ some k_ ≠ (v250 : Value).ownBlock ∧ some k_ ≠ (v253 : Value).ownBlock ∧ some k_ ≠ (v261 : Value).ownBlock) (.slice A0 y244.length c0) y244) := ⟨h1_⟩
      have n2_ : Aside0 (Kd.N (Kd.slice 26 k26) 22 w18 w.heap.size (fun k_ => (P0_ k_ ∨ w.heap.size ≤ k_) ∧ some k_ ≠ (v253 : Value).ownBlock ∧ some k_ ≠ (v261 : Value).ownBlock) v250 y249) := ⟨h2_⟩
      have n3_ : Aside0 (Kd.R k26 26 w18 w.heap.size (fun k_ => (w.heap.size ≤ k_)) v253 t252) := ⟨h3_⟩
      have n4_ : Aside0 (Kd.V k26 26 w18 w.heap.size (fun k_ => (P0_ k_ ∨ w.heap.size ≤ k_) ∧ some k_ ≠ (v250 : Value).ownBlock ∧ some k_ ≠ (v253 : Value).ownBlock ∧ some k_ ≠ (v261 : Value).ownBlock) (.slice A11 y255.length c11) y255) := ⟨h4_⟩
      have n5_ : Aside0 (Kd.N (Kd.slice 26 k26) 22 w18 w.heap.size (fun k_ => (P0_ k_ ∨ w.heap.size ≤ k_) ∧ some k_ ≠ (v250 : Value).ownBlock ∧ some k_ ≠ (v253 : Value).ownBlock) v261 y260) := ⟨h5_⟩
      have n6_ : Aside0 (Below w.heap.size w w18) := ⟨h6_⟩
      clear HO0
      clear HB
      clear h0_ h1_ h2_ h3_ h4_ h5_ h6_
      have HO0 := n0_
      have HO248 := n1_
      have HO251 := n2_
      have HO254 := n3_
      have HO259 := n4_
      have HO262 := n5_
      have HB := n6_
      clear n0_ n1_ n2_ n3_ n4_ n5_ n6_
      have hHeld := trivial
      obtain ⟨Ao19, co19, eo19⟩ := Kd.N_slice HO262.out
      (first | subst eo19 | (injection eo19 with f1_ f2_ f3_; have f4_ := f1_.symm; have f5_ := f3_.symm; clear f1_ f2_ f3_; subst f4_; subst f5_))
      refine norm_ (a' := ?_) ?_ ?_
      rotate_left
      · simp only [putAll, Act.put, List.setIfInBounds_toArray, List.set_cons_zero, List.set_cons_succ]
        rfl
      refine one_ (i := 9) (N := some 17) #[true, true, true, true, true, true, true, true, true, true, false, false] rfl rfl (one_of HT_.out (by kernel_rfl)) (by decide) (fun K hK => ?_)
      refine goes_ Try.func48 (by kernel_rfl) rfl #[.slice Ao19 y260.length co19] (by rfl) rfl rfl (by (try simp only [List.map_toArray, List.map_cons, List.map_nil]); first | done | rfl | (simp only [List.length_drop, List.length_take]; rfl)) ?_
      with_reducible refine (api_Pair.calls k _ _ y260 t263 _ ?side1 ?side2 A8.out).mono ?_
      (case side1 => repeat (first | exact (Kd.N_reads' HO262.out).2.2 | (with_reducible refine Kd.C_alloc ?_ _) | (with_reducible refine Kd.C_drewN ?_ _) | (with_reducible refine Kd.C_drew ?_)))
      (case side2 => exact (Kd.N_reads' HO262.out).2.1)
      rintro e w20 ⟨v264, rfl, ho0, hb⟩
      refine ⟨_, rfl, ?_⟩
      have n0_ := Aside0.mk (Kd.V_elder' (by (with_reducible repeat (first | apply Kd.V_alloc | apply Kd.V_drewN | apply Kd.V_drew)); exact HO0.out) (Kd.R_base ho0) hb)
      have n1_ := Aside0.mk (Kd.V_elder' (by (with_reducible repeat (first | apply Kd.V_alloc | apply Kd.V_drewN | apply Kd.V_drew)); exact HO248.out) (Kd.R_base ho0) hb)
      have n2_ := Aside0.mk (Kd.V_elder' (by (with_reducible repeat (first | apply Kd.V_alloc | apply Kd.V_drewN | apply Kd.V_drew)); exact HO259.out) (Kd.R_base ho0) hb)
      have n3_ := Aside0.mk (Kd.N_elder' (by (with_reducible repeat (first | apply Kd.N_alloc | apply Kd.N_drewN | apply Kd.N_drew)); exact HO251.out) (Kd.R_base ho0) hb)
      have n4_ := Aside0.mk (Kd.R_elder' (by (with_reducible repeat (first | apply Kd.R_alloc | apply Kd.R_drewN | apply Kd.R_drew)); exact HO254.out) (Kd.R_base ho0) hb)
      have n5_ := Aside0.mk (Kd.N_elder' (by (with_reducible repeat (first | apply Kd.N_alloc | apply Kd.N_drewN | apply Kd.N_drew)); exact HO262.out) (Kd.R_base ho0) hb)
      have n6_ := Aside0.mk (Kd.R_lower (Kd.R_new' (Kd.R_newM (M := fun k_ => (w.heap.size ≤ k_)) ho0 (below_size (by repeat (first | (with_reducible first | exact HB.out | apply below_alloc | apply pw_below_drewN | apply below_drew1) | exact HB.out))) (fun k_ h_ => h_)) (Kd.R_lt (by (with_reducible repeat (first | apply Kd.R_alloc | apply Kd.R_drewN | apply Kd.R_drew)); exact HO254.out))) (below_size (by repeat (first | (with_reducible first | exact HB.out | apply below_alloc | apply pw_below_drewN | apply below_drew1) | exact HB.out))))
      have n7_ := Aside0.mk (below_step (by repeat (first | (with_reducible first | exact HB.out | apply below_alloc | apply pw_below_drewN | apply below_drew1) | exact HB.out)) hb)
      clear HO0
      clear HO248
      clear HO259
      clear HO251
      clear HO254
      clear HO262
      clear HB
      have HO0 := n0_
      have HO248 := n1_
      have HO259 := n2_
      have HO251 := n3_
      have HO254 := n4_
      have HO262 := n5_
      have HO265 := n6_
      have HB := n7_
      clear n0_ n1_ n2_ n3_ n4_ n5_ n6_ n7_
      (try clear hb)
      (try clear hb2)
      (try clear hk)
      (try clear hi)
      (try clear ho0)
      refine hK.out _ _ trivial (fun hHeld => ?_)
      clear hK K
      refine norm_ (a' := ?_) ?_ ?_
      rotate_left
      · show Act.put _ (some 17) _ = _
        simp only [Act.put, List.setIfInBounds_toArray, List.set_cons_zero, List.set_cons_succ, i64_w, i32_w]
        rfl
      refine pure_ (i := 10) (N := some 2) (v := ?_) (a' := ?_) #[true, true, true, true, true, true, true, true, true, true, true, false] rfl rfl (any_of HT_.out (by kernel_rfl)) (fun _ _ _ h => h) (Or.inl ⟨by rfl, ?_⟩) ?_ ?_
      rotate_left
      · intro w'
        go_simp
        with_reducible rfl
      rotate_left
      · simp only [Act.put, List.setIfInBounds_toArray, List.set_cons_zero, List.set_cons_succ, i64_w, i32_w]
        rfl
      refine pure_ (i := 11) (N := some 3) (v := ?_) (a' := ?_) #[true, true, true, true, true, true, true, true, true, true, true, true] rfl rfl (any_of HT_.out (by kernel_rfl)) (fun _ _ _ h => h) (Or.inl ⟨by rfl, ?_⟩) ?_ ?_
      rotate_left
      · intro w'
        go_simp
        with_reducible rfl
      rotate_left
      · simp only [Act.put, List.setIfInBounds_toArray, List.set_cons_zero, List.set_cons_succ, i64_w, i32_w]
        rfl
      refine done_ (done_of HT_.out (by kernel_rfl)) ?_
      try go_wp2
      go_ret2
      exact ⟨_, _, by first | rfl | (simp [errW_none, errW_some] <;> rfl) | (simp only [← hji2]; first | rfl | (simp [errW_none, errW_some] <;> rfl)) | (simp [*, errW_none, errW_some] <;> rfl), by (with_reducible repeat (first | apply Kd.R_alloc | apply Kd.R_drewN | apply Kd.R_drew)); exact HO254.out, by (with_reducible repeat (first | apply Kd.R_alloc | apply Kd.R_drewN | apply Kd.R_drew)); exact Kd.R_mono HO265.out (fun _ hk => ⟨hk.1.1, hk.2⟩), by repeat (first | (with_reducible first | exact HB.out | apply below_alloc | apply pw_below_drewN | apply below_drew1) | exact HB.out)⟩
    · rw [if_neg c4] at H
      exact absurd H (by simp)
  · rw [if_neg c3] at H
    exact absurd H (by simp)

end Go.Proofs.Ytoiohlmiofplcaa.P
-- Written by a program of this session (xprint.py) over the kit's print.py.
namespace Go.Proofs.Ytoiohlmiofplcaa.P
open Go.RowKit Go.Proofs.YtoiohlmiofplcaaW.PrintWords Go.Proofs.YtoiohlmiofplcaaW.PrintLast Go.Proofs.YtoiohlmiofplcaaW.PrintMore
attribute [local go_sem] max2_int min2_int max_two min_two max_three min_three max_four min_four   -- for this text's walks alone
set_option linter.unusedVariables false
set_option linter.unusedSimpArgs false

/-! ### sextonref09_Split: function 22 -/
def sextonref09_Split.f (l0 : List (S26)) : Option ((List (S26)) × (List (S26))) := if 0 ≤ (wrap64 ((l0.length : Int) / 2)) then (if (wrap64 ((l0.length : Int) / 2)) ≤ (l0.length : Int) then ((sextonref09_Own.f (l0.take ((wrap64 ((l0.length : Int) / 2)) : Int).toNat)).bind fun t270 => ((sextonref09_Own.f (l0.drop ((wrap64 ((l0.length : Int) / 2)) : Int).toNat)).bind fun t277 => (some (t270, t277)))) else (none)) else (none)
def sextonref09_Split.T2 : Bool × List (List Nat × List Nat) := (true, [([], []), ([], []), ([0, 1], [0, 1]), ([2], [2]), ([], []), ([], []), ([4, 5], [4, 5]), ([6, 3], [6]), ([3, 7, 0, 1, 2, 3], [3]), ([7, 8, 0, 1, 2, 3, 4, 5, 6, 7, 8], [7])])
def sextonref09_Split.B2 : List Nat := [0, 0, 3, 7, 0, 0, 48, 127, 255, 511]
theorem sextonref09_Split.tab2 : rtab .any (opsOf Try.f22 2) = sextonref09_Split.T2 := by kernel_rfl
theorem sextonref09_Split.bits2 : waitsOk sextonref09_Split.T2.2 sextonref09_Split.B2 = true := by kernel_rfl
set_option maxHeartbeats 8000000 in
set_option maxRecDepth 100000 in
theorem sextonref09_Split.calls (A0 : Option Addr) (c0 : Nat) (l0 : List (S26)) (r1 : List (S26)) (r2 : List (S26)) (w : World) (hr0 : Kd.C k26 w A0 l0.length l0) (hc0 : l0.length ≤ c0) (h : sextonref09_Split.f l0 = some (r1, r2)) :
    Calls Try.prog 22 #[.slice A0 l0.length c0] w fun e w' => ∃ v0_ v1_ : Value, e = .returned (.tuple #[v0_, v1_]) ∧ Kd.R k26 26 w' w.heap.size (fun k_ => some k_ ≠ (v1_ : Value).ownBlock) v0_ r1 ∧ Kd.R k26 26 w' w.heap.size (fun k_ => some k_ ≠ (v0_ : Value).ownBlock) v1_ r2 ∧ Below w.heap.size w w' := by
  have HR0 := Aside0.mk hr0
  have HC0 := Aside0.mk hc0
  clear hr0 hc0
  have HB := Aside0.mk (Below.refl w.heap.size w)
  have H : (if 0 ≤ (wrap64 ((l0.length : Int) / 2)) then (if (wrap64 ((l0.length : Int) / 2)) ≤ (l0.length : Int) then ((sextonref09_Own.f (l0.take ((wrap64 ((l0.length : Int) / 2)) : Int).toNat)).bind fun t270 => ((sextonref09_Own.f (l0.drop ((wrap64 ((l0.length : Int) / 2)) : Int).toNat)).bind fun t277 => (some (t270, t277)))) else (none)) else (none)) = some (r1, r2) := h
  clear h
  obtain ⟨ji2, hji2⟩ : ∃ j_ : Int, (wrap64 ((l0.length : Int) / 2)) = j_ := ⟨_, rfl⟩
  replace H : (if 0 ≤ (ji2) then (if (ji2) ≤ (l0.length : Int) then ((sextonref09_Own.f (l0.take ((ji2) : Int).toNat)).bind fun t270 => ((sextonref09_Own.f (l0.drop ((ji2) : Int).toNat)).bind fun t277 => (some (t270, t277)))) else (none)) else (none)) = some (r1, r2) := by first | (rw [hji2] at H; exact H) | (simp only [hji2] at H ⊢; exact H)
  have hji2w : (IntKind.i64.wrap ((l0.length : Int) / 2)) = ji2 := (i64_w _).trans hji2
  by_cases c3 : 0 ≤ (ji2)
  · rw [if_pos c3] at H
    have c3b0 := eq_true c3
    have c3b1 : decide (0 ≤ (ji2)) = true := decide_eq_true c3
    clear c3
    by_cases c4 : (ji2) ≤ (l0.length : Int)
    · rw [if_pos c4] at H
      have c4b0 := eq_true c4
      have c4b1 : decide ((ji2) ≤ (l0.length : Int)) = true := decide_eq_true c4
      clear c4
      obtain ⟨y266, hy266⟩ : ∃ y_ : List (S26), y_ = (l0.take ((ji2) : Int).toNat) := ⟨_, rfl⟩
      replace H : ((sextonref09_Own.f y266).bind fun t270 => ((sextonref09_Own.f (l0.drop ((ji2) : Int).toNat)).bind fun t277 => (some (t270, t277)))) = some (r1, r2) := by first | (rw [hy266]; with_reducible exact H) | (have H2_ := (Option.bind_some _ _).symm.trans H; rw [hy266]; with_reducible exact H2_) | (have H2_ := (Option.bind_some _ _).symm.trans H; with_reducible exact H2_) | with_reducible exact H | (rw [hy266]; exact H) | exact H
      have Ny266 := Aside0.mk hy266
      clear hy266
      replace H := Option.bind_eq_some_iff.mp H
      obtain ⟨t270, A50, H⟩ := H
      replace H : ((sextonref09_Own.f (l0.drop ((ji2) : Int).toNat)).bind fun t277 => (some (t270, t277))) = some (r1, r2) := H
      have A5 := Aside0.mk A50
      clear A50
      have c6b0 := eq_true (of_decide_eq_true (by first | (with_reducible assumption) | assumption) : 0 ≤ (ji2))
      have c7b0 := eq_true (of_decide_eq_true (by first | (with_reducible assumption) | assumption) : (ji2) ≤ (l0.length : Int))
      obtain ⟨y273, hy273⟩ : ∃ y_ : List (S26), y_ = (l0.drop ((ji2) : Int).toNat) := ⟨_, rfl⟩
      replace H : ((sextonref09_Own.f y273).bind fun t277 => (some (t270, t277))) = some (r1, r2) := by first | (rw [hy273]; with_reducible exact H) | (have H2_ := (Option.bind_some _ _).symm.trans H; rw [hy273]; with_reducible exact H2_) | (have H2_ := (Option.bind_some _ _).symm.trans H; with_reducible exact H2_) | with_reducible exact H | (rw [hy273]; exact H) | exact H
      have Ny273 := Aside0.mk hy273
      clear hy273
      replace H := Option.bind_eq_some_iff.mp H
      obtain ⟨t277, A80, H⟩ := H
      replace H : (some (t270, t277)) = some (r1, r2) := H
      have A8 := Aside0.mk A80
      clear A80
      simp only [Option.some.injEq, Prod.mk.injEq] at H
      obtain ⟨rfl, rfl⟩ := H
      go_enter Try.func22, Try.ntmps22
      try go_wp2
      have n0_ := Aside0.mk (below_drew1 HB.out)
      clear HB
      have HB := n0_
      clear n0_
      have q10 : ((ji2) : Int) ≤ ((l0.length : Int) : Int) := of_decide_eq_true (by first | (with_reducible assumption) | assumption)
      obtain ⟨i010, hi010, _, hsz10, _⟩ := info_parts info26
      have hroom10 : l0.length ≤ c0 := HC0.out
      have hC10 : Kd.C k26 _ A0 l0.length l0 := HR0.out
      have hcut10 := cut_to (P := Try.prog) 22 26 .i64 Try.underlying22 hi010 A0 l0.length c0 (ji2) (of_decide_eq_true (by first | (with_reducible assumption) | assumption)) q10 hroom10
      have hr10 := Kd.C_take (m := ((ji2) : Int).toNat) hC10 (by omega)
      have hy10 : y266.length = ((ji2) : Int).toNat := (by rw [Ny266.out, List.length_take]; omega)
      rw [← Ny266.out] at hr10
      rw [← hy10] at hcut10
      have HR269 := Aside0.mk hr10
      have HC269 := Aside0.mk (show y266.length ≤ c0 from by omega)
      clear hr10 hC10 hroom10 hi010 hsz10
      have KY10 := Aside0.mk hy10
      clear hy10
      replace q10 := eq_true q10
      have q11 : ((ji2) : Int) ≤ ((l0.length : Int) : Int) := of_decide_eq_true (by first | (with_reducible assumption) | assumption)
      obtain ⟨i011, hi011, _, hsz11, _⟩ := info_parts info26
      have hroom11 : l0.length ≤ c0 := HC0.out
      have hC11 : Kd.C k26 _ A0 l0.length l0 := HR0.out
      have q011 : (0 : Int) ≤ ((ji2) : Int) := of_decide_eq_true (by first | (with_reducible assumption) | assumption)
      have hcut11 := cut_from (P := Try.prog) 22 26 .i64 Try.underlying22 hi011 3 hsz11 A0 l0.length c0 (ji2) q011 q11
      have hr11 := Kd.C_drop (m := ((ji2) : Int).toNat) (c := c0) hC11 (by omega) hroom11
      obtain ⟨A11, hA11⟩ : ∃ A1, A1 = (if c0 = ((ji2) : Int).toNat then A0 else (A0 : Option Addr).map (·.add (((ji2) : Int).toNat * 3))) := ⟨_, rfl⟩
      obtain ⟨c11, hc11⟩ : ∃ c1, c1 = c0 - ((ji2) : Int).toNat := ⟨_, rfl⟩
      have hy11 : y273.length = l0.length - ((ji2) : Int).toNat := (by rw [Ny273.out, List.length_drop] <;> omega)
      rw [show (l0).drop ((ji2) : Int).toNat = y273 from Ny273.out.symm] at hr11
      replace hr11 : Kd.C k26 _ A11 y273.length y273 := (by rw [hA11]; exact hr11)
      rw [← hy11, ← hA11, ← hc11] at hcut11
      have HR276 := Aside0.mk hr11
      have HC276 := Aside0.mk (show y273.length ≤ c11 from by rw [hy11, hc11]; exact Nat.sub_le_sub_right hroom11 _)
      clear hr11 hC11 hroom11 hi011 hsz11 hc11
      have KY11 := Aside0.mk hy11
      have KA11 := Aside0.mk hA11
      clear hy11 hA11
      replace q11 := eq_true q11
      refine start_ (n := 10) (S := fun w' => True) (ds := []) #[false, false, false, false, false, false, false, false, false, false] (by kernel_rfl) rfl rfl trivial (fun hHeld => ?_); refine with_tabW sextonref09_Split.tab2 sextonref09_Split.bits2 (fun HT_ HW_ => ?_)
      generalize w.drew = w9 at HB HR269 HR276 hHeld ⊢
      refine pure_ (i := 0) (N := some 8) (v := ?_) (a' := ?_) #[true, false, false, false, false, false, false, false, false, false] rfl rfl (any_of HT_.out (by kernel_rfl)) (fun _ _ _ h => h) (Or.inl ⟨by rfl, ?_⟩) ?_ ?_
      rotate_left
      · intro w'
        go_simp
        with_reducible rfl
      rotate_left
      · simp only [Act.put, List.setIfInBounds_toArray, List.set_cons_zero, List.set_cons_succ, i64_w, i32_w]
        rfl
      refine pure_ (i := 1) (N := some 9) (v := ?_) (a' := ?_) #[true, true, false, false, false, false, false, false, false, false] rfl rfl (any_of HT_.out (by kernel_rfl)) (fun _ _ _ h => h) (Or.inl ⟨by rfl, ?_⟩) ?_ ?_
      rotate_left
      · intro w'
        go_simp
        with_reducible rfl
      rotate_left
      · simp only [Act.put, List.setIfInBounds_toArray, List.set_cons_zero, List.set_cons_succ, i64_w, i32_w]
        rfl
      refine pure_ (i := 2) (N := some 10) (v := ?_) (a' := ?_) #[true, true, true, false, false, false, false, false, false, false] rfl rfl (any_of HT_.out (by kernel_rfl)) (fun _ _ _ h => h) (Or.inl ⟨by rfl, ?_⟩) ?_ ?_
      rotate_left
      · intro w'
        go_simp
        with_reducible rfl
      rotate_left
      · simp only [Act.put, List.setIfInBounds_toArray, List.set_cons_zero, List.set_cons_succ, i64_w, i32_w]
        rfl
      refine pure_ (i := 4) (N := some 12) (v := ?_) (a' := ?_) #[true, true, true, false, true, false, false, false, false, false] rfl rfl (any_of HT_.out (by kernel_rfl)) (fun _ _ _ h => h) (Or.inl ⟨by rfl, ?_⟩) ?_ ?_
      rotate_left
      · intro w'
        go_simp
        with_reducible rfl
      rotate_left
      · simp only [Act.put, List.setIfInBounds_toArray, List.set_cons_zero, List.set_cons_succ, i64_w, i32_w]
        rfl
      refine pure_ (i := 5) (N := some 13) (v := ?_) (a' := ?_) #[true, true, true, false, true, true, false, false, false, false] rfl rfl (any_of HT_.out (by kernel_rfl)) (fun _ _ _ h => h) (Or.inl ⟨by rfl, ?_⟩) ?_ ?_
      rotate_left
      · intro w'
        go_simp
        with_reducible rfl
      rotate_left
      · simp only [Act.put, List.setIfInBounds_toArray, List.set_cons_zero, List.set_cons_succ, i64_w, i32_w]
        rfl
      refine pure_ (i := 6) (N := some 14) (v := ?_) (a' := ?_) #[true, true, true, false, true, true, true, false, false, false] rfl rfl (any_of HT_.out (by kernel_rfl)) (fun _ _ _ h => h) (Or.inl ⟨by rfl, ?_⟩) ?_ ?_
      rotate_left
      · intro w'
        go_simp
        with_reducible rfl
      rotate_left
      · simp only [Act.put, List.setIfInBounds_toArray, List.set_cons_zero, List.set_cons_succ, i64_w, i32_w]
        rfl
      refine one_ (i := 3) (N := some 11) #[true, true, true, true, true, true, true, false, false, false] rfl rfl (one_of HT_.out (by kernel_rfl)) (by decide) (fun K hK => ?_)
      refine goes_ Try.func14 (by kernel_rfl) rfl #[.slice A0 y266.length c0] (by rfl) rfl rfl (by (try simp only [List.map_toArray, List.map_cons, List.map_nil]); first | done | rfl | (simp only [List.length_drop, List.length_take]; rfl)) ?_
      with_reducible refine (sextonref09_Own.calls _ _ y266 t270 _ ?side1 ?side2 A5.out).mono ?_
      (case side1 => repeat (first | exact (Kd.C_below HR269.out HB.out) | (with_reducible refine Kd.C_alloc ?_ _) | (with_reducible refine Kd.C_drewN ?_ _) | (with_reducible refine Kd.C_drew ?_)))
      (case side2 => exact HC269.out)
      rintro e w12 ⟨v271, rfl, ho0, hb⟩
      refine ⟨_, rfl, ?_⟩
      have n0_ := Aside0.mk (Kd.R_lower ho0 (below_size (by repeat (first | (with_reducible first | exact HB.out | apply below_alloc | apply pw_below_drewN | apply below_drew1) | exact HB.out))))
      have n1_ := Aside0.mk (below_step (by repeat (first | (with_reducible first | exact HB.out | apply below_alloc | apply pw_below_drewN | apply below_drew1) | exact HB.out)) hb)
      clear HB
      have HO272 := n0_
      have HB := n1_
      clear n0_ n1_
      (try clear hb)
      (try clear hb2)
      (try clear hk)
      (try clear hi)
      (try clear ho0)
      refine hK.out _ _ trivial (fun hHeld => ?_)
      clear hK K
      refine norm_ (a' := ?_) ?_ ?_
      rotate_left
      · show Act.put _ (some 11) _ = _
        simp only [Act.put, List.setIfInBounds_toArray, List.set_cons_zero, List.set_cons_succ, i64_w, i32_w]
        rfl
      refine one_ (i := 7) (N := some 15) #[true, true, true, true, true, true, true, true, false, false] rfl rfl (one_of HT_.out (by kernel_rfl)) (by decide) (fun K hK => ?_)
      refine goes_ Try.func14 (by kernel_rfl) rfl #[.slice A11 y273.length c11] (by rfl) rfl rfl (by (try simp only [List.map_toArray, List.map_cons, List.map_nil]); first | done | rfl | (simp only [List.length_drop, List.length_take]; rfl)) ?_
      with_reducible refine (sextonref09_Own.calls _ _ y273 t277 _ ?side1 ?side2 A8.out).mono ?_
      (case side1 => repeat (first | exact (Kd.C_below HR276.out HB.out) | (with_reducible refine Kd.C_alloc ?_ _) | (with_reducible refine Kd.C_drewN ?_ _) | (with_reducible refine Kd.C_drew ?_)))
      (case side2 => exact HC276.out)
      rintro e w13 ⟨v278, rfl, ho0, hb⟩
      refine ⟨_, rfl, ?_⟩
      have n0_ := Aside0.mk (Kd.R_elder' (by (with_reducible repeat (first | apply Kd.R_alloc | apply Kd.R_drewN | apply Kd.R_drew)); exact HO272.out) (Kd.R_base ho0) hb)
      have n1_ := Aside0.mk (Kd.R_lower (Kd.R_new' ho0 (Kd.R_lt (by (with_reducible repeat (first | apply Kd.R_alloc | apply Kd.R_drewN | apply Kd.R_drew)); exact HO272.out))) (below_size (by repeat (first | (with_reducible first | exact HB.out | apply below_alloc | apply pw_below_drewN | apply below_drew1) | exact HB.out))))
      have n2_ := Aside0.mk (below_step (by repeat (first | (with_reducible first | exact HB.out | apply below_alloc | apply pw_below_drewN | apply below_drew1) | exact HB.out)) hb)
      clear HO272
      clear HB
      have HO272 := n0_
      have HO279 := n1_
      have HB := n2_
      clear n0_ n1_ n2_
      (try clear hb)
      (try clear hb2)
      (try clear hk)
      (try clear hi)
      (try clear ho0)
      refine hK.out _ _ trivial (fun hHeld => ?_)
      clear hK K
      refine norm_ (a' := ?_) ?_ ?_
      rotate_left
      · show Act.put _ (some 15) _ = _
        simp only [Act.put, List.setIfInBounds_toArray, List.set_cons_zero, List.set_cons_succ, i64_w, i32_w]
        rfl
      refine pure_ (i := 8) (N := some 2) (v := ?_) (a' := ?_) #[true, true, true, true, true, true, true, true, true, false] rfl rfl (any_of HT_.out (by kernel_rfl)) (fun _ _ _ h => h) (Or.inl ⟨by rfl, ?_⟩) ?_ ?_
      rotate_left
      · intro w'
        go_simp
        with_reducible rfl
      rotate_left
      · simp only [Act.put, List.setIfInBounds_toArray, List.set_cons_zero, List.set_cons_succ, i64_w, i32_w]
        rfl
      refine pure_ (i := 9) (N := some 3) (v := ?_) (a' := ?_) #[true, true, true, true, true, true, true, true, true, true] rfl rfl (any_of HT_.out (by kernel_rfl)) (fun _ _ _ h => h) (Or.inl ⟨by rfl, ?_⟩) ?_ ?_
      rotate_left
      · intro w'
        go_simp
        with_reducible rfl
      rotate_left
      · simp only [Act.put, List.setIfInBounds_toArray, List.set_cons_zero, List.set_cons_succ, i64_w, i32_w]
        rfl
      refine done_ (done_of HT_.out (by kernel_rfl)) ?_
      try go_wp2
      go_ret2
      exact ⟨_, _, by first | rfl | (simp [errW_none, errW_some] <;> rfl) | (simp only [← hji2]; first | rfl | (simp [errW_none, errW_some] <;> rfl)) | (simp [*, errW_none, errW_some] <;> rfl), by (with_reducible repeat (first | apply Kd.R_alloc | apply Kd.R_drewN | apply Kd.R_drew)); exact Kd.R_mono HO272.out (fun _ hk => hk.2), by (with_reducible repeat (first | apply Kd.R_alloc | apply Kd.R_drewN | apply Kd.R_drew)); exact Kd.R_mono HO279.out (fun _ hk => hk.2), by repeat (first | (with_reducible first | exact HB.out | apply below_alloc | apply pw_below_drewN | apply below_drew1) | exact HB.out)⟩
    · rw [if_neg c4] at H
      exact absurd H (by simp)
  · rw [if_neg c3] at H
    exact absurd H (by simp)

end Go.Proofs.Ytoiohlmiofplcaa.P
-- Written by a program of this session (xprint.py) over the kit's print.py.
namespace Go.Proofs.Ytoiohlmiofplcaa.P
open Go.RowKit Go.Proofs.YtoiohlmiofplcaaW.PrintWords Go.Proofs.YtoiohlmiofplcaaW.PrintLast Go.Proofs.YtoiohlmiofplcaaW.PrintMore
attribute [local go_sem] max2_int min2_int max_two min_two max_three min_three max_four min_four   -- for this text's walks alone
set_option linter.unusedVariables false
set_option linter.unusedSimpArgs false

/-! ### node_Level: function 23 -/
def node_Level.f (k : Nat) (l0 : List (S26)) (l1 : List (S26)) (a2 : Int) : Option ((List (S26)) × (List (S26)) × Int) := if a2 < 1 then (some (([] : List (S26)), ([] : List (S26)), 1)) else ((api_Pair.f k (([l0, l1] : List (List (S26))))).bind fun t283 => (if (t283.length : Int) ≤ a2 then (some (t283, ([] : List (S26)), 0)) else ((node_Split.f k t283).bind fun bt286 => (some (bt286.1, bt286.2, 0)))))
theorem node_Level.mono : ∀ a0 a1 a2 k, LeO (node_Level.f k a0 a1 a2) (node_Level.f (k + 1) a0 a1 a2) := by
  intro a0 a1 a2 k
  unfold node_Level.f
  repeat' first
      | (with_reducible exact api_Pair.mono _ _)
      | (with_reducible exact node_Split.mono _ _)
      | (with_reducible exact LeO.refl _)
      | (with_reducible exact LeO.none _)
      | (with_reducible refine LeO.ite ?_ ?_)
      | (with_reducible refine LeO.bind ?_ (fun _ => ?_))
      | exact api_Pair.mono _ _
      | exact node_Split.mono _ _
      | exact LeO.none _
      | refine LeO.ite ?_ ?_
      | refine LeO.bind ?_ (fun _ => ?_)
set_option maxHeartbeats 8000000 in
set_option maxRecDepth 100000 in
theorem node_Level.calls (k : Nat) (P0_ : Nat → Prop) (A0 : Option Addr) (c0 : Nat) (l0 : List (S26)) (P1_ : Nat → Prop) (A1 : Option Addr) (c1 : Nat) (l1 : List (S26)) (a2 : Int) (r1 : List (S26)) (r2 : List (S26)) (r3 : Int) (w : World) (hs0 : Kd.V k26 26 w w.heap.size (fun k_ => P0_ k_) (.slice A0 l0.length c0) l0) (hs1 : Kd.V k26 26 w w.heap.size (fun k_ => P1_ k_) (.slice A1 l1.length c1) l1) (h : node_Level.f k l0 l1 a2 = some (r1, r2, r3)) :
    Calls Try.prog 23 #[.slice A0 l0.length c0, .slice A1 l1.length c1, .int .i64 a2] w fun e w' => ∃ v0_ v1_ : Value, e = .returned (.tuple #[v0_, v1_, .int .i64 r3]) ∧ Kd.R k26 26 w' w.heap.size (fun k_ => (w.heap.size ≤ k_) ∧ some k_ ≠ (v1_ : Value).ownBlock) v0_ r1 ∧ Kd.R k26 26 w' w.heap.size (fun k_ => (w.heap.size ≤ k_) ∧ some k_ ≠ (v0_ : Value).ownBlock) v1_ r2 ∧ Below w.heap.size w w' := by
  have HO0 := Aside0.mk (show Kd.V k26 26 w w.heap.size (fun k_ => ((P0_ k_ ∨ P1_ k_) ∨ w.heap.size ≤ k_)) (.slice A0 l0.length c0) l0 from Kd.V_mono hs0 (fun k_ hk => .inl (.inl hk)))
  have HO1 := Aside0.mk (show Kd.V k26 26 w w.heap.size (fun k_ => ((P0_ k_ ∨ P1_ k_) ∨ w.heap.size ≤ k_)) (.slice A1 l1.length c1) l1 from Kd.V_mono hs1 (fun k_ hk => .inl (.inr hk)))
  have HB := Aside0.mk (Below.refl w.heap.size w)
  have H : (if a2 < 1 then (some (([] : List (S26)), ([] : List (S26)), 1)) else ((api_Pair.f k (([l0, l1] : List (List (S26))))).bind fun t283 => (if (t283.length : Int) ≤ a2 then (some (t283, ([] : List (S26)), 0)) else ((node_Split.f k t283).bind fun bt286 => (some (bt286.1, bt286.2, 0)))))) = some (r1, r2, r3) := h
  clear h
  by_cases c4 : a2 < 1
  · rw [if_pos c4] at H
    have c4b0 : decide (a2 < 1) = true := decide_eq_true c4
    clear c4
    simp only [Option.some.injEq, Prod.mk.injEq] at H
    obtain ⟨rfl, rfl, rfl⟩ := H
    go_enter Try.func23, Try.ntmps23
    go_wp2
    go_ret3
    exact ⟨_, _, by first | rfl | (simp [errW_none, errW_some] <;> rfl) | (simp [*, errW_none, errW_some] <;> rfl), by first | exact Kd.R_nil _ _ _ _ _ | exact Kd.N_nil _ _ _ _ _ | exact Kd.V_nil _ _ _ _ _ | exact Kd.Q_nil _ _ _ _ _ | exact Kd.S_nil _ _ _ _ _, by first | exact Kd.R_nil _ _ _ _ _ | exact Kd.N_nil _ _ _ _ _ | exact Kd.V_nil _ _ _ _ _ | exact Kd.Q_nil _ _ _ _ _ | exact Kd.S_nil _ _ _ _ _, by repeat (first | (with_reducible first | exact HB.out | apply below_alloc | apply pw_below_drewN | apply below_drew1) | exact HB.out)⟩
  · rw [if_neg c4] at H
    have c4b0 : decide (a2 < 1) = false := decide_eq_false c4
    clear c4
    obtain ⟨y280, hy280⟩ : ∃ y_ : List (List (S26)), y_ = (([l0, l1] : List (List (S26)))) := ⟨_, rfl⟩
    replace H : ((api_Pair.f k y280).bind fun t283 => (if (t283.length : Int) ≤ a2 then (some (t283, ([] : List (S26)), 0)) else ((node_Split.f k t283).bind fun bt286 => (some (bt286.1, bt286.2, 0))))) = some (r1, r2, r3) := by first | (rw [hy280]; with_reducible exact H) | (have H2_ := (Option.bind_some _ _).symm.trans H; rw [hy280]; with_reducible exact H2_) | (have H2_ := (Option.bind_some _ _).symm.trans H; with_reducible exact H2_) | with_reducible exact H | (rw [hy280]; exact H) | exact H
    have Ny280 := Aside0.mk hy280
    clear hy280
    replace H := Option.bind_eq_some_iff.mp H
    obtain ⟨t283, A50, H⟩ := H
    replace H : (if (t283.length : Int) ≤ a2 then (some (t283, ([] : List (S26)), 0)) else ((node_Split.f k t283).bind fun bt286 => (some (bt286.1, bt286.2, 0)))) = some (r1, r2, r3) := H
    have A5 := Aside0.mk A50
    clear A50
    by_cases c6 : (t283.length : Int) ≤ a2
    · rw [if_pos c6] at H
      have c6b0 : decide ((t283.length : Int) ≤ a2) = true := decide_eq_true c6
      clear c6
      simp only [Option.some.injEq, Prod.mk.injEq] at H
      obtain ⟨rfl, rfl, rfl⟩ := H
      go_enter Try.func23, Try.ntmps23
      go_wp2_with (first | ((with_reducible refine gate_dst (N := 16) rfl ?_); refine Kd.N_lit (Kd.slice 26 k26) _ 22 ?hg (N' := 16) ?hd (xs := ([l0, l1] : List (List (S26)))) (inner := [.slice A0 l0.length c0, .slice A1 l1.length c1]) (ok := (fun k_ => ((P0_ k_ ∨ P1_ k_) ∨ w.heap.size ≤ k_))) (okp := (fun k_ => ((P0_ k_ ∨ P1_ k_) ∨ w.heap.size ≤ k_))) ?hr ?hp (fun _ hk => hk) ((show ∀ k_, w.heap.size ≤ k_ → (fun k_ => ((P0_ k_ ∨ P1_ k_) ∨ w.heap.size ≤ k_)) k_ from fun k_ hk => (.inr (Nat.le_trans (below_size (by repeat (first | (with_reducible first | exact HB.out | apply below_alloc | apply pw_below_drewN | apply below_drew1) | exact HB.out))) hk))) _ (Nat.le_refl _)) (Below.refl _ _) (Nat.le_refl _) (by simp) ?_; (case hd => rfl); (case hg => rfl); (case hr => first | (go_simp; done) | (go_simp; rfl)); (case hp => exact (Reps.one (show Kd.FK (Kd.slice 26 k26) _ _ l0 [.slice A0 l0.length c0] from (Kd.FK_slice_mk (Kd.V_reads' (Kd.V_mono (ok' := (fun k_ => ((P0_ k_ ∨ P1_ k_) ∨ w.heap.size ≤ k_))) (HO0.out) (fun k_ hk => hk))).2.1 (Kd.V_F (Kd.V_mono (ok' := (fun k_ => ((P0_ k_ ∨ P1_ k_) ∨ w.heap.size ≤ k_))) (HO0.out) (fun k_ hk => hk))))) (Reps.one (show Kd.FK (Kd.slice 26 k26) _ _ l1 [.slice A1 l1.length c1] from (Kd.FK_slice_mk (Kd.V_reads' (Kd.V_mono (ok' := (fun k_ => ((P0_ k_ ∨ P1_ k_) ∨ w.heap.size ≤ k_))) (HO1.out) (fun k_ hk => hk))).2.1 (Kd.V_F (Kd.V_mono (ok' := (fun k_ => ((P0_ k_ ∨ P1_ k_) ∨ w.heap.size ≤ k_))) (HO1.out) (fun k_ hk => hk))))) (Reps.none _ _)))); intro v281 w7 ho8 hb hg_ hnew_; clear hg_ hnew_; (first | rw [← Ny280.out] at ho8 | (simp only [Int.reduceToNat] at ho8; rw [← Ny280.out] at ho8)); have n0_ := Aside0.mk (Kd.V_elder' (by (with_reducible repeat (first | apply Kd.V_alloc | apply Kd.V_drewN | apply Kd.V_drew)); exact HO0.out) (Kd.N_base ho8) hb); have n1_ := Aside0.mk (Kd.V_elder' (by (with_reducible repeat (first | apply Kd.V_alloc | apply Kd.V_drewN | apply Kd.V_drew)); exact HO1.out) (Kd.N_base ho8) hb); have n2_ := Aside0.mk (Kd.N_lower ho8 (below_size (by repeat (first | (with_reducible first | exact HB.out | apply below_alloc | apply pw_below_drewN | apply below_drew1) | exact HB.out)))); have n3_ := Aside0.mk (below_step (by repeat (first | (with_reducible first | exact HB.out | apply below_alloc | apply pw_below_drewN | apply below_drew1) | exact HB.out)) hb); clear HO0; clear HO1; clear HB; have HO0 := n0_; have HO1 := n1_; have HO282 := n2_; have HB := n3_; clear n0_ n1_ n2_ n3_; clear hb ho8; obtain ⟨Ao9, co9, eo9⟩ := Kd.N_slice HO282.out; subst eo9) | ((with_reducible refine gate_callee (f := 48) rfl ?_); refine goesL_ (some 17) rfl rfl Try.func48 (by kernel_rfl) rfl #[.slice Ao9 y280.length co9] rfl (by (try simp only [List.map_toArray, List.map_cons, List.map_nil]); first | done | rfl | (simp only [List.length_drop, List.length_take]; rfl)) ?_; (with_reducible refine (api_Pair.calls k _ _ y280 t283 _ ?side1 ?side2 A5.out).mono ?_); (case side1 => repeat (first | exact (Kd.N_reads' HO282.out).2.2 | (with_reducible refine Kd.C_alloc ?_ _) | (with_reducible refine Kd.C_drewN ?_ _) | (with_reducible refine Kd.C_drew ?_))); (case side2 => exact (Kd.N_reads' HO282.out).2.1); rintro e w10 ⟨v284, rfl, ho0, hb⟩; refine ⟨_, rfl, ?_⟩; have n0_ := Aside0.mk (Kd.V_elder' (by (with_reducible repeat (first | apply Kd.V_alloc | apply Kd.V_drewN | apply Kd.V_drew)); exact HO0.out) (Kd.R_base ho0) hb); have n1_ := Aside0.mk (Kd.V_elder' (by (with_reducible repeat (first | apply Kd.V_alloc | apply Kd.V_drewN | apply Kd.V_drew)); exact HO1.out) (Kd.R_base ho0) hb); have n2_ := Aside0.mk (Kd.N_elder' (by (with_reducible repeat (first | apply Kd.N_alloc | apply Kd.N_drewN | apply Kd.N_drew)); exact HO282.out) (Kd.R_base ho0) hb); have n3_ := Aside0.mk (Kd.R_lower (Kd.R_newM (M := fun k_ => (w.heap.size ≤ k_)) ho0 (below_size (by repeat (first | (with_reducible first | exact HB.out | apply below_alloc | apply pw_below_drewN | apply below_drew1) | exact HB.out))) (fun k_ h_ => h_)) (below_size (by repeat (first | (with_reducible first | exact HB.out | apply below_alloc | apply pw_below_drewN | apply below_drew1) | exact HB.out)))); have n4_ := Aside0.mk (below_step (by repeat (first | (with_reducible first | exact HB.out | apply below_alloc | apply pw_below_drewN | apply below_drew1) | exact HB.out)) hb); clear HO0; clear HO1; clear HO282; clear HB; have HO0 := n0_; have HO1 := n1_; have HO282 := n2_; have HO285 := n3_; have HB := n4_; clear n0_ n1_ n2_ n3_ n4_; (try clear hb); (try clear hb2); (try clear hk); (try clear hi); (try clear ho0); obtain ⟨Ao11, co11, eo11⟩ := Kd.R_slice HO285.out; subst eo11))
      go_ret3
      exact ⟨_, _, by first | rfl | (simp [errW_none, errW_some] <;> rfl) | (simp [*, errW_none, errW_some] <;> rfl), by (with_reducible repeat (first | apply Kd.R_alloc | apply Kd.R_drewN | apply Kd.R_drew)); exact Kd.R_mono HO285.out (fun _ hk => ⟨hk.1, (by simp [Value.ownBlock])⟩), by first | exact Kd.R_nil _ _ _ _ _ | exact Kd.N_nil _ _ _ _ _ | exact Kd.V_nil _ _ _ _ _ | exact Kd.Q_nil _ _ _ _ _ | exact Kd.S_nil _ _ _ _ _, by repeat (first | (with_reducible first | exact HB.out | apply below_alloc | apply pw_below_drewN | apply below_drew1) | exact HB.out)⟩
    · rw [if_neg c6] at H
      have c6b0 : decide ((t283.length : Int) ≤ a2) = false := decide_eq_false c6
      clear c6
      replace H := Option.bind_eq_some_iff.mp H
      obtain ⟨⟨t286, t289⟩, A120, H⟩ := H
      replace H : (some (t286, t289, 0)) = some (r1, r2, r3) := H
      have A12 := Aside0.mk A120
      clear A120
      simp only [Option.some.injEq, Prod.mk.injEq] at H
      obtain ⟨rfl, rfl, rfl⟩ := H
      go_enter Try.func23, Try.ntmps23
      go_wp2_with (first | ((with_reducible refine gate_dst (N := 16) rfl ?_); refine Kd.N_lit (Kd.slice 26 k26) _ 22 ?hg (N' := 16) ?hd (xs := ([l0, l1] : List (List (S26)))) (inner := [.slice A0 l0.length c0, .slice A1 l1.length c1]) (ok := (fun k_ => ((P0_ k_ ∨ P1_ k_) ∨ w.heap.size ≤ k_))) (okp := (fun k_ => ((P0_ k_ ∨ P1_ k_) ∨ w.heap.size ≤ k_))) ?hr ?hp (fun _ hk => hk) ((show ∀ k_, w.heap.size ≤ k_ → (fun k_ => ((P0_ k_ ∨ P1_ k_) ∨ w.heap.size ≤ k_)) k_ from fun k_ hk => (.inr (Nat.le_trans (below_size (by repeat (first | (with_reducible first | exact HB.out | apply below_alloc | apply pw_below_drewN | apply below_drew1) | exact HB.out))) hk))) _ (Nat.le_refl _)) (Below.refl _ _) (Nat.le_refl _) (by simp) ?_; (case hd => rfl); (case hg => rfl); (case hr => first | (go_simp; done) | (go_simp; rfl)); (case hp => exact (Reps.one (show Kd.FK (Kd.slice 26 k26) _ _ l0 [.slice A0 l0.length c0] from (Kd.FK_slice_mk (Kd.V_reads' (Kd.V_mono (ok' := (fun k_ => ((P0_ k_ ∨ P1_ k_) ∨ w.heap.size ≤ k_))) (HO0.out) (fun k_ hk => hk))).2.1 (Kd.V_F (Kd.V_mono (ok' := (fun k_ => ((P0_ k_ ∨ P1_ k_) ∨ w.heap.size ≤ k_))) (HO0.out) (fun k_ hk => hk))))) (Reps.one (show Kd.FK (Kd.slice 26 k26) _ _ l1 [.slice A1 l1.length c1] from (Kd.FK_slice_mk (Kd.V_reads' (Kd.V_mono (ok' := (fun k_ => ((P0_ k_ ∨ P1_ k_) ∨ w.heap.size ≤ k_))) (HO1.out) (fun k_ hk => hk))).2.1 (Kd.V_F (Kd.V_mono (ok' := (fun k_ => ((P0_ k_ ∨ P1_ k_) ∨ w.heap.size ≤ k_))) (HO1.out) (fun k_ hk => hk))))) (Reps.none _ _)))); intro v281 w13 ho14 hb hg_ hnew_; clear hg_ hnew_; (first | rw [← Ny280.out] at ho14 | (simp only [Int.reduceToNat] at ho14; rw [← Ny280.out] at ho14)); have n0_ := Aside0.mk (Kd.V_elder' (by (with_reducible repeat (first | apply Kd.V_alloc | apply Kd.V_drewN | apply Kd.V_drew)); exact HO0.out) (Kd.N_base ho14) hb); have n1_ := Aside0.mk (Kd.V_elder' (by (with_reducible repeat (first | apply Kd.V_alloc | apply Kd.V_drewN | apply Kd.V_drew)); exact HO1.out) (Kd.N_base ho14) hb); have n2_ := Aside0.mk (Kd.N_lower ho14 (below_size (by repeat (first | (with_reducible first | exact HB.out | apply below_alloc | apply pw_below_drewN | apply below_drew1) | exact HB.out)))); have n3_ := Aside0.mk (below_step (by repeat (first | (with_reducible first | exact HB.out | apply below_alloc | apply pw_below_drewN | apply below_drew1) | exact HB.out)) hb); clear HO0; clear HO1; clear HB; have HO0 := n0_; have HO1 := n1_; have HO282 := n2_; have HB := n3_; clear n0_ n1_ n2_ n3_; clear hb ho14; obtain ⟨Ao15, co15, eo15⟩ := Kd.N_slice HO282.out; subst eo15) | ((with_reducible refine gate_callee (f := 48) rfl ?_); refine goesL_ (some 17) rfl rfl Try.func48 (by kernel_rfl) rfl #[.slice Ao15 y280.length co15] rfl (by (try simp only [List.map_toArray, List.map_cons, List.map_nil]); first | done | rfl | (simp only [List.length_drop, List.length_take]; rfl)) ?_; (with_reducible refine (api_Pair.calls k _ _ y280 t283 _ ?side1 ?side2 A5.out).mono ?_); (case side1 => repeat (first | exact (Kd.N_reads' HO282.out).2.2 | (with_reducible refine Kd.C_alloc ?_ _) | (with_reducible refine Kd.C_drewN ?_ _) | (with_reducible refine Kd.C_drew ?_))); (case side2 => exact (Kd.N_reads' HO282.out).2.1); rintro e w16 ⟨v284, rfl, ho0, hb⟩; refine ⟨_, rfl, ?_⟩; have n0_ := Aside0.mk (Kd.V_elder' (by (with_reducible repeat (first | apply Kd.V_alloc | apply Kd.V_drewN | apply Kd.V_drew)); exact HO0.out) (Kd.R_base ho0) hb); have n1_ := Aside0.mk (Kd.V_elder' (by (with_reducible repeat (first | apply Kd.V_alloc | apply Kd.V_drewN | apply Kd.V_drew)); exact HO1.out) (Kd.R_base ho0) hb); have n2_ := Aside0.mk (Kd.N_elder' (by (with_reducible repeat (first | apply Kd.N_alloc | apply Kd.N_drewN | apply Kd.N_drew)); exact HO282.out) (Kd.R_base ho0) hb); have n3_ := Aside0.mk (Kd.R_lower (Kd.R_newM (M := fun k_ => (w.heap.size ≤ k_)) ho0 (below_size (by repeat (first | (with_reducible first | exact HB.out | apply below_alloc | apply pw_below_drewN | apply below_drew1) | exact HB.out))) (fun k_ h_ => h_)) (below_size (by repeat (first | (with_reducible first | exact HB.out | apply below_alloc | apply pw_below_drewN | apply below_drew1) | exact HB.out)))); have n4_ := Aside0.mk (below_step (by repeat (first | (with_reducible first | exact HB.out | apply below_alloc | apply pw_below_drewN | apply below_drew1) | exact HB.out)) hb); clear HO0; clear HO1; clear HO282; clear HB; have HO0 := n0_; have HO1 := n1_; have HO282 := n2_; have HO285 := n3_; have HB := n4_; clear n0_ n1_ n2_ n3_ n4_; (try clear hb); (try clear hb2); (try clear hk); (try clear hi); (try clear ho0); obtain ⟨Ao17, co17, eo17⟩ := Kd.R_slice HO285.out; subst eo17) | ((with_reducible refine gate_callee (f := 21) rfl ?_); refine goesL_ (some 25) rfl rfl Try.func21 (by kernel_rfl) rfl #[.slice Ao17 t283.length co17] rfl (by (try simp only [List.map_toArray, List.map_cons, List.map_nil]); first | done | rfl | (simp only [List.length_drop, List.length_take]; rfl)) ?_; (with_reducible refine (node_Split.calls k (fun k_ => some k_ = (.slice Ao17 t283.length co17 : Value).ownBlock) _ _ t283 t286 t289 _ ?side1 A12.out).mono ?_); (case side1 => exact Kd.R_V (Kd.R_tight rfl (Kd.R_apart' (HO285.out) (Kd.N_typed HO282.out) (by decide)))); rintro e w18 ⟨v287, v290, rfl, ho0, ho1, hb⟩; refine ⟨_, rfl, ?_⟩; have n0_ := Aside0.mk (Kd.V_mono (Kd.V_told (Kd.V_told (Kd.V_old (by (with_reducible repeat (first | apply Kd.V_alloc | apply Kd.V_drewN | apply Kd.V_drew)); exact HO0.out) hb) (Kd.R_base ho0)) (Kd.R_base ho1)) (fun _ h_ => h_.1)); have n1_ := Aside0.mk (Kd.V_mono (Kd.V_told (Kd.V_told (Kd.V_old (by (with_reducible repeat (first | apply Kd.V_alloc | apply Kd.V_drewN | apply Kd.V_drew)); exact HO1.out) hb) (Kd.R_base ho0)) (Kd.R_base ho1)) (fun _ h_ => h_.1)); have n2_ := Aside0.mk (Kd.N_mono (Kd.N_told (Kd.N_told (Kd.N_old (by (with_reducible repeat (first | apply Kd.N_alloc | apply Kd.N_drewN | apply Kd.N_drew)); exact HO282.out) hb) (Kd.R_base ho0)) (Kd.R_base ho1)) (fun _ h_ => h_.1)); have n3_ := Aside0.mk (Kd.R_mono (Kd.R_told (Kd.R_told (Kd.R_old (by (with_reducible repeat (first | apply Kd.R_alloc | apply Kd.R_drewN | apply Kd.R_drew)); exact HO285.out) hb) (Kd.R_base ho0)) (Kd.R_base ho1)) (fun _ h_ => h_.1)); have n4_ := Aside0.mk (Kd.R_lower (Kd.R_new' (Kd.R_newM (M := fun k_ => (w.heap.size ≤ k_)) (Kd.R_mono (ok' := fun k_ => some k_ ≠ (v290 : Value).ownBlock) ho0 (fun _ hk_ => hk_.2)) (below_size (by repeat (first | (with_reducible first | exact HB.out | apply below_alloc | apply pw_below_drewN | apply below_drew1) | exact HB.out))) (fun k_ h_ => h_)) (Kd.R_lt (by (with_reducible repeat (first | apply Kd.R_alloc | apply Kd.R_drewN | apply Kd.R_drew)); exact HO285.out))) (below_size (by repeat (first | (with_reducible first | exact HB.out | apply below_alloc | apply pw_below_drewN | apply below_drew1) | exact HB.out)))); have n5_ := Aside0.mk (Kd.R_lower (Kd.R_new' (Kd.R_newM (M := fun k_ => (w.heap.size ≤ k_)) (Kd.R_mono (ok' := fun k_ => some k_ ≠ (v287 : Value).ownBlock) ho1 (fun _ hk_ => hk_.2)) (below_size (by repeat (first | (with_reducible first | exact HB.out | apply below_alloc | apply pw_below_drewN | apply below_drew1) | exact HB.out))) (fun k_ h_ => h_)) (Kd.R_lt (by (with_reducible repeat (first | apply Kd.R_alloc | apply Kd.R_drewN | apply Kd.R_drew)); exact HO285.out))) (below_size (by repeat (first | (with_reducible first | exact HB.out | apply below_alloc | apply pw_below_drewN | apply below_drew1) | exact HB.out)))); have n6_ := Aside0.mk (below_step (by repeat (first | (with_reducible first | exact HB.out | apply below_alloc | apply pw_below_drewN | apply below_drew1) | exact HB.out)) hb); clear HO0; clear HO1; clear HO282; clear HO285; clear HB; have HO0 := n0_; have HO1 := n1_; have HO282 := n2_; have HO285 := n3_; have HO288 := n4_; have HO291 := n5_; have HB := n6_; clear n0_ n1_ n2_ n3_ n4_ n5_ n6_; (try clear hb); (try clear hb2); (try clear hk); (try clear hi); (try clear ho0); (try clear ho1)))
      go_ret3
      exact ⟨_, _, by first | rfl | (simp [errW_none, errW_some] <;> rfl) | (simp [*, errW_none, errW_some] <;> rfl), by (with_reducible repeat (first | apply Kd.R_alloc | apply Kd.R_drewN | apply Kd.R_drew)); exact Kd.R_mono HO288.out (fun _ hk => ⟨hk.1.1, hk.1.2⟩), by (with_reducible repeat (first | apply Kd.R_alloc | apply Kd.R_drewN | apply Kd.R_drew)); exact Kd.R_mono HO291.out (fun _ hk => ⟨hk.1.1, hk.1.2⟩), by repeat (first | (with_reducible first | exact HB.out | apply below_alloc | apply pw_below_drewN | apply below_drew1) | exact HB.out)⟩

end Go.Proofs.Ytoiohlmiofplcaa.P
-- Written by a program of this session (xprint.py) over the kit's print.py.
namespace Go.Proofs.Ytoiohlmiofplcaa.P
open Go.RowKit Go.Proofs.YtoiohlmiofplcaaW.PrintWords Go.Proofs.YtoiohlmiofplcaaW.PrintLast Go.Proofs.YtoiohlmiofplcaaW.PrintMore
attribute [local go_sem] max2_int min2_int max_two min_two max_three min_three max_four min_four   -- for this text's walks alone
set_option linter.unusedVariables false
set_option linter.unusedSimpArgs false

/-! ### sextonref09_Level: function 24 -/
def sextonref09_Level.f (l0 : List (S26)) (l1 : List (S26)) (a2 : Int) : Option ((List (S26)) × (List (S26)) × Int) := if a2 < 1 then (some (([] : List (S26)), ([] : List (S26)), 1)) else ((sextonref09_Own.f l0).bind fun t292 => (if t292.length + l1.length < 3518437208883 then ((some (t292 ++ l1 : List (S26))).bind fun y295 => (if (y295.length : Int) ≤ a2 then (some (y295, ([] : List (S26)), 0)) else ((sextonref09_Split.f y295).bind fun bt298 => (some (bt298.1, bt298.2, 0))))) else (none)))
set_option maxHeartbeats 8000000 in
set_option maxRecDepth 100000 in
theorem sextonref09_Level.calls (A0 : Option Addr) (c0 : Nat) (l0 : List (S26)) (A1 : Option Addr) (c1 : Nat) (l1 : List (S26)) (a2 : Int) (r1 : List (S26)) (r2 : List (S26)) (r3 : Int) (w : World) (hr0 : Kd.C k26 w A0 l0.length l0) (hc0 : l0.length ≤ c0) (hr1 : Kd.C k26 w A1 l1.length l1) (hc1 : l1.length ≤ c1) (h : sextonref09_Level.f l0 l1 a2 = some (r1, r2, r3)) :
    Calls Try.prog 24 #[.slice A0 l0.length c0, .slice A1 l1.length c1, .int .i64 a2] w fun e w' => ∃ v0_ v1_ : Value, e = .returned (.tuple #[v0_, v1_, .int .i64 r3]) ∧ Kd.R k26 26 w' w.heap.size (fun k_ => some k_ ≠ (v1_ : Value).ownBlock) v0_ r1 ∧ Kd.R k26 26 w' w.heap.size (fun k_ => some k_ ≠ (v0_ : Value).ownBlock) v1_ r2 ∧ Below w.heap.size w w' := by
  have HR0 := Aside0.mk hr0
  have HC0 := Aside0.mk hc0
  clear hr0 hc0
  have HR1 := Aside0.mk hr1
  have HC1 := Aside0.mk hc1
  clear hr1 hc1
  have HB := Aside0.mk (Below.refl w.heap.size w)
  have H : (if a2 < 1 then (some (([] : List (S26)), ([] : List (S26)), 1)) else ((sextonref09_Own.f l0).bind fun t292 => (if t292.length + l1.length < 3518437208883 then ((some (t292 ++ l1 : List (S26))).bind fun y295 => (if (y295.length : Int) ≤ a2 then (some (y295, ([] : List (S26)), 0)) else ((sextonref09_Split.f y295).bind fun bt298 => (some (bt298.1, bt298.2, 0))))) else (none)))) = some (r1, r2, r3) := h
  clear h
  by_cases c4 : a2 < 1
  · rw [if_pos c4] at H
    have c4b0 : decide (a2 < 1) = true := decide_eq_true c4
    clear c4
    simp only [Option.some.injEq, Prod.mk.injEq] at H
    obtain ⟨rfl, rfl, rfl⟩ := H
    go_enter Try.func24, Try.ntmps24
    go_wp2
    go_ret3
    exact ⟨_, _, by first | rfl | (simp [errW_none, errW_some] <;> rfl) | (simp [*, errW_none, errW_some] <;> rfl), by first | exact Kd.R_nil _ _ _ _ _ | exact Kd.N_nil _ _ _ _ _ | exact Kd.V_nil _ _ _ _ _ | exact Kd.Q_nil _ _ _ _ _ | exact Kd.S_nil _ _ _ _ _, by first | exact Kd.R_nil _ _ _ _ _ | exact Kd.N_nil _ _ _ _ _ | exact Kd.V_nil _ _ _ _ _ | exact Kd.Q_nil _ _ _ _ _ | exact Kd.S_nil _ _ _ _ _, by repeat (first | (with_reducible first | exact HB.out | apply below_alloc | apply pw_below_drewN | apply below_drew1) | exact HB.out)⟩
  · rw [if_neg c4] at H
    have c4b0 : decide (a2 < 1) = false := decide_eq_false c4
    clear c4
    replace H := Option.bind_eq_some_iff.mp H
    obtain ⟨t292, A50, H⟩ := H
    replace H : (if t292.length + l1.length < 3518437208883 then ((some (t292 ++ l1 : List (S26))).bind fun y295 => (if (y295.length : Int) ≤ a2 then (some (y295, ([] : List (S26)), 0)) else ((sextonref09_Split.f y295).bind fun bt298 => (some (bt298.1, bt298.2, 0))))) else (none)) = some (r1, r2, r3) := H
    have A5 := Aside0.mk A50
    clear A50
    by_cases c6 : t292.length + l1.length < 3518437208883
    · rw [if_pos c6] at H
      have LMc6 := Aside0.mk c6
      clear c6
      obtain ⟨y295, hy295⟩ : ∃ y_ : List (S26), y_ = (t292 ++ l1) := ⟨_, rfl⟩
      replace H : (if (y295.length : Int) ≤ a2 then (some (y295, ([] : List (S26)), 0)) else ((sextonref09_Split.f y295).bind fun bt298 => (some (bt298.1, bt298.2, 0)))) = some (r1, r2, r3) := by first | (rw [hy295]; with_reducible exact H) | (have H2_ := (Option.bind_some _ _).symm.trans H; rw [hy295]; with_reducible exact H2_) | (have H2_ := (Option.bind_some _ _).symm.trans H; with_reducible exact H2_) | with_reducible exact H | (rw [hy295]; exact H) | exact H
      have Ny295 := Aside0.mk hy295
      clear hy295
      by_cases c7 : (y295.length : Int) ≤ a2
      · rw [if_pos c7] at H
        have c7b0 : decide ((y295.length : Int) ≤ a2) = true := decide_eq_true c7
        clear c7
        simp only [Option.some.injEq, Prod.mk.injEq] at H
        obtain ⟨rfl, rfl, rfl⟩ := H
        go_enter Try.func24, Try.ntmps24
        go_wp2_with (first | ((with_reducible refine gate_callee (f := 14) rfl ?_); refine goesL_ (some 15) rfl rfl Try.func14 (by kernel_rfl) rfl #[.slice A0 l0.length c0] rfl (by (try simp only [List.map_toArray, List.map_cons, List.map_nil]); first | done | rfl | (simp only [List.length_drop, List.length_take]; rfl)) ?_; (with_reducible refine (sextonref09_Own.calls _ _ l0 t292 _ ?side1 ?side2 A5.out).mono ?_); (case side1 => repeat (first | exact HR0.out | (with_reducible refine Kd.C_alloc ?_ _) | (with_reducible refine Kd.C_drewN ?_ _) | (with_reducible refine Kd.C_drew ?_))); (case side2 => exact HC0.out); rintro e w8 ⟨v293, rfl, ho0, hb⟩; refine ⟨_, rfl, ?_⟩; have n0_ := Aside0.mk (Kd.R_lower ho0 (below_size (by repeat (first | (with_reducible first | exact HB.out | apply below_alloc | apply pw_below_drewN | apply below_drew1) | exact HB.out)))); have n1_ := Aside0.mk (below_step (by repeat (first | (with_reducible first | exact HB.out | apply below_alloc | apply pw_below_drewN | apply below_drew1) | exact HB.out)) hb); clear HB; have HO294 := n0_; have HB := n1_; clear n0_ n1_; (try clear hb); (try clear hb2); (try clear hk); (try clear hi); (try clear ho0)) | ((with_reducible refine gate_builtin (b := .append) (xs := #[.tmp 16, .tmp 17]) rfl ?_); at_builtin; refine Kd.R_append_rows k26 (w0 := w) w.heap.size rfl (.tmp 16) (.tmp 17) 22 26 (.agg #[(.string ⟨#[]⟩), (.int .i64 0), (.string ⟨#[]⟩)]) 40 rfl Try.underlying22 info26 rfl (by decide) (by omega) v293 t292 l1 _ _ _ (fun _ => True) (fun _ => False) rfl rfl ?aO ?aR (fun _ _ h => h) (fun _ h => h.elim) ?aF ?aB ?aS ?aL ?_; (case aR => repeat (first | exact (Kd.C_below HR1.out HB.out) | (with_reducible refine Kd.C_alloc ?_ _) | (with_reducible refine Kd.C_drewN ?_ _) | (with_reducible refine Kd.C_drew ?_))); (case aB => exact (by repeat (first | (with_reducible first | exact HB.out | apply below_alloc | apply pw_below_drewN | apply below_drew1) | exact HB.out))); (case aF => exact (fun _ _ => trivial)); (case aO => exact (by (with_reducible repeat (first | apply Kd.R_alloc | apply Kd.R_drewN | apply Kd.R_drew)); exact HO294.out)); (case aS => exact (below_size (by repeat (first | (with_reducible first | exact HB.out | apply below_alloc | apply pw_below_drewN | apply below_drew1) | exact HB.out)))); (case aL => have := LMc6.out; omega); intro v296 w9 ho hb hg hat; rw [← Ny295.out] at ho; have n0_ := Aside0.mk (hb); have n1_ := Aside0.mk (ho); clear HB; clear HO294; have HB := n0_; have HO297 := n1_; clear n0_ n1_; clear ho hb hg hat; obtain ⟨Ao10, co10, eo10⟩ := Kd.R_slice HO297.out; subst eo10))
        go_ret3
        exact ⟨_, _, by first | rfl | (simp [errW_none, errW_some] <;> rfl) | (simp [*, errW_none, errW_some] <;> rfl), by (with_reducible repeat (first | apply Kd.R_alloc | apply Kd.R_drewN | apply Kd.R_drew)); exact Kd.R_mono HO297.out (fun _ hk => (by simp [Value.ownBlock])), by first | exact Kd.R_nil _ _ _ _ _ | exact Kd.N_nil _ _ _ _ _ | exact Kd.V_nil _ _ _ _ _ | exact Kd.Q_nil _ _ _ _ _ | exact Kd.S_nil _ _ _ _ _, by repeat (first | (with_reducible first | exact HB.out | apply below_alloc | apply pw_below_drewN | apply below_drew1) | exact HB.out)⟩
      · rw [if_neg c7] at H
        have c7b0 : decide ((y295.length : Int) ≤ a2) = false := decide_eq_false c7
        clear c7
        replace H := Option.bind_eq_some_iff.mp H
        obtain ⟨⟨t298, t299⟩, A110, H⟩ := H
        replace H : (some (t298, t299, 0)) = some (r1, r2, r3) := H
        have A11 := Aside0.mk A110
        clear A110
        simp only [Option.some.injEq, Prod.mk.injEq] at H
        obtain ⟨rfl, rfl, rfl⟩ := H
        go_enter Try.func24, Try.ntmps24
        go_wp2_with (first | ((with_reducible refine gate_callee (f := 14) rfl ?_); refine goesL_ (some 15) rfl rfl Try.func14 (by kernel_rfl) rfl #[.slice A0 l0.length c0] rfl (by (try simp only [List.map_toArray, List.map_cons, List.map_nil]); first | done | rfl | (simp only [List.length_drop, List.length_take]; rfl)) ?_; (with_reducible refine (sextonref09_Own.calls _ _ l0 t292 _ ?side1 ?side2 A5.out).mono ?_); (case side1 => repeat (first | exact HR0.out | (with_reducible refine Kd.C_alloc ?_ _) | (with_reducible refine Kd.C_drewN ?_ _) | (with_reducible refine Kd.C_drew ?_))); (case side2 => exact HC0.out); rintro e w12 ⟨v293, rfl, ho0, hb⟩; refine ⟨_, rfl, ?_⟩; have n0_ := Aside0.mk (Kd.R_lower ho0 (below_size (by repeat (first | (with_reducible first | exact HB.out | apply below_alloc | apply pw_below_drewN | apply below_drew1) | exact HB.out)))); have n1_ := Aside0.mk (below_step (by repeat (first | (with_reducible first | exact HB.out | apply below_alloc | apply pw_below_drewN | apply below_drew1) | exact HB.out)) hb); clear HB; have HO294 := n0_; have HB := n1_; clear n0_ n1_; (try clear hb); (try clear hb2); (try clear hk); (try clear hi); (try clear ho0)) | ((with_reducible refine gate_builtin (b := .append) (xs := #[.tmp 16, .tmp 17]) rfl ?_); at_builtin; refine Kd.R_append_rows k26 (w0 := w) w.heap.size rfl (.tmp 16) (.tmp 17) 22 26 (.agg #[(.string ⟨#[]⟩), (.int .i64 0), (.string ⟨#[]⟩)]) 40 rfl Try.underlying22 info26 rfl (by decide) (by omega) v293 t292 l1 _ _ _ (fun _ => True) (fun _ => False) rfl rfl ?aO ?aR (fun _ _ h => h) (fun _ h => h.elim) ?aF ?aB ?aS ?aL ?_; (case aR => repeat (first | exact (Kd.C_below HR1.out HB.out) | (with_reducible refine Kd.C_alloc ?_ _) | (with_reducible refine Kd.C_drewN ?_ _) | (with_reducible refine Kd.C_drew ?_))); (case aB => exact (by repeat (first | (with_reducible first | exact HB.out | apply below_alloc | apply pw_below_drewN | apply below_drew1) | exact HB.out))); (case aF => exact (fun _ _ => trivial)); (case aO => exact (by (with_reducible repeat (first | apply Kd.R_alloc | apply Kd.R_drewN | apply Kd.R_drew)); exact HO294.out)); (case aS => exact (below_size (by repeat (first | (with_reducible first | exact HB.out | apply below_alloc | apply pw_below_drewN | apply below_drew1) | exact HB.out)))); (case aL => have := LMc6.out; omega); intro v296 w13 ho hb hg hat; rw [← Ny295.out] at ho; have n0_ := Aside0.mk (hb); have n1_ := Aside0.mk (ho); clear HB; clear HO294; have HB := n0_; have HO297 := n1_; clear n0_ n1_; clear ho hb hg hat; obtain ⟨Ao14, co14, eo14⟩ := Kd.R_slice HO297.out; subst eo14) | ((with_reducible refine gate_callee (f := 22) rfl ?_); refine goesL_ (some 26) rfl rfl Try.func22 (by kernel_rfl) rfl #[.slice Ao14 y295.length co14] rfl (by (try simp only [List.map_toArray, List.map_cons, List.map_nil]); first | done | rfl | (simp only [List.length_drop, List.length_take]; rfl)) ?_; (with_reducible refine (sextonref09_Split.calls _ _ y295 t298 t299 _ ?side1 ?side2 A11.out).mono ?_); (case side1 => repeat (first | exact (Kd.R_reads' HO297.out).2.2 | (with_reducible refine Kd.C_alloc ?_ _) | (with_reducible refine Kd.C_drewN ?_ _) | (with_reducible refine Kd.C_drew ?_))); (case side2 => exact (Kd.R_reads' HO297.out).2.1); rintro e w15 ⟨v300, v302, rfl, ho0, ho1, hb⟩; refine ⟨_, rfl, ?_⟩; have n0_ := Aside0.mk (Kd.R_mono (Kd.R_told (Kd.R_told (Kd.R_old (by (with_reducible repeat (first | apply Kd.R_alloc | apply Kd.R_drewN | apply Kd.R_drew)); exact HO297.out) hb) (Kd.R_base ho0)) (Kd.R_base ho1)) (fun _ h_ => h_.1)); have n1_ := Aside0.mk (Kd.R_lower (Kd.R_new' ho0 (Kd.R_lt (by (with_reducible repeat (first | apply Kd.R_alloc | apply Kd.R_drewN | apply Kd.R_drew)); exact HO297.out))) (below_size (by repeat (first | (with_reducible first | exact HB.out | apply below_alloc | apply pw_below_drewN | apply below_drew1) | exact HB.out)))); have n2_ := Aside0.mk (Kd.R_lower (Kd.R_new' ho1 (Kd.R_lt (by (with_reducible repeat (first | apply Kd.R_alloc | apply Kd.R_drewN | apply Kd.R_drew)); exact HO297.out))) (below_size (by repeat (first | (with_reducible first | exact HB.out | apply below_alloc | apply pw_below_drewN | apply below_drew1) | exact HB.out)))); have n3_ := Aside0.mk (below_step (by repeat (first | (with_reducible first | exact HB.out | apply below_alloc | apply pw_below_drewN | apply below_drew1) | exact HB.out)) hb); clear HO297; clear HB; have HO297 := n0_; have HO301 := n1_; have HO303 := n2_; have HB := n3_; clear n0_ n1_ n2_ n3_; (try clear hb); (try clear hb2); (try clear hk); (try clear hi); (try clear ho0); (try clear ho1)))
        go_ret3
        exact ⟨_, _, by first | rfl | (simp [errW_none, errW_some] <;> rfl) | (simp [*, errW_none, errW_some] <;> rfl), by (with_reducible repeat (first | apply Kd.R_alloc | apply Kd.R_drewN | apply Kd.R_drew)); exact Kd.R_mono HO301.out (fun _ hk => hk.1), by (with_reducible repeat (first | apply Kd.R_alloc | apply Kd.R_drewN | apply Kd.R_drew)); exact Kd.R_mono HO303.out (fun _ hk => hk.1), by repeat (first | (with_reducible first | exact HB.out | apply below_alloc | apply pw_below_drewN | apply below_drew1) | exact HB.out)⟩
    · rw [if_neg c6] at H
      exact absurd H (by simp)

end Go.Proofs.Ytoiohlmiofplcaa.P
-- Written by a program of this session (xprint.py) over the kit's print.py.
namespace Go.Proofs.Ytoiohlmiofplcaa.P
open Go.RowKit Go.Proofs.YtoiohlmiofplcaaW.PrintWords Go.Proofs.YtoiohlmiofplcaaW.PrintLast Go.Proofs.YtoiohlmiofplcaaW.PrintMore
attribute [local go_sem] max2_int min2_int max_two min_two max_three min_three max_four min_four   -- for this text's walks alone
set_option linter.unusedVariables false
set_option linter.unusedSimpArgs false

theorem eqA26 (d : Nat) (w : World) (x0 y0 : ByteArray) (x1 y1 : Int) (x2 y2 : ByteArray) :
    (Op.equalIn (d + 3) 26 (.agg #[.string x0, .int .i64 x1, .string x2]) (.agg #[.string y0, .int .i64 y1, .string y2])).run Try.prog w = .ok ((x0.toList == y0.toList && (x1 == y1)) && (x2.toList == y2.toList)) w := by
  refine eqA_of Try.underlying26 (by kernel_rfl) ?_
  refine eqf_cons (by rfl) (by go_simp) (by go_simp) (eqA24 (d + 0) w _ _ _ _) ?_
  exact eqf_last (by rfl) (by go_simp; rfl) (by go_simp; rfl) (by go_simp)
end Go.Proofs.Ytoiohlmiofplcaa.P
-- Written by a program of this session (xprint.py) over the kit's print.py.
namespace Go.Proofs.Ytoiohlmiofplcaa.P
open Go.RowKit Go.Proofs.YtoiohlmiofplcaaW.PrintWords Go.Proofs.YtoiohlmiofplcaaW.PrintLast Go.Proofs.YtoiohlmiofplcaaW.PrintMore
attribute [local go_sem] max2_int min2_int max_two min_two max_three min_three max_four min_four   -- for this text's walks alone
set_option linter.unusedVariables false
set_option linter.unusedSimpArgs false

attribute [local go_sem high] eqA26
/-! ### sextonref09_Same: function 25 -/
def sextonref09_Same.l0 : Nat → List (S26) → List (S26) → Int → Option (Bool)
  | 0, _, _, _ => none
  | k + 1, x0, x1, x5 => if x5 < (x0.length : Int) then (if 0 ≤ x5 then (if x5 < (x1.length : Int) then (if ((!((((rd_T26 x0 x5).f0.f0).toList) == (((rd_T26 x1 x5).f0.f0).toList)) || (!(((rd_T26 x0 x5).f0.f1) == ((rd_T26 x1 x5).f0.f1)))) || (!((((rd_T26 x0 x5).f1).toList) == (((rd_T26 x1 x5).f1).toList)))) = true then (some false) else (sextonref09_Same.l0 k x0 x1 (wrap64 (x5 + 1)))) else (none)) else (none)) else (some true)
def sextonref09_Same.f (k : Nat) (l0 : List (S26)) (l1 : List (S26)) : Option (Bool) := if (l0.length : Int) = (l1.length : Int) then (sextonref09_Same.l0 k l0 l1 0) else (some false)
theorem sextonref09_Same.mono_l : ∀ k, (∀ y0 y1 y2, LeO (sextonref09_Same.l0 k y0 y1 y2) (sextonref09_Same.l0 (k + 1) y0 y1 y2))
  | 0 => fun _ _ _ r h => by simp [sextonref09_Same.l0] at h
  | k + 1 => by
    have ih0 := sextonref09_Same.mono_l k
    · intro y0 y1 y2
      unfold sextonref09_Same.l0
      repeat' first
      | (with_reducible exact ih0 _ _ _)
      | (with_reducible exact LeO.refl _)
      | (with_reducible exact LeO.none _)
      | (with_reducible refine LeO.ite ?_ ?_)
      | (with_reducible refine LeO.bind ?_ (fun _ => ?_))
      | exact ih0 _ _ _
      | exact LeO.none _
      | refine LeO.ite ?_ ?_
      | refine LeO.bind ?_ (fun _ => ?_)
theorem sextonref09_Same.mono : ∀ a0 a1 k, LeO (sextonref09_Same.f k a0 a1) (sextonref09_Same.f (k + 1) a0 a1) := by
  intro a0 a1 k
  have ih0 := sextonref09_Same.mono_l k
  unfold sextonref09_Same.f
  repeat' first
      | (with_reducible exact ih0 _ _ _)
      | (with_reducible exact LeO.refl _)
      | (with_reducible exact LeO.none _)
      | (with_reducible refine LeO.ite ?_ ?_)
      | (with_reducible refine LeO.bind ?_ (fun _ => ?_))
      | exact ih0 _ _ _
      | exact LeO.none _
      | refine LeO.ite ?_ ?_
      | refine LeO.bind ?_ (fun _ => ?_)
set_option maxHeartbeats 8000000 in
set_option maxRecDepth 100000 in
theorem sextonref09_Same.calls (k : Nat) (A0 : Option Addr) (c0 : Nat) (l0 : List (S26)) (A1 : Option Addr) (c1 : Nat) (l1 : List (S26)) (r : Bool) (w : World) (hr0 : Kd.C k26 w A0 l0.length l0) (hc0 : l0.length ≤ c0) (hr1 : Kd.C k26 w A1 l1.length l1) (hc1 : l1.length ≤ c1) (h : sextonref09_Same.f k l0 l1 = some r) :
    Calls Try.prog 25 #[.slice A0 l0.length c0, .slice A1 l1.length c1] w fun e w' => e = .returned (.bool r) ∧ Drawn0 w w' := by
  have hu26 := Try.underlying26
  have HR0 := Aside0.mk hr0
  have HC0 := Aside0.mk hc0
  clear hr0 hc0
  have HR1 := Aside0.mk hr1
  have HC1 := Aside0.mk hc1
  clear hr1 hc1
  have H : (if (l0.length : Int) = (l1.length : Int) then (sextonref09_Same.l0 k l0 l1 0) else (some false)) = some r := h
  clear h
  by_cases c3 : (l0.length : Int) = (l1.length : Int)
  · rw [if_pos c3] at H
    have c3b0 : ((l0.length : Int) == (l1.length : Int)) = true := beq_iff_eq.mpr c3
    have c3b1 : ((l0.length : Int) != (l1.length : Int)) = false := bne_eq_false_iff_eq.mpr c3
    have c3b2 : (l0.length == l1.length) = true := by first | simpa using c3 | (simp at c3 ⊢; omega)
    clear c3
    have H' := Aside0.mk H
    clear H
    go_enter Try.func25, Try.ntmps25
    go_wp2
    repeat (go_quiet (fail); try go_wp2)
    go_loopg [5] k (fun kq v5 w' => ∃ (x5_1 : Int), v5 = .int .i64 x5_1 ∧ Aside0 (sextonref09_Same.l0 kq l0 l1 x5_1 = some r) ∧ Aside0 (kq ≤ k) ∧ Drawn0 w w')
    case atStart => exact ⟨(0), (by first | rfl | (simp; done) | (simp [*]; done)), H', ⟨Nat.le_refl _⟩, by repeat (first | exact Drawn0.refl _ | apply Drawn0.step)⟩
    case round =>
      clear H'
      try clear c1
      try clear c2
      try clear p2
      try clear c3
      try clear c3b0
      try clear c3b1
      try clear c3b2
      obtain ⟨x5_1, rfl, HA, HK1, ⟨m1, rfl⟩⟩ := hrel
      cases gk with
      | zero => exact absurd HA.out (by simp [sextonref09_Same.l0])
      | succ k1 =>
        have H := HA.out
        clear HA
        simp only [sextonref09_Same.l0] at H
        by_cases c4 : x5_1 < (l0.length : Int)
        · rw [if_pos c4] at H
          have c4b0 : decide (x5_1 < (l0.length : Int)) = true := decide_eq_true c4
          clear c4
          by_cases c5 : 0 ≤ x5_1
          · rw [if_pos c5] at H
            have c5b0 : decide (0 ≤ x5_1) = true := decide_eq_true c5
            clear c5
            by_cases c6 : x5_1 < (l1.length : Int)
            · rw [if_pos c6] at H
              have c6b0 : decide (x5_1 < (l1.length : Int)) = true := decide_eq_true c6
              clear c6
              by_cases c7 : ((!((((rd_T26 l0 x5_1).f0.f0).toList) == (((rd_T26 l1 x5_1).f0.f0).toList)) || (!(((rd_T26 l0 x5_1).f0.f1) == ((rd_T26 l1 x5_1).f0.f1)))) || (!((((rd_T26 l0 x5_1).f1).toList) == (((rd_T26 l1 x5_1).f1).toList)))) = true
              · rw [if_pos c7] at H
                have c7b0 : ((!((((rd_T26 l0 x5_1).f0.f0).toList) == (((rd_T26 l1 x5_1).f0.f0).toList)) || (!(((rd_T26 l0 x5_1).f0.f1) == ((rd_T26 l1 x5_1).f0.f1)))) || (!((((rd_T26 l0 x5_1).f1).toList) == (((rd_T26 l1 x5_1).f1).toList)))) = true := c7
                clear c7
                obtain rfl := Option.some.inj H
                have p304 : 0 ≤ (x5_1 : Int) := of_decide_eq_true (by first | (with_reducible assumption) | assumption)
                have q304 : x5_1 < (l0.length : Int) := of_decide_eq_true (by first | (with_reducible assumption) | assumption)
                obtain ⟨ad304, e304, hx304_0, hx304_1, hx304_2⟩ := at_T26 HR0.out x5_1 p304 q304
                cases e304
                replace p304 := eq_true p304
                replace q304 := eq_true q304
                have p305 : 0 ≤ (x5_1 : Int) := of_decide_eq_true (by first | (with_reducible assumption) | assumption)
                have q305 : x5_1 < (l1.length : Int) := of_decide_eq_true (by first | (with_reducible assumption) | assumption)
                obtain ⟨ad305, e305, hx305_0, hx305_1, hx305_2⟩ := at_T26 HR1.out x5_1 p305 q305
                cases e305
                replace p305 := eq_true p305
                replace q305 := eq_true q305
                go_wp2
                repeat (go_quiet (fail); try go_wp2)
                go_ret
                exact ⟨by first | rfl | (simp; done) | (simp [*]; done), by repeat (first | exact Drawn0.refl _ | apply Drawn0.step)⟩
              · rw [if_neg c7] at H
                have c7b0 : ((!((((rd_T26 l0 x5_1).f0.f0).toList) == (((rd_T26 l1 x5_1).f0.f0).toList)) || (!(((rd_T26 l0 x5_1).f0.f1) == ((rd_T26 l1 x5_1).f0.f1)))) || (!((((rd_T26 l0 x5_1).f1).toList) == (((rd_T26 l1 x5_1).f1).toList)))) = false := by simpa using c7
                clear c7
                have H' := Aside0.mk H
                clear H
                have p304 : 0 ≤ (x5_1 : Int) := of_decide_eq_true (by first | (with_reducible assumption) | assumption)
                have q304 : x5_1 < (l0.length : Int) := of_decide_eq_true (by first | (with_reducible assumption) | assumption)
                obtain ⟨ad304, e304, hx304_0, hx304_1, hx304_2⟩ := at_T26 HR0.out x5_1 p304 q304
                cases e304
                replace p304 := eq_true p304
                replace q304 := eq_true q304
                have p305 : 0 ≤ (x5_1 : Int) := of_decide_eq_true (by first | (with_reducible assumption) | assumption)
                have q305 : x5_1 < (l1.length : Int) := of_decide_eq_true (by first | (with_reducible assumption) | assumption)
                obtain ⟨ad305, e305, hx305_0, hx305_1, hx305_2⟩ := at_T26 HR1.out x5_1 p305 q305
                cases e305
                replace p305 := eq_true p305
                replace q305 := eq_true q305
                go_wp2
                repeat (go_quiet (fail); try go_wp2)
                go_roundg k1
                case measure => have := HK1.out; omega
                case rel => exact ⟨(wrap64 (x5_1 + 1)), (by first | rfl | (simp; done) | (simp [*]; done)), H', ⟨by have := HK1.out; omega⟩, by repeat (first | exact Drawn0.refl _ | apply Drawn0.step)⟩
            · rw [if_neg c6] at H
              exact absurd H (by simp)
          · rw [if_neg c5] at H
            exact absurd H (by simp)
        · rw [if_neg c4] at H
          have c4b0 : decide (x5_1 < (l0.length : Int)) = false := decide_eq_false c4
          clear c4
          obtain rfl := Option.some.inj H
          go_wp2
          repeat (go_quiet (fail); try go_wp2)
          go_ret
          exact ⟨by first | rfl | (simp; done) | (simp [*]; done), by repeat (first | exact Drawn0.refl _ | apply Drawn0.step)⟩
  · rw [if_neg c3] at H
    have c3b0 : ((l0.length : Int) == (l1.length : Int)) = false := beq_eq_false_iff_ne.mpr c3
    have c3b1 : ((l0.length : Int) != (l1.length : Int)) = true := bne_iff_ne.mpr c3
    have c3b2 : (l0.length == l1.length) = false := by first | simpa using c3 | (simp at c3 ⊢; omega)
    obtain rfl := Option.some.inj H
    go_enter Try.func25, Try.ntmps25
    go_wp2
    repeat (go_quiet (fail); try go_wp2)
    go_ret
    exact ⟨by first | rfl | (simp; done) | (simp [*]; done), by repeat (first | exact Drawn0.refl _ | apply Drawn0.step)⟩

end Go.Proofs.Ytoiohlmiofplcaa.P
