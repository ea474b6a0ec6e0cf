/-
  Texts of the claim MsgApart, joined.
-/
import Derived.Test.YtfejidinfcmfjaaPx0
import Derived.Test.YtfejidinfcmfjaaCMsgApartc
import Derived.Test.YtfejidinfcmfjaaCMsgAparta
import Derived.Test.YtfejidinfcmfjaaCMsgApartb
import Derived.WalkKit
import Derived.ProofKit
import Derived.OpenShut
import Derived.ShutString
import Derived.ChangeOld
import Derived.Below
import Derived.SizedLaws
import Derived.ChangeArms
import Derived.Test.YtfejidinfcmfjaaWWords
-- Written by a program of this session (xprint.py) over the kit's print.py.
namespace Go.Proofs.Ytfejidinfcmfjaa.P
open Go.RowKit Go.Proofs.YtfejidinfcmfjaaW.PrintWords Go.Proofs.YtfejidinfcmfjaaW.PrintLast Go.Proofs.YtfejidinfcmfjaaW.PrintMore
attribute [local go_sem] max2_int min2_int max_two min_two max_three min_three max_four min_four   -- for this text's walks alone
set_option linter.unusedVariables false
set_option linter.unusedSimpArgs false

/-! ### sextonref01_Row: function 63 -/
def sextonref01_Row.l0 : Nat → List ByteArray → ByteArray → Int → Option (ByteArray × Int)
  | 0, _, _, _ => none
  | k + 1, x0, x4, x6 => if x6 < (x0.length : Int) then (if 0 ≤ x6 then ((sextonref01_Text.f k (rdOf ByteArray.empty x0 x6)).bind fun bt344 => (if bt344.2 = 0 then (if x4.size + bt344.1.size ≤ 9223372036854775807 then (sextonref01_Row.l0 k x0 (x4 ++ bt344.1) (wrap64 (x6 + 1))) else (none)) else (some ((⟨#[]⟩ : ByteArray), bt344.2)))) else (none)) else (some (x4, 0))
def sextonref01_Row.f (k : Nat) (l0 : List ByteArray) : Option (ByteArray × Int) := if (l0.length : Int) > 1000 then (some ((⟨#[]⟩ : ByteArray), 2)) else ((sextonref01_Number.f k (l0.length : Int)).bind fun bt341 => (sextonref01_Row.l0 k l0 bt341.1 0))
theorem sextonref01_Row.mono_l : ∀ k, (∀ y0 y1 y2, LeO (sextonref01_Row.l0 k y0 y1 y2) (sextonref01_Row.l0 (k + 1) y0 y1 y2))
  | 0 => fun _ _ _ r h => by simp [sextonref01_Row.l0] at h
  | k + 1 => by
    have ih0 := sextonref01_Row.mono_l k
    · intro y0 y1 y2
      unfold sextonref01_Row.l0
      repeat' first
      | (with_reducible exact ih0 _ _ _)
      | (with_reducible exact sextonref01_Number.mono _ _)
      | (with_reducible exact sextonref01_Text.mono _ _)
      | (with_reducible exact LeO.refl _)
      | (with_reducible exact LeO.none _)
      | (with_reducible refine LeO.ite ?_ ?_)
      | (with_reducible refine LeO.bind ?_ (fun _ => ?_))
      | exact ih0 _ _ _
      | exact sextonref01_Number.mono _ _
      | exact sextonref01_Text.mono _ _
      | exact LeO.none _
      | refine LeO.ite ?_ ?_
      | refine LeO.bind ?_ (fun _ => ?_)
theorem sextonref01_Row.mono : ∀ a0 k, LeO (sextonref01_Row.f k a0) (sextonref01_Row.f (k + 1) a0) := by
  intro a0 k
  have ih0 := sextonref01_Row.mono_l k
  unfold sextonref01_Row.f
  repeat' first
      | (with_reducible exact ih0 _ _ _)
      | (with_reducible exact sextonref01_Number.mono _ _)
      | (with_reducible exact sextonref01_Text.mono _ _)
      | (with_reducible exact LeO.refl _)
      | (with_reducible exact LeO.none _)
      | (with_reducible refine LeO.ite ?_ ?_)
      | (with_reducible refine LeO.bind ?_ (fun _ => ?_))
      | exact ih0 _ _ _
      | exact sextonref01_Number.mono _ _
      | exact sextonref01_Text.mono _ _
      | exact LeO.none _
      | refine LeO.ite ?_ ?_
      | refine LeO.bind ?_ (fun _ => ?_)
set_option maxHeartbeats 8000000 in
set_option maxRecDepth 100000 in
theorem sextonref01_Row.calls (k : Nat) (A0 : Option Addr) (c0 : Nat) (l0 : List ByteArray) (r1 : ByteArray) (r2 : Int) (w : World) (hr0 : Kd.C Kd.string w A0 l0.length l0) (hc0 : l0.length ≤ c0) (h : sextonref01_Row.f k l0 = some (r1, r2)) :
    Calls Try.prog 63 #[.slice A0 l0.length c0] w fun e w' => e = .returned (.tuple #[.string r1, .int .i64 r2]) ∧ Below w.heap.size w w' := by
  have HR0 := Aside0.mk hr0
  have HC0 := Aside0.mk hc0
  clear hr0 hc0
  have HB := Aside0.mk (Below.refl w.heap.size w)
  have H : (if (l0.length : Int) > 1000 then (some ((⟨#[]⟩ : ByteArray), 2)) else ((sextonref01_Number.f k (l0.length : Int)).bind fun bt341 => (sextonref01_Row.l0 k l0 bt341.1 0))) = some (r1, r2) := h
  clear h
  by_cases c2 : (l0.length : Int) > 1000
  · rw [if_pos c2] at H
    have c2b0 : decide (1000 < (l0.length : Int)) = true := decide_eq_true c2
    have c2b1 : decide (1000 < l0.length) = true := decide_eq_true (by omega)
    clear c2
    simp only [Option.some.injEq, Prod.mk.injEq] at H
    obtain ⟨rfl, rfl⟩ := H
    go_enter Try.func63, Try.ntmps63
    go_wp2
    go_ret2
    exact ⟨by first | rfl | (simp [errW_none, errW_some] <;> rfl) | (simp [*, errW_none, errW_some] <;> rfl), by repeat (first | (with_reducible first | exact HB.out | apply below_alloc | apply pw_below_drewN | apply below_drew1) | exact HB.out)⟩
  · rw [if_neg c2] at H
    have c2b0 : decide (1000 < (l0.length : Int)) = false := decide_eq_false c2
    have c2b1 : decide (1000 < l0.length) = false := decide_eq_false (by omega)
    clear c2
    replace H := Option.bind_eq_some_iff.mp H
    obtain ⟨⟨t341, t342⟩, A30, H⟩ := H
    replace H : (sextonref01_Row.l0 k l0 t341 0) = some (r1, r2) := H
    have A3 := Aside0.mk A30
    clear A30
    have H' := Aside0.mk H
    clear H
    go_enter Try.func63, Try.ntmps63
    go_wp2_with (first | ((with_reducible refine gate_callee (f := 62) rfl ?_); refine goesL_ (some 15) rfl rfl Try.func62 (by kernel_rfl) rfl #[.int .i64 (l0.length : Int)] rfl (by (try simp only [List.map_toArray, List.map_cons, List.map_nil]); first | done | rfl | (simp only [List.length_drop, List.length_take]; rfl)) ?_; (with_reducible refine (sextonref01_Number.calls k (l0.length : Int) t341 t342 _ A3.out).mono ?_); rintro e w4 ⟨rfl, hb⟩; refine ⟨_, rfl, ?_⟩; have n0_ := Aside0.mk (below_step (by repeat (first | (with_reducible first | exact HB.out | apply below_alloc | apply pw_below_drewN | apply below_drew1) | exact HB.out)) hb); clear HB; have HB := n0_; clear n0_; (try clear hb); (try clear hb2); (try clear hk); (try clear hi)))
    go_loopg [4, 6] k (fun kq v4 v6 w' => ∃ (x4_1 : ByteArray) (x6_1 : Int), v4 = .string x4_1 ∧ v6 = .int .i64 x6_1 ∧ Aside0 (sextonref01_Row.l0 kq l0 x4_1 x6_1 = some (r1, r2)) ∧ Aside0 (kq ≤ k) ∧ Aside0 (Below w.heap.size w w'))
    case atStart => exact ⟨(t341), (0), (by first | rfl | (simp; done) | (simp [*]; done)), (by first | rfl | (simp; done) | (simp [*]; done)), H', ⟨Nat.le_refl _⟩, ⟨by repeat (first | (with_reducible first | exact HB.out | apply below_alloc | apply pw_below_drewN | apply below_drew1) | exact HB.out)⟩⟩
    case round =>
      clear H'
      try clear c2
      try clear c2b0
      try clear c2b1
      try clear p2
      obtain ⟨x4_1, x6_1, rfl, rfl, HA, HK1, HB⟩ := hrel
      cases gk with
      | zero => exact absurd HA.out (by simp [sextonref01_Row.l0])
      | succ k1 =>
        have H := HA.out
        clear HA
        simp only [sextonref01_Row.l0] at H
        by_cases c5 : x6_1 < (l0.length : Int)
        · rw [if_pos c5] at H
          have c5b0 : decide (x6_1 < (l0.length : Int)) = true := decide_eq_true c5
          clear c5
          by_cases c6 : 0 ≤ x6_1
          · rw [if_pos c6] at H
            have c6b0 : decide (0 ≤ x6_1) = true := decide_eq_true c6
            clear c6
            replace H := Option.bind_eq_some_iff.mp H
            obtain ⟨⟨t344, t345⟩, A70, H⟩ := H
            replace H : (if t345 = 0 then (if x4_1.size + t344.size ≤ 9223372036854775807 then (sextonref01_Row.l0 k1 l0 (x4_1 ++ t344) (wrap64 (x6_1 + 1))) else (none)) else (some ((⟨#[]⟩ : ByteArray), t345))) = some (r1, r2) := H
            have A7 := Aside0.mk A70
            clear A70
            by_cases c8 : t345 = 0
            · rw [if_pos c8] at H
              have c8b0 : (t345 == 0) = true := beq_iff_eq.mpr c8
              have c8b1 : (t345 != 0) = false := bne_eq_false_iff_eq.mpr c8
              clear c8
              by_cases c9 : x4_1.size + t344.size ≤ 9223372036854775807
              · rw [if_pos c9] at H
                have c9b0 := eq_true c9
                have c9b1 : decide (x4_1.size + t344.size ≤ 9223372036854775807) = true := decide_eq_true c9
                try have c9b2 : (9223372036854775807 < x4_1.size + t344.size) = False := eq_false (Nat.not_lt.2 c9)
                have H' := Aside0.mk H
                clear H
                have p343 : 0 ≤ (x6_1 : Int) := of_decide_eq_true (by first | (with_reducible assumption) | assumption)
                have q343 : x6_1 < (l0.length : Int) := of_decide_eq_true (by first | (with_reducible assumption) | assumption)
                obtain ⟨ad343, e343, hx343_0⟩ := Kd.at_string HR0.out x6_1 p343 q343
                cases e343
                replace hx343_0 := (HB.out.cell (World.block_lt_of_cell? w _ hx343_0)).trans hx343_0
                replace p343 := eq_true p343
                replace q343 := eq_true q343
                go_wp2_with (first | ((with_reducible refine gate_callee (f := 80) rfl ?_); refine goesL_ (some 29) rfl rfl Try.func80 (by kernel_rfl) rfl #[.string (rdOf ByteArray.empty l0 x6_1)] rfl (by (try simp only [List.map_toArray, List.map_cons, List.map_nil]); first | done | rfl | (simp only [List.length_drop, List.length_take]; rfl)) ?_; (with_reducible refine (sextonref01_Text.calls k1 (rdOf ByteArray.empty l0 x6_1) t344 t345 _ A7.out).mono ?_); rintro e w10 ⟨rfl, hb⟩; refine ⟨_, rfl, ?_⟩; have n0_ := Aside0.mk (below_step (by repeat (first | (with_reducible first | exact HB.out | apply below_alloc | apply pw_below_drewN | apply below_drew1) | exact HB.out)) hb); clear HB; have HB := n0_; clear n0_; (try clear hb); (try clear hb2); (try clear hk); (try clear hi)))
                go_roundg k1
                case measure => have := HK1.out; omega
                case rel => exact ⟨(x4_1 ++ t344), (wrap64 (x6_1 + 1)), (by first | rfl | (simp; done) | (simp [*]; done)), (by first | rfl | (simp; done) | (simp [*]; done)), H', ⟨by have := HK1.out; omega⟩, ⟨by repeat (first | (with_reducible first | exact HB.out | apply below_alloc | apply pw_below_drewN | apply below_drew1) | exact HB.out)⟩⟩
              · rw [if_neg c9] at H
                exact absurd H (by simp)
            · rw [if_neg c8] at H
              have c8b0 : (t345 == 0) = false := beq_eq_false_iff_ne.mpr c8
              have c8b1 : (t345 != 0) = true := bne_iff_ne.mpr c8
              simp only [Option.some.injEq, Prod.mk.injEq] at H
              obtain ⟨rfl, rfl⟩ := H
              have p343 : 0 ≤ (x6_1 : Int) := of_decide_eq_true (by first | (with_reducible assumption) | assumption)
              have q343 : x6_1 < (l0.length : Int) := of_decide_eq_true (by first | (with_reducible assumption) | assumption)
              obtain ⟨ad343, e343, hx343_0⟩ := Kd.at_string HR0.out x6_1 p343 q343
              cases e343
              replace hx343_0 := (HB.out.cell (World.block_lt_of_cell? w _ hx343_0)).trans hx343_0
              replace p343 := eq_true p343
              replace q343 := eq_true q343
              go_wp2_with (first | ((with_reducible refine gate_callee (f := 80) rfl ?_); refine goesL_ (some 29) rfl rfl Try.func80 (by kernel_rfl) rfl #[.string (rdOf ByteArray.empty l0 x6_1)] rfl (by (try simp only [List.map_toArray, List.map_cons, List.map_nil]); first | done | rfl | (simp only [List.length_drop, List.length_take]; rfl)) ?_; (with_reducible refine (sextonref01_Text.calls k1 (rdOf ByteArray.empty l0 x6_1) t344 t345 _ A7.out).mono ?_); rintro e w11 ⟨rfl, hb⟩; refine ⟨_, rfl, ?_⟩; have n0_ := Aside0.mk (below_step (by repeat (first | (with_reducible first | exact HB.out | apply below_alloc | apply pw_below_drewN | apply below_drew1) | exact HB.out)) hb); clear HB; have HB := n0_; clear n0_; (try clear hb); (try clear hb2); (try clear hk); (try clear hi)))
              go_ret2
              exact ⟨by first | rfl | (simp [errW_none, errW_some] <;> rfl) | (simp [*, errW_none, errW_some] <;> rfl), by repeat (first | (with_reducible first | exact HB.out | apply below_alloc | apply pw_below_drewN | apply below_drew1) | exact HB.out)⟩
          · rw [if_neg c6] at H
            exact absurd H (by simp)
        · rw [if_neg c5] at H
          have c5b0 : decide (x6_1 < (l0.length : Int)) = false := decide_eq_false c5
          clear c5
          simp only [Option.some.injEq, Prod.mk.injEq] at H
          obtain ⟨rfl, rfl⟩ := H
          go_wp2
          go_ret2
          exact ⟨by first | rfl | (simp [errW_none, errW_some] <;> rfl) | (simp [*, errW_none, errW_some] <;> rfl), by repeat (first | (with_reducible first | exact HB.out | apply below_alloc | apply pw_below_drewN | apply below_drew1) | exact HB.out)⟩

end Go.Proofs.Ytfejidinfcmfjaa.P
-- Written by a program of this session (xprint.py) over the kit's print.py.
namespace Go.Proofs.Ytfejidinfcmfjaa.P
open Go.RowKit Go.Proofs.YtfejidinfcmfjaaW.PrintWords Go.Proofs.YtfejidinfcmfjaaW.PrintLast Go.Proofs.YtfejidinfcmfjaaW.PrintMore
attribute [local go_sem] max2_int min2_int max_two min_two max_three min_three max_four min_four   -- for this text's walks alone
set_option linter.unusedVariables false
set_option linter.unusedSimpArgs false

/-! ### sextonref01_Own: function 73 -/
def sextonref01_Own.f (l0 : List ByteArray) : Option (List ByteArray) := if ([] : List ByteArray).length + l0.length < 8796093022208 then (some (([] : List ByteArray) ++ l0)) else (none)
set_option maxHeartbeats 8000000 in
set_option maxRecDepth 100000 in
theorem sextonref01_Own.calls (A0 : Option Addr) (c0 : Nat) (l0 : List ByteArray) (r : List ByteArray) (w : World) (hr0 : Kd.C Kd.string w A0 l0.length l0) (hc0 : l0.length ≤ c0) (h : sextonref01_Own.f l0 = some r) :
    Calls Try.prog 73 #[.slice A0 l0.length c0] w fun e w' => ∃ v0_ : Value, e = .returned (v0_) ∧ Kd.R Kd.string 9 w' w.heap.size (fun _ => True) v0_ r ∧ Below w.heap.size w w' := by
  have HR0 := Aside0.mk hr0
  have HC0 := Aside0.mk hc0
  clear hr0 hc0
  have HB := Aside0.mk (Below.refl w.heap.size w)
  have H : (if ([] : List ByteArray).length + l0.length < 8796093022208 then (some (([] : List ByteArray) ++ l0)) else (none)) = some r := h
  clear h
  by_cases c2 : ([] : List ByteArray).length + l0.length < 8796093022208
  · rw [if_pos c2] at H
    have LMc2 := Aside0.mk c2
    clear c2
    obtain ⟨y105, hy105⟩ : ∃ y_ : List ByteArray, y_ = (([] : List ByteArray) ++ l0) := ⟨_, rfl⟩
    replace H : (some y105) = some r := by first | (rw [hy105]; with_reducible exact H) | (have H2_ := (Option.bind_some _ _).symm.trans H; rw [hy105]; with_reducible exact H2_) | (have H2_ := (Option.bind_some _ _).symm.trans H; with_reducible exact H2_) | with_reducible exact H | (rw [hy105]; exact H) | exact H
    have Ny105 := Aside0.mk hy105
    clear hy105
    obtain rfl := Option.some.inj H
    go_enter Try.func73, Try.ntmps73
    go_wp2_with (first | ((with_reducible refine gate_builtin (b := .append) (xs := #[.tmp 4, .tmp 5]) rfl ?_); at_builtin; refine Kd.R_append_rows Kd.string (w0 := w) w.heap.size rfl (.tmp 4) (.tmp 5) 27 9 (.string ⟨#[]⟩) 16 rfl Try.underlying27 info9 rfl (by decide) (by omega) (.slice none 0 0) ([] : List ByteArray) l0 _ _ _ (fun _ => True) (fun _ => False) rfl rfl ?aO ?aR (fun _ _ h => h) (fun _ h => h.elim) ?aF ?aB ?aS ?aL ?_; (case aR => repeat (first | exact HR0.out | (with_reducible refine Kd.C_alloc ?_ _) | (with_reducible refine Kd.C_drewN ?_ _) | (with_reducible refine Kd.C_drew ?_))); (case aB => exact (by repeat (first | (with_reducible first | exact HB.out | apply below_alloc | apply pw_below_drewN | apply below_drew1) | exact HB.out))); (case aF => exact (fun _ _ => trivial)); (case aO => exact ((Kd.R_nil _ _ _ _ (fun _ => True)))); (case aS => exact (below_size (by repeat (first | (with_reducible first | exact HB.out | apply below_alloc | apply pw_below_drewN | apply below_drew1) | exact HB.out)))); (case aL => have := LMc2.out; omega); intro v106 w3 ho hb hg hat; rw [← Ny105.out] at ho; have n0_ := Aside0.mk (hb); have n1_ := Aside0.mk (ho); clear HB; have HB := n0_; have HO107 := n1_; clear n0_ n1_; clear ho hb hg hat))
    go_ret
    exact ⟨_, by first | rfl | (simp [errW_none, errW_some] <;> rfl) | (simp [*, errW_none, errW_some] <;> rfl), by (with_reducible repeat (first | apply Kd.R_alloc | apply Kd.R_drewN | apply Kd.R_drew)); exact HO107.out, by repeat (first | (with_reducible first | exact HB.out | apply below_alloc | apply pw_below_drewN | apply below_drew1) | exact HB.out)⟩
  · rw [if_neg c2] at H
    exact absurd H (by simp)

end Go.Proofs.Ytfejidinfcmfjaa.P
/-
  What the references of chapter 1 answer, told plainly.
-/
namespace Go.Proofs.Ytfejidinfcmfjaa.P
open Go.RowKit Go.Proofs.CodecPlain Go.Proofs.YtfejidinfcmfjaaW.PrintWords Go.Proofs.YtfejidinfcmfjaaW.PrintLast

theorem ev_if_pos {α : Type} {p : Nat → Prop} [∀ k, Decidable (p k)] {a b : Nat → Option α} {r : α} (h : ∀ k, p k) (k : Ev a r) : Ev (fun n => if p n then a n else b n) r :=
  k.congr (fun n => if_pos (h n))
theorem toList_inj {a b : ByteArray} (h : a.toList = b.toList) : a = b := by
  rw [ByteArray.toList_eq, ByteArray.toList_eq] at h; exact ba_ext h
theorem wrap_id {x : Int} (h0 : -9223372036854775808 ≤ x) (h1 : x ≤ 9223372036854775807) : wrap64 x = x := by unfold wrap64; omega

theorem strOfNums_size (l : List Int) : (strOfNums l).size = l.length := by simp [strOfNums, ByteArray.size]
theorem strOfNums_list (l : List Int) : (strOfNums l).data.toList = l.map u8 := by simp [strOfNums, u8]

theorem refNumber_l0 : ∀ x : Int, 0 ≤ x → x < 4294967296 → ∀ (acc : ByteArray) (c : Int), acc.size + (nbytes x).length ≤ 1000 → 0 ≤ c → c + ((nbytes x).length : Int) ≤ 1000 →
    Ev (fun k => sextonref01_Number.l0 k x acc c) (strOfNums [(c + ((nbytes x).length : Int)) % 256] ++ (strOfNums (nbytes x) ++ acc), 0) := by
  apply nat_ind
  intro x h0 ih h1 acc c ha hc0 hc1
  by_cases hz : x = 0
  · subst hz
    refine Ev.step (f := fun _ => some (strOfNums [c % 256] ++ acc, 0)) (fun k => ?_) ?_
    · simp only [sextonref01_Number.l0]
      rw [if_neg (by omega)]
      simp only [Option.bind_some]
      rw [if_pos (by rw [strOfNums_size]; simp; omega)]
    · rw [nbytes_zero]
      have : strOfNums [] ++ acc = acc := ba_ext (by rw [app_list, strOfNums_list]; rfl)
      simp only [List.length_nil, Int.natCast_zero, Int.add_zero, this]
      exact Ev.now _
  · refine Ev.step (f := fun k => sextonref01_Number.l0 k (x / 256) (strOfNums [x % 256] ++ acc) (c + 1)) (fun k => ?_) ?_
    · simp only [sextonref01_Number.l0]
      rw [if_pos (by omega)]
      simp only [Option.bind_some]
      rw [if_pos (by rw [strOfNums_size]; simp; omega), Int.tdiv_eq_ediv_of_nonneg h0, wrap_id (x := x / 256) (by omega) (by omega), wrap_id (x := c + 1) (by omega) (by omega), Int.tmod_eq_emod_of_nonneg h0]
      congr 4
      omega
    · have hlen : (nbytes x).length = (nbytes (x / 256)).length + 1 := by rw [nbytes_rec x (by omega) h1]; simp
      have := ih (x / 256) (by omega) (by omega) (by omega) (strOfNums [x % 256] ++ acc) (c + 1) (by
        rw [CodecPlain.size_append, strOfNums_size]; simp; rw [hlen] at ha; omega) (by omega) (by omega)
      rw [nbytes_rec x (by omega) h1]
      have e1 : strOfNums (nbytes (x / 256)) ++ (strOfNums [x % 256] ++ acc) = strOfNums (nbytes (x / 256) ++ [x % 256]) ++ acc := ba_ext (by simp only [app_list, strOfNums_list]; simp)
      rw [e1] at this
      have e2 : c + 1 + ((nbytes (x / 256)).length : Int) = c + ((nbytes (x / 256) ++ [x % 256]).length : Int) := by simp; omega
      rw [e2] at this
      exact this

theorem refNumber (n : Int) : Ev (fun k => sextonref01_Number.f k n) (if 0 ≤ n ∧ n ≤ 4294967295 then (numStr n, 0) else (⟨#[]⟩, 1)) := by
  by_cases h0 : n < 0
  · rw [if_neg (by omega)]
    refine Ev.congr (f := fun k => sextonref01_Number.j0 k n true) (fun k => by unfold sextonref01_Number.f; rw [if_pos h0]) ?_
    exact Ev.step (f := fun _ => some (⟨#[]⟩, 1)) (fun k => by simp [sextonref01_Number.j0]) (Ev.now _)
  · refine Ev.congr (f := fun k => sextonref01_Number.j0 k n (decide (n > 4294967295))) (fun k => by unfold sextonref01_Number.f; rw [if_neg h0]) ?_
    by_cases h1 : n > 4294967295
    · rw [if_neg (by omega), decide_eq_true h1]
      exact Ev.step (f := fun _ => some (⟨#[]⟩, 1)) (fun k => by simp [sextonref01_Number.j0]) (Ev.now _)
    · rw [if_pos (by omega), decide_eq_false h1]
      refine Ev.step (f := fun k => sextonref01_Number.l0 k n ⟨#[]⟩ 0) (fun k => by simp [sextonref01_Number.j0]) ?_
      have hl := nbytes_length n
      have := refNumber_l0 n (by omega) (by omega) ⟨#[]⟩ 0 (by have : (⟨#[]⟩ : ByteArray).size = 0 := rfl; omega) (by omega) (by omega)
      have e : strOfNums [(0 + ((nbytes n).length : Int)) % 256] ++ (strOfNums (nbytes n) ++ ⟨#[]⟩) = numStr n := ba_ext (by
        simp only [app_list, strOfNums_list, numStr_list]
        rw [show (0 + ((nbytes n).length : Int)) % 256 = ((nbytes n).length : Int) by omega]
        simp)
      rw [e] at this
      exact this

theorem refText (s : ByteArray) : Ev (fun k => sextonref01_Text.f k s) (if s.size ≤ 4000 then (textStr s, 0) else (⟨#[]⟩, 2)) := by
  by_cases h : s.size ≤ 4000
  · rw [if_pos h]
    have hn := refNumber (s.size : Int)
    rw [if_pos (by omega)] at hn
    have hs := numStr_size (s.size : Int)
    refine Ev.congr (f := fun k => (sextonref01_Number.f k (s.size : Int)).bind fun bt116 => (if bt116.1.size + s.size ≤ 9223372036854775807 then (some (bt116.1 ++ s, 0)) else (none))) (fun k => by unfold sextonref01_Text.f; rw [if_neg (by omega)]) ?_
    refine Ev.bind hn (Ev.congr (f := fun _ => some (textStr s, 0)) (fun k => ?_) (Ev.now _))
    simp only
    rw [if_pos (by omega)]
    rfl
  · rw [if_neg h]
    exact Ev.congr (f := fun _ => some (⟨#[]⟩, 2)) (fun k => by unfold sextonref01_Text.f; rw [if_pos (by omega)]) (Ev.now _)

/-- What a row's loop tells, some texts having been told. -/
theorem refRow_l0 (l : List ByteArray) (hl : l.length ≤ 1000) (d : Nat) : ∀ (k : Nat) (acc : ByteArray), k + d = l.length → acc.size ≤ 5 + k * 4005 →
    Ev (fun r => sextonref01_Row.l0 r l acc (k : Int)) (if (l.drop k).all (fun s => decide (s.size ≤ 4000)) = true then (acc ++ catStr ((l.drop k).map textStr), 0) else (⟨#[]⟩, 2)) := by
  induction d with
  | zero =>
    intro k acc hk ha
    have hd : l.drop k = [] := List.drop_of_length_le (by omega)
    rw [hd]
    refine Ev.step (f := fun _ => some (acc, 0)) (fun r => by simp only [sextonref01_Row.l0]; rw [if_neg (by omega)]) ?_
    have : acc ++ catStr [] = acc := ba_ext (by simp [app_list, catStr])
    simp only [List.all_nil, List.map_nil, if_true, this]
    exact Ev.now _
  | succ d ih =>
    intro k acc hk ha
    have hlt : k < l.length := by omega
    have hd : l.drop k = l[k] :: l.drop (k + 1) := List.drop_eq_getElem_cons hlt
    have ht := refText l[k]
    refine Ev.step (f := fun r => (sextonref01_Text.f r l[k]).bind fun bt121 => (if bt121.2 = 0 then (if acc.size + bt121.1.size ≤ 9223372036854775807 then (sextonref01_Row.l0 r l (acc ++ bt121.1) ((k + 1 : Nat) : Int)) else (none)) else (some ((⟨#[]⟩ : ByteArray), bt121.2)))) (fun r => ?_) ?_
    · simp only [sextonref01_Row.l0]
      rw [if_pos (by omega), if_pos (by omega), rd_string l k hlt, wrap_id (by omega) (by omega)]
      rfl
    · by_cases hs : l[k].size ≤ 4000
      · rw [if_pos hs] at ht
        have hts := textStr_size l[k]
        refine Ev.bind ht ?_
        have hn := ih (k + 1) (acc ++ textStr l[k]) (by omega) (by rw [CodecPlain.size_append]; omega)
        refine Ev.congr (f := fun r => sextonref01_Row.l0 r l (acc ++ textStr l[k]) ((k + 1 : Nat) : Int)) (fun r => by simp only; rw [if_pos trivial, if_pos (by omega)]) ?_
        rw [hd]
        simp only [List.all_cons, hs, decide_true, Bool.true_and, List.map_cons, catStr]
        rw [← ByteArray.append_assoc]
        exact hn
      · rw [if_neg hs] at ht
        refine Ev.bind ht ?_
        refine Ev.congr (f := fun _ => some (⟨#[]⟩, 2)) (fun r => by simp only; rw [if_neg (by decide)]) ?_
        rw [hd, if_neg (fun h => hs (of_decide_eq_true (List.all_eq_true.1 h l[k] List.mem_cons_self)))]
        exact Ev.now _

theorem refRow (l : List ByteArray) : Ev (fun k => sextonref01_Row.f k l) (if 1000 < l.length then (⟨#[]⟩, 2) else if l.all (fun s => decide (s.size ≤ 4000)) = true then (rowStr l, 0) else (⟨#[]⟩, 2)) := by
  by_cases h : 1000 < l.length
  · rw [if_pos h]
    exact Ev.congr (f := fun _ => some (⟨#[]⟩, 2)) (fun k => by unfold sextonref01_Row.f; rw [if_pos (by omega)]) (Ev.now _)
  · rw [if_neg h]
    have hn := refNumber (l.length : Int)
    rw [if_pos (by omega)] at hn
    have hs := numStr_size (l.length : Int)
    refine Ev.congr (f := fun k => (sextonref01_Number.f k (l.length : Int)).bind fun bt118 => (sextonref01_Row.l0 k l bt118.1 0)) (fun k => by unfold sextonref01_Row.f; rw [if_neg (by omega)]) ?_
    exact Ev.bind hn (refRow_l0 l (by omega) l.length 0 (numStr (l.length : Int)) (by omega) (by omega))

theorem refTexts_l0 (a b : List ByteArray) (hl : a.length = b.length) (hm : a.length ≤ 9223372036854775806) (d : Nat) : ∀ k : Nat, k + d = a.length → Ev (fun r => sextonref01_Texts.l0 r a b (k : Int)) (decide (a.drop k = b.drop k)) := by
  induction d with
  | zero =>
    intro k hk
    have h1 : a.drop k = [] := List.drop_of_length_le (by omega)
    have h2 : b.drop k = [] := List.drop_of_length_le (by omega)
    rw [h1, h2]
    exact Ev.step (f := fun _ => some true) (fun r => by simp only [sextonref01_Texts.l0]; rw [if_neg (by omega)]) (Ev.now _)
  | succ d ih =>
    intro k hk
    have ha : k < a.length := by omega
    have hb : k < b.length := by omega
    have e1 : a.drop k = a[k] :: a.drop (k + 1) := List.drop_eq_getElem_cons ha
    have e2 : b.drop k = b[k] :: b.drop (k + 1) := List.drop_eq_getElem_cons hb
    by_cases he : a[k] = b[k]
    · refine Ev.step (f := fun r => sextonref01_Texts.l0 r a b ((k + 1 : Nat) : Int)) (fun r => ?_) ?_
      · simp only [sextonref01_Texts.l0]
        rw [if_pos (by omega), if_pos (by omega), if_pos (by omega), rd_string a k ha, rd_string b k hb, if_pos (by rw [he]), wrap_id (by omega) (by omega)]
        rfl
      · have := ih (k + 1) (by omega)
        rw [e1, e2, he]
        simp only [List.cons.injEq, true_and]
        exact this
    · refine Ev.step (f := fun _ => some false) (fun r => ?_) ?_
      · simp only [sextonref01_Texts.l0]
        rw [if_pos (by omega), if_pos (by omega), if_pos (by omega), rd_string a k ha, rd_string b k hb, if_neg (fun h => he (toList_inj h))]
      · rw [e1, e2, decide_eq_false (fun h => he (List.cons.inj h).1)]
        exact Ev.now _
theorem refTexts (a b : List ByteArray) (hm : a.length ≤ 9223372036854775806) : Ev (fun r => sextonref01_Texts.f r a b) (decide (a = b)) := by
  by_cases hl : a.length = b.length
  · refine Ev.congr (f := fun r => sextonref01_Texts.l0 r a b 0) (fun r => by unfold sextonref01_Texts.f; rw [if_pos (by omega)]) ?_
    have := refTexts_l0 a b hl hm a.length 0 (by omega)
    simpa using this
  · rw [decide_eq_false (fun h => hl (by rw [h]))]
    exact Ev.congr (f := fun _ => some false) (fun r => by unfold sextonref01_Texts.f; rw [if_neg (by omega)]) (Ev.now _)
theorem refOwn (l : List ByteArray) (h : l.length < 8796093022208) : sextonref01_Own.f l = some l := by
  unfold sextonref01_Own.f
  rw [if_pos (by simpa using h)]
  rfl
end Go.Proofs.Ytfejidinfcmfjaa.P
/-
  A message's bytes: what is put is got, whatever stands behind; what is got is put.
-/
namespace Go.Proofs.Ytfejidinfcmfjaa.MS
open Go.RowKit Go.Proofs Go.Proofs.CodecPlain Go.Proofs.YtfejidinfcmfjaaW.PrintWords Go.Proofs.YtfejidinfcmfjaaW.PrintLast Go.Proofs.Ytfejidinfcmfjaa.P

def InN (n : Int) : Prop := 0 ≤ n ∧ n ≤ 4294967295
theorem cat_cons (n : Int) (ns : List Int) : catStr ((n :: ns).map numStr) = numStr n ++ catStr (ns.map numStr) := rfl
theorem getNs_put : ∀ (ns : List Int) (_ : ∀ n ∈ ns, InN n) (rest : ByteArray), getNs ns.length (catStr (ns.map numStr) ++ rest) = (ns, rest, true)
  | [], _, rest => by
    show ([], ByteArray.empty ++ rest, true) = _
    rw [ByteArray.empty_append]
  | n :: ns, h, rest => by
    have hn := h n List.mem_cons_self
    have ih := getNs_put ns (fun m hm => h m (List.mem_cons_of_mem _ hm)) rest
    rw [cat_cons, ByteArray.append_assoc]
    simp only [List.length_cons, getNs]
    rw [getNum_put n hn.1 hn.2, if_pos rfl, ih]
theorem getNs_got : ∀ (k : Nat) (s : ByteArray) (ns : List Int) (rest : ByteArray), getNs k s = (ns, rest, true) → ns.length = k ∧ (∀ n ∈ ns, InN n) ∧ s = catStr (ns.map numStr) ++ rest
  | 0, s, ns, rest, h => by
    simp only [getNs, Prod.mk.injEq] at h
    obtain ⟨rfl, rfl, _⟩ := h
    refine ⟨rfl, by simp, ?_⟩
    show s = ByteArray.empty ++ s
    rw [ByteArray.empty_append]
  | k + 1, s, ns, rest, h => by
    simp only [getNs] at h
    obtain ⟨n, r, ok, hg⟩ : ∃ n r ok, getNum s = (n, r, ok) := ⟨_, _, _, rfl⟩
    rw [hg] at h
    cases ok
    · rw [if_neg (show ¬ (false = true) by decide)] at h
      simp only [Prod.mk.injEq] at h
      cases h.2.2
    · rw [if_pos rfl] at h
      simp only [Prod.mk.injEq] at h
      obtain ⟨rfl, h2, h3⟩ := h
      obtain ⟨e1, e2, e3⟩ := getNs_got k r (getNs k r).1 rest (by rw [← h2, ← h3])
      obtain ⟨g1, g2, g3⟩ := getNum_got hg
      refine ⟨by simp [e1], fun m hm => ?_, ?_⟩
      · rcases List.mem_cons.1 hm with rfl | hm
        · exact ⟨g1, g2⟩
        · exact e2 m hm
      · rw [cat_cons, ByteArray.append_assoc, ← e3]; exact g3
theorem msg_parts (n0 n1 n2 n3 n4 n5 n6 : Int) (l : List ByteArray) (h : isB n0 n1 n2 n3 n4 n5 n6 l = true) (rest : ByteArray) :
    getNs 7 (msgStr n0 n1 n2 n3 n4 n5 n6 l ++ rest) = ([n0, n1, n2, n3, n4, n5, n6], rowStr l ++ rest, true) ∧ getRow (rowStr l ++ rest) = (l, rest, true) := by
  obtain ⟨b0, b1, b2, b3, b4, b5, b6, hl, hsz⟩ := isB_bd h
  refine ⟨?_, getRow_put l (by omega) (fun t ht => by have := hsz t ht; omega) rest⟩
  unfold msgStr
  rw [ByteArray.append_assoc]
  exact getNs_put [n0, n1, n2, n3, n4, n5, n6] (by
    intro n hn
    simp only [List.mem_cons, List.not_mem_nil, or_false] at hn
    rcases hn with rfl | rfl | rfl | rfl | rfl | rfl | rfl <;> assumption) _
theorem app_nil (s : ByteArray) : s ++ (⟨#[]⟩ : ByteArray) = s := ByteArray.append_empty
theorem getM_put (n0 n1 n2 n3 n4 n5 n6 : Int) (l : List ByteArray) (h : isB n0 n1 n2 n3 n4 n5 n6 l = true) : getM (getNs 7 (msgStr n0 n1 n2 n3 n4 n5 n6 l)) = (n0, n1, n2, n3, n4, n5, n6, l, 0) := by
  obtain ⟨h1, h2⟩ := msg_parts n0 n1 n2 n3 n4 n5 n6 l h ⟨#[]⟩
  rw [app_nil] at h1
  rw [h1]
  unfold getM
  simp only [h2]
  rw [if_pos ⟨trivial, trivial, h⟩]
theorem getM_got (s : ByteArray) : getM (getNs 7 s) = (0, 0, 0, 0, 0, 0, 0, [], 30) ∨ ∃ n0 n1 n2 n3 n4 n5 n6 l, getM (getNs 7 s) = (n0, n1, n2, n3, n4, n5, n6, l, 0) ∧ isB n0 n1 n2 n3 n4 n5 n6 l = true ∧ msgStr n0 n1 n2 n3 n4 n5 n6 l = s := by
  obtain ⟨ns, rest, ok, hg⟩ : ∃ ns rest ok, getNs 7 s = (ns, rest, ok) := ⟨_, _, _, rfl⟩
  cases ok
  · exact .inl (getM_no (by rw [hg]))
  · obtain ⟨e1, _, e3⟩ := getNs_got 7 s ns rest hg
    obtain ⟨n0, n1, n2, n3, n4, n5, n6, rfl⟩ : ∃ n0 n1 n2 n3 n4 n5 n6, ns = [n0, n1, n2, n3, n4, n5, n6] := by
      match ns, e1 with
      | [n0, n1, n2, n3, n4, n5, n6], _ => exact ⟨_, _, _, _, _, _, _, rfl⟩
    obtain ⟨l, r, ok, hr⟩ : ∃ l r ok, getRow rest = (l, r, ok) := ⟨_, _, _, rfl⟩
    have hm : getM (getNs 7 s) = if ok = true ∧ r = ⟨#[]⟩ ∧ isB n0 n1 n2 n3 n4 n5 n6 l = true then (n0, n1, n2, n3, n4, n5, n6, l, 0) else (0, 0, 0, 0, 0, 0, 0, [], 30) := by
      rw [hg]; unfold getM; simp only [hr]
    by_cases hc : ok = true ∧ r = ⟨#[]⟩ ∧ isB n0 n1 n2 n3 n4 n5 n6 l = true
    · rw [if_pos hc] at hm
      obtain ⟨rfl, rfl, hi⟩ := hc
      obtain ⟨_, _, hrow⟩ := getRow_got hr
      rw [app_nil] at hrow
      exact .inr ⟨_, _, _, _, _, _, _, _, hm, hi, by unfold msgStr; rw [← hrow]; exact e3.symm⟩
    · rw [if_neg hc] at hm
      exact .inl hm
theorem put_f (n0 n1 n2 n3 n4 n5 n6 : Int) (l : List ByteArray) : msg_Put.f n0 n1 n2 n3 n4 n5 n6 l = some (if isB n0 n1 n2 n3 n4 n5 n6 l = true then (msgStr n0 n1 n2 n3 n4 n5 n6 l, 0) else (⟨#[]⟩, 1)) := by
  unfold msg_Put.f
  split <;> rfl
theorem get_f (s : ByteArray) : msg_Get.f s = some (getM (getNs 7 s)) := rfl
theorem same_ev (a0 a1 a2 a3 a4 a5 a6 : Int) (l : List ByteArray) (b0 b1 b2 b3 b4 b5 b6 : Int) (m : List ByteArray) (hl : l.length ≤ 100000) :
    Ev (fun k => sextonref23_Same.f k a0 a1 a2 a3 a4 a5 a6 l b0 b1 b2 b3 b4 b5 b6 m) (decide (a0 = b0 ∧ a1 = b1 ∧ a2 = b2 ∧ a3 = b3 ∧ a4 = b4 ∧ a5 = b5 ∧ a6 = b6 ∧ l = m)) := by
  obtain ⟨K, e⟩ := refTexts l m (by omega)
  simp only at e
  refine ⟨K, fun k hk => ?_⟩
  show sextonref23_Same.f k a0 a1 a2 a3 a4 a5 a6 l b0 b1 b2 b3 b4 b5 b6 m = _
  unfold sextonref23_Same.f
  rw [e k hk]
  by_cases h0 : a0 = b0
  · by_cases h1 : a1 = b1
    · by_cases h2 : a2 = b2
      · by_cases h3 : a3 = b3
        · by_cases h4 : a4 = b4
          · by_cases h5 : a5 = b5
            · by_cases h6 : a6 = b6
              · simp [h0, h1, h2, h3, h4, h5, h6]
              · simp [h6]
            · simp [h5]
          · simp [h4]
        · simp [h3]
      · simp [h2]
    · simp [h1]
  · simp [h0]
/-- Big answers for every message; where it says no there are at most 80 texts. -/
theorem big_f (n0 n1 n2 n3 n4 n5 n6 : Int) (l : List ByteArray) : ∃ r, (∀ k, 200 < k → sextonref23_Big.f k n0 n1 n2 n3 n4 n5 n6 l = some r) ∧ (r = false → l.length ≤ 80) := by
  unfold sextonref23_Big.f
  by_cases h80 : l.length ≤ 80
  · have : ∀ i : Nat, i ≤ l.length → ∃ r, ∀ k, 2 * (l.length - i) + 2 < k → sextonref23_Big.l0 k (i : Int) n0 n1 n2 n3 n4 n5 n6 l = some r := by
      intro i
      induction hd : l.length - i generalizing i with
      | zero =>
        intro hi
        refine ⟨decide ((l.length : Int) > 80), fun k hk => ?_⟩
        obtain ⟨k, rfl⟩ : ∃ m, k = m + 2 := ⟨k - 2, by omega⟩
        simp only [sextonref23_Big.l0]
        rw [if_neg (by omega)]
        simp only [sextonref23_Big.j1]
        rw [if_neg (by decide)]
      | succ d ih =>
        intro hi
        obtain ⟨r, hr⟩ := ih (i + 1) (by omega) (by omega)
        have step : ∀ k, 2 * (d + 1) + 2 < k → sextonref23_Big.l0 k (i : Int) n0 n1 n2 n3 n4 n5 n6 l = if ((rdOf ByteArray.empty l (i : Int)).size : Int) > 400 then some true else some r := by
          intro k hk
          obtain ⟨k, rfl⟩ : ∃ m, k = m + 2 := ⟨k - 2, by omega⟩
          simp only [sextonref23_Big.l0]
          rw [if_pos (by omega), decide_eq_true (by omega)]
          simp only [sextonref23_Big.j1]
          rw [if_pos trivial, if_pos (by omega), if_pos (by omega), show wrap64 ((i : Int) + 1) = ((i + 1 : Nat) : Int) by unfold wrap64; omega, hr k (by omega)]
        by_cases h1 : ((rdOf ByteArray.empty l (i : Int)).size : Int) > 400
        · exact ⟨true, fun k hk => by rw [step k hk, if_pos h1]⟩
        · exact ⟨r, fun k hk => by rw [step k hk, if_neg h1]⟩
    obtain ⟨r, hr⟩ := this 0 (by omega)
    exact ⟨r, fun k hk => hr k (by omega), fun _ => h80⟩
  · refine ⟨true, fun k hk => ?_, fun h => by cases h⟩
    obtain ⟨k, rfl⟩ : ∃ m, k = m + 2 := ⟨k - 2, by omega⟩
    simp only [sextonref23_Big.l0]
    rw [if_pos (by omega), decide_eq_false (by omega)]
    simp only [sextonref23_Big.j1]
    rw [if_neg (by decide), decide_eq_true (by omega)]
end Go.Proofs.Ytfejidinfcmfjaa.MS
/-
  What can be read as data reads as a value of its kind: kind by kind, for the rows of the statements.
-/
namespace Go.Proofs.Ytfejidinfcmfjaa.Opens
open Go.ChangeShapes Go.WideShapes Go.ChangeAt Go.RowKit Go.Proofs.YtfejidinfcmfjaaW.PrintWords

def Opens (P : Program) {α : Type} (kd : Kd α) (ok : α → Prop) (t : TypeId) : Prop :=
  ∀ {H : Type} (enc : TypeId × Value → H) (W : World) (base : Nat) (spare : Nat → Bool) (held : Bool) (fuel : Nat) (cs : List Value) (x : DataW H × List MemPlace),
    DataW.trod enc P W base spare held fuel t cs = some x → ∃ a, kd.K W a cs ∧ ok a
def OkInt (k : IntKind) (n : Int) : Prop := (Lit.int k n).wf = true
def OkStr (s : ByteArray) : Prop := s.size ≤ maxLen
def OkList {α : Type} (ok : α → Prop) (l : List α) : Prop := l.length ≤ maxLen ∧ ∀ a ∈ l, ok a
def OkTrue {α : Type} (_ : α) : Prop := True
def OkPair {α β : Type} (p : α → Prop) (q : β → Prop) (x : α × β) : Prop := p x.1 ∧ q x.2

section
variable {P : Program} {t e : TypeId}
theorem opens_int {k : IntKind} (ht : P.underlying t = some (.int k)) : Opens P (Kd.int k) (OkInt k) t := by
  intro H enc W base spare held fuel cs x h
  obtain ⟨n, rfl, _, hw⟩ := DataW.trod_int ht h
  exact ⟨n, rfl, hw⟩
theorem opens_bool (ht : P.underlying t = some .bool) : Opens P Kd.bool OkTrue t := by
  intro H enc W base spare held fuel cs x h
  obtain ⟨b, rfl, _⟩ := DataW.trod_bool ht h
  exact ⟨b, rfl, trivial⟩
theorem opens_string (ht : P.underlying t = some .string) : Opens P Kd.string OkStr t := by
  intro H enc W base spare held fuel cs x h
  obtain ⟨s, rfl, _, hs⟩ := DataW.trod_string ht h
  exact ⟨s, rfl, hs⟩
theorem addr_add (a : Addr) (x i : Nat) : a.add (x + i) = (a.add x).add i := by
  unfold Addr.add
  by_cases h1 : x = 0 <;> by_cases h2 : i = 0 <;> simp [h1, h2, Nat.add_assoc]
theorem opens_slice {α : Type} {kd : Kd α} {ok : α → Prop} (ht : P.underlying t = some (.slice e)) (hc : P.cellsOf e = kd.sz) (he : Opens P kd ok e) : Opens P (Kd.slice e kd) (OkList ok) t := by
  intro H enc W base spare held fuel cs x h
  rcases DataW.trod_slice ht h with ⟨rfl, _⟩ | ⟨a, len, cap, elems, rest, n, _, rfl, _, hb, hl, hm, hlen, hel, _, _⟩
  · exact ⟨[], ⟨none, 0, rfl, Nat.le_refl _, rfl, by simp, fun h0 => absurd h0 (Nat.lt_irrefl 0)⟩, by simp [maxLen], by simp⟩
  · have each : ∀ i, i < len → ∃ (y : α) (c : List Value), c.length = kd.sz ∧ kd.K W y c ∧ ok y ∧ ∀ j u, c[j]? = some u → W.cell? ((a.add (i * kd.sz)).add j) = some u := by
      intro i hi
      have h1 := hel i hi
      rw [hc, List.getElem?_eq_getElem (by omega), Option.bind_eq_some_iff] at h1
      obtain ⟨c, hcs, hy⟩ := h1
      obtain ⟨y, hK, hok⟩ := he enc W base spare held n c _ hy
      obtain ⟨_, hcl, hcell⟩ := World.cells?_some hcs
      refine ⟨y, c, kd.K_len hK, hK, hok, fun j u hj => ?_⟩
      have hjl : j < kd.sz := by have := (List.getElem?_eq_some_iff.1 hj).1; rw [kd.K_len hK] at this; exact this
      rw [hcell j hjl, hj]
    have pick : ∃ l : List α, l.length = len ∧ ∀ i y, l[i]? = some y → ∃ c : List Value, c.length = kd.sz ∧ kd.K W y c ∧ ok y ∧ ∀ j u, c[j]? = some u → W.cell? ((a.add (i * kd.sz)).add j) = some u := by
      have key : ∀ m, m ≤ len → ∃ l : List α, l.length = m ∧ ∀ i y, l[i]? = some y → ∃ c : List Value, c.length = kd.sz ∧ kd.K W y c ∧ ok y ∧ ∀ j u, c[j]? = some u → W.cell? ((a.add (i * kd.sz)).add j) = some u := by
        intro m
        induction m with
        | zero => intro _; exact ⟨[], rfl, fun i y h => by simp at h⟩
        | succ m ih =>
          intro hm
          obtain ⟨l, hl1, hl2⟩ := ih (by omega)
          obtain ⟨y, c, h1, h2, h3, h4⟩ := each m (by omega)
          refine ⟨l ++ [y], by simp [hl1], fun i z hz => ?_⟩
          rcases Nat.lt_or_ge i l.length with hi | hi
          · rw [List.getElem?_append_left hi] at hz
            exact hl2 i z hz
          · have : i = l.length := by
              have := (List.getElem?_eq_some_iff.1 hz).1
              rw [List.length_append, List.length_singleton] at this
              omega
            subst this
            have hz' : y = z := by simpa using hz
            subst hz'
            exact ⟨c, h1, h2, h3, by rw [hl1]; exact h4⟩
      exact key len (Nat.le_refl _)
    obtain ⟨l, hl1, hl2⟩ := pick
    subst hl1
    refine ⟨l, ⟨some a, cap, rfl, hl, rfl, by unfold maxLen at hm; omega, fun _ => ⟨a, rfl, fun j p hj => ?_⟩⟩, by omega, fun y hy => ?_⟩
    · obtain ⟨c, h1, h2, _, h4⟩ := hl2 j p hj
      refine ⟨c, h1, h2, fun i u hu => ?_⟩
      rw [← h4 i u hu, addr_add]
    · obtain ⟨i, hi⟩ := List.getElem?_of_mem hy
      obtain ⟨_, _, _, h3, _⟩ := hl2 i y hi
      exact h3

/-- The same of fields in line, from one place of the cells on. -/
def OpensF (P : Program) {α : Type} (kd : Kd α) (ok : α → Prop) (fs : List Field) (off len : Nat) : Prop :=
  ∀ {H : Type} (enc : TypeId × Value → H) (W : World) (base : Nat) (spare : Nat → Bool) (held : Bool) (n : Nat) (cs : List Value),
    (∀ f ∈ fs, ∃ y, DataW.trod enc P W base spare held n f.type ((cs.drop f.offset).take (P.cellsOf f.type)) = some y) → off + len ≤ cs.length → ∃ a, kd.K W a ((cs.drop off).take len) ∧ ok a
theorem opensF_one {α : Type} {kd : Kd α} {ok : α → Prop} {f : Field} {t off len : Nat} (h : Opens P kd ok t) (ht : f.type = t) (ho : f.offset = off) (hl : P.cellsOf t = len) : OpensF P kd ok [f] off len := by
  intro H enc W base spare held n cs hf _
  obtain ⟨y, hy⟩ := hf f List.mem_cons_self
  subst ht ho hl
  exact h enc W base spare held n _ y hy
theorem opensF_pair {α β : Type} {kd : Kd α} {kd' : Kd β} {ok : α → Prop} {ok' : β → Prop} {f : Field} {fs : List Field} {t off len len' : Nat} (h : Opens P kd ok t) (ht : f.type = t) (ho : f.offset = off) (hl : P.cellsOf t = len)
    (h' : OpensF P kd' ok' fs (off + len) len') : OpensF P (Kd.pair kd kd') (OkPair ok ok') (f :: fs) off (len + len') := by
  intro H enc W base spare held n cs hf hle
  obtain ⟨y, hy⟩ := hf f List.mem_cons_self
  subst ht ho hl
  obtain ⟨a, ha, hoka⟩ := h enc W base spare held n _ y hy
  obtain ⟨b, hb, hokb⟩ := h' enc W base spare held n cs (fun g hg => hf g (List.mem_cons_of_mem _ hg)) (by omega)
  refine ⟨(a, b), ⟨_, _, ?_, ha, hb⟩, hoka, hokb⟩
  rw [List.take_add, List.drop_drop]
theorem opens_struct {α β : Type} {kd : Kd α} {ok : α → Prop} {fs : Array Field} {len : Nat} (ht : P.underlying t = some (.struct fs)) (hc : P.cellsOf t = len) (h : OpensF P kd ok fs.toList 0 len) (f : β → α) (g : α → β) (hg : ∀ a, f (g a) = a) :
    Opens P (Kd.iso kd f) (fun b => ok (f b)) t := by
  intro H enc W base spare held fuel cs x hx
  obtain ⟨xs, n, _, _, hl, hlen, hf⟩ := DataW.trod_struct ht hx
  obtain ⟨a, ha, hok⟩ := h enc W base spare held n cs (fun fd hfd => by
    obtain ⟨i, hi⟩ := List.getElem?_of_mem hfd
    have h1 := hf i fd (by simpa using hi)
    have hi2 : i < xs.length := by
      have := (List.getElem?_eq_some_iff.1 hi).1
      rw [hlen]; simpa using this
    rw [List.getElem?_eq_getElem hi2] at h1
    exact ⟨_, h1⟩) (by omega)
  refine ⟨g a, ?_, by show ok (f (g a)); rw [hg]; exact hok⟩
  show kd.K W (f (g a)) cs
  rw [hg]
  have : (cs.drop 0).take len = cs := by rw [List.drop_zero]; exact List.take_of_length_le (by omega)
  rw [this] at ha
  exact ha
theorem opens_struct_id {α : Type} {kd : Kd α} {ok : α → Prop} {fs : Array Field} {len : Nat} (ht : P.underlying t = some (.struct fs)) (hc : P.cellsOf t = len) (h : OpensF P kd ok fs.toList 0 len) : Opens P kd ok t :=
  opens_struct ht hc h id id (fun _ => rfl)

/-! ### a parameter, opened -/
variable {H : Type} {enc : TypeId × Value → H} {W : World} {base : Nat} {spare : Nat → Bool} {held : Bool} {r : Reach} {b0 : Nat} {v : Value} {d : DataW H} {ps : List MemPlace}
theorem param_slice {α : Type} {kd : Kd α} {ok : List α → Prop} (ht : P.underlying t = some (.slice e)) (h : Opens P (Kd.slice e kd) ok t) (hval : Value.okWide P W r b0 t v) (hd : DataW.Trod enc P W base spare held t v d ps) :
    ∃ A c l, v = .slice A l.length c ∧ l.length ≤ c ∧ Kd.C kd W A l.length l ∧ ok l := by
  obtain ⟨a, len, cap, rfl⟩ := okWide_slice ht hval
  obtain ⟨fuel, hf⟩ := hd
  obtain ⟨l, ⟨A, c, hcs, hl, hC⟩, hok⟩ := h enc W base spare held fuel _ _ hf
  have : Value.slice a len cap = Value.slice A l.length c := by simpa [Value.cells] using hcs
  exact ⟨A, c, l, this, hl, hC, hok⟩
theorem param_struct {α : Type} {kd : Kd α} {ok : α → Prop} {fs : Array Field} (ht : P.underlying t = some (.struct fs)) (h : Opens P kd ok t) (hval : Value.okWide P W r b0 t v) (hd : DataW.Trod enc P W base spare held t v d ps) :
    ∃ cs a, v = .agg cs ∧ kd.K W a cs.toList ∧ ok a := by
  obtain ⟨cs, rfl, hsz⟩ := okWide_struct ht hval
  obtain ⟨fuel, hf⟩ := hd
  obtain ⟨a, hK, hok⟩ := h enc W base spare held fuel _ _ hf
  exact ⟨cs, a, rfl, hK, hok⟩
theorem agg_eq {cs : Array Value} {l : List Value} (h : cs.toList = l) : cs = l.toArray := by rw [← h]
end
end Go.Proofs.Ytfejidinfcmfjaa.Opens
/-
  The plain statement of MsgApart: unlike messages have unlike bytes, none the beginning of another one's.
-/
namespace Go.Proofs.Ytfejidinfcmfjaa.Pure
open Go.RowKit Go.Proofs Go.Proofs.CodecPlain Go.Proofs.YtfejidinfcmfjaaW.PrintWords Go.Proofs.YtfejidinfcmfjaaW.PrintLast Go.Proofs.Ytfejidinfcmfjaa.P Go.Proofs.Ytfejidinfcmfjaa.MS Go.Proofs.Ytfejidinfcmfjaa.Opens

theorem front_iff (s t : ByteArray) (h : s.size ≤ t.size) : ((t.extract 0 s.size).toList == s.toList) = true ↔ ∃ r, t = s ++ r := by
  rw [beq_iff_eq]
  constructor
  · intro e
    have he : t.extract 0 s.size = s := by
      rw [ByteArray.toList_eq, ByteArray.toList_eq] at e
      exact ByteArray.ext (Array.toList_inj.1 e)
    refine ⟨t.extract s.size t.size, ?_⟩
    apply ba_ext
    rw [app_list, ext_list]
    have h2 : (t.extract 0 s.size).data.toList = s.data.toList := by rw [he]
    rw [ext_list, List.drop_zero, Nat.sub_zero] at h2
    rw [← h2, List.take_of_length_le (l := t.data.toList.drop s.size) (by rw [List.length_drop, len_list]; omega), List.take_append_drop]
  · rintro ⟨r, rfl⟩
    congr 1
    apply ba_ext
    rw [ext_list, app_list, List.drop_zero, Nat.sub_zero, List.take_left']
    exact len_list s
theorem apart_j1 (k : Nat) (a0 a1 a2 a3 a4 a5 a6 : Int) (l : List ByteArray) (b0 b1 b2 b3 b4 b5 b6 : Int) (m : List ByteArray)
    (ha : isB a0 a1 a2 a3 a4 a5 a6 l = true) (hb : isB b0 b1 b2 b3 b4 b5 b6 m = true) (hs : ¬ ((msgStr a0 a1 a2 a3 a4 a5 a6 l).size : Int) > ((msgStr b0 b1 b2 b3 b4 b5 b6 m).size : Int))
    (hsame : sextonref23_Same.f k a0 a1 a2 a3 a4 a5 a6 l b0 b1 b2 b3 b4 b5 b6 m = some (decide (a0 = b0 ∧ a1 = b1 ∧ a2 = b2 ∧ a3 = b3 ∧ a4 = b4 ∧ a5 = b5 ∧ a6 = b6 ∧ l = m))) :
    sextonlaw23_MsgApart.j1 (k + 1) (msgStr a0 a1 a2 a3 a4 a5 a6 l) (msgStr b0 b1 b2 b3 b4 b5 b6 m) false a0 a1 a2 a3 a4 a5 a6 l b0 b1 b2 b3 b4 b5 b6 m = some true := by
  simp only [sextonlaw23_MsgApart.j1]
  rw [if_neg (by decide)]
  simp only [sextonlaw23_sent.f]
  rw [Option.bind_some, if_pos rfl, if_pos (by omega), if_pos (by omega), hsame, Option.bind_some, Int.toNat_natCast]
  congr 1
  rw [beq_iff_eq, Bool.eq_iff_iff, decide_eq_true_eq, front_iff _ _ (by omega)]
  constructor
  · rintro ⟨r, hr⟩
    obtain ⟨p1, p2⟩ := msg_parts a0 a1 a2 a3 a4 a5 a6 l ha r
    obtain ⟨q1, q2⟩ := msg_parts b0 b1 b2 b3 b4 b5 b6 m hb ⟨#[]⟩
    rw [app_nil] at q1 q2
    rw [← hr, q1] at p1
    simp only [Prod.mk.injEq, List.cons.injEq, and_true] at p1
    obtain ⟨⟨e0, e1, e2, e3, e4, e5, e6⟩, e7⟩ := p1
    rw [app_nil] at e7
    rw [← e7, q2] at p2
    simp only [Prod.mk.injEq] at p2
    exact ⟨e0.symm, e1.symm, e2.symm, e3.symm, e4.symm, e5.symm, e6.symm, p2.1.symm⟩
  · rintro ⟨rfl, rfl, rfl, rfl, rfl, rfl, rfl, rfl⟩
    exact ⟨⟨#[]⟩, (app_nil _).symm⟩
theorem apart_no (k : Nat) (s t : ByteArray) (a0 a1 a2 a3 a4 a5 a6 : Int) (l : List ByteArray) (b0 b1 b2 b3 b4 b5 b6 : Int) (m : List ByteArray) : sextonlaw23_MsgApart.j1 (k + 1) s t true a0 a1 a2 a3 a4 a5 a6 l b0 b1 b2 b3 b4 b5 b6 m = some true := by
  simp only [sextonlaw23_MsgApart.j1]
  rw [if_pos trivial]
  simp only [sextonlaw23_sent.f]
  rw [Option.bind_some]
theorem MsgApart (a0_0 a0_1 a0_2 a0_3 a0_4 a0_5 a0_6 : Int) (l0_7 : List ByteArray) (a1_0 a1_1 a1_2 a1_3 a1_4 a1_5 a1_6 : Int) (l1_7 : List ByteArray) {okp okq : Prop} (h0 : okp) (h1 : okq) : ∃ k, sextonlaw23_MsgApart.f k a0_0 a0_1 a0_2 a0_3 a0_4 a0_5 a0_6 l0_7 a1_0 a1_1 a1_2 a1_3 a1_4 a1_5 a1_6 l1_7 = some true := by
  obtain ⟨r, hb, h80⟩ := big_f a0_0 a0_1 a0_2 a0_3 a0_4 a0_5 a0_6 l0_7
  obtain ⟨r', hb', h80'⟩ := big_f a1_0 a1_1 a1_2 a1_3 a1_4 a1_5 a1_6 l1_7
  have out : ∀ k, sextonlaw23_MsgApart.j0 (k + 1) true a0_0 a0_1 a0_2 a0_3 a0_4 a0_5 a0_6 l0_7 a1_0 a1_1 a1_2 a1_3 a1_4 a1_5 a1_6 l1_7 = some true := fun k => by
    simp only [sextonlaw23_MsgApart.j0]
    rw [if_pos trivial]
  cases r with
  | true =>
    refine ⟨300, ?_⟩
    unfold sextonlaw23_MsgApart.f
    rw [hb 300 (by omega), Option.bind_some, if_pos rfl]
    exact out 299
  | false =>
    cases r' with
    | true =>
      refine ⟨300, ?_⟩
      unfold sextonlaw23_MsgApart.f
      rw [hb 300 (by omega), Option.bind_some, if_neg (by decide), hb' 300 (by omega), Option.bind_some]
      exact out 299
    | false =>
      obtain ⟨K, e⟩ := same_ev a0_0 a0_1 a0_2 a0_3 a0_4 a0_5 a0_6 l0_7 a1_0 a1_1 a1_2 a1_3 a1_4 a1_5 a1_6 l1_7 (by have := h80 rfl; omega)
      simp only at e
      refine ⟨K + 300 + 2, ?_⟩
      unfold sextonlaw23_MsgApart.f
      rw [hb _ (by omega), Option.bind_some, if_neg (by decide), hb' _ (by omega), Option.bind_some]
      simp only [sextonlaw23_MsgApart.j0]
      rw [if_neg (by decide), put_f, Option.bind_some, put_f, Option.bind_some]
      by_cases ha : isB a0_0 a0_1 a0_2 a0_3 a0_4 a0_5 a0_6 l0_7 = true
      · rw [if_pos ha, if_pos rfl]
        by_cases hc : isB a1_0 a1_1 a1_2 a1_3 a1_4 a1_5 a1_6 l1_7 = true
        · rw [if_pos hc, if_pos rfl]
          by_cases hs : ((msgStr a0_0 a0_1 a0_2 a0_3 a0_4 a0_5 a0_6 l0_7).size : Int) > ((msgStr a1_0 a1_1 a1_2 a1_3 a1_4 a1_5 a1_6 l1_7).size : Int)
          · rw [decide_eq_true hs]; exact apart_no _ _ _ _ _ _ _ _ _ _ _ _ _ _ _ _ _ _ _
          · rw [decide_eq_false hs]; exact apart_j1 _ _ _ _ _ _ _ _ _ _ _ _ _ _ _ _ _ ha hc hs (e _ (by omega))
        · rw [if_neg hc, if_neg (by decide)]; exact apart_no _ _ _ _ _ _ _ _ _ _ _ _ _ _ _ _ _ _ _
      · rw [if_neg ha, if_neg (by decide)]; exact apart_no _ _ _ _ _ _ _ _ _ _ _ _ _ _ _ _ _ _ _
end Go.Proofs.Ytfejidinfcmfjaa.Pure
