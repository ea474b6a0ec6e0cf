/-
  Texts of the claim MsgBytes, joined.
-/
import Derived.Test.YtfejidinfcmfjaaPx0
import Derived.Test.YtfejidinfcmfjaaCMsgBytesc
import Derived.Test.YtfejidinfcmfjaaCMsgBytesb
import Derived.Test.YtfejidinfcmfjaaCMsgBytesa
import Derived.Maps.AppendAt
import Derived.OwnWalk
import Derived.LoopTactic
import Derived.WalkKit
import Derived.ProofKit
import Derived.OpenShut
import Derived.ShutString
import Derived.ChangeOld
import Derived.Below
import Derived.SizedLaws
import Derived.ChangeArms
import Derived.Test.YtfejidinfcmfjaaWWords
-- Written by a program of this session (xprint.py) over the kit's print.py.
namespace Go.Proofs.Ytfejidinfcmfjaa.P
open Go.RowKit Go.Proofs.YtfejidinfcmfjaaW.PrintWords Go.Proofs.YtfejidinfcmfjaaW.PrintLast Go.Proofs.YtfejidinfcmfjaaW.PrintMore
attribute [local go_sem] max2_int min2_int max_two min_two max_three min_three max_four min_four   -- for this text's walks alone
set_option linter.unusedVariables false
set_option linter.unusedSimpArgs false

/-! ### sextonref01_GetRow: function 67 -/
mutual
def sextonref01_GetRow.j0 : Nat → Int → ByteArray → Bool → Option (List ByteArray × ByteArray × Bool)
  | 0, _, _, _ => none
  | k + 1, x5, x6, x24 => if x24 = true then (some (([] : List ByteArray), (⟨#[]⟩ : ByteArray), false)) else (sextonref01_GetRow.l0 k x5 x6 ([] : List ByteArray) 0)
def sextonref01_GetRow.l0 : Nat → Int → ByteArray → List ByteArray → Int → Option (List ByteArray × ByteArray × Bool)
  | 0, _, _, _, _ => none
  | k + 1, x5, x6, x8, x9 => if x9 < x5 then ((sextonref01_GetText.f k x6).bind fun bt367 => (if bt367.2.2 = true then (if x8.length < 8796093022208 then (sextonref01_GetRow.l0 k x5 bt367.2.1 (x8 ++ [bt367.1]) (wrap64 (x9 + 1))) else (none)) else (some (([] : List ByteArray), (⟨#[]⟩ : ByteArray), false)))) else (some (x8, x6, true))
end
def sextonref01_GetRow.f (k : Nat) (a0 : ByteArray) : Option (List ByteArray × ByteArray × Bool) := (sextonref01_GetNumber.f k a0).bind fun bt364 => (if bt364.2.2 = true then (sextonref01_GetRow.j0 k bt364.1 bt364.2.1 (decide (bt364.1 > 1000))) else (sextonref01_GetRow.j0 k bt364.1 bt364.2.1 true))
theorem sextonref01_GetRow.mono_l : ∀ k, (∀ y0 y1 y2, LeO (sextonref01_GetRow.j0 k y0 y1 y2) (sextonref01_GetRow.j0 (k + 1) y0 y1 y2)) ∧ (∀ y0 y1 y2 y3, LeO (sextonref01_GetRow.l0 k y0 y1 y2 y3) (sextonref01_GetRow.l0 (k + 1) y0 y1 y2 y3))
  | 0 => ⟨fun _ _ _ r h => by simp [sextonref01_GetRow.j0] at h, fun _ _ _ _ r h => by simp [sextonref01_GetRow.l0] at h⟩
  | k + 1 => by
    obtain ⟨ih0, ih1⟩ := sextonref01_GetRow.mono_l k
    refine ⟨?_, ?_⟩
    · intro y0 y1 y2
      unfold sextonref01_GetRow.j0
      repeat' first
      | (with_reducible exact ih0 _ _ _)
      | (with_reducible exact ih1 _ _ _ _)
      | (with_reducible exact sextonref01_GetNumber.mono _ _)
      | (with_reducible exact sextonref01_GetText.mono _ _)
      | (with_reducible exact LeO.refl _)
      | (with_reducible exact LeO.none _)
      | (with_reducible refine LeO.ite ?_ ?_)
      | (with_reducible refine LeO.bind ?_ (fun _ => ?_))
      | exact ih0 _ _ _
      | exact ih1 _ _ _ _
      | exact sextonref01_GetNumber.mono _ _
      | exact sextonref01_GetText.mono _ _
      | exact LeO.none _
      | refine LeO.ite ?_ ?_
      | refine LeO.bind ?_ (fun _ => ?_)
    · intro y0 y1 y2 y3
      unfold sextonref01_GetRow.l0
      repeat' first
      | (with_reducible exact ih0 _ _ _)
      | (with_reducible exact ih1 _ _ _ _)
      | (with_reducible exact sextonref01_GetNumber.mono _ _)
      | (with_reducible exact sextonref01_GetText.mono _ _)
      | (with_reducible exact LeO.refl _)
      | (with_reducible exact LeO.none _)
      | (with_reducible refine LeO.ite ?_ ?_)
      | (with_reducible refine LeO.bind ?_ (fun _ => ?_))
      | exact ih0 _ _ _
      | exact ih1 _ _ _ _
      | exact sextonref01_GetNumber.mono _ _
      | exact sextonref01_GetText.mono _ _
      | exact LeO.none _
      | refine LeO.ite ?_ ?_
      | refine LeO.bind ?_ (fun _ => ?_)
theorem sextonref01_GetRow.mono : ∀ a0 k, LeO (sextonref01_GetRow.f k a0) (sextonref01_GetRow.f (k + 1) a0) := by
  intro a0 k
  obtain ⟨ih0, ih1⟩ := sextonref01_GetRow.mono_l k
  unfold sextonref01_GetRow.f
  repeat' first
      | (with_reducible exact ih0 _ _ _)
      | (with_reducible exact ih1 _ _ _ _)
      | (with_reducible exact sextonref01_GetNumber.mono _ _)
      | (with_reducible exact sextonref01_GetText.mono _ _)
      | (with_reducible exact LeO.refl _)
      | (with_reducible exact LeO.none _)
      | (with_reducible refine LeO.ite ?_ ?_)
      | (with_reducible refine LeO.bind ?_ (fun _ => ?_))
      | exact ih0 _ _ _
      | exact ih1 _ _ _ _
      | exact sextonref01_GetNumber.mono _ _
      | exact sextonref01_GetText.mono _ _
      | exact LeO.none _
      | refine LeO.ite ?_ ?_
      | refine LeO.bind ?_ (fun _ => ?_)
set_option maxHeartbeats 8000000 in
set_option maxRecDepth 100000 in
theorem sextonref01_GetRow.calls (k : Nat) (a0 : ByteArray) (r1 : List ByteArray) (r2 : ByteArray) (r3 : Bool) (w : World) (h : sextonref01_GetRow.f k a0 = some (r1, r2, r3)) :
    Calls Try.prog 67 #[.string a0] w fun e w' => ∃ v0_ : Value, e = .returned (.tuple #[v0_, .string r2, .bool r3]) ∧ Kd.R Kd.string 9 w' w.heap.size (fun _ => True) v0_ r1 ∧ Below w.heap.size w w' := by
  have HB := Aside0.mk (Below.refl w.heap.size w)
  have H : ((sextonref01_GetNumber.f k a0).bind fun bt364 => (if bt364.2.2 = true then (sextonref01_GetRow.j0 k bt364.1 bt364.2.1 (decide (bt364.1 > 1000))) else (sextonref01_GetRow.j0 k bt364.1 bt364.2.1 true))) = some (r1, r2, r3) := h
  clear h
  replace H := Option.bind_eq_some_iff.mp H
  obtain ⟨⟨t364, t365, t366⟩, A20, H⟩ := H
  replace H : (if t366 = true then (sextonref01_GetRow.j0 k t364 t365 (decide (t364 > 1000))) else (sextonref01_GetRow.j0 k t364 t365 true)) = some (r1, r2, r3) := H
  have A2 := Aside0.mk A20
  clear A20
  have HC3 := Aside0.mk H
  clear H
  go_enter Try.func67, Try.ntmps67
  go_upto_region 2 with (first | ((with_reducible refine gate_callee (f := 66) rfl ?_); refine goesL_ (some 15) rfl rfl Try.func66 (by kernel_rfl) rfl #[.string a0] rfl (by (try simp only [List.map_toArray, List.map_cons, List.map_nil]); first | done | rfl | (simp only [List.length_drop, List.length_take]; rfl)) ?_; (with_reducible refine (sextonref01_GetNumber.calls k a0 t364 t365 t366 _ A2.out).mono ?_); rintro e w4 ⟨rfl, hb⟩; refine ⟨_, rfl, ?_⟩; have n0_ := Aside0.mk (below_step (by repeat (first | (with_reducible first | exact HB.out | apply below_alloc | apply pw_below_drewN | apply below_drew1) | exact HB.out)) hb); clear HB; have HB := n0_; clear n0_; (try clear hb); (try clear hb2); (try clear hk); (try clear hi)))
  (try simp only [Act.put, List.setIfInBounds_toArray, List.set_cons_zero, List.set_cons_succ])
  go_cut [24] (fun v24 wc => ∃ (kq : Nat) (x24_2 : Bool), v24 = .bool x24_2 ∧ Aside0 (sextonref01_GetRow.j0 kq t364 t365 x24_2 = some (r1, r2, r3)) ∧ Aside0 (kq ≤ k) ∧ Aside0 (Below w.heap.size w wc))
  case first =>
    have H := HC3.out
    clear HC3
    by_cases c5 : t366 = true
    · subst c5
      have H1 : (sextonref01_GetRow.j0 k t364 t365 (decide (t364 > 1000))) = some (r1, r2, r3) := by rw [if_pos rfl] at H; exact H
      clear H
      have H := H1
      clear H1
      have H' := Aside0.mk H
      clear H
      go_wp2
      go_meet
      case rel => exact ⟨_, (decide (t364 > 1000)), (by first | rfl | (simp; done) | (simp [*]; done)), H', ⟨by first | omega | exact Nat.le_refl _⟩, ⟨by repeat (first | (with_reducible first | exact HB.out | apply below_alloc | apply pw_below_drewN | apply below_drew1) | exact HB.out)⟩⟩
    · replace c5 := Bool.eq_false_iff.mpr c5
      subst c5
      have H1 : (sextonref01_GetRow.j0 k t364 t365 true) = some (r1, r2, r3) := by rw [if_neg (show ¬ (false = true) by decide)] at H; exact H
      clear H
      have H := H1
      clear H1
      have H' := Aside0.mk H
      clear H
      go_wp2
      go_meet
      case rel => exact ⟨_, (true), (by first | rfl | (simp; done) | (simp [*]; done)), H', ⟨by first | omega | exact Nat.le_refl _⟩, ⟨by repeat (first | (with_reducible first | exact HB.out | apply below_alloc | apply pw_below_drewN | apply below_drew1) | exact HB.out)⟩⟩
  case rest =>
    clear HC3
    try clear p2
    try clear c5
    obtain ⟨kq, x24_2, rfl, HA, HJ2, HB⟩ := hcut
    cases kq with
    | zero => exact absurd HA.out (by simp [sextonref01_GetRow.j0])
    | succ kj2 =>
      have H := HA.out
      clear HA
      simp only [sextonref01_GetRow.j0] at H
      by_cases c6 : x24_2 = true
      · subst c6
        have H1 : (some (([] : List ByteArray), (⟨#[]⟩ : ByteArray), false)) = some (r1, r2, r3) := by rw [if_pos rfl] at H; exact H
        clear H
        have H := H1
        clear H1
        simp only [Option.some.injEq, Prod.mk.injEq] at H
        obtain ⟨rfl, rfl, rfl⟩ := H
        go_wp2
        go_ret3
        exact ⟨_, by first | rfl | (simp [errW_none, errW_some] <;> rfl) | (simp [*, errW_none, errW_some] <;> rfl), by first | exact Kd.R_nil _ _ _ _ _ | exact Kd.N_nil _ _ _ _ _ | exact Kd.V_nil _ _ _ _ _ | exact Kd.Q_nil _ _ _ _ _ | exact Kd.S_nil _ _ _ _ _, by repeat (first | (with_reducible first | exact HB.out | apply below_alloc | apply pw_below_drewN | apply below_drew1) | exact HB.out)⟩
      · replace c6 := Bool.eq_false_iff.mpr c6
        subst c6
        have H1 : (sextonref01_GetRow.l0 kj2 t364 t365 ([] : List ByteArray) 0) = some (r1, r2, r3) := by rw [if_neg (show ¬ (false = true) by decide)] at H; exact H
        clear H
        have H := H1
        clear H1
        have H' := Aside0.mk H
        clear H
        go_wp2
        go_loopg [6, 8, 9] kj2 (fun kq v6 v8 v9 w' => ∃ (x6_2 : ByteArray) (x8_2 : List ByteArray) (x9_2 : Int), v6 = .string x6_2 ∧ v9 = .int .i64 x9_2 ∧ Aside0 (sextonref01_GetRow.l0 kq t364 x6_2 x8_2 x9_2 = some (r1, r2, r3)) ∧ Aside0 (kq ≤ kj2) ∧ Aside0 (Kd.R Kd.string 9 w' w.heap.size (fun _ => True) v8 x8_2) ∧ Aside0 (Below w.heap.size w w'))
        case atStart => exact ⟨(t365), (([] : List ByteArray)), (0), (by first | rfl | (simp; done) | (simp [*]; done)), (by first | rfl | (simp; done) | (simp [*]; done)), H', ⟨Nat.le_refl _⟩, ⟨by first | exact Kd.R_nil _ _ _ _ _ | exact Kd.N_nil _ _ _ _ _ | exact Kd.V_nil _ _ _ _ _ | exact Kd.Q_nil _ _ _ _ _ | exact Kd.S_nil _ _ _ _ _⟩, ⟨by repeat (first | (with_reducible first | exact HB.out | apply below_alloc | apply pw_below_drewN | apply below_drew1) | exact HB.out)⟩⟩
        case round =>
          clear H'
          try clear p2
          try clear c5
          try clear c6
          try clear p2
          obtain ⟨x6_2, x8_2, x9_2, rfl, rfl, HA, HK2, HO_8, HB⟩ := hrel
          cases gk with
          | zero => exact absurd HA.out (by simp [sextonref01_GetRow.l0])
          | succ k2 =>
            have H := HA.out
            clear HA
            simp only [sextonref01_GetRow.l0] at H
            by_cases c7 : x9_2 < t364
            · rw [if_pos c7] at H
              have c7b0 : decide (x9_2 < t364) = true := decide_eq_true c7
              clear c7
              replace H := Option.bind_eq_some_iff.mp H
              obtain ⟨⟨t367, t368, t369⟩, A80, H⟩ := H
              replace H : (if t369 = true then (if x8_2.length < 8796093022208 then (sextonref01_GetRow.l0 k2 t364 t368 (x8_2 ++ [t367]) (wrap64 (x9_2 + 1))) else (none)) else (some (([] : List ByteArray), (⟨#[]⟩ : ByteArray), false))) = some (r1, r2, r3) := H
              have A8 := Aside0.mk A80
              clear A80
              by_cases c9 : t369 = true
              · subst c9
                have H1 : (if x8_2.length < 8796093022208 then (sextonref01_GetRow.l0 k2 t364 t368 (x8_2 ++ [t367]) (wrap64 (x9_2 + 1))) else (none)) = some (r1, r2, r3) := by rw [if_pos rfl] at H; exact H
                clear H
                have H := H1
                clear H1
                by_cases c10 : x8_2.length < 8796093022208
                · rw [if_pos c10] at H
                  have LMc10 := Aside0.mk c10
                  clear c10
                  obtain ⟨y370, hy370⟩ : ∃ y_ : List ByteArray, y_ = (x8_2 ++ [t367]) := ⟨_, rfl⟩
                  replace H : (sextonref01_GetRow.l0 k2 t364 t368 y370 (wrap64 (x9_2 + 1))) = some (r1, r2, r3) := by first | (rw [hy370]; with_reducible exact H) | (have H2_ := (Option.bind_some _ _).symm.trans H; rw [hy370]; with_reducible exact H2_) | (have H2_ := (Option.bind_some _ _).symm.trans H; with_reducible exact H2_) | with_reducible exact H | (rw [hy370]; exact H) | exact H
                  have Ny370 := Aside0.mk hy370
                  clear hy370
                  have H' := Aside0.mk H
                  clear H
                  go_wp2_with (first | ((with_reducible refine gate_callee (f := 82) rfl ?_); refine goesL_ (some 32) rfl rfl Try.func82 (by kernel_rfl) rfl #[.string x6_2] rfl (by (try simp only [List.map_toArray, List.map_cons, List.map_nil]); first | done | rfl | (simp only [List.length_drop, List.length_take]; rfl)) ?_; (with_reducible refine (sextonref01_GetText.calls k2 x6_2 t367 t368 true _ A8.out).mono ?_); rintro e w11 ⟨rfl, hb⟩; refine ⟨_, rfl, ?_⟩; have n0_ := Aside0.mk (Kd.R_below (by (with_reducible repeat (first | apply Kd.R_alloc | apply Kd.R_drewN | apply Kd.R_drew)); exact HO_8.out) hb); have n1_ := Aside0.mk (below_step (by repeat (first | (with_reducible first | exact HB.out | apply below_alloc | apply pw_below_drewN | apply below_drew1) | exact HB.out)) hb); clear HO_8; clear HB; have HO_8 := n0_; have HB := n1_; clear n0_ n1_; (try clear hb); (try clear hb2); (try clear hk); (try clear hi)) | ((with_reducible refine gate_builtin (b := .append) (xs := #[.tmp 38, .tmp 40]) rfl ?_); at_builtin; refine Kd.R_append Kd.string (w0 := w) w.heap.size rfl (.tmp 38) (.tmp 40) 27 9 (.string ⟨#[]⟩) 16 rfl Try.underlying27 info9 rfl (by decide) (by omega) u8 x8_2 t367 [.string t367] (fun _ => True) (fun _ => False) rfl rfl ?aP (fun _ hk => hk.elim) ?aF ?aO ?aB ?aS ?aL ?_; (case aP => exact rfl); (case aB => exact (by repeat (first | (with_reducible first | exact HB.out | apply below_alloc | apply pw_below_drewN | apply below_drew1) | exact HB.out))); (case aF => exact (fun _ _ => trivial)); (case aO => exact (by (with_reducible repeat (first | apply Kd.R_alloc | apply Kd.R_drewN | apply Kd.R_drew)); exact HO_8.out)); (case aS => exact (below_size (by repeat (first | (with_reducible first | exact HB.out | apply below_alloc | apply pw_below_drewN | apply below_drew1) | exact HB.out)))); (case aL => have := LMc10.out; omega); intro v371 w12 ho hb hg hat; rw [← Ny370.out] at ho; have n0_ := Aside0.mk (hb); have n1_ := Aside0.mk (ho); clear HB; clear HO_8; have HB := n0_; have HO372 := n1_; clear n0_ n1_; clear ho hb hg hat))
                  go_roundg k2
                  case measure => have := HJ2.out; have := HK2.out; omega
                  case rel => exact ⟨(t368), (y370), (wrap64 (x9_2 + 1)), (by first | rfl | (simp; done) | (simp [*]; done)), (by first | rfl | (simp; done) | (simp [*]; done)), H', ⟨by have := HJ2.out; have := HK2.out; omega⟩, ⟨by (with_reducible repeat (first | apply Kd.R_alloc | apply Kd.R_drewN | apply Kd.R_drew)); exact HO372.out⟩, ⟨by repeat (first | (with_reducible first | exact HB.out | apply below_alloc | apply pw_below_drewN | apply below_drew1) | exact HB.out)⟩⟩
                · rw [if_neg c10] at H
                  exact absurd H (by simp)
              · replace c9 := Bool.eq_false_iff.mpr c9
                subst c9
                have H1 : (some (([] : List ByteArray), (⟨#[]⟩ : ByteArray), false)) = some (r1, r2, r3) := by rw [if_neg (show ¬ (false = true) by decide)] at H; exact H
                clear H
                have H := H1
                clear H1
                simp only [Option.some.injEq, Prod.mk.injEq] at H
                obtain ⟨rfl, rfl, rfl⟩ := H
                go_wp2_with (first | ((with_reducible refine gate_callee (f := 82) rfl ?_); refine goesL_ (some 32) rfl rfl Try.func82 (by kernel_rfl) rfl #[.string x6_2] rfl (by (try simp only [List.map_toArray, List.map_cons, List.map_nil]); first | done | rfl | (simp only [List.length_drop, List.length_take]; rfl)) ?_; (with_reducible refine (sextonref01_GetText.calls k2 x6_2 t367 t368 false _ A8.out).mono ?_); rintro e w13 ⟨rfl, hb⟩; refine ⟨_, rfl, ?_⟩; have n0_ := Aside0.mk (Kd.R_below (by (with_reducible repeat (first | apply Kd.R_alloc | apply Kd.R_drewN | apply Kd.R_drew)); exact HO_8.out) hb); have n1_ := Aside0.mk (below_step (by repeat (first | (with_reducible first | exact HB.out | apply below_alloc | apply pw_below_drewN | apply below_drew1) | exact HB.out)) hb); clear HO_8; clear HB; have HO_8 := n0_; have HB := n1_; clear n0_ n1_; (try clear hb); (try clear hb2); (try clear hk); (try clear hi)))
                go_ret3
                exact ⟨_, by first | rfl | (simp [errW_none, errW_some] <;> rfl) | (simp [*, errW_none, errW_some] <;> rfl), by first | exact Kd.R_nil _ _ _ _ _ | exact Kd.N_nil _ _ _ _ _ | exact Kd.V_nil _ _ _ _ _ | exact Kd.Q_nil _ _ _ _ _ | exact Kd.S_nil _ _ _ _ _, by repeat (first | (with_reducible first | exact HB.out | apply below_alloc | apply pw_below_drewN | apply below_drew1) | exact HB.out)⟩
            · rw [if_neg c7] at H
              have c7b0 : decide (x9_2 < t364) = false := decide_eq_false c7
              clear c7
              simp only [Option.some.injEq, Prod.mk.injEq] at H
              obtain ⟨rfl, rfl, rfl⟩ := H
              go_wp2
              go_ret3
              exact ⟨_, by first | rfl | (simp [errW_none, errW_some] <;> rfl) | (simp [*, errW_none, errW_some] <;> rfl), by (with_reducible repeat (first | apply Kd.R_alloc | apply Kd.R_drewN | apply Kd.R_drew)); exact HO_8.out, by repeat (first | (with_reducible first | exact HB.out | apply below_alloc | apply pw_below_drewN | apply below_drew1) | exact HB.out)⟩

end Go.Proofs.Ytfejidinfcmfjaa.P
/-
  What the references of chapter 1 that read answer, told plainly.
-/
namespace Go.Proofs.Ytfejidinfcmfjaa.P
open Go.RowKit Go.Proofs.CodecPlain Go.Proofs.YtfejidinfcmfjaaW.PrintWords Go.Proofs.YtfejidinfcmfjaaW.PrintLast

theorem accB_bd4 (l : List UInt8) (h : l.length ≤ 4) : 0 ≤ accB l ∧ accB l < 4294967296 := by
  have hbd := accB_bd l
  refine ⟨hbd.1, Int.lt_of_lt_of_le hbd.2 ?_⟩
  match l.length, h with
  | 0, _ => decide
  | 1, _ => decide
  | 2, _ => decide
  | 3, _ => decide
  | 4, _ => decide
theorem bt_list (s : ByteArray) (i : Nat) (h : i < s.data.toList.length) : bt s (i : Int) = (s.data.toList[i].toNat : Int) := by
  have h' : i < s.size := by rw [len_list] at h; exact h
  unfold bt
  rw [dif_pos (by simpa using h')]
  rfl
theorem bt_hd (s : ByteArray) (h : 0 < s.size) : bt s 0 = (hd s : Int) := by
  unfold bt hd
  rw [dif_pos (by simpa using h), dif_pos h]
  rfl
theorem wrap_bt (s : ByteArray) (i : Int) : wrap64 (bt s i) = bt s i := by have := bt_range s i; exact wrap_id (by omega) (by omega)

/-- Whether a number's own text stands at the begin. -/
theorem getNum_by (s : ByteArray) (h0 : 0 < s.size) (h4 : hd s ≤ 4) (h5 : hd s < s.size) :
    getNum s = if numStr (accB (s.extract 1 (1 + hd s)).data.toList) = s.extract 0 (1 + hd s) then (accB (s.extract 1 (1 + hd s)).data.toList, s.extract (1 + hd s) s.size, true) else (0, ⟨#[]⟩, false) := by
  have hbl : ((s.extract 1 (1 + hd s)).data.toList).length = hd s := by rw [len_list, ByteArray.size_extract]; omega
  have hbd := accB_bd4 (s.extract 1 (1 + hd s)).data.toList (by omega)
  have hlt : accB (s.extract 1 (1 + hd s)).data.toList ≤ 4294967295 := by omega
  have hsplit : s = s.extract 0 (1 + hd s) ++ s.extract (1 + hd s) s.size := by
    apply ba_ext
    rw [app_list, ext_list, ext_list, List.drop_zero, Nat.sub_zero]
    rw [List.take_of_length_le (l := s.data.toList.drop (1 + hd s)) (by rw [List.length_drop, len_list]; omega), List.take_append_drop]
  by_cases he : numStr (accB (s.extract 1 (1 + hd s)).data.toList) = s.extract 0 (1 + hd s)
  · rw [if_pos he]
    have := getNum_put (accB (s.extract 1 (1 + hd s)).data.toList) hbd.1 hlt (s.extract (1 + hd s) s.size)
    rw [he, ← hsplit] at this
    exact this
  · rw [if_neg he]
    cases hok : (getNum s).2.2 with
    | false => exact getNum_no' hok
    | true =>
      exfalso
      obtain ⟨n, r, b, hn⟩ : ∃ n r b, getNum s = (n, r, b) := ⟨_, _, _, rfl⟩
      rw [hn] at hok
      simp only at hok
      subst hok
      obtain ⟨h1, h2, h3⟩ := getNum_got hn
      have hval : n = accB (s.extract 1 (1 + hd s)).data.toList := by
        rw [getNum_is s h0 h4 h5] at hn
        split at hn
        · simp at hn
        · simp only [Prod.mk.injEq, and_true] at hn; exact hn.1.symm
      have hhd : hd s = (nbytes n).length := by
        have hl := nbytes_length n
        conv => lhs; rw [h3]
        rw [hd_list, app_list, numStr_list]
        have := u8_toNat (n := ((nbytes n).length : Int)) (by omega) (by omega)
        show (u8 _).toNat = _
        omega
      apply he
      rw [← hval]
      apply ba_ext
      rw [ext_list, List.drop_zero, Nat.sub_zero, hhd]
      conv => rhs; rw [h3]
      rw [app_list, List.take_append_of_le_length (by rw [len_list, numStr_sz]; exact Nat.le_refl _), List.take_of_length_le (by rw [len_list, numStr_sz]; exact Nat.le_refl _)]

theorem refGet_l0 (s : ByteArray) (m : Nat) (h4 : m ≤ 4) (h5 : m < s.size) (d : Nat) : ∀ i : Nat, i + d = 1 + m → 1 ≤ i →
    Ev (fun k => sextonref01_GetNumber.l0 k s ((1 + m : Nat) : Int) (accB ((s.data.toList.drop 1).take (i - 1))) (i : Int))
      (if numStr (accB (s.extract 1 (1 + m)).data.toList) = s.extract 0 (1 + m) then (accB (s.extract 1 (1 + m)).data.toList, s.extract (1 + m) s.size, true) else (0, ⟨#[]⟩, false)) := by
  induction d with
  | zero =>
    intro i hi h1
    obtain rfl : i = 1 + m := by omega
    have hb : (s.data.toList.drop 1).take (1 + m - 1) = (s.extract 1 (1 + m)).data.toList := by rw [ext_list]
    rw [hb]
    have hbl : ((s.extract 1 (1 + m)).data.toList).length = m := by rw [len_list, ByteArray.size_extract]; omega
    have hbd := accB_bd4 (s.extract 1 (1 + m)).data.toList (by omega)
    have hlt : accB (s.extract 1 (1 + m)).data.toList ≤ 4294967295 := by omega
    generalize accB (s.extract 1 (1 + m)).data.toList = v at *
    have hn := refNumber v
    rw [if_pos ⟨hbd.1, hlt⟩] at hn
    refine Ev.step (f := fun k => (sextonref01_Number.f k v).bind fun bt186 => (if (0 : Int) ≤ ((1 + m : Nat) : Int) then (if ((1 + m : Nat) : Int) ≤ (s.size : Int) then (if bt186.1.toList = (s.extract 0 (1 + m)).toList then (some (v, s.extract (1 + m) s.size, true)) else (some (0, (⟨#[]⟩ : ByteArray), false))) else (none)) else (none))) (fun k => ?_) ?_
    · simp only [sextonref01_GetNumber.l0]
      rw [if_neg (by omega)]
      rfl
    · refine Ev.bind hn (Ev.congr (f := fun _ => some (if numStr v = s.extract 0 (1 + m) then (v, s.extract (1 + m) s.size, true) else (0, ⟨#[]⟩, false))) (fun k => ?_) (Ev.now _))
      simp only
      rw [if_pos (by omega), if_pos (by omega)]
      by_cases he : numStr v = s.extract 0 (1 + m)
      · rw [if_pos he, if_pos (by rw [he])]
      · rw [if_neg he, if_neg (fun h => he (toList_inj h))]
  | succ d ih =>
    intro i hi h1
    have hlt : i < s.size := by omega
    have hll : i < s.data.toList.length := by rw [len_list]; exact hlt
    have hn := ih (i + 1) (by omega) (by omega)
    have hacc : accB ((s.data.toList.drop 1).take (i + 1 - 1)) = 256 * accB ((s.data.toList.drop 1).take (i - 1)) + bt s (i : Int) := by
      have hl2 : i - 1 < (s.data.toList.drop 1).length := by rw [List.length_drop]; omega
      rw [bt_list s i hll, show i + 1 - 1 = (i - 1) + 1 by omega, List.take_succ_eq_append_getElem hl2, accB_snoc]
      have : (s.data.toList.drop 1)[i - 1] = s.data.toList[i] := by
        rw [List.getElem_drop]
        congr 1
        omega
      rw [this]
      omega
    have hbd := accB_bd4 ((s.data.toList.drop 1).take (i - 1)) (by rw [List.length_take]; omega)
    have hbr := bt_range s (i : Int)
    refine Ev.step (f := fun k => sextonref01_GetNumber.l0 k s ((1 + m : Nat) : Int) (accB ((s.data.toList.drop 1).take (i + 1 - 1))) ((i + 1 : Nat) : Int)) (fun k => ?_) hn
    simp only [sextonref01_GetNumber.l0]
    rw [if_pos (by omega), if_pos (by omega), if_pos (by omega), wrap_bt, wrap_id (x := 256 * accB ((s.data.toList.drop 1).take (i - 1))) (by omega) (by omega), wrap_id (x := _ + bt s (i : Int)) (by omega) (by omega), wrap_id (x := (i : Int) + 1) (by omega) (by omega), hacc]
    rfl
theorem refGetNumber (s : ByteArray) : Ev (fun k => sextonref01_GetNumber.f k s) (getNum s) := by
  have hno : Ev (fun k => sextonref01_GetNumber.j0 k s true) (0, ⟨#[]⟩, false) :=
    Ev.step (f := fun _ => some (0, ⟨#[]⟩, false)) (fun k => by simp [sextonref01_GetNumber.j0]) (Ev.now _)
  by_cases h0 : s.size = 0
  · rw [getNum_no (.inl h0)]
    exact Ev.congr (fun k => by unfold sextonref01_GetNumber.f; rw [if_pos (by omega)]) hno
  · have q : 0 < s.size := by omega
    have hb := bt_hd s q
    by_cases h4 : 4 < hd s
    · rw [getNum_no (.inr (.inl h4))]
      exact Ev.congr (fun k => by unfold sextonref01_GetNumber.f; rw [if_neg (by omega), if_pos (by omega), if_pos (by omega)]) hno
    · have hw : wrap64 (1 + wrap64 (bt s 0)) = ((1 + hd s : Nat) : Int) := by
        rw [wrap_bt, hb, wrap_id (by omega) (by omega)]; omega
      refine Ev.congr (f := fun k => sextonref01_GetNumber.j0 k s (decide ((s.size : Int) < ((1 + hd s : Nat) : Int)))) (fun k => by unfold sextonref01_GetNumber.f; rw [if_neg (by omega), if_pos (by omega), if_neg (by omega), hw]) ?_
      by_cases h5 : s.size ≤ hd s
      · rw [getNum_no (.inr (.inr h5)), decide_eq_true (by omega)]
        exact hno
      · rw [decide_eq_false (by omega), getNum_by s q (by omega) (by omega)]
        have := refGet_l0 s (hd s) (by omega) (by omega) (hd s) 1 (by omega) (by omega)
        refine Ev.step (f := fun k => sextonref01_GetNumber.l0 k s ((1 + hd s : Nat) : Int) 0 1) (fun k => ?_) this
        simp only [sextonref01_GetNumber.j0]
        rw [if_neg (by decide), if_pos (by omega), hw]
theorem refGetText (s : ByteArray) : Ev (fun k => sextonref01_GetText.f k s) (getText s) := by
  have hn := refGetNumber s
  refine Ev.congr (fun k => by unfold sextonref01_GetText.f; rfl) (Ev.bind hn (Ev.congr (f := fun _ => some (getText s)) (fun k => ?_) (Ev.now _)))
  have h := getText_f s
  unfold codec_GetText.f codec_GetNumber.f at h
  simp only [Option.bind_some] at h
  exact h
theorem refGetRow_l0 (N : Nat) (hN : N ≤ 1000) (d : Nat) : ∀ (i : Nat) (L : List ByteArray) (cur : ByteArray), i + d = N → L.length = i →
    Ev (fun k => sextonref01_GetRow.l0 k (N : Int) cur L (i : Int)) (withL L (getTexts d cur)) := by
  induction d with
  | zero =>
    intro i L cur hi hL
    refine Ev.step (f := fun _ => some (L, cur, true)) (fun k => by simp only [sextonref01_GetRow.l0]; rw [if_neg (by omega)]) ?_
    have : withL L (getTexts 0 cur) = (L, cur, true) := by simp [withL, getTexts]
    rw [this]
    exact Ev.now _
  | succ d ih =>
    intro i L cur hi hL
    have ht := refGetText cur
    refine Ev.step (f := fun k => (sextonref01_GetText.f k cur).bind fun bt194 => (if bt194.2.2 = true then (if L.length < 8796093022208 then (sextonref01_GetRow.l0 k (N : Int) bt194.2.1 (L ++ [bt194.1]) ((i + 1 : Nat) : Int)) else (none)) else (some (([] : List ByteArray), (⟨#[]⟩ : ByteArray), false)))) (fun k => ?_) ?_
    · simp only [sextonref01_GetRow.l0]
      rw [if_pos (by omega), wrap_id (by omega) (by omega)]
      rfl
    · cases hok : (getText cur).2.2 with
      | false =>
        rw [withL_stop L d cur hok]
        refine Ev.bind ht (Ev.congr (f := fun _ => some ([], ⟨#[]⟩, false)) (fun k => ?_) (Ev.now _))
        rw [if_neg (by rw [hok]; decide)]
      | true =>
        rw [withL_step L d cur hok]
        refine Ev.bind ht (Ev.congr (f := fun k => sextonref01_GetRow.l0 k (N : Int) (getText cur).2.1 (L ++ [(getText cur).1]) ((i + 1 : Nat) : Int)) (fun k => ?_) (ih (i + 1) _ _ (by omega) (by simp [hL])))
        rw [if_pos hok, if_pos (by omega)]
theorem refGetRow (s : ByteArray) : Ev (fun k => sextonref01_GetRow.f k s) (getRow s) := by
  have hn := refGetNumber s
  have hbd := getNum_bd s
  refine Ev.congr (fun k => by unfold sextonref01_GetRow.f; rfl) (Ev.bind hn ?_)
  unfold getRow
  have hno : Ev (fun k => sextonref01_GetRow.j0 k (getNum s).1 (getNum s).2.1 true) ([], ⟨#[]⟩, false) :=
    Ev.step (f := fun _ => some ([], ⟨#[]⟩, false)) (fun k => by simp [sextonref01_GetRow.j0]) (Ev.now _)
  cases hok : (getNum s).2.2 with
  | false =>
    rw [if_neg (by rintro ⟨h, _⟩; cases h)]
    exact Ev.congr (fun k => by rw [if_neg (by decide)]) hno
  | true =>
    by_cases hle : (getNum s).1 ≤ 1000
    · rw [if_pos ⟨rfl, hle⟩]
      have h := refGetRow_l0 (getNum s).1.toNat (by omega) (getNum s).1.toNat 0 [] (getNum s).2.1 (by omega) rfl
      rw [withL_nil] at h
      refine Ev.congr (f := fun k => sextonref01_GetRow.j0 k (getNum s).1 (getNum s).2.1 false) (fun k => by rw [if_pos rfl, decide_eq_false (by omega)]) ?_
      refine Ev.step (f := fun k => sextonref01_GetRow.l0 k (((getNum s).1.toNat : Nat) : Int) (getNum s).2.1 [] 0) (fun k => ?_) h
      simp only [sextonref01_GetRow.j0]
      rw [if_neg (by decide), Int.toNat_of_nonneg hbd.1]
    · rw [if_neg (by rintro ⟨_, h⟩; exact hle h)]
      exact Ev.congr (fun k => by rw [if_pos rfl, decide_eq_true (by omega)]) hno
end Go.Proofs.Ytfejidinfcmfjaa.P
/-
  What the references of chapter 23 answer, told plainly.
-/
namespace Go.Proofs.Ytfejidinfcmfjaa.P
open Go.RowKit Go.Proofs Go.Proofs.CodecPlain Go.Proofs.YtfejidinfcmfjaaW.PrintWords Go.Proofs.YtfejidinfcmfjaaW.PrintLast

theorem refLog_l0 (l : List ByteArray) (hl : l.length ≤ 100000) (d : Nat) : ∀ k : Nat, k + d = l.length → Ev (fun r => sextonref23_Log.l0 r l (k : Int)) (decide (l.length ≤ 60) && !((l.drop k).any long300)) := by
  induction d with
  | zero =>
    intro k hk
    have hd : l.drop k = [] := List.drop_of_length_le (by omega)
    rw [hd, show (decide (l.length ≤ 60) && !(([] : List ByteArray).any long300)) = decide ((l.length : Int) ≤ 60) by rw [List.any_nil, Bool.not_false, Bool.and_true]; exact decide_eq_decide.2 (by omega)]
    exact Ev.step (f := fun _ => some (decide ((l.length : Int) ≤ 60))) (fun r => by simp only [sextonref23_Log.l0]; rw [if_neg (by omega)]) (Ev.now _)
  | succ d ih =>
    intro k hk
    have hlt : k < l.length := by omega
    have hd : l.drop k = l[k] :: l.drop (k + 1) := List.drop_eq_getElem_cons hlt
    by_cases hs : l[k].size > 300
    · refine Ev.step (f := fun _ => some false) (fun r => ?_) ?_
      · simp only [sextonref23_Log.l0]
        rw [if_pos (by omega), if_pos (by omega), rd_string l k hlt, if_pos (by omega)]
      · rw [hd, List.any_cons, show long300 l[k] = true by simp [long300]; omega, Bool.true_or, Bool.not_true, Bool.and_false]
        exact Ev.now _
    · refine Ev.step (f := fun r => sextonref23_Log.l0 r l ((k + 1 : Nat) : Int)) (fun r => ?_) ?_
      · simp only [sextonref23_Log.l0]
        rw [if_pos (by omega), if_pos (by omega), rd_string l k hlt, if_neg (by omega), wrap_id (by omega) (by omega)]
        rfl
      · rw [hd, List.any_cons, show long300 l[k] = false by simp [long300]; omega, Bool.false_or]
        exact ih (k + 1) (by omega)
theorem refLog (l : List ByteArray) (hl : l.length ≤ 100000) : Ev (fun r => sextonref23_Log.f r l) (decide (l.length ≤ 60) && !(l.any long300)) := by
  have := refLog_l0 l hl l.length 0 (by omega)
  exact this
theorem getTexts_len : ∀ (n : Nat) (s : ByteArray), (getTexts n s).1.length ≤ n
  | 0, s => by simp [getTexts]
  | n + 1, s => by
    simp only [getTexts]
    split
    · split
      · have := getTexts_len n (getText s).2.1
        simp only [List.length_cons]
        omega
      · simp
    · simp
theorem getRow_len (s : ByteArray) : (getRow s).1.length ≤ 1000 := by
  unfold getRow
  split
  · rename_i h
    have := getTexts_len (getNum s).1.toNat (getNum s).2.1
    have := h.2
    omega
  · simp
theorem refIn (a b : Int) : sextonref23_in.f a b = some (inB a b) := by
  unfold sextonref23_in.f inB
  by_cases h : a ≥ 0
  · rw [if_pos h, decide_eq_true h, Bool.true_and]
  · rw [if_neg h, decide_eq_false h, Bool.false_and]
theorem refIs (n0 n1 n2 n3 n4 n5 n6 : Int) (l : List ByteArray) (hl : l.length ≤ 100000) : ∃ K, ∀ k, K ≤ k → sextonref23_Is.f k n0 n1 n2 n3 n4 n5 n6 l = some (isB n0 n1 n2 n3 n4 n5 n6 l) := by
  obtain ⟨K, e⟩ := refLog l hl
  simp only at e
  refine ⟨K + 1, fun k hk => ?_⟩
  obtain ⟨k, rfl⟩ : ∃ m, k = m + 1 := ⟨k - 1, by omega⟩
  have hb : ∀ (a x : Bool), (if a = true then some x else some false) = some (a && x) := by
    intro a x
    cases a <;> simp
  have hc : ∀ (c : Prop) [Decidable c] (x : Bool), (if c then some x else some false) = some (decide c && x) := by
    intro c _ x
    by_cases h : c <;> simp [h]
  have hj : ∀ b, sextonref23_Is.j0 (k + 1) (!b) n0 n1 n2 n3 n4 n5 n6 l = some (b && (if n0 = 1 then loggedB l n5 && (n4 == 0) && (n6 == 0) else if n0 = 2 then (l.length == 0) && (n5 == 0) && (n4 == 0) && inB n6 60 else if n0 = 3 then loggedB l n5 && inB n4 n3 && (n6 == 0) else false)) := by
    intro b
    simp only [sextonref23_Is.j0, refIn, e k (by omega)]
    cases b
    · simp
    · simp only [Option.bind_some, hb, hc, Bool.true_and, Bool.not_true, if_neg (show ¬ (false = true) by decide)]
      have hlog : loggedB l n5 = (decide (l.length ≤ 60) && !(l.any long300) && inB n5 (l.length : Int)) := by
        unfold loggedB inB
        cases decide (l.length ≤ 60) <;> cases (l.any long300) <;> simp
      by_cases h1 : n0 = 1
      · rw [if_pos h1, if_pos h1, hlog]
        by_cases h4 : n4 = 0 <;> simp [h4, Bool.and_assoc]
      · rw [if_neg h1, if_neg h1]
        by_cases h2 : n0 = 2
        · rw [if_pos h2, if_pos h2]
          by_cases h5 : l.length = 0 <;> by_cases h6 : n5 = 0 <;> by_cases h7 : n4 = 0 <;> simp [h5, h6, h7]
        · rw [if_neg h2, if_neg h2]
          by_cases h3 : n0 = 3
          · rw [if_pos h3, decide_eq_true h3, hlog]
            simp [Bool.and_assoc]
          · rw [if_neg h3, decide_eq_false h3, Bool.false_and]
  unfold sextonref23_Is.f
  rw [refIn, Option.bind_some, refIn, Option.bind_some, refIn, Option.bind_some, hj]
  have ht := hj false
  rw [Bool.not_false, Bool.false_and] at ht
  rw [ht]
  unfold isB
  cases inB n1 6 <;> cases inB n2 6 <;> simp
end Go.Proofs.Ytfejidinfcmfjaa.P
/-
  sextonref23.Get, by hand.
-/
namespace Go.Proofs.Ytfejidinfcmfjaa.P
open Go.RowKit Go.Shelf Go.Proofs Go.Proofs.CodecPlain Go.Proofs.YtfejidinfcmfjaaW.PrintWords Go.Proofs.YtfejidinfcmfjaaW.PrintLast

attribute [local go_sem] zero_msg
set_option maxHeartbeats 32000000 in
set_option maxRecDepth 100000 in
theorem refGet_any (s : ByteArray) (w : World) :
    Calls Try.prog 34 #[.string s] w fun e w' => ∃ r1 r2 r3 r4 r5 r6 r7 r8 r9, Aside0 (getM (getNs 7 s) = (r1, r2, r3, r4, r5, r6, r7, r8, r9)) ∧ ∃ v7_ : Value, e = .returned (.tuple #[.agg #[.int .i64 r1, .int .i64 r2, .int .i64 r3, .int .i64 r4, .int .i64 r5, .int .i64 r6, .int .i64 r7, v7_], .int .i64 r9]) ∧ Kd.R Kd.string 9 w' w.heap.size (fun _ => True) v7_ r8 ∧ Below w.heap.size w w' := by
  have HB0 := Aside0.mk ((Below.refl w.heap.size w).alloc (Nat.le_refl _) (.cells (blkM 0 0 0 0 0 0 0 (.slice none 0 0)) 29))
  have HC0 := Aside0.mk (blk_new w (.cells (blkM 0 0 0 0 0 0 0 (.slice none 0 0)) 29))
  have hu88 := Try.underlying88
  go_enter Try.func34, Try.ntmps34
  go_wp2
  go_loopw [0, 4, 5] (fun cur v i wr => ∃ (k : Nat) (a : List Int) (sk : ByteArray), k ≤ 7 ∧ i = .int .i64 k ∧ cur = .string sk ∧ Aside0 (getNs 7 s = withN a (getNs (7 - k) sk)) ∧ Aside0 (a.length = k) ∧ Aside0 (Kd.R (Kd.int .i64) 3 wr w.heap.size (fun _ => True) v a) ∧ Aside0 (wr.heap[w.heap.size]? = some (.cells (blkM 0 0 0 0 0 0 0 (.slice none 0 0)) 29 (0, 0))) ∧ Aside0 (Below w.heap.size w wr))
    (fun _ _ i _ => 7 - (intOf i).toNat)
  case atStart => exact ⟨0, [], s, Nat.zero_le _, rfl, rfl, ⟨by simp [withN]⟩, ⟨rfl⟩, ⟨Kd.R_nil _ _ _ _ _⟩, HC0, HB0⟩
  case round =>
    clear HC0 HB0
    obtain ⟨k, a, sk, hk, rfl, rfl, HG, HA, HO, HC, HB⟩ := hrel
    by_cases h7 : k < 7
    · obtain ⟨d, hd⟩ : ∃ d, 7 - k = d + 1 := ⟨6 - k, by omega⟩
      have hd' : 7 - (k + 1) = d := by omega
      obtain ⟨x, sn, ok, hgn⟩ : ∃ x sn ok, getNum sk = (x, sn, ok) := ⟨_, _, _, rfl⟩
      obtain ⟨K, e⟩ := refGetNumber sk
      simp only at e
      have HN := Aside0.mk (fun W => sextonref01_GetNumber.calls K sk x sn ok W (by rw [e K (Nat.le_refl _), hgn]))
      have h7b : decide ((k : Int) < 7) = true := decide_eq_true (by omega)
      clear e
      cases ok
      · have hst := Aside0.mk (getM_no (getNs_stop a d sk (by rw [hgn])))
        have HD := Aside0.mk hd
        clear hgn hd hd'
        go_wp2_with (first | (go_at_call 66; (refine (HN.out _).mono ?_); rintro e w4 ⟨rfl, hb⟩; have HB4 := Aside0.mk (HB.out.trans (hb.mono HB.out.size)); have HC4 := Aside0.mk (blk_below HC.out hb); clear hb) | ((with_reducible refine gate_store (t := 29) (p := 2) rfl ?_); refine store_event (t := 29) (p := 2) (w1 := w4.setCells w.heap.size 0 (blkM 0 0 0 0 0 0 0 (.slice none 0 0)).toList) rfl rfl rfl ?hr ?_; (case hr => (unfold execOp; simp only [Act.eval, Sem.run_bind, Sem.run_pure, Result.andThen_ok]; show ((Sem.run Try.prog (Instr.storeAt 29 (.pointer (some ⟨w.heap.size, 0, none⟩)) (.agg (blkM 0 0 0 0 0 0 0 (.slice none 0 0)))) w4).andThen _) = _; rw [(store_msg HC4.out rfl 0 0 0 0 0 0 0 (.slice none 0 0) rfl).1]; try rfl)); intro w5 hw_; have HCz := Aside0.mk (hw_ ▸ (store_msg HC4.out rfl 0 0 0 0 0 0 0 (.slice none 0 0) rfl).2 : w5.heap[w.heap.size]? = some (.cells (blkM 0 0 0 0 0 0 0 (.slice none 0 0)) 29 (0, 0))); have HBz := Aside0.mk (show Below w.heap.size w w5 by rw [hw_]; exact below_cells HB4.out (Nat.le_refl _) _); clear hw_))
        have d0 := blk_cell HCz.out 0
        have d1 := blk_cell HCz.out 1
        have d2 := blk_cell HCz.out 2
        have d3 := blk_cell HCz.out 3
        have d4 := blk_cell HCz.out 4
        have d5 := blk_cell HCz.out 5
        have d6 := blk_cell HCz.out 6
        have d7 := blk_cell HCz.out 7
        simp only [blkM, List.getElem?_toArray, List.getElem?_cons_zero, List.getElem?_cons_succ] at d0 d1 d2 d3 d4 d5 d6 d7
        refine bodyPost_ret (v := .tuple #[.agg (blkM 0 0 0 0 0 0 0 (.slice none 0 0)), .int .i64 30]) ?_ rfl ⟨0, 0, 0, 0, 0, 0, 0, [], 30, ⟨by rw [HG.out, HD.out]; exact hst.out⟩, _, rfl, Kd.R_nil _ _ _ _ _, HBz.out⟩
        simp [results, Try.results34, go_sem, blkM, d0, d1, d2, d3, d4, d5, d6, d7]
      · have hStep := Aside0.mk (show withN a (getNs (d + 1) sk) = withN (a ++ [x]) (getNs d sn) by
          have := getNs_step a d sk (by rw [hgn])
          rw [hgn] at this
          exact this)
        have HD := Aside0.mk hd
        clear hgn hd
        obtain ⟨A4, c4, rfl⟩ := Kd.R_slice HO.out
        go_wp2_with (first | (go_at_call 66; (refine (HN.out _).mono ?_); rintro e w4 ⟨rfl, hb⟩; have HB4 := Aside0.mk (HB.out.trans (hb.mono HB.out.size)); have HC4 := Aside0.mk (blk_below HC.out hb); have HO4 := Aside0.mk (Kd.R_below HO.out hb); clear hb) | ((with_reducible refine gate_builtin (b := .append) (xs := #[.tmp 26, .tmp 28]) rfl ?_); at_builtin; go_loud (refine Kd.R_append (Kd.int .i64) (w0 := w) w.heap.size rfl (.tmp 26) (.tmp 28) 88 3 (.int .i64 0) 8 rfl Try.underlying88 info3 rfl (by decide) (by omega) (.slice A4 a.length c4) a x [.int .i64 x] (fun _ => True) (fun _ => False) rfl rfl ?aP (fun _ hk => hk.elim) ?aF ?aO ?aB ?aS ?aL ?_; (case aP => exact rfl); (case aB => exact HB4.out); (case aF => exact (fun _ _ => trivial)); (case aO => exact HO4.out); (case aS => exact HB4.out.size); (case aL => have := HA.out; omega); intro v8 w8 ho hb hg hat; have HC8 := Aside0.mk (blk_grown HC4.out hg (Kd.R_ne HO4.out HC4.out (by decide))); have HB8 := Aside0.mk hb; have HO8 := Aside0.mk ho; clear ho hb hg hat)))
        go_roundw
        case measure => simp [intOf]; omega
        case rel => exact ⟨k + 1, a ++ [x], sn, by omega, by go_num, rfl, ⟨by rw [HG.out, HD.out, hStep.out, hd']⟩, ⟨by rw [List.length_append, HA.out]; rfl⟩, HO8, HC8, HB8⟩
    · obtain rfl : k = 7 := by omega
      clear h7
      obtain ⟨n0, n1, n2, n3, n4, n5, n6, rfl⟩ : ∃ n0 n1 n2 n3 n4 n5 n6, a = [n0, n1, n2, n3, n4, n5, n6] := by
        have := HA.out
        match a, this with
        | [n0, n1, n2, n3, n4, n5, n6], _ => exact ⟨_, _, _, _, _, _, _, rfl⟩
      obtain ⟨l, rest, ok, hgr⟩ : ∃ l rest ok, getRow sk = (l, rest, ok) := ⟨_, _, _, rfl⟩
      obtain ⟨K, e⟩ := refGetRow sk
      simp only at e
      have HGR := Aside0.mk (fun W => sextonref01_GetRow.calls K sk l rest ok W (by rw [e K (Nat.le_refl _), hgr]))
      obtain ⟨K2, e2⟩ := refIs n0 n1 n2 n3 n4 n5 n6 l (by have := getRow_len sk; rw [hgr] at this; simp only at this; omega)
      have HI2 := Aside0.mk (e2 K2 (Nat.le_refl _))
      have HM := Aside0.mk (show getM (getNs 7 s) = (if ok = true ∧ rest = ⟨#[]⟩ ∧ isB n0 n1 n2 n3 n4 n5 n6 l = true then (n0, n1, n2, n3, n4, n5, n6, l, 0) else (0, 0, 0, 0, 0, 0, 0, [], 30)) by
        rw [HG.out]
        show getM ([n0, n1, n2, n3, n4, n5, n6] ++ [], sk, true) = _
        rw [List.append_nil]
        unfold getM
        simp only [hgr])
      clear hgr HG HA e e2 hk
      obtain ⟨A4, c4, rfl⟩ := Kd.R_slice HO.out
      obtain ⟨g4, rfl⟩ : ∃ g : Nat, A4 = some ⟨g, 0, none⟩ := by
        obtain ⟨inner, ho⟩ := Kd.R_own HO.out
        rcases ho.2 with ⟨he, h0⟩ | ⟨g, cap, cu, he, hb, hh, _⟩
        · cases h0
        · injection he with ha _ _; exact ⟨g, ha⟩
      go_wp2_with (first | (go_at_call 67; (refine (HGR.out _).mono ?_); rintro e w4 ⟨v0, rfl, hR4, hb⟩; obtain ⟨A8, c8, rfl⟩ := Kd.R_slice hR4; have HR4 := Aside0.mk (Kd.R_lower hR4 HB.out.size); have HB4 := Aside0.mk (HB.out.trans (hb.mono HB.out.size)); have HC4 := Aside0.mk (blk_below HC.out hb); have HO4 := Aside0.mk (Kd.R_below HO.out hb); clear hR4 hb))
      clear HB HC HO HGR
      have HO5 := Aside0.mk (Kd.R_drew HO4.out)
      have HR5 := Aside0.mk (Kd.R_drew HR4.out)
      have HC5 := Aside0.mk (blk_drew HC4.out)
      have HB5 := Aside0.mk (below_drew1 HB4.out)
      clear HO4 HR4 HC4 HB4
      refine start_ (n := 25) (S := fun w' => w'.cell? ⟨g4, 0, none⟩ = some (.int .i64 n0) ∧ w'.cell? ⟨g4, 1, none⟩ = some (.int .i64 n1) ∧ w'.cell? ⟨g4, 2, none⟩ = some (.int .i64 n2) ∧ w'.cell? ⟨g4, 3, none⟩ = some (.int .i64 n3) ∧ w'.cell? ⟨g4, 4, none⟩ = some (.int .i64 n4) ∧ w'.cell? ⟨g4, 5, none⟩ = some (.int .i64 n5) ∧ w'.cell? ⟨g4, 6, none⟩ = some (.int .i64 n6)) (ds := [24]) #[false, false, false, false, false, false, false, false, false, false, false, false, false, false, false, false, false, false, false, false, false, false, false, false, false] (by kernel_rfl) rfl rfl ⟨(Kd.R_cell (0 : Int) HO5.out 0 (by decide) (by change (0 : Int) < 7; decide)).1, (Kd.R_cell (0 : Int) HO5.out 1 (by decide) (by change (1 : Int) < 7; decide)).1, (Kd.R_cell (0 : Int) HO5.out 2 (by decide) (by change (2 : Int) < 7; decide)).1, (Kd.R_cell (0 : Int) HO5.out 3 (by decide) (by change (3 : Int) < 7; decide)).1, (Kd.R_cell (0 : Int) HO5.out 4 (by decide) (by change (4 : Int) < 7; decide)).1, (Kd.R_cell (0 : Int) HO5.out 5 (by decide) (by change (5 : Int) < 7; decide)).1, (Kd.R_cell (0 : Int) HO5.out 6 (by decide) (by change (6 : Int) < 7; decide)).1⟩ (fun hHeld => ?_)
      generalize w4.drew = w5 at HO5 HR5 HC5 HB5 hHeld ⊢
      refine pure_ (i := 0) (N := some 37) (v := ?_) (a' := ?_) #[true, false, false, false, false, false, false, false, false, false, false, false, false, false, false, false, false, false, false, false, false, false, false, false, false] rfl rfl (by kernel_rfl) (fun _ _ _ h => h) (Or.inl ⟨by rfl, ?_⟩) ?_ ?_
      rotate_left
      · intro w'
        go_simp
        with_reducible rfl
      rotate_left
      · simp only [Act.put, List.setIfInBounds_toArray, List.set_cons_zero, List.set_cons_succ, i64_w, i32_w]
        rfl
      refine pure_ (i := 1) (N := some 38) (v := ?_) (a' := ?_) #[true, true, false, false, false, false, false, false, false, false, false, false, false, false, false, false, false, false, false, false, false, false, false, false, false] rfl rfl (by kernel_rfl) (fun _ _ _ h => h) (Or.inl ⟨by rfl, ?_⟩) ?_ ?_
      rotate_left
      · intro w'
        go_simp
        with_reducible rfl
      rotate_left
      · simp only [Act.put, List.setIfInBounds_toArray, List.set_cons_zero, List.set_cons_succ, i64_w, i32_w]
        rfl
      refine pure_ (i := 3) (N := some 40) (v := ?_) (a' := ?_) #[true, true, false, true, false, false, false, false, false, false, false, false, false, false, false, false, false, false, false, false, false, false, false, false, false] rfl rfl (by kernel_rfl) (fun _ _ _ h => h) (Or.inl ⟨by rfl, ?_⟩) ?_ ?_
      rotate_left
      · intro w'
        go_simp
        with_reducible rfl
      rotate_left
      · simp only [Act.put, List.setIfInBounds_toArray, List.set_cons_zero, List.set_cons_succ, i64_w, i32_w]
        rfl
      refine pure_ (i := 4) (N := some 41) (v := ?_) (a' := ?_) #[true, true, false, true, true, false, false, false, false, false, false, false, false, false, false, false, false, false, false, false, false, false, false, false, false] rfl rfl (by kernel_rfl) (fun _ _ _ h => h) (Or.inl ⟨by rfl, ?_⟩) ?_ ?_
      rotate_left
      · intro w'
        go_simp
        with_reducible rfl
      rotate_left
      · simp only [Act.put, List.setIfInBounds_toArray, List.set_cons_zero, List.set_cons_succ, i64_w, i32_w]
        rfl
      refine pure_ (i := 6) (N := some 43) (v := ?_) (a' := ?_) #[true, true, false, true, true, false, true, false, false, false, false, false, false, false, false, false, false, false, false, false, false, false, false, false, false] rfl rfl (by kernel_rfl) (fun _ _ _ h => h) (Or.inl ⟨by rfl, ?_⟩) ?_ ?_
      rotate_left
      · intro w'
        go_simp
        with_reducible rfl
      rotate_left
      · simp only [Act.put, List.setIfInBounds_toArray, List.set_cons_zero, List.set_cons_succ, i64_w, i32_w]
        rfl
      refine pure_ (i := 7) (N := some 44) (v := ?_) (a' := ?_) #[true, true, false, true, true, false, true, true, false, false, false, false, false, false, false, false, false, false, false, false, false, false, false, false, false] rfl rfl (by kernel_rfl) (fun _ _ _ h => h) (Or.inl ⟨by rfl, ?_⟩) ?_ ?_
      rotate_left
      · intro w'
        go_simp
        with_reducible rfl
      rotate_left
      · simp only [Act.put, List.setIfInBounds_toArray, List.set_cons_zero, List.set_cons_succ, i64_w, i32_w]
        rfl
      refine pure_ (i := 9) (N := some 46) (v := ?_) (a' := ?_) #[true, true, false, true, true, false, true, true, false, true, false, false, false, false, false, false, false, false, false, false, false, false, false, false, false] rfl rfl (by kernel_rfl) (fun _ _ _ h => h) (Or.inl ⟨by rfl, ?_⟩) ?_ ?_
      rotate_left
      · intro w'
        go_simp
        with_reducible rfl
      rotate_left
      · simp only [Act.put, List.setIfInBounds_toArray, List.set_cons_zero, List.set_cons_succ, i64_w, i32_w]
        rfl
      refine pure_ (i := 10) (N := some 47) (v := ?_) (a' := ?_) #[true, true, false, true, true, false, true, true, false, true, true, false, false, false, false, false, false, false, false, false, false, false, false, false, false] rfl rfl (by kernel_rfl) (fun _ _ _ h => h) (Or.inl ⟨by rfl, ?_⟩) ?_ ?_
      rotate_left
      · intro w'
        go_simp
        with_reducible rfl
      rotate_left
      · simp only [Act.put, List.setIfInBounds_toArray, List.set_cons_zero, List.set_cons_succ, i64_w, i32_w]
        rfl
      refine pure_ (i := 12) (N := some 49) (v := ?_) (a' := ?_) #[true, true, false, true, true, false, true, true, false, true, true, false, true, false, false, false, false, false, false, false, false, false, false, false, false] rfl rfl (by kernel_rfl) (fun _ _ _ h => h) (Or.inl ⟨by rfl, ?_⟩) ?_ ?_
      rotate_left
      · intro w'
        go_simp
        with_reducible rfl
      rotate_left
      · simp only [Act.put, List.setIfInBounds_toArray, List.set_cons_zero, List.set_cons_succ, i64_w, i32_w]
        rfl
      refine pure_ (i := 13) (N := some 50) (v := ?_) (a' := ?_) #[true, true, false, true, true, false, true, true, false, true, true, false, true, true, false, false, false, false, false, false, false, false, false, false, false] rfl rfl (by kernel_rfl) (fun _ _ _ h => h) (Or.inl ⟨by rfl, ?_⟩) ?_ ?_
      rotate_left
      · intro w'
        go_simp
        with_reducible rfl
      rotate_left
      · simp only [Act.put, List.setIfInBounds_toArray, List.set_cons_zero, List.set_cons_succ, i64_w, i32_w]
        rfl
      refine pure_ (i := 15) (N := some 52) (v := ?_) (a' := ?_) #[true, true, false, true, true, false, true, true, false, true, true, false, true, true, false, true, false, false, false, false, false, false, false, false, false] rfl rfl (by kernel_rfl) (fun _ _ _ h => h) (Or.inl ⟨by rfl, ?_⟩) ?_ ?_
      rotate_left
      · intro w'
        go_simp
        with_reducible rfl
      rotate_left
      · simp only [Act.put, List.setIfInBounds_toArray, List.set_cons_zero, List.set_cons_succ, i64_w, i32_w]
        rfl
      refine pure_ (i := 16) (N := some 53) (v := ?_) (a' := ?_) #[true, true, false, true, true, false, true, true, false, true, true, false, true, true, false, true, true, false, false, false, false, false, false, false, false] rfl rfl (by kernel_rfl) (fun _ _ _ h => h) (Or.inl ⟨by rfl, ?_⟩) ?_ ?_
      rotate_left
      · intro w'
        go_simp
        with_reducible rfl
      rotate_left
      · simp only [Act.put, List.setIfInBounds_toArray, List.set_cons_zero, List.set_cons_succ, i64_w, i32_w]
        rfl
      refine pure_ (i := 18) (N := some 55) (v := ?_) (a' := ?_) #[true, true, false, true, true, false, true, true, false, true, true, false, true, true, false, true, true, false, true, false, false, false, false, false, false] rfl rfl (by kernel_rfl) (fun _ _ _ h => h) (Or.inl ⟨by rfl, ?_⟩) ?_ ?_
      rotate_left
      · intro w'
        go_simp
        with_reducible rfl
      rotate_left
      · simp only [Act.put, List.setIfInBounds_toArray, List.set_cons_zero, List.set_cons_succ, i64_w, i32_w]
        rfl
      refine pure_ (i := 19) (N := some 56) (v := ?_) (a' := ?_) #[true, true, false, true, true, false, true, true, false, true, true, false, true, true, false, true, true, false, true, true, false, false, false, false, false] rfl rfl (by kernel_rfl) (fun _ _ _ h => h) (Or.inl ⟨by rfl, ?_⟩) ?_ ?_
      rotate_left
      · intro w'
        go_simp
        with_reducible rfl
      rotate_left
      · simp only [Act.put, List.setIfInBounds_toArray, List.set_cons_zero, List.set_cons_succ, i64_w, i32_w]
        rfl
      refine pure_ (i := 21) (N := some 58) (v := ?_) (a' := ?_) #[true, true, false, true, true, false, true, true, false, true, true, false, true, true, false, true, true, false, true, true, false, true, false, false, false] rfl rfl (by kernel_rfl) (fun _ _ _ h => h) (Or.inl ⟨by rfl, ?_⟩) ?_ ?_
      rotate_left
      · intro w'
        go_simp
        with_reducible rfl
      rotate_left
      · simp only [Act.put, List.setIfInBounds_toArray, List.set_cons_zero, List.set_cons_succ, i64_w, i32_w]
        rfl
      refine take_ (i := 2) (N := some 39) (v := ?_) (a' := ?_) #[true, true, true, true, true, false, true, true, false, true, true, false, true, true, false, true, true, false, true, true, false, true, false, false, false] rfl rfl (by kernel_rfl) (fun _ _ _ h => h) (Or.inl ⟨by rfl, ?_⟩) hHeld ?_ ?_
      rotate_left
      · rintro w' ⟨s0, s1, s2, s3, s4, s5, s6⟩
        go_simp
        with_reducible rfl
      rotate_left
      · simp only [Act.put, List.setIfInBounds_toArray, List.set_cons_zero, List.set_cons_succ, i64_w, i32_w]
        rfl
      refine take_ (i := 5) (N := some 42) (v := ?_) (a' := ?_) #[true, true, true, true, true, true, true, true, false, true, true, false, true, true, false, true, true, false, true, true, false, true, false, false, false] rfl rfl (by kernel_rfl) (fun _ _ _ h => h) (Or.inl ⟨by rfl, ?_⟩) hHeld ?_ ?_
      rotate_left
      · rintro w' ⟨s0, s1, s2, s3, s4, s5, s6⟩
        go_simp
        with_reducible rfl
      rotate_left
      · simp only [Act.put, List.setIfInBounds_toArray, List.set_cons_zero, List.set_cons_succ, i64_w, i32_w]
        rfl
      refine take_ (i := 8) (N := some 45) (v := ?_) (a' := ?_) #[true, true, true, true, true, true, true, true, true, true, true, false, true, true, false, true, true, false, true, true, false, true, false, false, false] rfl rfl (by kernel_rfl) (fun _ _ _ h => h) (Or.inl ⟨by rfl, ?_⟩) hHeld ?_ ?_
      rotate_left
      · rintro w' ⟨s0, s1, s2, s3, s4, s5, s6⟩
        go_simp
        with_reducible rfl
      rotate_left
      · simp only [Act.put, List.setIfInBounds_toArray, List.set_cons_zero, List.set_cons_succ, i64_w, i32_w]
        rfl
      refine take_ (i := 11) (N := some 48) (v := ?_) (a' := ?_) #[true, true, true, true, true, true, true, true, true, true, true, true, true, true, false, true, true, false, true, true, false, true, false, false, false] rfl rfl (by kernel_rfl) (fun _ _ _ h => h) (Or.inl ⟨by rfl, ?_⟩) hHeld ?_ ?_
      rotate_left
      · rintro w' ⟨s0, s1, s2, s3, s4, s5, s6⟩
        go_simp
        with_reducible rfl
      rotate_left
      · simp only [Act.put, List.setIfInBounds_toArray, List.set_cons_zero, List.set_cons_succ, i64_w, i32_w]
        rfl
      refine take_ (i := 14) (N := some 51) (v := ?_) (a' := ?_) #[true, true, true, true, true, true, true, true, true, true, true, true, true, true, true, true, true, false, true, true, false, true, false, false, false] rfl rfl (by kernel_rfl) (fun _ _ _ h => h) (Or.inl ⟨by rfl, ?_⟩) hHeld ?_ ?_
      rotate_left
      · rintro w' ⟨s0, s1, s2, s3, s4, s5, s6⟩
        go_simp
        with_reducible rfl
      rotate_left
      · simp only [Act.put, List.setIfInBounds_toArray, List.set_cons_zero, List.set_cons_succ, i64_w, i32_w]
        rfl
      refine take_ (i := 17) (N := some 54) (v := ?_) (a' := ?_) #[true, true, true, true, true, true, true, true, true, true, true, true, true, true, true, true, true, true, true, true, false, true, false, false, false] rfl rfl (by kernel_rfl) (fun _ _ _ h => h) (Or.inl ⟨by rfl, ?_⟩) hHeld ?_ ?_
      rotate_left
      · rintro w' ⟨s0, s1, s2, s3, s4, s5, s6⟩
        go_simp
        with_reducible rfl
      rotate_left
      · simp only [Act.put, List.setIfInBounds_toArray, List.set_cons_zero, List.set_cons_succ, i64_w, i32_w]
        rfl
      refine take_ (i := 20) (N := some 57) (v := ?_) (a' := ?_) #[true, true, true, true, true, true, true, true, true, true, true, true, true, true, true, true, true, true, true, true, true, true, false, false, false] rfl rfl (by kernel_rfl) (fun _ _ _ h => h) (Or.inl ⟨by rfl, ?_⟩) hHeld ?_ ?_
      rotate_left
      · rintro w' ⟨s0, s1, s2, s3, s4, s5, s6⟩
        go_simp
        with_reducible rfl
      rotate_left
      · simp only [Act.put, List.setIfInBounds_toArray, List.set_cons_zero, List.set_cons_succ, i64_w, i32_w]
        rfl
      refine pure_ (i := 22) (N := some 59) (v := ?_) (a' := ?_) #[true, true, true, true, true, true, true, true, true, true, true, true, true, true, true, true, true, true, true, true, true, true, true, false, false] rfl rfl (by kernel_rfl) (fun _ _ _ h => h) (Or.inl ⟨by rfl, ?_⟩) ?_ ?_
      rotate_left
      · intro w'
        go_simp
        with_reducible rfl
      rotate_left
      · simp only [Act.put, List.setIfInBounds_toArray, List.set_cons_zero, List.set_cons_succ, i64_w, i32_w]
        rfl
      refine one_ (i := 23) (N := some 12) #[true, true, true, true, true, true, true, true, true, true, true, true, true, true, true, true, true, true, true, true, true, true, true, true, false] rfl rfl (by kernel_rfl) (by decide) (fun K hK => ?_)
      refine value_ (w1 := ?_) (v := ?_) (by rfl) rfl ?_ ?_
      rotate_left 2
      · go_simp
        constructor
        · rfl
        · rfl
      refine hK.out _ _ ⟨(Kd.R_cell (0 : Int) (Kd.R_alloc HO5.out (.cells (blkM 0 0 0 0 0 0 0 (.slice none 0 0)) 29)) 0 (by decide) (by change (0 : Int) < 7; decide)).1, (Kd.R_cell (0 : Int) (Kd.R_alloc HO5.out (.cells (blkM 0 0 0 0 0 0 0 (.slice none 0 0)) 29)) 1 (by decide) (by change (1 : Int) < 7; decide)).1, (Kd.R_cell (0 : Int) (Kd.R_alloc HO5.out (.cells (blkM 0 0 0 0 0 0 0 (.slice none 0 0)) 29)) 2 (by decide) (by change (2 : Int) < 7; decide)).1, (Kd.R_cell (0 : Int) (Kd.R_alloc HO5.out (.cells (blkM 0 0 0 0 0 0 0 (.slice none 0 0)) 29)) 3 (by decide) (by change (3 : Int) < 7; decide)).1, (Kd.R_cell (0 : Int) (Kd.R_alloc HO5.out (.cells (blkM 0 0 0 0 0 0 0 (.slice none 0 0)) 29)) 4 (by decide) (by change (4 : Int) < 7; decide)).1, (Kd.R_cell (0 : Int) (Kd.R_alloc HO5.out (.cells (blkM 0 0 0 0 0 0 0 (.slice none 0 0)) 29)) 5 (by decide) (by change (5 : Int) < 7; decide)).1, (Kd.R_cell (0 : Int) (Kd.R_alloc HO5.out (.cells (blkM 0 0 0 0 0 0 0 (.slice none 0 0)) 29)) 6 (by decide) (by change (6 : Int) < 7; decide)).1⟩ (fun hHeld => ?_)
      clear hK K
      refine norm_ (a' := ?_) ?_ ?_
      rotate_left
      · show Act.put _ (some 12) _ = _
        simp only [Act.put, List.setIfInBounds_toArray, List.set_cons_zero, List.set_cons_succ, i64_w, i32_w]
        rfl
      refine last_ (i := 24) (N := none) #[true, true, true, true, true, true, true, true, true, true, true, true, true, true, true, true, true, true, true, true, true, true, true, true, true] rfl rfl (by kernel_rfl) (by decide) (fun K hK => ?_)
      refine skip_ (w1 := ?_) (by rfl) rfl ?_ ?_
      rotate_left
      · go_simp
        rfl
      refine hK.out _ _ ?_
      clear hK K
      refine done_ (by kernel_rfl) ?_
      have HD6 := Aside0.mk (show (w5.alloc (.cells #[.int .i64 n0, .int .i64 n1, .int .i64 n2, .int .i64 n3, .int .i64 n4, .int .i64 n5, .int .i64 n6, .slice A8 l.length c8] 29)).heap[w5.heap.size]? = some (.cells (blkM n0 n1 n2 n3 n4 n5 n6 (.slice A8 l.length c8)) 29 (0, 0)) from (blk_new w5 (.cells #[.int .i64 n0, .int .i64 n1, .int .i64 n2, .int .i64 n3, .int .i64 n4, .int .i64 n5, .int .i64 n6, .slice A8 l.length c8] 29)))
      have HS6 := Aside0.mk (show Below w5.heap.size w5 (w5.alloc (.cells #[.int .i64 n0, .int .i64 n1, .int .i64 n2, .int .i64 n3, .int .i64 n4, .int .i64 n5, .int .i64 n6, .slice A8 l.length c8] 29)) from ((Below.refl w5.heap.size w5).alloc (Nat.le_refl _) _))
      generalize (w5.alloc (.cells #[.int .i64 n0, .int .i64 n1, .int .i64 n2, .int .i64 n3, .int .i64 n4, .int .i64 n5, .int .i64 n6, .slice A8 l.length c8] 29)) = w6 at HD6 HS6 ⊢
      have HB6 := Aside0.mk (HB5.out.trans (HS6.out.mono HB5.out.size))
      have HC6 := Aside0.mk (blk_below HC5.out HS6.out)
      have HR6 := Aside0.mk (Kd.R_below HR5.out HS6.out)
      have q0 := blk_cell HD6.out 0
      have q1 := blk_cell HD6.out 1
      have q2 := blk_cell HD6.out 2
      have q3 := blk_cell HD6.out 3
      have q4 := blk_cell HD6.out 4
      have q5 := blk_cell HD6.out 5
      have q6 := blk_cell HD6.out 6
      have q7 := blk_cell HD6.out 7
      simp only [blkM, List.getElem?_toArray, List.getElem?_cons_zero, List.getElem?_cons_succ] at q0 q1 q2 q3 q4 q5 q6 q7
      clear HS6 HO5 HR5 HC5 HB5
      cases ok
      · have HRes := Aside0.mk (show getM (getNs 7 s) = (0, 0, 0, 0, 0, 0, 0, [], 30) by rw [HM.out, if_neg (by simp)])
        clear HM
        go_wp2_with (first | (go_at_call 34; fail) | ((with_reducible refine gate_store (t := 29) (p := 2) rfl ?_); refine store_event (t := 29) (p := 2) (w1 := w6.setCells w.heap.size 0 (blkM 0 0 0 0 0 0 0 (.slice none 0 0)).toList) rfl rfl rfl ?hr ?_; (case hr => (unfold execOp; simp only [Act.eval, Sem.run_bind, Sem.run_pure, Result.andThen_ok]; show ((Sem.run Try.prog (Instr.storeAt 29 (.pointer (some ⟨w.heap.size, 0, none⟩)) (.agg (blkM 0 0 0 0 0 0 0 (.slice none 0 0)))) w6).andThen _) = _; rw [(store_msg HC6.out rfl 0 0 0 0 0 0 0 (.slice none 0 0) rfl).1]; try rfl)); intro w9 hw_; have HCz := Aside0.mk (hw_ ▸ (store_msg HC6.out rfl 0 0 0 0 0 0 0 (.slice none 0 0) rfl).2 : w9.heap[w.heap.size]? = some (.cells (blkM 0 0 0 0 0 0 0 (.slice none 0 0)) 29 (0, 0))); have HBz := Aside0.mk (show Below w.heap.size w w9 by rw [hw_]; exact below_cells HB6.out (Nat.le_refl _) _); clear hw_))
        have d0 := blk_cell HCz.out 0
        have d1 := blk_cell HCz.out 1
        have d2 := blk_cell HCz.out 2
        have d3 := blk_cell HCz.out 3
        have d4 := blk_cell HCz.out 4
        have d5 := blk_cell HCz.out 5
        have d6 := blk_cell HCz.out 6
        have d7 := blk_cell HCz.out 7
        simp only [blkM, List.getElem?_toArray, List.getElem?_cons_zero, List.getElem?_cons_succ] at d0 d1 d2 d3 d4 d5 d6 d7
        refine bodyPost_ret (v := .tuple #[.agg (blkM 0 0 0 0 0 0 0 (.slice none 0 0)), .int .i64 30]) ?_ rfl ⟨0, 0, 0, 0, 0, 0, 0, [], 30, ⟨HRes.out⟩, _, rfl, Kd.R_nil _ _ _ _ _, HBz.out⟩
        simp [results, Try.results34, go_sem, blkM, d0, d1, d2, d3, d4, d5, d6, d7]
      · by_cases hre : rest = ⟨#[]⟩
        · subst hre
          cases hib : isB n0 n1 n2 n3 n4 n5 n6 l
          · have HRes := Aside0.mk (show getM (getNs 7 s) = (0, 0, 0, 0, 0, 0, 0, [], 30) by rw [HM.out, if_neg (by rw [hib]; simp)])
            have HI3 := Aside0.mk (show sextonref23_Is.f K2 n0 n1 n2 n3 n4 n5 n6 l = some false by rw [HI2.out, hib])
            clear HM hib
            go_wp2_with (first | (go_at_call 37; (refine (sextonref23_Is.calls K2 n0 n1 n2 n3 n4 n5 n6 A8 c8 l false _ (Kd.R_reads' HR6.out).2.2 (Kd.R_reads' HR6.out).2.1 HI3.out).mono ?_); rintro e w7 ⟨rfl, hb⟩; have HB7 := Aside0.mk (HB6.out.trans (hb.mono HB6.out.size)); have HC7 := Aside0.mk (blk_below HC6.out hb); have HR7 := Aside0.mk (Kd.R_below HR6.out hb); have HD7 := Aside0.mk (blk_below HD6.out hb); clear hb; have p0 := blk_cell HD7.out 0; have p1 := blk_cell HD7.out 1; have p2 := blk_cell HD7.out 2; have p3 := blk_cell HD7.out 3; have p4 := blk_cell HD7.out 4; have p5 := blk_cell HD7.out 5; have p6 := blk_cell HD7.out 6; have p7 := blk_cell HD7.out 7; simp only [blkM, List.getElem?_toArray, List.getElem?_cons_zero, List.getElem?_cons_succ] at p0 p1 p2 p3 p4 p5 p6 p7) | ((with_reducible refine gate_store (t := 29) (p := 2) rfl ?_); refine store_event (t := 29) (p := 2) (w1 := w7.setCells w.heap.size 0 (blkM 0 0 0 0 0 0 0 (.slice none 0 0)).toList) rfl rfl rfl ?hr ?_; (case hr => (unfold execOp; simp only [Act.eval, Sem.run_bind, Sem.run_pure, Result.andThen_ok]; show ((Sem.run Try.prog (Instr.storeAt 29 (.pointer (some ⟨w.heap.size, 0, none⟩)) (.agg (blkM 0 0 0 0 0 0 0 (.slice none 0 0)))) w7).andThen _) = _; rw [(store_msg HC7.out rfl 0 0 0 0 0 0 0 (.slice none 0 0) rfl).1]; try rfl)); intro w9 hw_; have HCz := Aside0.mk (hw_ ▸ (store_msg HC7.out rfl 0 0 0 0 0 0 0 (.slice none 0 0) rfl).2 : w9.heap[w.heap.size]? = some (.cells (blkM 0 0 0 0 0 0 0 (.slice none 0 0)) 29 (0, 0))); have HBz := Aside0.mk (show Below w.heap.size w w9 by rw [hw_]; exact below_cells HB7.out (Nat.le_refl _) _); clear hw_))
            have d0 := blk_cell HCz.out 0
            have d1 := blk_cell HCz.out 1
            have d2 := blk_cell HCz.out 2
            have d3 := blk_cell HCz.out 3
            have d4 := blk_cell HCz.out 4
            have d5 := blk_cell HCz.out 5
            have d6 := blk_cell HCz.out 6
            have d7 := blk_cell HCz.out 7
            simp only [blkM, List.getElem?_toArray, List.getElem?_cons_zero, List.getElem?_cons_succ] at d0 d1 d2 d3 d4 d5 d6 d7
            refine bodyPost_ret (v := .tuple #[.agg (blkM 0 0 0 0 0 0 0 (.slice none 0 0)), .int .i64 30]) ?_ rfl ⟨0, 0, 0, 0, 0, 0, 0, [], 30, ⟨HRes.out⟩, _, rfl, Kd.R_nil _ _ _ _ _, HBz.out⟩
            simp [results, Try.results34, go_sem, blkM, d0, d1, d2, d3, d4, d5, d6, d7]
          · have HRes := Aside0.mk (show getM (getNs 7 s) = (n0, n1, n2, n3, n4, n5, n6, l, 0) by rw [HM.out, if_pos ⟨rfl, rfl, hib⟩])
            have HI3 := Aside0.mk (show sextonref23_Is.f K2 n0 n1 n2 n3 n4 n5 n6 l = some true by rw [HI2.out, hib])
            clear HM hib
            go_wp2_with (first | (go_at_call 37; (refine (sextonref23_Is.calls K2 n0 n1 n2 n3 n4 n5 n6 A8 c8 l true _ (Kd.R_reads' HR6.out).2.2 (Kd.R_reads' HR6.out).2.1 HI3.out).mono ?_); rintro e w7 ⟨rfl, hb⟩; have HB7 := Aside0.mk (HB6.out.trans (hb.mono HB6.out.size)); have HC7 := Aside0.mk (blk_below HC6.out hb); have HR7 := Aside0.mk (Kd.R_below HR6.out hb); have HD7 := Aside0.mk (blk_below HD6.out hb); clear hb; have p0 := blk_cell HD7.out 0; have p1 := blk_cell HD7.out 1; have p2 := blk_cell HD7.out 2; have p3 := blk_cell HD7.out 3; have p4 := blk_cell HD7.out 4; have p5 := blk_cell HD7.out 5; have p6 := blk_cell HD7.out 6; have p7 := blk_cell HD7.out 7; simp only [blkM, List.getElem?_toArray, List.getElem?_cons_zero, List.getElem?_cons_succ] at p0 p1 p2 p3 p4 p5 p6 p7) | ((with_reducible refine gate_store (t := 29) (p := 2) rfl ?_); refine store_event (t := 29) (p := 2) (w1 := w7.setCells w.heap.size 0 (blkM n0 n1 n2 n3 n4 n5 n6 (.slice A8 l.length c8)).toList) rfl rfl rfl ?hr ?_; (case hr => (unfold execOp; simp only [Act.eval, Sem.run_bind, Sem.run_pure, Result.andThen_ok]; show ((Sem.run Try.prog (Instr.storeAt 29 (.pointer (some ⟨w.heap.size, 0, none⟩)) (.agg (blkM n0 n1 n2 n3 n4 n5 n6 (.slice A8 l.length c8)))) w7).andThen _) = _; rw [(store_msg HC7.out rfl n0 n1 n2 n3 n4 n5 n6 (.slice A8 l.length c8) rfl).1]; try rfl)); intro w9 hw_; have HCz := Aside0.mk (hw_ ▸ (store_msg HC7.out rfl n0 n1 n2 n3 n4 n5 n6 (.slice A8 l.length c8) rfl).2 : w9.heap[w.heap.size]? = some (.cells (blkM n0 n1 n2 n3 n4 n5 n6 (.slice A8 l.length c8)) 29 (0, 0))); have HBz := Aside0.mk (show Below w.heap.size w w9 by rw [hw_]; exact below_cells HB7.out (Nat.le_refl _) _); have HRz := Aside0.mk (show Kd.R Kd.string 9 w9 w.heap.size (fun _ => True) (.slice A8 l.length c8) l by rw [hw_]; exact R_cells HR7.out HC7.out (by intro q hq; simp [Kd.string, Kd.scalar] at hq; subst hq; decide) _); clear hw_))
            have d0 := blk_cell HCz.out 0
            have d1 := blk_cell HCz.out 1
            have d2 := blk_cell HCz.out 2
            have d3 := blk_cell HCz.out 3
            have d4 := blk_cell HCz.out 4
            have d5 := blk_cell HCz.out 5
            have d6 := blk_cell HCz.out 6
            have d7 := blk_cell HCz.out 7
            simp only [blkM, List.getElem?_toArray, List.getElem?_cons_zero, List.getElem?_cons_succ] at d0 d1 d2 d3 d4 d5 d6 d7
            refine bodyPost_ret (v := .tuple #[.agg (blkM n0 n1 n2 n3 n4 n5 n6 (.slice A8 l.length c8)), .int .i64 0]) ?_ rfl ⟨n0, n1, n2, n3, n4, n5, n6, l, 0, ⟨HRes.out⟩, _, rfl, HRz.out, HBz.out⟩
            simp [results, Try.results34, go_sem, blkM, d0, d1, d2, d3, d4, d5, d6, d7]
        · have HRes := Aside0.mk (show getM (getNs 7 s) = (0, 0, 0, 0, 0, 0, 0, [], 30) by rw [HM.out, if_neg (by intro h; exact hre h.2.1)])
          have hr1 : rest.toList.isEmpty = false := by
            rw [List.isEmpty_eq_false_iff]; intro h; apply hre; rw [ByteArray.toList_eq] at h; exact ByteArray.ext (Array.toList_inj.1 h)
          have hr2 : (rest.toList == []) = false := by
            rw [beq_eq_false_iff_ne]; intro h; rw [h] at hr1; cases hr1
          clear HM hre
          go_wp2_with (first | (go_at_call 34; fail) | ((with_reducible refine gate_store (t := 29) (p := 2) rfl ?_); refine store_event (t := 29) (p := 2) (w1 := w6.setCells w.heap.size 0 (blkM 0 0 0 0 0 0 0 (.slice none 0 0)).toList) rfl rfl rfl ?hr ?_; (case hr => (unfold execOp; simp only [Act.eval, Sem.run_bind, Sem.run_pure, Result.andThen_ok]; show ((Sem.run Try.prog (Instr.storeAt 29 (.pointer (some ⟨w.heap.size, 0, none⟩)) (.agg (blkM 0 0 0 0 0 0 0 (.slice none 0 0)))) w6).andThen _) = _; rw [(store_msg HC6.out rfl 0 0 0 0 0 0 0 (.slice none 0 0) rfl).1]; try rfl)); intro w9 hw_; have HCz := Aside0.mk (hw_ ▸ (store_msg HC6.out rfl 0 0 0 0 0 0 0 (.slice none 0 0) rfl).2 : w9.heap[w.heap.size]? = some (.cells (blkM 0 0 0 0 0 0 0 (.slice none 0 0)) 29 (0, 0))); have HBz := Aside0.mk (show Below w.heap.size w w9 by rw [hw_]; exact below_cells HB6.out (Nat.le_refl _) _); clear hw_))
          have d0 := blk_cell HCz.out 0
          have d1 := blk_cell HCz.out 1
          have d2 := blk_cell HCz.out 2
          have d3 := blk_cell HCz.out 3
          have d4 := blk_cell HCz.out 4
          have d5 := blk_cell HCz.out 5
          have d6 := blk_cell HCz.out 6
          have d7 := blk_cell HCz.out 7
          simp only [blkM, List.getElem?_toArray, List.getElem?_cons_zero, List.getElem?_cons_succ] at d0 d1 d2 d3 d4 d5 d6 d7
          refine bodyPost_ret (v := .tuple #[.agg (blkM 0 0 0 0 0 0 0 (.slice none 0 0)), .int .i64 30]) ?_ rfl ⟨0, 0, 0, 0, 0, 0, 0, [], 30, ⟨HRes.out⟩, _, rfl, Kd.R_nil _ _ _ _ _, HBz.out⟩
          simp [results, Try.results34, go_sem, blkM, d0, d1, d2, d3, d4, d5, d6, d7]
/-- sextonref23.Get answers as msg.Get. -/
def sextonref23_Get.f (a0 : ByteArray) : Option (Int × Int × Int × Int × Int × Int × Int × List ByteArray × Int) := some (getM (getNs 7 a0))
theorem sextonref23_Get.calls (a0 : ByteArray) (r1 r2 r3 r4 r5 r6 r7 : Int) (r8 : List ByteArray) (r9 : Int) (w : World) (h : sextonref23_Get.f a0 = some (r1, r2, r3, r4, r5, r6, r7, r8, r9)) :
    Calls Try.prog 34 #[.string a0] w fun e w' => ∃ v7_ : Value, e = .returned (.tuple #[.agg #[.int .i64 r1, .int .i64 r2, .int .i64 r3, .int .i64 r4, .int .i64 r5, .int .i64 r6, .int .i64 r7, v7_], .int .i64 r9]) ∧ Kd.R Kd.string 9 w' w.heap.size (fun _ => True) v7_ r8 ∧ Below w.heap.size w w' := by
  have hg := Option.some.inj h
  refine (refGet_any a0 w).mono ?_
  rintro e w' ⟨s1, s2, s3, s4, s5, s6, s7, s8, s9, hs, v, rfl, hR, hB⟩
  have := hs.out.symm.trans hg
  simp only [Prod.mk.injEq] at this
  obtain ⟨rfl, rfl, rfl, rfl, rfl, rfl, rfl, rfl, rfl⟩ := this
  exact ⟨v, rfl, hR, hB⟩
end Go.Proofs.Ytfejidinfcmfjaa.P
/-
  The walk of MsgBytes, by the print; the ways that would answer false are closed.
-/
namespace Go.Proofs.Ytfejidinfcmfjaa.P
open Go.RowKit Go.Proofs.YtfejidinfcmfjaaW.PrintWords Go.Proofs.YtfejidinfcmfjaaW.PrintLast Go.Proofs.YtfejidinfcmfjaaW.PrintMore
attribute [local go_sem] max2_int min2_int max_two min_two max_three min_three max_four min_four   -- for this text's walks alone
set_option linter.unusedVariables false
set_option linter.unusedSimpArgs false

/-! ### sextonlaw23_MsgBytes: function 8 -/
def sextonlaw23_MsgBytes.j0 : Nat → ByteArray → Bool → Int → Int → Int → Int → Int → Int → Int → List ByteArray → Option (Bool)
  | 0, _, _, _, _, _, _, _, _, _, _ => none
  | k + 1, x1, x19, x185000, x185001, x185002, x185003, x185004, x185005, x185006, x185007 => if x19 = true then (some true) else ((msg_Put.f x185000 x185001 x185002 x185003 x185004 x185005 x185006 x185007).bind fun bt186 => ((sextonref23_Put.f k x185000 x185001 x185002 x185003 x185004 x185005 x185006 x185007).bind fun bt188 => ((msg_Get.f x1).bind fun bt190 => ((sextonref23_Get.f x1).bind fun bt202 => ((sextonlaw23_sent.f).bind fun t214 => (if t214 = true then ((msg_Is.f k x185000 x185001 x185002 x185003 x185004 x185005 x185006 x185007).bind fun t215 => ((sextonref23_Is.f k x185000 x185001 x185002 x185003 x185004 x185005 x185006 x185007).bind fun t216 => (if (t215 == t216) = true then (if bt186.1.toList = bt188.1.toList then (if bt186.2 = bt188.2 then ((sextonref23_Same.f k bt190.1 bt190.2.1 bt190.2.2.1 bt190.2.2.2.1 bt190.2.2.2.2.1 bt190.2.2.2.2.2.1 bt190.2.2.2.2.2.2.1 bt190.2.2.2.2.2.2.2.1 bt202.1 bt202.2.1 bt202.2.2.1 bt202.2.2.2.1 bt202.2.2.2.2.1 bt202.2.2.2.2.2.1 bt202.2.2.2.2.2.2.1 bt202.2.2.2.2.2.2.2.1).bind fun t217 => (if t217 = true then (some (bt190.2.2.2.2.2.2.2.2 == bt202.2.2.2.2.2.2.2.2)) else (some false))) else (some false)) else (some false)) else (some false)))) else (some false)))))))
def sextonlaw23_MsgBytes.f (k : Nat) (a0_0 : Int) (a0_1 : Int) (a0_2 : Int) (a0_3 : Int) (a0_4 : Int) (a0_5 : Int) (a0_6 : Int) (l0_7 : List ByteArray) (a1 : ByteArray) : Option (Bool) := (sextonref23_Big.f k a0_0 a0_1 a0_2 a0_3 a0_4 a0_5 a0_6 l0_7).bind fun t185 => (if t185 = true then (sextonlaw23_MsgBytes.j0 k a1 true a0_0 a0_1 a0_2 a0_3 a0_4 a0_5 a0_6 l0_7) else (sextonlaw23_MsgBytes.j0 k a1 (decide ((a1.size : Int) > 800)) a0_0 a0_1 a0_2 a0_3 a0_4 a0_5 a0_6 l0_7))
theorem sextonlaw23_MsgBytes.mono_l : ∀ k, (∀ y0 y1 y2 y3 y4 y5 y6 y7 y8 y9, LeO (sextonlaw23_MsgBytes.j0 k y0 y1 y2 y3 y4 y5 y6 y7 y8 y9) (sextonlaw23_MsgBytes.j0 (k + 1) y0 y1 y2 y3 y4 y5 y6 y7 y8 y9))
  | 0 => fun _ _ _ _ _ _ _ _ _ _ r h => by simp [sextonlaw23_MsgBytes.j0] at h
  | k + 1 => by
    have ih0 := sextonlaw23_MsgBytes.mono_l k
    · intro y0 y1 y2 y3 y4 y5 y6 y7 y8 y9
      unfold sextonlaw23_MsgBytes.j0
      repeat' first
      | (with_reducible exact ih0 _ _ _ _ _ _ _ _ _ _)
      | (with_reducible exact msg_Is.mono _ _ _ _ _ _ _ _ _)
      | (with_reducible exact sextonref23_Big.mono _ _ _ _ _ _ _ _ _)
      | (with_reducible exact sextonref23_Is.mono _ _ _ _ _ _ _ _ _)
      | (with_reducible exact sextonref23_Put.mono _ _ _ _ _ _ _ _ _)
      | (with_reducible exact sextonref23_Same.mono _ _ _ _ _ _ _ _ _ _ _ _ _ _ _ _ _)
      | (with_reducible exact LeO.refl _)
      | (with_reducible exact LeO.none _)
      | (with_reducible refine LeO.ite ?_ ?_)
      | (with_reducible refine LeO.bind ?_ (fun _ => ?_))
      | exact ih0 _ _ _ _ _ _ _ _ _ _
      | exact msg_Is.mono _ _ _ _ _ _ _ _ _
      | exact sextonref23_Big.mono _ _ _ _ _ _ _ _ _
      | exact sextonref23_Is.mono _ _ _ _ _ _ _ _ _
      | exact sextonref23_Put.mono _ _ _ _ _ _ _ _ _
      | exact sextonref23_Same.mono _ _ _ _ _ _ _ _ _ _ _ _ _ _ _ _ _
      | exact LeO.none _
      | refine LeO.ite ?_ ?_
      | refine LeO.bind ?_ (fun _ => ?_)
theorem sextonlaw23_MsgBytes.mono : ∀ a0 a1 a2 a3 a4 a5 a6 a7 a8 k, LeO (sextonlaw23_MsgBytes.f k a0 a1 a2 a3 a4 a5 a6 a7 a8) (sextonlaw23_MsgBytes.f (k + 1) a0 a1 a2 a3 a4 a5 a6 a7 a8) := by
  intro a0 a1 a2 a3 a4 a5 a6 a7 a8 k
  have ih0 := sextonlaw23_MsgBytes.mono_l k
  unfold sextonlaw23_MsgBytes.f
  repeat' first
      | (with_reducible exact ih0 _ _ _ _ _ _ _ _ _ _)
      | (with_reducible exact msg_Is.mono _ _ _ _ _ _ _ _ _)
      | (with_reducible exact sextonref23_Big.mono _ _ _ _ _ _ _ _ _)
      | (with_reducible exact sextonref23_Is.mono _ _ _ _ _ _ _ _ _)
      | (with_reducible exact sextonref23_Put.mono _ _ _ _ _ _ _ _ _)
      | (with_reducible exact sextonref23_Same.mono _ _ _ _ _ _ _ _ _ _ _ _ _ _ _ _ _)
      | (with_reducible exact LeO.refl _)
      | (with_reducible exact LeO.none _)
      | (with_reducible refine LeO.ite ?_ ?_)
      | (with_reducible refine LeO.bind ?_ (fun _ => ?_))
      | exact ih0 _ _ _ _ _ _ _ _ _ _
      | exact msg_Is.mono _ _ _ _ _ _ _ _ _
      | exact sextonref23_Big.mono _ _ _ _ _ _ _ _ _
      | exact sextonref23_Is.mono _ _ _ _ _ _ _ _ _
      | exact sextonref23_Put.mono _ _ _ _ _ _ _ _ _
      | exact sextonref23_Same.mono _ _ _ _ _ _ _ _ _ _ _ _ _ _ _ _ _
      | exact LeO.none _
      | refine LeO.ite ?_ ?_
      | refine LeO.bind ?_ (fun _ => ?_)
def sextonlaw23_MsgBytes.T7 : Bool × List (List Nat × List Nat) := (true, [([], []), ([0, 0], [0]), ([1], [1]), ([2, 1, 1], [1, 2]), ([1], [1]), ([4, 3, 1], [1, 4]), ([3, 5, 1], [1, 3, 5]), ([1, 6], [1, 6]), ([7, 5], [7]), ([8], [8]), ([8], [8]), ([9, 10, 8], [8, 9, 10]), ([8, 11], [8, 11]), ([12, 8], [12]), ([13], [13]), ([13], [13]), ([14, 15, 13], [13, 14, 15]), ([13, 16], [13, 16]), ([17, 13], [17]), ([18], [18]), ([18], [18]), ([19, 20, 18, 18], [18, 19, 20]), ([18, 21], [18, 21]), ([22, 21], [22]), ([23], [23]), ([23], [23]), ([24, 25, 23], [23, 24, 25]), ([23, 26], [23, 26]), ([27, 23, 0, 1, 2, 3, 4, 5, 6, 7, 8, 9, 10, 11, 12, 13, 14, 15, 16, 17, 18, 19, 20, 21, 22, 23, 24, 25, 26, 27], [27])])
def sextonlaw23_MsgBytes.B7 : List Nat := [0, 1, 3, 7, 3, 31, 63, 127, 255, 511, 511, 2047, 4095, 8191, 16383, 16383, 65535, 131071, 262143, 524287, 524287, 2097151, 4194303, 8388607, 16777215, 16777215, 67108863, 134217727, 268435455]
theorem sextonlaw23_MsgBytes.tab7 : rtab .any (opsOf Try.f8 7) = sextonlaw23_MsgBytes.T7 := by kernel_rfl
theorem sextonlaw23_MsgBytes.bits7 : waitsOk sextonlaw23_MsgBytes.T7.2 sextonlaw23_MsgBytes.B7 = true := by kernel_rfl
set_option maxHeartbeats 8000000 in
set_option maxRecDepth 100000 in
theorem sextonlaw23_MsgBytes.calls (k : Nat) (a0_0 : Int) (a0_1 : Int) (a0_2 : Int) (a0_3 : Int) (a0_4 : Int) (a0_5 : Int) (a0_6 : Int) (A0_7 : Option Addr) (c0_7 : Nat) (l0_7 : List ByteArray) (a1 : ByteArray) (r : Bool) (hrt : r = true := by rfl) (w : World) (hr0_7 : Kd.C Kd.string w A0_7 l0_7.length l0_7) (hc0_7 : l0_7.length ≤ c0_7) (h : sextonlaw23_MsgBytes.f k a0_0 a0_1 a0_2 a0_3 a0_4 a0_5 a0_6 l0_7 a1 = some r) :
    Calls Try.prog 8 #[.agg #[.int .i64 a0_0, .int .i64 a0_1, .int .i64 a0_2, .int .i64 a0_3, .int .i64 a0_4, .int .i64 a0_5, .int .i64 a0_6, .slice A0_7 l0_7.length c0_7], .string a1] w fun e w' => e = .returned (.bool r) ∧ Below w.heap.size w w' := by
  have HRT := Aside0.mk hrt
  have hu29 := Try.underlying29
  have HR0_7 := Aside0.mk hr0_7
  have HC0_7 := Aside0.mk hc0_7
  clear hr0_7 hc0_7
  have HB := Aside0.mk (Below.refl w.heap.size w)
  have H : ((sextonref23_Big.f k a0_0 a0_1 a0_2 a0_3 a0_4 a0_5 a0_6 l0_7).bind fun t185 => (if t185 = true then (sextonlaw23_MsgBytes.j0 k a1 true a0_0 a0_1 a0_2 a0_3 a0_4 a0_5 a0_6 l0_7) else (sextonlaw23_MsgBytes.j0 k a1 (decide ((a1.size : Int) > 800)) a0_0 a0_1 a0_2 a0_3 a0_4 a0_5 a0_6 l0_7))) = some r := h
  clear h
  have HC3 := Aside0.mk H
  clear H
  go_enter Try.func8, Try.ntmps8
  go_upto_region 1 with (first | ((with_reducible refine gate_dst (N := 2) rfl ?_); (try (refine gate_guard (by rfl) ?_; dsimp only)); refine box_event ?hg (N := 2) ?hd (cs := #[.int .i64 a0_0, .int .i64 a0_1, .int .i64 a0_2, .int .i64 a0_3, .int .i64 a0_4, .int .i64 a0_5, .int .i64 a0_6, .slice A0_7 l0_7.length c0_7]) (t := 29) ?hr ?_; (case hd => rfl); (case hg => rfl); (case hr => first | (go_simp; done) | (go_simp; rfl)); intro gb184 hg w4 hbox hb; have n0_ := Aside0.mk (below_step (by repeat (first | (with_reducible first | exact HB.out | apply below_alloc | apply pw_below_drewN | apply below_drew1) | exact HB.out)) hb); have n1_ := Aside0.mk (hbox); have n2_ := Aside0.mk ((by rw [hg]; exact (below_size (by repeat (first | (with_reducible first | exact HB.out | apply below_alloc | apply pw_below_drewN | apply below_drew1) | exact HB.out))) : w.heap.size ≤ gb184)); have n3_ := Aside0.mk ((by rw [hg]; exact (below_size (by repeat (first | (with_reducible first | exact HB.out | apply below_alloc | apply pw_below_drewN | apply below_drew1) | exact HB.out))) : w.heap.size ≤ gb184)); clear HB; have HB := n0_; have BK184 := n1_; have GW184 := n2_; have GE184 := n3_; clear n0_ n1_ n2_ n3_; clear hb hbox hg))
  (try simp only [Act.put, List.setIfInBounds_toArray, List.set_cons_zero, List.set_cons_succ])
  go_cut [19] (fun v19 wc => ∃ (kq : Nat) (x19_2 : Bool), v19 = .bool x19_2 ∧ Aside0 (sextonlaw23_MsgBytes.j0 kq a1 x19_2 a0_0 a0_1 a0_2 a0_3 a0_4 a0_5 a0_6 l0_7 = some r) ∧ Aside0 (kq ≤ k) ∧ Aside0 (wc.heap[gb184]? = some (.cells #[.int .i64 a0_0, .int .i64 a0_1, .int .i64 a0_2, .int .i64 a0_3, .int .i64 a0_4, .int .i64 a0_5, .int .i64 a0_6, (.slice A0_7 l0_7.length c0_7)] 29 (0, 0))) ∧ Aside0 (Below w.heap.size w wc))
  case first =>
    have H := HC3.out
    clear HC3
    replace H := Option.bind_eq_some_iff.mp H
    obtain ⟨t185, A50, H⟩ := H
    replace H : (if t185 = true then (sextonlaw23_MsgBytes.j0 k a1 true a0_0 a0_1 a0_2 a0_3 a0_4 a0_5 a0_6 l0_7) else (sextonlaw23_MsgBytes.j0 k a1 (decide ((a1.size : Int) > 800)) a0_0 a0_1 a0_2 a0_3 a0_4 a0_5 a0_6 l0_7)) = some r := H
    have A5 := Aside0.mk A50
    clear A50
    by_cases c6 : t185 = true
    · subst c6
      have H1 : (sextonlaw23_MsgBytes.j0 k a1 true a0_0 a0_1 a0_2 a0_3 a0_4 a0_5 a0_6 l0_7) = some r := by rw [if_pos rfl] at H; exact H
      clear H
      have H := H1
      clear H1
      have H' := Aside0.mk H
      clear H
      have hcz7_0 : w4.cell? ⟨gb184, 0, none⟩ = some (.int .i64 a0_0) := (blk_cell BK184.out 0).trans rfl
      have hcz7_1 : w4.cell? ⟨gb184, 1, none⟩ = some (.int .i64 a0_1) := (blk_cell BK184.out 1).trans rfl
      have hcz7_2 : w4.cell? ⟨gb184, 2, none⟩ = some (.int .i64 a0_2) := (blk_cell BK184.out 2).trans rfl
      have hcz7_3 : w4.cell? ⟨gb184, 3, none⟩ = some (.int .i64 a0_3) := (blk_cell BK184.out 3).trans rfl
      have hcz7_4 : w4.cell? ⟨gb184, 4, none⟩ = some (.int .i64 a0_4) := (blk_cell BK184.out 4).trans rfl
      have hcz7_5 : w4.cell? ⟨gb184, 5, none⟩ = some (.int .i64 a0_5) := (blk_cell BK184.out 5).trans rfl
      have hcz7_6 : w4.cell? ⟨gb184, 6, none⟩ = some (.int .i64 a0_6) := (blk_cell BK184.out 6).trans rfl
      have hcz7_7 : w4.cell? ⟨gb184, 7, none⟩ = some (.slice A0_7 l0_7.length c0_7) := (blk_cell BK184.out 7).trans rfl
      have hfz7_0 := blk_frozen BK184.out 0
      have hfz7_1 := blk_frozen BK184.out 1
      have hfz7_2 := blk_frozen BK184.out 2
      have hfz7_3 := blk_frozen BK184.out 3
      have hfz7_4 := blk_frozen BK184.out 4
      have hfz7_5 := blk_frozen BK184.out 5
      have hfz7_6 := blk_frozen BK184.out 6
      have hfz7_7 := blk_frozen BK184.out 7
      go_wp2_with (first | ((with_reducible refine gate_callee (f := 30) rfl ?_); refine goesL_ (some 14) rfl rfl Try.func30 (by kernel_rfl) rfl #[.agg #[.int .i64 a0_0, .int .i64 a0_1, .int .i64 a0_2, .int .i64 a0_3, .int .i64 a0_4, .int .i64 a0_5, .int .i64 a0_6, .slice A0_7 l0_7.length c0_7]] rfl (by (try simp only [List.map_toArray, List.map_cons, List.map_nil]); first | done | rfl | (simp only [List.length_drop, List.length_take]; rfl)) ?_; (with_reducible refine (sextonref23_Big.calls k a0_0 a0_1 a0_2 a0_3 a0_4 a0_5 a0_6 _ _ l0_7 true _ ?side1 ?side2 A5.out).mono ?_); (case side1 => repeat (first | exact (Kd.C_below HR0_7.out HB.out) | (with_reducible refine Kd.C_alloc ?_ _) | (with_reducible refine Kd.C_drewN ?_ _) | (with_reducible refine Kd.C_drew ?_))); (case side2 => exact HC0_7.out); rintro e w8 ⟨rfl, hb⟩; refine ⟨_, rfl, ?_⟩; have n0_ := Aside0.mk (blk_below (g := gb184) (o := .cells #[.int .i64 a0_0, .int .i64 a0_1, .int .i64 a0_2, .int .i64 a0_3, .int .i64 a0_4, .int .i64 a0_5, .int .i64 a0_6, .slice A0_7 l0_7.length c0_7] 29 (0, 0)) (by (with_reducible repeat (first | refine blk_drewN ?_ _ | refine blk_drew ?_ | refine blk_alloc ?_ _)); exact BK184.out) hb); have n1_ := Aside0.mk (below_step (by repeat (first | (with_reducible first | exact HB.out | apply below_alloc | apply pw_below_drewN | apply below_drew1 | refine below_set ?_ GE184.out) | exact HB.out)) hb); clear BK184; clear HB; have BK184 := n0_; have HB := n1_; clear n0_ n1_; (try clear hb); (try clear hb2); (try clear hk); (try clear hi)))
      go_meet
      case rel => exact ⟨_, (true), (by first | rfl | (simp; done) | (simp [*]; done)), H', ⟨by first | omega | exact Nat.le_refl _⟩, ⟨by (with_reducible repeat (first | refine blk_drewN ?_ _ | refine blk_drew ?_ | refine blk_alloc ?_ _)); exact BK184.out⟩, ⟨by repeat (first | (with_reducible first | exact HB.out | apply below_alloc | apply pw_below_drewN | apply below_drew1 | refine below_set ?_ GE184.out) | exact HB.out)⟩⟩
    · replace c6 := Bool.eq_false_iff.mpr c6
      subst c6
      have H1 : (sextonlaw23_MsgBytes.j0 k a1 (decide ((a1.size : Int) > 800)) a0_0 a0_1 a0_2 a0_3 a0_4 a0_5 a0_6 l0_7) = some r := by rw [if_neg (show ¬ (false = true) by decide)] at H; exact H
      clear H
      have H := H1
      clear H1
      have H' := Aside0.mk H
      clear H
      have hcz9_0 : w4.cell? ⟨gb184, 0, none⟩ = some (.int .i64 a0_0) := (blk_cell BK184.out 0).trans rfl
      have hcz9_1 : w4.cell? ⟨gb184, 1, none⟩ = some (.int .i64 a0_1) := (blk_cell BK184.out 1).trans rfl
      have hcz9_2 : w4.cell? ⟨gb184, 2, none⟩ = some (.int .i64 a0_2) := (blk_cell BK184.out 2).trans rfl
      have hcz9_3 : w4.cell? ⟨gb184, 3, none⟩ = some (.int .i64 a0_3) := (blk_cell BK184.out 3).trans rfl
      have hcz9_4 : w4.cell? ⟨gb184, 4, none⟩ = some (.int .i64 a0_4) := (blk_cell BK184.out 4).trans rfl
      have hcz9_5 : w4.cell? ⟨gb184, 5, none⟩ = some (.int .i64 a0_5) := (blk_cell BK184.out 5).trans rfl
      have hcz9_6 : w4.cell? ⟨gb184, 6, none⟩ = some (.int .i64 a0_6) := (blk_cell BK184.out 6).trans rfl
      have hcz9_7 : w4.cell? ⟨gb184, 7, none⟩ = some (.slice A0_7 l0_7.length c0_7) := (blk_cell BK184.out 7).trans rfl
      have hfz9_0 := blk_frozen BK184.out 0
      have hfz9_1 := blk_frozen BK184.out 1
      have hfz9_2 := blk_frozen BK184.out 2
      have hfz9_3 := blk_frozen BK184.out 3
      have hfz9_4 := blk_frozen BK184.out 4
      have hfz9_5 := blk_frozen BK184.out 5
      have hfz9_6 := blk_frozen BK184.out 6
      have hfz9_7 := blk_frozen BK184.out 7
      go_wp2_with (first | ((with_reducible refine gate_callee (f := 30) rfl ?_); refine goesL_ (some 14) rfl rfl Try.func30 (by kernel_rfl) rfl #[.agg #[.int .i64 a0_0, .int .i64 a0_1, .int .i64 a0_2, .int .i64 a0_3, .int .i64 a0_4, .int .i64 a0_5, .int .i64 a0_6, .slice A0_7 l0_7.length c0_7]] rfl (by (try simp only [List.map_toArray, List.map_cons, List.map_nil]); first | done | rfl | (simp only [List.length_drop, List.length_take]; rfl)) ?_; (with_reducible refine (sextonref23_Big.calls k a0_0 a0_1 a0_2 a0_3 a0_4 a0_5 a0_6 _ _ l0_7 false _ ?side1 ?side2 A5.out).mono ?_); (case side1 => repeat (first | exact (Kd.C_below HR0_7.out HB.out) | (with_reducible refine Kd.C_alloc ?_ _) | (with_reducible refine Kd.C_drewN ?_ _) | (with_reducible refine Kd.C_drew ?_))); (case side2 => exact HC0_7.out); rintro e w10 ⟨rfl, hb⟩; refine ⟨_, rfl, ?_⟩; have n0_ := Aside0.mk (blk_below (g := gb184) (o := .cells #[.int .i64 a0_0, .int .i64 a0_1, .int .i64 a0_2, .int .i64 a0_3, .int .i64 a0_4, .int .i64 a0_5, .int .i64 a0_6, .slice A0_7 l0_7.length c0_7] 29 (0, 0)) (by (with_reducible repeat (first | refine blk_drewN ?_ _ | refine blk_drew ?_ | refine blk_alloc ?_ _)); exact BK184.out) hb); have n1_ := Aside0.mk (below_step (by repeat (first | (with_reducible first | exact HB.out | apply below_alloc | apply pw_below_drewN | apply below_drew1 | refine below_set ?_ GE184.out) | exact HB.out)) hb); clear BK184; clear HB; have BK184 := n0_; have HB := n1_; clear n0_ n1_; (try clear hb); (try clear hb2); (try clear hk); (try clear hi)))
      go_meet
      case rel => exact ⟨_, (decide ((a1.size : Int) > 800)), (by first | rfl | (simp; done) | (simp [*]; done)), H', ⟨by first | omega | exact Nat.le_refl _⟩, ⟨by (with_reducible repeat (first | refine blk_drewN ?_ _ | refine blk_drew ?_ | refine blk_alloc ?_ _)); exact BK184.out⟩, ⟨by repeat (first | (with_reducible first | exact HB.out | apply below_alloc | apply pw_below_drewN | apply below_drew1 | refine below_set ?_ GE184.out) | exact HB.out)⟩⟩
  case rest =>
    clear HC3
    try clear p2
    try clear c3
    try clear c6
    try clear c8
    try clear hcz7_0
    try clear hcz7_1
    try clear hcz7_2
    try clear hcz7_3
    try clear hcz7_4
    try clear hcz7_5
    try clear hcz7_6
    try clear hcz7_7
    try clear hcz9_0
    try clear hcz9_1
    try clear hcz9_2
    try clear hcz9_3
    try clear hcz9_4
    try clear hcz9_5
    try clear hcz9_6
    try clear hcz9_7
    try clear hfz7_0
    try clear hfz7_1
    try clear hfz7_2
    try clear hfz7_3
    try clear hfz7_4
    try clear hfz7_5
    try clear hfz7_6
    try clear hfz7_7
    try clear hfz9_0
    try clear hfz9_1
    try clear hfz9_2
    try clear hfz9_3
    try clear hfz9_4
    try clear hfz9_5
    try clear hfz9_6
    try clear hfz9_7
    obtain ⟨kq, x19_2, rfl, HA, HJ2, BK184, HB⟩ := hcut
    cases kq with
    | zero => exact absurd HA.out (by simp [sextonlaw23_MsgBytes.j0])
    | succ kj2 =>
      have H := HA.out
      clear HA
      simp only [sextonlaw23_MsgBytes.j0] at H
      by_cases c11 : x19_2 = true
      · subst c11
        have H1 : (some true) = some r := by rw [if_pos rfl] at H; exact H
        clear H
        have H := H1
        clear H1
        obtain rfl := Option.some.inj H
        go_wp2
        go_ret
        exact ⟨by first | rfl | (simp [errW_none, errW_some] <;> rfl) | (simp [*, errW_none, errW_some] <;> rfl), by repeat (first | (with_reducible first | exact HB.out | apply below_alloc | apply pw_below_drewN | apply below_drew1 | refine below_set ?_ GE184.out) | exact HB.out)⟩
      · replace c11 := Bool.eq_false_iff.mpr c11
        subst c11
        have H1 : ((msg_Put.f a0_0 a0_1 a0_2 a0_3 a0_4 a0_5 a0_6 l0_7).bind fun bt186 => ((sextonref23_Put.f kj2 a0_0 a0_1 a0_2 a0_3 a0_4 a0_5 a0_6 l0_7).bind fun bt188 => ((msg_Get.f a1).bind fun bt190 => ((sextonref23_Get.f a1).bind fun bt202 => ((sextonlaw23_sent.f).bind fun t214 => (if t214 = true then ((msg_Is.f kj2 a0_0 a0_1 a0_2 a0_3 a0_4 a0_5 a0_6 l0_7).bind fun t215 => ((sextonref23_Is.f kj2 a0_0 a0_1 a0_2 a0_3 a0_4 a0_5 a0_6 l0_7).bind fun t216 => (if (t215 == t216) = true then (if bt186.1.toList = bt188.1.toList then (if bt186.2 = bt188.2 then ((sextonref23_Same.f kj2 bt190.1 bt190.2.1 bt190.2.2.1 bt190.2.2.2.1 bt190.2.2.2.2.1 bt190.2.2.2.2.2.1 bt190.2.2.2.2.2.2.1 bt190.2.2.2.2.2.2.2.1 bt202.1 bt202.2.1 bt202.2.2.1 bt202.2.2.2.1 bt202.2.2.2.2.1 bt202.2.2.2.2.2.1 bt202.2.2.2.2.2.2.1 bt202.2.2.2.2.2.2.2.1).bind fun t217 => (if t217 = true then (some (bt190.2.2.2.2.2.2.2.2 == bt202.2.2.2.2.2.2.2.2)) else (some false))) else (some false)) else (some false)) else (some false)))) else (some false))))))) = some r := by rw [if_neg (show ¬ (false = true) by decide)] at H; exact H
        clear H
        have H := H1
        clear H1
        replace H := Option.bind_eq_some_iff.mp H
        obtain ⟨⟨t186, t187⟩, A120, H⟩ := H
        replace H : ((sextonref23_Put.f kj2 a0_0 a0_1 a0_2 a0_3 a0_4 a0_5 a0_6 l0_7).bind fun bt188 => ((msg_Get.f a1).bind fun bt190 => ((sextonref23_Get.f a1).bind fun bt202 => ((sextonlaw23_sent.f).bind fun t214 => (if t214 = true then ((msg_Is.f kj2 a0_0 a0_1 a0_2 a0_3 a0_4 a0_5 a0_6 l0_7).bind fun t215 => ((sextonref23_Is.f kj2 a0_0 a0_1 a0_2 a0_3 a0_4 a0_5 a0_6 l0_7).bind fun t216 => (if (t215 == t216) = true then (if t186.toList = bt188.1.toList then (if t187 = bt188.2 then ((sextonref23_Same.f kj2 bt190.1 bt190.2.1 bt190.2.2.1 bt190.2.2.2.1 bt190.2.2.2.2.1 bt190.2.2.2.2.2.1 bt190.2.2.2.2.2.2.1 bt190.2.2.2.2.2.2.2.1 bt202.1 bt202.2.1 bt202.2.2.1 bt202.2.2.2.1 bt202.2.2.2.2.1 bt202.2.2.2.2.2.1 bt202.2.2.2.2.2.2.1 bt202.2.2.2.2.2.2.2.1).bind fun t217 => (if t217 = true then (some (bt190.2.2.2.2.2.2.2.2 == bt202.2.2.2.2.2.2.2.2)) else (some false))) else (some false)) else (some false)) else (some false)))) else (some false)))))) = some r := H
        have A12 := Aside0.mk A120
        clear A120
        replace H := Option.bind_eq_some_iff.mp H
        obtain ⟨⟨t188, t189⟩, A130, H⟩ := H
        replace H : ((msg_Get.f a1).bind fun bt190 => ((sextonref23_Get.f a1).bind fun bt202 => ((sextonlaw23_sent.f).bind fun t214 => (if t214 = true then ((msg_Is.f kj2 a0_0 a0_1 a0_2 a0_3 a0_4 a0_5 a0_6 l0_7).bind fun t215 => ((sextonref23_Is.f kj2 a0_0 a0_1 a0_2 a0_3 a0_4 a0_5 a0_6 l0_7).bind fun t216 => (if (t215 == t216) = true then (if t186.toList = t188.toList then (if t187 = t189 then ((sextonref23_Same.f kj2 bt190.1 bt190.2.1 bt190.2.2.1 bt190.2.2.2.1 bt190.2.2.2.2.1 bt190.2.2.2.2.2.1 bt190.2.2.2.2.2.2.1 bt190.2.2.2.2.2.2.2.1 bt202.1 bt202.2.1 bt202.2.2.1 bt202.2.2.2.1 bt202.2.2.2.2.1 bt202.2.2.2.2.2.1 bt202.2.2.2.2.2.2.1 bt202.2.2.2.2.2.2.2.1).bind fun t217 => (if t217 = true then (some (bt190.2.2.2.2.2.2.2.2 == bt202.2.2.2.2.2.2.2.2)) else (some false))) else (some false)) else (some false)) else (some false)))) else (some false))))) = some r := H
        have A13 := Aside0.mk A130
        clear A130
        replace H := Option.bind_eq_some_iff.mp H
        obtain ⟨⟨t190, t191, t192, t193, t194, t195, t196, t197, t200⟩, A140, H⟩ := H
        replace H : ((sextonref23_Get.f a1).bind fun bt202 => ((sextonlaw23_sent.f).bind fun t214 => (if t214 = true then ((msg_Is.f kj2 a0_0 a0_1 a0_2 a0_3 a0_4 a0_5 a0_6 l0_7).bind fun t215 => ((sextonref23_Is.f kj2 a0_0 a0_1 a0_2 a0_3 a0_4 a0_5 a0_6 l0_7).bind fun t216 => (if (t215 == t216) = true then (if t186.toList = t188.toList then (if t187 = t189 then ((sextonref23_Same.f kj2 t190 t191 t192 t193 t194 t195 t196 t197 bt202.1 bt202.2.1 bt202.2.2.1 bt202.2.2.2.1 bt202.2.2.2.2.1 bt202.2.2.2.2.2.1 bt202.2.2.2.2.2.2.1 bt202.2.2.2.2.2.2.2.1).bind fun t217 => (if t217 = true then (some (t200 == bt202.2.2.2.2.2.2.2.2)) else (some false))) else (some false)) else (some false)) else (some false)))) else (some false)))) = some r := H
        have A14 := Aside0.mk A140
        clear A140
        replace H := Option.bind_eq_some_iff.mp H
        obtain ⟨⟨t202, t203, t204, t205, t206, t207, t208, t209, t212⟩, A150, H⟩ := H
        replace H : ((sextonlaw23_sent.f).bind fun t214 => (if t214 = true then ((msg_Is.f kj2 a0_0 a0_1 a0_2 a0_3 a0_4 a0_5 a0_6 l0_7).bind fun t215 => ((sextonref23_Is.f kj2 a0_0 a0_1 a0_2 a0_3 a0_4 a0_5 a0_6 l0_7).bind fun t216 => (if (t215 == t216) = true then (if t186.toList = t188.toList then (if t187 = t189 then ((sextonref23_Same.f kj2 t190 t191 t192 t193 t194 t195 t196 t197 t202 t203 t204 t205 t206 t207 t208 t209).bind fun t217 => (if t217 = true then (some (t200 == t212)) else (some false))) else (some false)) else (some false)) else (some false)))) else (some false))) = some r := H
        have A15 := Aside0.mk A150
        clear A150
        replace H := Option.bind_eq_some_iff.mp H
        obtain ⟨t214, A160, H⟩ := H
        replace H : (if t214 = true then ((msg_Is.f kj2 a0_0 a0_1 a0_2 a0_3 a0_4 a0_5 a0_6 l0_7).bind fun t215 => ((sextonref23_Is.f kj2 a0_0 a0_1 a0_2 a0_3 a0_4 a0_5 a0_6 l0_7).bind fun t216 => (if (t215 == t216) = true then (if t186.toList = t188.toList then (if t187 = t189 then ((sextonref23_Same.f kj2 t190 t191 t192 t193 t194 t195 t196 t197 t202 t203 t204 t205 t206 t207 t208 t209).bind fun t217 => (if t217 = true then (some (t200 == t212)) else (some false))) else (some false)) else (some false)) else (some false)))) else (some false)) = some r := H
        have A16 := Aside0.mk A160
        clear A160
        by_cases c17 : t214 = true
        · subst c17
          have H1 : ((msg_Is.f kj2 a0_0 a0_1 a0_2 a0_3 a0_4 a0_5 a0_6 l0_7).bind fun t215 => ((sextonref23_Is.f kj2 a0_0 a0_1 a0_2 a0_3 a0_4 a0_5 a0_6 l0_7).bind fun t216 => (if (t215 == t216) = true then (if t186.toList = t188.toList then (if t187 = t189 then ((sextonref23_Same.f kj2 t190 t191 t192 t193 t194 t195 t196 t197 t202 t203 t204 t205 t206 t207 t208 t209).bind fun t217 => (if t217 = true then (some (t200 == t212)) else (some false))) else (some false)) else (some false)) else (some false)))) = some r := by rw [if_pos rfl] at H; exact H
          clear H
          have H := H1
          clear H1
          replace H := Option.bind_eq_some_iff.mp H
          obtain ⟨t215, A180, H⟩ := H
          replace H : ((sextonref23_Is.f kj2 a0_0 a0_1 a0_2 a0_3 a0_4 a0_5 a0_6 l0_7).bind fun t216 => (if (t215 == t216) = true then (if t186.toList = t188.toList then (if t187 = t189 then ((sextonref23_Same.f kj2 t190 t191 t192 t193 t194 t195 t196 t197 t202 t203 t204 t205 t206 t207 t208 t209).bind fun t217 => (if t217 = true then (some (t200 == t212)) else (some false))) else (some false)) else (some false)) else (some false))) = some r := H
          have A18 := Aside0.mk A180
          clear A180
          replace H := Option.bind_eq_some_iff.mp H
          obtain ⟨t216, A190, H⟩ := H
          replace H : (if (t215 == t216) = true then (if t186.toList = t188.toList then (if t187 = t189 then ((sextonref23_Same.f kj2 t190 t191 t192 t193 t194 t195 t196 t197 t202 t203 t204 t205 t206 t207 t208 t209).bind fun t217 => (if t217 = true then (some (t200 == t212)) else (some false))) else (some false)) else (some false)) else (some false)) = some r := H
          have A19 := Aside0.mk A190
          clear A190
          by_cases c20 : (t215 == t216) = true
          · rw [if_pos c20] at H
            have c20b0 : (t215 == t216) = true := c20
            (try (have c20b1 : decide (t215 = t216) = true := by simpa using c20))
            (try (have c20b2 : (t215 == t216) = true := by simpa using c20))
            clear c20
            by_cases c21 : t186.toList = t188.toList
            · rw [if_pos c21] at H
              have c21b0 : (t186.toList == t188.toList) = true := beq_iff_eq.mpr c21
              have c21b1 : (t186.toList != t188.toList) = false := bne_eq_false_iff_eq.mpr c21
              clear c21
              by_cases c22 : t187 = t189
              · rw [if_pos c22] at H
                have c22b0 : (t187 == t189) = true := beq_iff_eq.mpr c22
                have c22b1 : (t187 != t189) = false := bne_eq_false_iff_eq.mpr c22
                clear c22
                replace H := Option.bind_eq_some_iff.mp H
                obtain ⟨t217, A230, H⟩ := H
                replace H : (if t217 = true then (some (t200 == t212)) else (some false)) = some r := H
                have A23 := Aside0.mk A230
                clear A230
                by_cases c24 : t217 = true
                · subst c24
                  have H1 : (some (t200 == t212)) = some r := by rw [if_pos rfl] at H; exact H
                  clear H
                  have H := H1
                  clear H1
                  obtain rfl := Option.some.inj H
                  have hcz25_0 : wc.cell? ⟨gb184, 0, none⟩ = some (.int .i64 a0_0) := (blk_cell BK184.out 0).trans rfl
                  have hcz25_1 : wc.cell? ⟨gb184, 1, none⟩ = some (.int .i64 a0_1) := (blk_cell BK184.out 1).trans rfl
                  have hcz25_2 : wc.cell? ⟨gb184, 2, none⟩ = some (.int .i64 a0_2) := (blk_cell BK184.out 2).trans rfl
                  have hcz25_3 : wc.cell? ⟨gb184, 3, none⟩ = some (.int .i64 a0_3) := (blk_cell BK184.out 3).trans rfl
                  have hcz25_4 : wc.cell? ⟨gb184, 4, none⟩ = some (.int .i64 a0_4) := (blk_cell BK184.out 4).trans rfl
                  have hcz25_5 : wc.cell? ⟨gb184, 5, none⟩ = some (.int .i64 a0_5) := (blk_cell BK184.out 5).trans rfl
                  have hcz25_6 : wc.cell? ⟨gb184, 6, none⟩ = some (.int .i64 a0_6) := (blk_cell BK184.out 6).trans rfl
                  have hcz25_7 : wc.cell? ⟨gb184, 7, none⟩ = some (.slice A0_7 l0_7.length c0_7) := (blk_cell BK184.out 7).trans rfl
                  have hfz25_0 := blk_frozen BK184.out 0
                  have hfz25_1 := blk_frozen BK184.out 1
                  have hfz25_2 := blk_frozen BK184.out 2
                  have hfz25_3 := blk_frozen BK184.out 3
                  have hfz25_4 := blk_frozen BK184.out 4
                  have hfz25_5 := blk_frozen BK184.out 5
                  have hfz25_6 := blk_frozen BK184.out 6
                  have hfz25_7 := blk_frozen BK184.out 7
                  try go_wp2_with (first | ((with_reducible refine gate_callee (f := 31) rfl ?_); refine goesL_ (some 22) rfl rfl Try.func31 (by kernel_rfl) rfl #[.agg #[.int .i64 a0_0, .int .i64 a0_1, .int .i64 a0_2, .int .i64 a0_3, .int .i64 a0_4, .int .i64 a0_5, .int .i64 a0_6, .slice A0_7 l0_7.length c0_7]] rfl (by (try simp only [List.map_toArray, List.map_cons, List.map_nil]); first | done | rfl | (simp only [List.length_drop, List.length_take]; rfl)) ?_; (with_reducible refine (msg_Put.calls a0_0 a0_1 a0_2 a0_3 a0_4 a0_5 a0_6 _ _ l0_7 t186 t187 _ ?side1 ?side2 A12.out).mono ?_); (case side1 => repeat (first | exact (Kd.C_below HR0_7.out HB.out) | (with_reducible refine Kd.C_alloc ?_ _) | (with_reducible refine Kd.C_drewN ?_ _) | (with_reducible refine Kd.C_drew ?_))); (case side2 => exact HC0_7.out); rintro e w26 ⟨rfl, hb⟩; refine ⟨_, rfl, ?_⟩; have n0_ := Aside0.mk (blk_below (g := gb184) (o := .cells #[.int .i64 a0_0, .int .i64 a0_1, .int .i64 a0_2, .int .i64 a0_3, .int .i64 a0_4, .int .i64 a0_5, .int .i64 a0_6, .slice A0_7 l0_7.length c0_7] 29 (0, 0)) (by (with_reducible repeat (first | refine blk_drewN ?_ _ | refine blk_drew ?_ | refine blk_alloc ?_ _)); exact BK184.out) hb); have n1_ := Aside0.mk (below_step (by repeat (first | (with_reducible first | exact HB.out | apply below_alloc | apply pw_below_drewN | apply below_drew1 | refine below_set ?_ GE184.out) | exact HB.out)) hb); clear BK184; clear HB; have BK184 := n0_; have HB := n1_; clear n0_ n1_; (try clear hb); (try clear hb2); (try clear hk); (try clear hi); have hcz27_0 : w26.cell? ⟨gb184, 0, none⟩ = some (.int .i64 a0_0) := (blk_cell BK184.out 0).trans rfl; have hcz27_1 : w26.cell? ⟨gb184, 1, none⟩ = some (.int .i64 a0_1) := (blk_cell BK184.out 1).trans rfl; have hcz27_2 : w26.cell? ⟨gb184, 2, none⟩ = some (.int .i64 a0_2) := (blk_cell BK184.out 2).trans rfl; have hcz27_3 : w26.cell? ⟨gb184, 3, none⟩ = some (.int .i64 a0_3) := (blk_cell BK184.out 3).trans rfl; have hcz27_4 : w26.cell? ⟨gb184, 4, none⟩ = some (.int .i64 a0_4) := (blk_cell BK184.out 4).trans rfl; have hcz27_5 : w26.cell? ⟨gb184, 5, none⟩ = some (.int .i64 a0_5) := (blk_cell BK184.out 5).trans rfl; have hcz27_6 : w26.cell? ⟨gb184, 6, none⟩ = some (.int .i64 a0_6) := (blk_cell BK184.out 6).trans rfl; have hcz27_7 : w26.cell? ⟨gb184, 7, none⟩ = some (.slice A0_7 l0_7.length c0_7) := (blk_cell BK184.out 7).trans rfl; have hfz27_0 := blk_frozen BK184.out 0; have hfz27_1 := blk_frozen BK184.out 1; have hfz27_2 := blk_frozen BK184.out 2; have hfz27_3 := blk_frozen BK184.out 3; have hfz27_4 := blk_frozen BK184.out 4; have hfz27_5 := blk_frozen BK184.out 5; have hfz27_6 := blk_frozen BK184.out 6; have hfz27_7 := blk_frozen BK184.out 7) | ((with_reducible refine gate_callee (f := 32) rfl ?_); refine goesL_ (some 27) rfl rfl Try.func32 (by kernel_rfl) rfl #[.agg #[.int .i64 a0_0, .int .i64 a0_1, .int .i64 a0_2, .int .i64 a0_3, .int .i64 a0_4, .int .i64 a0_5, .int .i64 a0_6, .slice A0_7 l0_7.length c0_7]] rfl (by (try simp only [List.map_toArray, List.map_cons, List.map_nil]); first | done | rfl | (simp only [List.length_drop, List.length_take]; rfl)) ?_; (with_reducible refine (sextonref23_Put.calls kj2 a0_0 a0_1 a0_2 a0_3 a0_4 a0_5 a0_6 _ _ l0_7 t188 t189 _ ?side1 ?side2 A13.out).mono ?_); (case side1 => repeat (first | exact (Kd.C_below HR0_7.out HB.out) | (with_reducible refine Kd.C_alloc ?_ _) | (with_reducible refine Kd.C_drewN ?_ _) | (with_reducible refine Kd.C_drew ?_))); (case side2 => exact HC0_7.out); rintro e w28 ⟨rfl, hb⟩; refine ⟨_, rfl, ?_⟩; have n0_ := Aside0.mk (blk_below (g := gb184) (o := .cells #[.int .i64 a0_0, .int .i64 a0_1, .int .i64 a0_2, .int .i64 a0_3, .int .i64 a0_4, .int .i64 a0_5, .int .i64 a0_6, .slice A0_7 l0_7.length c0_7] 29 (0, 0)) (by (with_reducible repeat (first | refine blk_drewN ?_ _ | refine blk_drew ?_ | refine blk_alloc ?_ _)); exact BK184.out) hb); have n1_ := Aside0.mk (below_step (by repeat (first | (with_reducible first | exact HB.out | apply below_alloc | apply pw_below_drewN | apply below_drew1 | refine below_set ?_ GE184.out) | exact HB.out)) hb); clear BK184; clear HB; have BK184 := n0_; have HB := n1_; clear n0_ n1_; (try clear hb); (try clear hb2); (try clear hk); (try clear hi)) | ((with_reducible refine gate_callee (f := 33) rfl ?_); refine goesL_ (some 32) rfl rfl Try.func33 (by kernel_rfl) rfl #[.string a1] rfl (by (try simp only [List.map_toArray, List.map_cons, List.map_nil]); first | done | rfl | (simp only [List.length_drop, List.length_take]; rfl)) ?_; (with_reducible refine (msg_Get.calls a1 t190 t191 t192 t193 t194 t195 t196 t197 t200 _ A14.out).mono ?_); rintro e w29 ⟨v198, rfl, ho0, hb⟩; refine ⟨_, rfl, ?_⟩; have n0_ := Aside0.mk (Kd.R_lower ho0 (below_size (by repeat (first | (with_reducible first | exact HB.out | apply below_alloc | apply pw_below_drewN | apply below_drew1 | refine below_set ?_ GE184.out) | exact HB.out)))); have n1_ := Aside0.mk (blk_below (g := gb184) (o := .cells #[.int .i64 a0_0, .int .i64 a0_1, .int .i64 a0_2, .int .i64 a0_3, .int .i64 a0_4, .int .i64 a0_5, .int .i64 a0_6, .slice A0_7 l0_7.length c0_7] 29 (0, 0)) (by (with_reducible repeat (first | refine blk_drewN ?_ _ | refine blk_drew ?_ | refine blk_alloc ?_ _)); exact BK184.out) hb); have n2_ := Aside0.mk (below_step (by repeat (first | (with_reducible first | exact HB.out | apply below_alloc | apply pw_below_drewN | apply below_drew1 | refine below_set ?_ GE184.out) | exact HB.out)) hb); clear BK184; clear HB; have HO199 := n0_; have BK184 := n1_; have HB := n2_; clear n0_ n1_ n2_; (try clear hb); (try clear hb2); (try clear hk); (try clear hi); (try clear ho0)) | ((with_reducible refine gate_dst (N := 9) rfl ?_); (try (refine gate_guard (by rfl) ?_; dsimp only)); refine box_event ?hg (N := 9) ?hd (cs := #[.int .i64 0, .int .i64 0, .int .i64 0, .int .i64 0, .int .i64 0, .int .i64 0, .int .i64 0, .slice none 0 0]) (t := 29) ?hr ?_; (case hd => rfl); (case hg => rfl); (case hr => first | (go_simp; done) | (go_simp; rfl)); intro gb201 hg w30 hbox hb; have n0_ := Aside0.mk (Kd.R_below (by (with_reducible repeat (first | apply Kd.R_alloc | apply Kd.R_drewN | apply Kd.R_drew)); exact HO199.out) hb); have n1_ := Aside0.mk (blk_below (g := gb184) (o := .cells #[.int .i64 a0_0, .int .i64 a0_1, .int .i64 a0_2, .int .i64 a0_3, .int .i64 a0_4, .int .i64 a0_5, .int .i64 a0_6, .slice A0_7 l0_7.length c0_7] 29 (0, 0)) (by (with_reducible repeat (first | refine blk_drewN ?_ _ | refine blk_drew ?_ | refine blk_alloc ?_ _)); exact BK184.out) hb); have n2_ := Aside0.mk (below_step (by repeat (first | (with_reducible first | exact HB.out | apply below_alloc | apply pw_below_drewN | apply below_drew1 | refine below_set ?_ GE184.out) | exact HB.out)) hb); have n3_ := Aside0.mk (hbox); have n4_ := Aside0.mk ((by rw [hg]; exact (below_size (by repeat (first | (with_reducible first | exact HB.out | apply below_alloc | apply pw_below_drewN | apply below_drew1 | refine below_set ?_ GE184.out) | exact HB.out))) : w.heap.size ≤ gb201)); have n5_ := Aside0.mk ((by rw [hg]; exact (below_size (by repeat (first | (with_reducible first | exact HB.out | apply below_alloc | apply pw_below_drewN | apply below_drew1 | refine below_set ?_ GE184.out) | exact HB.out))) : w.heap.size ≤ gb201)); have n6_ := Aside0.mk ((by rw [hg]; exact Nat.ne_of_lt (blk_lt (g := gb184) (o := .cells #[.int .i64 a0_0, .int .i64 a0_1, .int .i64 a0_2, .int .i64 a0_3, .int .i64 a0_4, .int .i64 a0_5, .int .i64 a0_6, .slice A0_7 l0_7.length c0_7] 29 (0, 0)) (by (with_reducible repeat (first | refine blk_drewN ?_ _ | refine blk_drew ?_ | refine blk_alloc ?_ _)); exact BK184.out)) : gb184 ≠ gb201)); have n7_ := Aside0.mk ((by rw [hg]; exact Nat.ne_of_gt (blk_lt (g := gb184) (o := .cells #[.int .i64 a0_0, .int .i64 a0_1, .int .i64 a0_2, .int .i64 a0_3, .int .i64 a0_4, .int .i64 a0_5, .int .i64 a0_6, .slice A0_7 l0_7.length c0_7] 29 (0, 0)) (by (with_reducible repeat (first | refine blk_drewN ?_ _ | refine blk_drew ?_ | refine blk_alloc ?_ _)); exact BK184.out)) : gb201 ≠ gb184)); clear HO199; clear BK184; clear HB; have HO199 := n0_; have BK184 := n1_; have HB := n2_; have BK201 := n3_; have GW201 := n4_; have GE201 := n5_; have NB184_201 := n6_; have NB201_184 := n7_; clear n0_ n1_ n2_ n3_ n4_ n5_ n6_ n7_; clear hb hbox hg; have hnb31 := NB201_184.out; have hnc31 := NB184_201.out; have hcz32_0 : w30.cell? ⟨gb201, 0, none⟩ = some (.int .i64 0) := (blk_cell BK201.out 0).trans rfl; have hcz32_1 : w30.cell? ⟨gb201, 1, none⟩ = some (.int .i64 0) := (blk_cell BK201.out 1).trans rfl; have hcz32_2 : w30.cell? ⟨gb201, 2, none⟩ = some (.int .i64 0) := (blk_cell BK201.out 2).trans rfl; have hcz32_3 : w30.cell? ⟨gb201, 3, none⟩ = some (.int .i64 0) := (blk_cell BK201.out 3).trans rfl; have hcz32_4 : w30.cell? ⟨gb201, 4, none⟩ = some (.int .i64 0) := (blk_cell BK201.out 4).trans rfl; have hcz32_5 : w30.cell? ⟨gb201, 5, none⟩ = some (.int .i64 0) := (blk_cell BK201.out 5).trans rfl; have hcz32_6 : w30.cell? ⟨gb201, 6, none⟩ = some (.int .i64 0) := (blk_cell BK201.out 6).trans rfl; have hcz32_7 : w30.cell? ⟨gb201, 7, none⟩ = some (.slice none 0 0) := (blk_cell BK201.out 7).trans rfl; have hfz32_0 := blk_frozen BK201.out 0; have hfz32_1 := blk_frozen BK201.out 1; have hfz32_2 := blk_frozen BK201.out 2; have hfz32_3 := blk_frozen BK201.out 3; have hfz32_4 := blk_frozen BK201.out 4; have hfz32_5 := blk_frozen BK201.out 5; have hfz32_6 := blk_frozen BK201.out 6; have hfz32_7 := blk_frozen BK201.out 7; obtain ⟨Ao33, co33, eo33⟩ := Kd.R_slice HO199.out; subst eo33) | ((with_reducible refine gate_callee (f := 34) rfl ?_); refine goesL_ (some 37) rfl rfl Try.func34 (by kernel_rfl) rfl #[.string a1] rfl (by (try simp only [List.map_toArray, List.map_cons, List.map_nil]); first | done | rfl | (simp only [List.length_drop, List.length_take]; rfl)) ?_; (with_reducible refine (sextonref23_Get.calls a1 t202 t203 t204 t205 t206 t207 t208 t209 t212 _ A15.out).mono ?_); rintro e w34 ⟨v210, rfl, ho0, hb⟩; refine ⟨_, rfl, ?_⟩; have n0_ := Aside0.mk (Kd.R_elder' (by (with_reducible repeat (first | apply Kd.R_alloc | apply Kd.R_drewN | apply Kd.R_drew)); exact (Kd.R_mono (Kd.R_far (p := ⟨gb201, 7, none⟩) (Kd.R_far (p := ⟨gb201, 6, none⟩) (Kd.R_far (p := ⟨gb201, 5, none⟩) (Kd.R_far (p := ⟨gb201, 4, none⟩) (Kd.R_far (p := ⟨gb201, 3, none⟩) (Kd.R_far (p := ⟨gb201, 2, none⟩) (Kd.R_far (p := ⟨gb201, 1, none⟩) (Kd.R_far (p := ⟨gb201, 0, none⟩) (Kd.R_types HO199.out BK201.out (by decide)) (fun _ hk => hk.2) (.int .i64 t190)) (fun _ hk => hk.2) (.int .i64 t191)) (fun _ hk => hk.2) (.int .i64 t192)) (fun _ hk => hk.2) (.int .i64 t193)) (fun _ hk => hk.2) (.int .i64 t194)) (fun _ hk => hk.2) (.int .i64 t195)) (fun _ hk => hk.2) (.int .i64 t196)) (fun _ hk => hk.2) (.slice Ao33 t197.length co33)) (fun _ h_ => h_.1))) (Kd.R_base ho0) hb); have n1_ := Aside0.mk (Kd.R_lower (Kd.R_new' ho0 (Kd.R_lt (by (with_reducible repeat (first | apply Kd.R_alloc | apply Kd.R_drewN | apply Kd.R_drew)); exact (Kd.R_mono (Kd.R_far (p := ⟨gb201, 7, none⟩) (Kd.R_far (p := ⟨gb201, 6, none⟩) (Kd.R_far (p := ⟨gb201, 5, none⟩) (Kd.R_far (p := ⟨gb201, 4, none⟩) (Kd.R_far (p := ⟨gb201, 3, none⟩) (Kd.R_far (p := ⟨gb201, 2, none⟩) (Kd.R_far (p := ⟨gb201, 1, none⟩) (Kd.R_far (p := ⟨gb201, 0, none⟩) (Kd.R_types HO199.out BK201.out (by decide)) (fun _ hk => hk.2) (.int .i64 t190)) (fun _ hk => hk.2) (.int .i64 t191)) (fun _ hk => hk.2) (.int .i64 t192)) (fun _ hk => hk.2) (.int .i64 t193)) (fun _ hk => hk.2) (.int .i64 t194)) (fun _ hk => hk.2) (.int .i64 t195)) (fun _ hk => hk.2) (.int .i64 t196)) (fun _ hk => hk.2) (.slice Ao33 t197.length co33)) (fun _ h_ => h_.1))))) (below_size (by repeat (first | (with_reducible first | exact HB.out | apply below_alloc | apply pw_below_drewN | apply below_drew1 | refine below_set ?_ GE184.out | refine below_set ?_ GE201.out) | exact HB.out)))); have n2_ := Aside0.mk (blk_below (g := gb184) (o := .cells #[.int .i64 a0_0, .int .i64 a0_1, .int .i64 a0_2, .int .i64 a0_3, .int .i64 a0_4, .int .i64 a0_5, .int .i64 a0_6, .slice A0_7 l0_7.length c0_7] 29 (0, 0)) (by (with_reducible repeat (first | refine blk_drewN ?_ _ | refine blk_drew ?_ | refine blk_alloc ?_ _)); refine blk_far ?_ NB184_201.out _; (with_reducible repeat (first | refine blk_drewN ?_ _ | refine blk_drew ?_ | refine blk_alloc ?_ _)); refine blk_far ?_ NB184_201.out _; (with_reducible repeat (first | refine blk_drewN ?_ _ | refine blk_drew ?_ | refine blk_alloc ?_ _)); refine blk_far ?_ NB184_201.out _; (with_reducible repeat (first | refine blk_drewN ?_ _ | refine blk_drew ?_ | refine blk_alloc ?_ _)); refine blk_far ?_ NB184_201.out _; (with_reducible repeat (first | refine blk_drewN ?_ _ | refine blk_drew ?_ | refine blk_alloc ?_ _)); refine blk_far ?_ NB184_201.out _; (with_reducible repeat (first | refine blk_drewN ?_ _ | refine blk_drew ?_ | refine blk_alloc ?_ _)); refine blk_far ?_ NB184_201.out _; (with_reducible repeat (first | refine blk_drewN ?_ _ | refine blk_drew ?_ | refine blk_alloc ?_ _)); refine blk_far ?_ NB184_201.out _; (with_reducible repeat (first | refine blk_drewN ?_ _ | refine blk_drew ?_ | refine blk_alloc ?_ _)); refine blk_far ?_ NB184_201.out _; (with_reducible repeat (first | refine blk_drewN ?_ _ | refine blk_drew ?_ | refine blk_alloc ?_ _)); exact BK184.out) hb); have n3_ := Aside0.mk (blk_below (g := gb201) (o := .cells #[.int .i64 t190, .int .i64 t191, .int .i64 t192, .int .i64 t193, .int .i64 t194, .int .i64 t195, .int .i64 t196, .slice Ao33 t197.length co33] 29 (0, 0)) (by (with_reducible repeat (first | refine blk_drewN ?_ _ | refine blk_drew ?_ | refine blk_alloc ?_ _)); refine blk_put (cs := #[.int .i64 t190, .int .i64 t191, .int .i64 t192, .int .i64 t193, .int .i64 t194, .int .i64 t195, .int .i64 t196, .slice none 0 0]) ?_ 7 _ rfl; (with_reducible repeat (first | refine blk_drewN ?_ _ | refine blk_drew ?_ | refine blk_alloc ?_ _)); refine blk_put (cs := #[.int .i64 t190, .int .i64 t191, .int .i64 t192, .int .i64 t193, .int .i64 t194, .int .i64 t195, .int .i64 0, .slice none 0 0]) ?_ 6 _ rfl; (with_reducible repeat (first | refine blk_drewN ?_ _ | refine blk_drew ?_ | refine blk_alloc ?_ _)); refine blk_put (cs := #[.int .i64 t190, .int .i64 t191, .int .i64 t192, .int .i64 t193, .int .i64 t194, .int .i64 0, .int .i64 0, .slice none 0 0]) ?_ 5 _ rfl; (with_reducible repeat (first | refine blk_drewN ?_ _ | refine blk_drew ?_ | refine blk_alloc ?_ _)); refine blk_put (cs := #[.int .i64 t190, .int .i64 t191, .int .i64 t192, .int .i64 t193, .int .i64 0, .int .i64 0, .int .i64 0, .slice none 0 0]) ?_ 4 _ rfl; (with_reducible repeat (first | refine blk_drewN ?_ _ | refine blk_drew ?_ | refine blk_alloc ?_ _)); refine blk_put (cs := #[.int .i64 t190, .int .i64 t191, .int .i64 t192, .int .i64 0, .int .i64 0, .int .i64 0, .int .i64 0, .slice none 0 0]) ?_ 3 _ rfl; (with_reducible repeat (first | refine blk_drewN ?_ _ | refine blk_drew ?_ | refine blk_alloc ?_ _)); refine blk_put (cs := #[.int .i64 t190, .int .i64 t191, .int .i64 0, .int .i64 0, .int .i64 0, .int .i64 0, .int .i64 0, .slice none 0 0]) ?_ 2 _ rfl; (with_reducible repeat (first | refine blk_drewN ?_ _ | refine blk_drew ?_ | refine blk_alloc ?_ _)); refine blk_put (cs := #[.int .i64 t190, .int .i64 0, .int .i64 0, .int .i64 0, .int .i64 0, .int .i64 0, .int .i64 0, .slice none 0 0]) ?_ 1 _ rfl; (with_reducible repeat (first | refine blk_drewN ?_ _ | refine blk_drew ?_ | refine blk_alloc ?_ _)); refine blk_put (cs := #[.int .i64 0, .int .i64 0, .int .i64 0, .int .i64 0, .int .i64 0, .int .i64 0, .int .i64 0, .slice none 0 0]) ?_ 0 _ rfl; (with_reducible repeat (first | refine blk_drewN ?_ _ | refine blk_drew ?_ | refine blk_alloc ?_ _)); exact BK201.out) hb); have n4_ := Aside0.mk (below_step (by repeat (first | (with_reducible first | exact HB.out | apply below_alloc | apply pw_below_drewN | apply below_drew1 | refine below_set ?_ GE184.out | refine below_set ?_ GE201.out) | exact HB.out)) hb); clear HO199; clear BK184; clear BK201; clear HB; have HO199 := n0_; have HO211 := n1_; have BK184 := n2_; have BK201 := n3_; have HB := n4_; clear n0_ n1_ n2_ n3_ n4_; (try clear hb); (try clear hb2); (try clear hk); (try clear hi); (try clear ho0)) | ((with_reducible refine gate_dst (N := 11) rfl ?_); (try (refine gate_guard (by rfl) ?_; dsimp only)); refine box_event ?hg (N := 11) ?hd (cs := #[.int .i64 0, .int .i64 0, .int .i64 0, .int .i64 0, .int .i64 0, .int .i64 0, .int .i64 0, .slice none 0 0]) (t := 29) ?hr ?_; (case hd => rfl); (case hg => rfl); (case hr => first | (go_simp; done) | (go_simp; rfl)); intro gb213 hg w35 hbox hb; have n0_ := Aside0.mk (Kd.R_below (by (with_reducible repeat (first | apply Kd.R_alloc | apply Kd.R_drewN | apply Kd.R_drew)); exact HO199.out) hb); have n1_ := Aside0.mk (Kd.R_below (by (with_reducible repeat (first | apply Kd.R_alloc | apply Kd.R_drewN | apply Kd.R_drew)); exact HO211.out) hb); have n2_ := Aside0.mk (blk_below (g := gb184) (o := .cells #[.int .i64 a0_0, .int .i64 a0_1, .int .i64 a0_2, .int .i64 a0_3, .int .i64 a0_4, .int .i64 a0_5, .int .i64 a0_6, .slice A0_7 l0_7.length c0_7] 29 (0, 0)) (by (with_reducible repeat (first | refine blk_drewN ?_ _ | refine blk_drew ?_ | refine blk_alloc ?_ _)); exact BK184.out) hb); have n3_ := Aside0.mk (blk_below (g := gb201) (o := .cells #[.int .i64 t190, .int .i64 t191, .int .i64 t192, .int .i64 t193, .int .i64 t194, .int .i64 t195, .int .i64 t196, .slice Ao33 t197.length co33] 29 (0, 0)) (by (with_reducible repeat (first | refine blk_drewN ?_ _ | refine blk_drew ?_ | refine blk_alloc ?_ _)); exact BK201.out) hb); have n4_ := Aside0.mk (below_step (by repeat (first | (with_reducible first | exact HB.out | apply below_alloc | apply pw_below_drewN | apply below_drew1 | refine below_set ?_ GE184.out | refine below_set ?_ GE201.out) | exact HB.out)) hb); have n5_ := Aside0.mk (hbox); have n6_ := Aside0.mk ((by rw [hg]; exact (below_size (by repeat (first | (with_reducible first | exact HB.out | apply below_alloc | apply pw_below_drewN | apply below_drew1 | refine below_set ?_ GE184.out | refine below_set ?_ GE201.out) | exact HB.out))) : w.heap.size ≤ gb213)); have n7_ := Aside0.mk ((by rw [hg]; exact (below_size (by repeat (first | (with_reducible first | exact HB.out | apply below_alloc | apply pw_below_drewN | apply below_drew1 | refine below_set ?_ GE184.out | refine below_set ?_ GE201.out) | exact HB.out))) : w.heap.size ≤ gb213)); have n8_ := Aside0.mk ((by rw [hg]; exact Nat.ne_of_lt (blk_lt (g := gb184) (o := .cells #[.int .i64 a0_0, .int .i64 a0_1, .int .i64 a0_2, .int .i64 a0_3, .int .i64 a0_4, .int .i64 a0_5, .int .i64 a0_6, .slice A0_7 l0_7.length c0_7] 29 (0, 0)) (by (with_reducible repeat (first | refine blk_drewN ?_ _ | refine blk_drew ?_ | refine blk_alloc ?_ _)); exact BK184.out)) : gb184 ≠ gb213)); have n9_ := Aside0.mk ((by rw [hg]; exact Nat.ne_of_gt (blk_lt (g := gb184) (o := .cells #[.int .i64 a0_0, .int .i64 a0_1, .int .i64 a0_2, .int .i64 a0_3, .int .i64 a0_4, .int .i64 a0_5, .int .i64 a0_6, .slice A0_7 l0_7.length c0_7] 29 (0, 0)) (by (with_reducible repeat (first | refine blk_drewN ?_ _ | refine blk_drew ?_ | refine blk_alloc ?_ _)); exact BK184.out)) : gb213 ≠ gb184)); have n10_ := Aside0.mk ((by rw [hg]; exact Nat.ne_of_lt (blk_lt (g := gb201) (o := .cells #[.int .i64 t190, .int .i64 t191, .int .i64 t192, .int .i64 t193, .int .i64 t194, .int .i64 t195, .int .i64 t196, .slice Ao33 t197.length co33] 29 (0, 0)) (by (with_reducible repeat (first | refine blk_drewN ?_ _ | refine blk_drew ?_ | refine blk_alloc ?_ _)); exact BK201.out)) : gb201 ≠ gb213)); have n11_ := Aside0.mk ((by rw [hg]; exact Nat.ne_of_gt (blk_lt (g := gb201) (o := .cells #[.int .i64 t190, .int .i64 t191, .int .i64 t192, .int .i64 t193, .int .i64 t194, .int .i64 t195, .int .i64 t196, .slice Ao33 t197.length co33] 29 (0, 0)) (by (with_reducible repeat (first | refine blk_drewN ?_ _ | refine blk_drew ?_ | refine blk_alloc ?_ _)); exact BK201.out)) : gb213 ≠ gb201)); clear HO199; clear HO211; clear BK184; clear BK201; clear HB; have HO199 := n0_; have HO211 := n1_; have BK184 := n2_; have BK201 := n3_; have HB := n4_; have BK213 := n5_; have GW213 := n6_; have GE213 := n7_; have NB184_213 := n8_; have NB213_184 := n9_; have NB201_213 := n10_; have NB213_201 := n11_; clear n0_ n1_ n2_ n3_ n4_ n5_ n6_ n7_ n8_ n9_ n10_ n11_; clear hb hbox hg; have hnb36 := NB213_184.out; have hnc36 := NB184_213.out; have hnb37 := NB213_201.out; have hnc37 := NB201_213.out; have hcz38_0 : w35.cell? ⟨gb213, 0, none⟩ = some (.int .i64 0) := (blk_cell BK213.out 0).trans rfl; have hcz38_1 : w35.cell? ⟨gb213, 1, none⟩ = some (.int .i64 0) := (blk_cell BK213.out 1).trans rfl; have hcz38_2 : w35.cell? ⟨gb213, 2, none⟩ = some (.int .i64 0) := (blk_cell BK213.out 2).trans rfl; have hcz38_3 : w35.cell? ⟨gb213, 3, none⟩ = some (.int .i64 0) := (blk_cell BK213.out 3).trans rfl; have hcz38_4 : w35.cell? ⟨gb213, 4, none⟩ = some (.int .i64 0) := (blk_cell BK213.out 4).trans rfl; have hcz38_5 : w35.cell? ⟨gb213, 5, none⟩ = some (.int .i64 0) := (blk_cell BK213.out 5).trans rfl; have hcz38_6 : w35.cell? ⟨gb213, 6, none⟩ = some (.int .i64 0) := (blk_cell BK213.out 6).trans rfl; have hcz38_7 : w35.cell? ⟨gb213, 7, none⟩ = some (.slice none 0 0) := (blk_cell BK213.out 7).trans rfl; have hfz38_0 := blk_frozen BK213.out 0; have hfz38_1 := blk_frozen BK213.out 1; have hfz38_2 := blk_frozen BK213.out 2; have hfz38_3 := blk_frozen BK213.out 3; have hfz38_4 := blk_frozen BK213.out 4; have hfz38_5 := blk_frozen BK213.out 5; have hfz38_6 := blk_frozen BK213.out 6; have hfz38_7 := blk_frozen BK213.out 7; obtain ⟨Ao39, co39, eo39⟩ := Kd.R_slice HO211.out; subst eo39))
                  have n0_ : Aside0 (Kd.R Kd.string 9 ((((((((w35.setCell ⟨gb213, 0, none⟩ (.int .i64 t202)).setCell ⟨gb213, 1, none⟩ (.int .i64 t203)).setCell ⟨gb213, 2, none⟩ (.int .i64 t204)).setCell ⟨gb213, 3, none⟩ (.int .i64 t205)).setCell ⟨gb213, 4, none⟩ (.int .i64 t206)).setCell ⟨gb213, 5, none⟩ (.int .i64 t207)).setCell ⟨gb213, 6, none⟩ (.int .i64 t208)).setCell ⟨gb213, 7, none⟩ (.slice Ao39 t209.length co39)) w.heap.size (fun k_ => some k_ ≠ (.slice Ao39 t209.length co39 : Value).ownBlock) (.slice Ao33 t197.length co33) t197) := ⟨by (with_reducible repeat (first | apply Kd.R_alloc | apply Kd.R_drewN | apply Kd.R_drew)); exact Kd.R_mono (Kd.R_far (p := ⟨gb213, 7, none⟩) (Kd.R_far (p := ⟨gb213, 6, none⟩) (Kd.R_far (p := ⟨gb213, 5, none⟩) (Kd.R_far (p := ⟨gb213, 4, none⟩) (Kd.R_far (p := ⟨gb213, 3, none⟩) (Kd.R_far (p := ⟨gb213, 2, none⟩) (Kd.R_far (p := ⟨gb213, 1, none⟩) (Kd.R_far (p := ⟨gb213, 0, none⟩) (Kd.R_types HO199.out BK213.out (by decide)) (fun _ hk => hk.2) (.int .i64 t202)) (fun _ hk => hk.2) (.int .i64 t203)) (fun _ hk => hk.2) (.int .i64 t204)) (fun _ hk => hk.2) (.int .i64 t205)) (fun _ hk => hk.2) (.int .i64 t206)) (fun _ hk => hk.2) (.int .i64 t207)) (fun _ hk => hk.2) (.int .i64 t208)) (fun _ hk => hk.2) (.slice Ao39 t209.length co39)) (fun _ hk => hk.1.2)⟩
                  have n1_ : Aside0 (Kd.R Kd.string 9 ((((((((w35.setCell ⟨gb213, 0, none⟩ (.int .i64 t202)).setCell ⟨gb213, 1, none⟩ (.int .i64 t203)).setCell ⟨gb213, 2, none⟩ (.int .i64 t204)).setCell ⟨gb213, 3, none⟩ (.int .i64 t205)).setCell ⟨gb213, 4, none⟩ (.int .i64 t206)).setCell ⟨gb213, 5, none⟩ (.int .i64 t207)).setCell ⟨gb213, 6, none⟩ (.int .i64 t208)).setCell ⟨gb213, 7, none⟩ (.slice Ao39 t209.length co39)) w.heap.size (fun k_ => some k_ ≠ (.slice Ao33 t197.length co33 : Value).ownBlock) (.slice Ao39 t209.length co39) t209) := ⟨by (with_reducible repeat (first | apply Kd.R_alloc | apply Kd.R_drewN | apply Kd.R_drew)); exact Kd.R_mono (Kd.R_far (p := ⟨gb213, 7, none⟩) (Kd.R_far (p := ⟨gb213, 6, none⟩) (Kd.R_far (p := ⟨gb213, 5, none⟩) (Kd.R_far (p := ⟨gb213, 4, none⟩) (Kd.R_far (p := ⟨gb213, 3, none⟩) (Kd.R_far (p := ⟨gb213, 2, none⟩) (Kd.R_far (p := ⟨gb213, 1, none⟩) (Kd.R_far (p := ⟨gb213, 0, none⟩) (Kd.R_types HO211.out BK213.out (by decide)) (fun _ hk => hk.2) (.int .i64 t202)) (fun _ hk => hk.2) (.int .i64 t203)) (fun _ hk => hk.2) (.int .i64 t204)) (fun _ hk => hk.2) (.int .i64 t205)) (fun _ hk => hk.2) (.int .i64 t206)) (fun _ hk => hk.2) (.int .i64 t207)) (fun _ hk => hk.2) (.int .i64 t208)) (fun _ hk => hk.2) (.slice Ao39 t209.length co39)) (fun _ hk => hk.1.2)⟩
                  have n2_ : Aside0 (((((((((w35.setCell ⟨gb213, 0, none⟩ (.int .i64 t202)).setCell ⟨gb213, 1, none⟩ (.int .i64 t203)).setCell ⟨gb213, 2, none⟩ (.int .i64 t204)).setCell ⟨gb213, 3, none⟩ (.int .i64 t205)).setCell ⟨gb213, 4, none⟩ (.int .i64 t206)).setCell ⟨gb213, 5, none⟩ (.int .i64 t207)).setCell ⟨gb213, 6, none⟩ (.int .i64 t208)).setCell ⟨gb213, 7, none⟩ (.slice Ao39 t209.length co39)).heap[gb184]? = some (.cells #[.int .i64 a0_0, .int .i64 a0_1, .int .i64 a0_2, .int .i64 a0_3, .int .i64 a0_4, .int .i64 a0_5, .int .i64 a0_6, .slice A0_7 l0_7.length c0_7] 29 (0, 0))) := ⟨by (with_reducible repeat (first | refine blk_drewN ?_ _ | refine blk_drew ?_ | refine blk_alloc ?_ _)); refine blk_far ?_ NB184_213.out _; (with_reducible repeat (first | refine blk_drewN ?_ _ | refine blk_drew ?_ | refine blk_alloc ?_ _)); refine blk_far ?_ NB184_213.out _; (with_reducible repeat (first | refine blk_drewN ?_ _ | refine blk_drew ?_ | refine blk_alloc ?_ _)); refine blk_far ?_ NB184_213.out _; (with_reducible repeat (first | refine blk_drewN ?_ _ | refine blk_drew ?_ | refine blk_alloc ?_ _)); refine blk_far ?_ NB184_213.out _; (with_reducible repeat (first | refine blk_drewN ?_ _ | refine blk_drew ?_ | refine blk_alloc ?_ _)); refine blk_far ?_ NB184_213.out _; (with_reducible repeat (first | refine blk_drewN ?_ _ | refine blk_drew ?_ | refine blk_alloc ?_ _)); refine blk_far ?_ NB184_213.out _; (with_reducible repeat (first | refine blk_drewN ?_ _ | refine blk_drew ?_ | refine blk_alloc ?_ _)); refine blk_far ?_ NB184_213.out _; (with_reducible repeat (first | refine blk_drewN ?_ _ | refine blk_drew ?_ | refine blk_alloc ?_ _)); refine blk_far ?_ NB184_213.out _; (with_reducible repeat (first | refine blk_drewN ?_ _ | refine blk_drew ?_ | refine blk_alloc ?_ _)); exact BK184.out⟩
                  have n3_ : Aside0 (((((((((w35.setCell ⟨gb213, 0, none⟩ (.int .i64 t202)).setCell ⟨gb213, 1, none⟩ (.int .i64 t203)).setCell ⟨gb213, 2, none⟩ (.int .i64 t204)).setCell ⟨gb213, 3, none⟩ (.int .i64 t205)).setCell ⟨gb213, 4, none⟩ (.int .i64 t206)).setCell ⟨gb213, 5, none⟩ (.int .i64 t207)).setCell ⟨gb213, 6, none⟩ (.int .i64 t208)).setCell ⟨gb213, 7, none⟩ (.slice Ao39 t209.length co39)).heap[gb201]? = some (.cells #[.int .i64 t190, .int .i64 t191, .int .i64 t192, .int .i64 t193, .int .i64 t194, .int .i64 t195, .int .i64 t196, .slice Ao33 t197.length co33] 29 (0, 0))) := ⟨by (with_reducible repeat (first | refine blk_drewN ?_ _ | refine blk_drew ?_ | refine blk_alloc ?_ _)); refine blk_far ?_ NB201_213.out _; (with_reducible repeat (first | refine blk_drewN ?_ _ | refine blk_drew ?_ | refine blk_alloc ?_ _)); refine blk_far ?_ NB201_213.out _; (with_reducible repeat (first | refine blk_drewN ?_ _ | refine blk_drew ?_ | refine blk_alloc ?_ _)); refine blk_far ?_ NB201_213.out _; (with_reducible repeat (first | refine blk_drewN ?_ _ | refine blk_drew ?_ | refine blk_alloc ?_ _)); refine blk_far ?_ NB201_213.out _; (with_reducible repeat (first | refine blk_drewN ?_ _ | refine blk_drew ?_ | refine blk_alloc ?_ _)); refine blk_far ?_ NB201_213.out _; (with_reducible repeat (first | refine blk_drewN ?_ _ | refine blk_drew ?_ | refine blk_alloc ?_ _)); refine blk_far ?_ NB201_213.out _; (with_reducible repeat (first | refine blk_drewN ?_ _ | refine blk_drew ?_ | refine blk_alloc ?_ _)); refine blk_far ?_ NB201_213.out _; (with_reducible repeat (first | refine blk_drewN ?_ _ | refine blk_drew ?_ | refine blk_alloc ?_ _)); refine blk_far ?_ NB201_213.out _; (with_reducible repeat (first | refine blk_drewN ?_ _ | refine blk_drew ?_ | refine blk_alloc ?_ _)); exact BK201.out⟩
                  have n4_ : Aside0 (((((((((w35.setCell ⟨gb213, 0, none⟩ (.int .i64 t202)).setCell ⟨gb213, 1, none⟩ (.int .i64 t203)).setCell ⟨gb213, 2, none⟩ (.int .i64 t204)).setCell ⟨gb213, 3, none⟩ (.int .i64 t205)).setCell ⟨gb213, 4, none⟩ (.int .i64 t206)).setCell ⟨gb213, 5, none⟩ (.int .i64 t207)).setCell ⟨gb213, 6, none⟩ (.int .i64 t208)).setCell ⟨gb213, 7, none⟩ (.slice Ao39 t209.length co39)).heap[gb213]? = some (.cells #[.int .i64 t202, .int .i64 t203, .int .i64 t204, .int .i64 t205, .int .i64 t206, .int .i64 t207, .int .i64 t208, .slice Ao39 t209.length co39] 29 (0, 0))) := ⟨by (with_reducible repeat (first | refine blk_drewN ?_ _ | refine blk_drew ?_ | refine blk_alloc ?_ _)); refine blk_put (cs := #[.int .i64 t202, .int .i64 t203, .int .i64 t204, .int .i64 t205, .int .i64 t206, .int .i64 t207, .int .i64 t208, .slice none 0 0]) ?_ 7 _ rfl; (with_reducible repeat (first | refine blk_drewN ?_ _ | refine blk_drew ?_ | refine blk_alloc ?_ _)); refine blk_put (cs := #[.int .i64 t202, .int .i64 t203, .int .i64 t204, .int .i64 t205, .int .i64 t206, .int .i64 t207, .int .i64 0, .slice none 0 0]) ?_ 6 _ rfl; (with_reducible repeat (first | refine blk_drewN ?_ _ | refine blk_drew ?_ | refine blk_alloc ?_ _)); refine blk_put (cs := #[.int .i64 t202, .int .i64 t203, .int .i64 t204, .int .i64 t205, .int .i64 t206, .int .i64 0, .int .i64 0, .slice none 0 0]) ?_ 5 _ rfl; (with_reducible repeat (first | refine blk_drewN ?_ _ | refine blk_drew ?_ | refine blk_alloc ?_ _)); refine blk_put (cs := #[.int .i64 t202, .int .i64 t203, .int .i64 t204, .int .i64 t205, .int .i64 0, .int .i64 0, .int .i64 0, .slice none 0 0]) ?_ 4 _ rfl; (with_reducible repeat (first | refine blk_drewN ?_ _ | refine blk_drew ?_ | refine blk_alloc ?_ _)); refine blk_put (cs := #[.int .i64 t202, .int .i64 t203, .int .i64 t204, .int .i64 0, .int .i64 0, .int .i64 0, .int .i64 0, .slice none 0 0]) ?_ 3 _ rfl; (with_reducible repeat (first | refine blk_drewN ?_ _ | refine blk_drew ?_ | refine blk_alloc ?_ _)); refine blk_put (cs := #[.int .i64 t202, .int .i64 t203, .int .i64 0, .int .i64 0, .int .i64 0, .int .i64 0, .int .i64 0, .slice none 0 0]) ?_ 2 _ rfl; (with_reducible repeat (first | refine blk_drewN ?_ _ | refine blk_drew ?_ | refine blk_alloc ?_ _)); refine blk_put (cs := #[.int .i64 t202, .int .i64 0, .int .i64 0, .int .i64 0, .int .i64 0, .int .i64 0, .int .i64 0, .slice none 0 0]) ?_ 1 _ rfl; (with_reducible repeat (first | refine blk_drewN ?_ _ | refine blk_drew ?_ | refine blk_alloc ?_ _)); refine blk_put (cs := #[.int .i64 0, .int .i64 0, .int .i64 0, .int .i64 0, .int .i64 0, .int .i64 0, .int .i64 0, .slice none 0 0]) ?_ 0 _ rfl; (with_reducible repeat (first | refine blk_drewN ?_ _ | refine blk_drew ?_ | refine blk_alloc ?_ _)); exact BK213.out⟩
                  have n5_ : Aside0 (Below w.heap.size w ((((((((w35.setCell ⟨gb213, 0, none⟩ (.int .i64 t202)).setCell ⟨gb213, 1, none⟩ (.int .i64 t203)).setCell ⟨gb213, 2, none⟩ (.int .i64 t204)).setCell ⟨gb213, 3, none⟩ (.int .i64 t205)).setCell ⟨gb213, 4, none⟩ (.int .i64 t206)).setCell ⟨gb213, 5, none⟩ (.int .i64 t207)).setCell ⟨gb213, 6, none⟩ (.int .i64 t208)).setCell ⟨gb213, 7, none⟩ (.slice Ao39 t209.length co39))) := ⟨by repeat (first | (with_reducible first | exact HB.out | apply below_alloc | apply pw_below_drewN | apply below_drew1 | refine below_set ?_ GE184.out | refine below_set ?_ GE201.out | refine below_set ?_ GE213.out) | exact HB.out)⟩
                  (try clear HO199)
                  (try clear HO211)
                  (try clear BK184)
                  (try clear BK201)
                  (try clear BK213)
                  (try clear HB)
                  generalize ((((((((w35.setCell ⟨gb213, 0, none⟩ (.int .i64 t202)).setCell ⟨gb213, 1, none⟩ (.int .i64 t203)).setCell ⟨gb213, 2, none⟩ (.int .i64 t204)).setCell ⟨gb213, 3, none⟩ (.int .i64 t205)).setCell ⟨gb213, 4, none⟩ (.int .i64 t206)).setCell ⟨gb213, 5, none⟩ (.int .i64 t207)).setCell ⟨gb213, 6, none⟩ (.int .i64 t208)).setCell ⟨gb213, 7, none⟩ (.slice Ao39 t209.length co39)) = w40 at n0_ n1_ n2_ n3_ n4_ n5_ ⊢
                  have HO199 := n0_
                  have HO211 := n1_
                  have BK184 := n2_
                  have BK201 := n3_
                  have BK213 := n4_
                  have HB := n5_
                  clear n0_ n1_ n2_ n3_ n4_ n5_
                  have n0_ := Aside0.mk (Kd.R_drew HO199.out)
                  have n1_ := Aside0.mk (Kd.R_drew HO211.out)
                  have n2_ := Aside0.mk (blk_drew BK184.out)
                  have n3_ := Aside0.mk (blk_drew BK201.out)
                  have n4_ := Aside0.mk (blk_drew BK213.out)
                  have n5_ := Aside0.mk (below_drew1 HB.out)
                  clear HO199
                  clear HO211
                  clear BK184
                  clear BK201
                  clear BK213
                  clear HB
                  have HO199 := n0_
                  have HO211 := n1_
                  have BK184 := n2_
                  have BK201 := n3_
                  have BK213 := n4_
                  have HB := n5_
                  clear n0_ n1_ n2_ n3_ n4_ n5_
                  refine start_ (n := 29) (S := fun w' => w'.cell? ⟨gb184, 0, none⟩ = some (.int .i64 a0_0) ∧ w'.cell? ⟨gb184, 1, none⟩ = some (.int .i64 a0_1) ∧ w'.cell? ⟨gb184, 2, none⟩ = some (.int .i64 a0_2) ∧ w'.cell? ⟨gb184, 3, none⟩ = some (.int .i64 a0_3) ∧ w'.cell? ⟨gb184, 4, none⟩ = some (.int .i64 a0_4) ∧ w'.cell? ⟨gb184, 5, none⟩ = some (.int .i64 a0_5) ∧ w'.cell? ⟨gb184, 6, none⟩ = some (.int .i64 a0_6) ∧ w'.cell? ⟨gb184, 7, none⟩ = some (.slice A0_7 l0_7.length c0_7) ∧ w'.cell? ⟨gb201, 0, none⟩ = some (.int .i64 t190) ∧ w'.cell? ⟨gb201, 1, none⟩ = some (.int .i64 t191) ∧ w'.cell? ⟨gb201, 2, none⟩ = some (.int .i64 t192) ∧ w'.cell? ⟨gb201, 3, none⟩ = some (.int .i64 t193) ∧ w'.cell? ⟨gb201, 4, none⟩ = some (.int .i64 t194) ∧ w'.cell? ⟨gb201, 5, none⟩ = some (.int .i64 t195) ∧ w'.cell? ⟨gb201, 6, none⟩ = some (.int .i64 t196) ∧ w'.cell? ⟨gb201, 7, none⟩ = some (.slice Ao33 t197.length co33) ∧ w'.cell? ⟨gb213, 0, none⟩ = some (.int .i64 t202) ∧ w'.cell? ⟨gb213, 1, none⟩ = some (.int .i64 t203) ∧ w'.cell? ⟨gb213, 2, none⟩ = some (.int .i64 t204) ∧ w'.cell? ⟨gb213, 3, none⟩ = some (.int .i64 t205) ∧ w'.cell? ⟨gb213, 4, none⟩ = some (.int .i64 t206) ∧ w'.cell? ⟨gb213, 5, none⟩ = some (.int .i64 t207) ∧ w'.cell? ⟨gb213, 6, none⟩ = some (.int .i64 t208) ∧ w'.cell? ⟨gb213, 7, none⟩ = some (.slice Ao39 t209.length co39)) (ds := []) #[false, false, false, false, false, false, false, false, false, false, false, false, false, false, false, false, false, false, false, false, false, false, false, false, false, false, false, false, false] (by kernel_rfl) rfl rfl ⟨(blk_cell BK184.out 0).trans rfl, (blk_cell BK184.out 1).trans rfl, (blk_cell BK184.out 2).trans rfl, (blk_cell BK184.out 3).trans rfl, (blk_cell BK184.out 4).trans rfl, (blk_cell BK184.out 5).trans rfl, (blk_cell BK184.out 6).trans rfl, (blk_cell BK184.out 7).trans rfl, (blk_cell BK201.out 0).trans rfl, (blk_cell BK201.out 1).trans rfl, (blk_cell BK201.out 2).trans rfl, (blk_cell BK201.out 3).trans rfl, (blk_cell BK201.out 4).trans rfl, (blk_cell BK201.out 5).trans rfl, (blk_cell BK201.out 6).trans rfl, (blk_cell BK201.out 7).trans rfl, (blk_cell BK213.out 0).trans rfl, (blk_cell BK213.out 1).trans rfl, (blk_cell BK213.out 2).trans rfl, (blk_cell BK213.out 3).trans rfl, (blk_cell BK213.out 4).trans rfl, (blk_cell BK213.out 5).trans rfl, (blk_cell BK213.out 6).trans rfl, (blk_cell BK213.out 7).trans rfl⟩ (fun hHeld => ?_); refine with_tabW sextonlaw23_MsgBytes.tab7 sextonlaw23_MsgBytes.bits7 (fun HT_ HW_ => ?_)
                  generalize w40.drew = w41 at HO199 HO211 BK184 BK201 BK213 HB hHeld ⊢
                  refine one_ (i := 0) (N := some 40) #[true, false, false, false, false, false, false, false, false, false, false, false, false, false, false, false, false, false, false, false, false, false, false, false, false, false, false, false, false] rfl rfl (one_of HT_.out (by kernel_rfl)) (by decide) (fun K hK => ?_)
                  refine goes_ Try.func35 (by kernel_rfl) rfl #[] (by rfl) rfl rfl (by (try simp only [List.map_toArray, List.map_cons, List.map_nil]); first | done | rfl | (simp only [List.length_drop, List.length_take]; rfl)) ?_
                  with_reducible refine (sextonlaw23_sent.calls  true _ A16.out).mono ?_
                  rintro e w42 ⟨rfl, hb⟩
                  refine ⟨_, rfl, ?_⟩
                  have n0_ := Aside0.mk (Kd.R_below (by (with_reducible repeat (first | apply Kd.R_alloc | apply Kd.R_drewN | apply Kd.R_drew)); exact HO199.out) hb)
                  have n1_ := Aside0.mk (Kd.R_below (by (with_reducible repeat (first | apply Kd.R_alloc | apply Kd.R_drewN | apply Kd.R_drew)); exact HO211.out) hb)
                  have n2_ := Aside0.mk (blk_below (g := gb184) (o := .cells #[.int .i64 a0_0, .int .i64 a0_1, .int .i64 a0_2, .int .i64 a0_3, .int .i64 a0_4, .int .i64 a0_5, .int .i64 a0_6, .slice A0_7 l0_7.length c0_7] 29 (0, 0)) (by (with_reducible repeat (first | refine blk_drewN ?_ _ | refine blk_drew ?_ | refine blk_alloc ?_ _)); exact BK184.out) hb)
                  have n3_ := Aside0.mk (blk_below (g := gb201) (o := .cells #[.int .i64 t190, .int .i64 t191, .int .i64 t192, .int .i64 t193, .int .i64 t194, .int .i64 t195, .int .i64 t196, .slice Ao33 t197.length co33] 29 (0, 0)) (by (with_reducible repeat (first | refine blk_drewN ?_ _ | refine blk_drew ?_ | refine blk_alloc ?_ _)); exact BK201.out) hb)
                  have n4_ := Aside0.mk (blk_below (g := gb213) (o := .cells #[.int .i64 t202, .int .i64 t203, .int .i64 t204, .int .i64 t205, .int .i64 t206, .int .i64 t207, .int .i64 t208, .slice Ao39 t209.length co39] 29 (0, 0)) (by (with_reducible repeat (first | refine blk_drewN ?_ _ | refine blk_drew ?_ | refine blk_alloc ?_ _)); exact BK213.out) hb)
                  have n5_ := Aside0.mk (below_step (by repeat (first | (with_reducible first | exact HB.out | apply below_alloc | apply pw_below_drewN | apply below_drew1 | refine below_set ?_ GE184.out | refine below_set ?_ GE201.out | refine below_set ?_ GE213.out) | exact HB.out)) hb)
                  clear HO199
                  clear HO211
                  clear BK184
                  clear BK201
                  clear BK213
                  clear HB
                  have HO199 := n0_
                  have HO211 := n1_
                  have BK184 := n2_
                  have BK201 := n3_
                  have BK213 := n4_
                  have HB := n5_
                  clear n0_ n1_ n2_ n3_ n4_ n5_
                  (try clear hb)
                  (try clear hb2)
                  (try clear hk)
                  (try clear hi)
                  refine hK.out _ _ ⟨(blk_cell BK184.out 0).trans rfl, (blk_cell BK184.out 1).trans rfl, (blk_cell BK184.out 2).trans rfl, (blk_cell BK184.out 3).trans rfl, (blk_cell BK184.out 4).trans rfl, (blk_cell BK184.out 5).trans rfl, (blk_cell BK184.out 6).trans rfl, (blk_cell BK184.out 7).trans rfl, (blk_cell BK201.out 0).trans rfl, (blk_cell BK201.out 1).trans rfl, (blk_cell BK201.out 2).trans rfl, (blk_cell BK201.out 3).trans rfl, (blk_cell BK201.out 4).trans rfl, (blk_cell BK201.out 5).trans rfl, (blk_cell BK201.out 6).trans rfl, (blk_cell BK201.out 7).trans rfl, (blk_cell BK213.out 0).trans rfl, (blk_cell BK213.out 1).trans rfl, (blk_cell BK213.out 2).trans rfl, (blk_cell BK213.out 3).trans rfl, (blk_cell BK213.out 4).trans rfl, (blk_cell BK213.out 5).trans rfl, (blk_cell BK213.out 6).trans rfl, (blk_cell BK213.out 7).trans rfl⟩ (fun hHeld => ?_)
                  clear hK K
                  refine norm_ (a' := ?_) ?_ ?_
                  rotate_left
                  · show Act.put _ (some 40) _ = _
                    simp only [Act.put, List.setIfInBounds_toArray, List.set_cons_zero, List.set_cons_succ, i64_w, i32_w]
                    rfl
                  refine pure_ (i := 1) (N := some 41) (v := ?_) (a' := ?_) #[true, true, false, false, false, false, false, false, false, false, false, false, false, false, false, false, false, false, false, false, false, false, false, false, false, false, false, false, false] rfl rfl (any_of HT_.out (by kernel_rfl)) (fun _ _ _ h => h) (Or.inl ⟨by rfl, ?_⟩) ?_ ?_
                  rotate_left
                  · intro w'
                    go_simp
                    with_reducible rfl
                  rotate_left
                  · simp only [Act.put, List.setIfInBounds_toArray, List.set_cons_zero, List.set_cons_succ, i64_w, i32_w]
                    rfl
                  refine take_ (i := 2) (N := some 42) (v := ?_) (a' := ?_) #[true, true, true, false, false, false, false, false, false, false, false, false, false, false, false, false, false, false, false, false, false, false, false, false, false, false, false, false, false] rfl rfl (take_ofW HT_.out HW_.out (by kernel_rfl)) (fun _ _ _ h => h) (Or.inl ⟨by rfl, ?_⟩) hHeld ?_ ?_
                  rotate_left
                  · rintro w' ⟨s0, s1, s2, s3, s4, s5, s6, s7, s8, s9, s10, s11, s12, s13, s14, s15, s16, s17, s18, s19, s20, s21, s22, s23⟩
                    go_simp
                    with_reducible rfl
                  rotate_left
                  · simp only [Act.put, List.setIfInBounds_toArray, List.set_cons_zero, List.set_cons_succ, i64_w, i32_w]
                    rfl
                  refine take_ (i := 4) (N := some 44) (v := ?_) (a' := ?_) #[true, true, true, false, true, false, false, false, false, false, false, false, false, false, false, false, false, false, false, false, false, false, false, false, false, false, false, false, false] rfl rfl (take_ofW HT_.out HW_.out (by kernel_rfl)) (fun _ _ _ h => h) (Or.inl ⟨by rfl, ?_⟩) hHeld ?_ ?_
                  rotate_left
                  · rintro w' ⟨s0, s1, s2, s3, s4, s5, s6, s7, s8, s9, s10, s11, s12, s13, s14, s15, s16, s17, s18, s19, s20, s21, s22, s23⟩
                    go_simp
                    with_reducible rfl
                  rotate_left
                  · simp only [Act.put, List.setIfInBounds_toArray, List.set_cons_zero, List.set_cons_succ, i64_w, i32_w]
                    rfl
                  refine one_ (i := 3) (N := some 43) #[true, true, true, true, true, false, false, false, false, false, false, false, false, false, false, false, false, false, false, false, false, false, false, false, false, false, false, false, false] rfl rfl (one_of HT_.out (by kernel_rfl)) (by decide) (fun K hK => ?_)
                  refine goes_ Try.func36 (by kernel_rfl) rfl #[.agg #[.int .i64 a0_0, .int .i64 a0_1, .int .i64 a0_2, .int .i64 a0_3, .int .i64 a0_4, .int .i64 a0_5, .int .i64 a0_6, .slice A0_7 l0_7.length c0_7]] (by rfl) rfl rfl (by (try simp only [List.map_toArray, List.map_cons, List.map_nil]); first | done | rfl | (simp only [List.length_drop, List.length_take]; rfl)) ?_
                  with_reducible refine (msg_Is.calls kj2 a0_0 a0_1 a0_2 a0_3 a0_4 a0_5 a0_6 _ _ l0_7 t215 _ ?side1 ?side2 A18.out).mono ?_
                  (case side1 => repeat (first | exact (Kd.C_below HR0_7.out HB.out) | (with_reducible refine Kd.C_alloc ?_ _) | (with_reducible refine Kd.C_drewN ?_ _) | (with_reducible refine Kd.C_drew ?_)))
                  (case side2 => exact HC0_7.out)
                  rintro e w43 ⟨rfl, hb⟩
                  refine ⟨_, rfl, ?_⟩
                  have n0_ := Aside0.mk (Kd.R_below (by (with_reducible repeat (first | apply Kd.R_alloc | apply Kd.R_drewN | apply Kd.R_drew)); exact HO199.out) hb)
                  have n1_ := Aside0.mk (Kd.R_below (by (with_reducible repeat (first | apply Kd.R_alloc | apply Kd.R_drewN | apply Kd.R_drew)); exact HO211.out) hb)
                  have n2_ := Aside0.mk (blk_below (g := gb184) (o := .cells #[.int .i64 a0_0, .int .i64 a0_1, .int .i64 a0_2, .int .i64 a0_3, .int .i64 a0_4, .int .i64 a0_5, .int .i64 a0_6, .slice A0_7 l0_7.length c0_7] 29 (0, 0)) (by (with_reducible repeat (first | refine blk_drewN ?_ _ | refine blk_drew ?_ | refine blk_alloc ?_ _)); exact BK184.out) hb)
                  have n3_ := Aside0.mk (blk_below (g := gb201) (o := .cells #[.int .i64 t190, .int .i64 t191, .int .i64 t192, .int .i64 t193, .int .i64 t194, .int .i64 t195, .int .i64 t196, .slice Ao33 t197.length co33] 29 (0, 0)) (by (with_reducible repeat (first | refine blk_drewN ?_ _ | refine blk_drew ?_ | refine blk_alloc ?_ _)); exact BK201.out) hb)
                  have n4_ := Aside0.mk (blk_below (g := gb213) (o := .cells #[.int .i64 t202, .int .i64 t203, .int .i64 t204, .int .i64 t205, .int .i64 t206, .int .i64 t207, .int .i64 t208, .slice Ao39 t209.length co39] 29 (0, 0)) (by (with_reducible repeat (first | refine blk_drewN ?_ _ | refine blk_drew ?_ | refine blk_alloc ?_ _)); exact BK213.out) hb)
                  have n5_ := Aside0.mk (below_step (by repeat (first | (with_reducible first | exact HB.out | apply below_alloc | apply pw_below_drewN | apply below_drew1 | refine below_set ?_ GE184.out | refine below_set ?_ GE201.out | refine below_set ?_ GE213.out) | exact HB.out)) hb)
                  clear HO199
                  clear HO211
                  clear BK184
                  clear BK201
                  clear BK213
                  clear HB
                  have HO199 := n0_
                  have HO211 := n1_
                  have BK184 := n2_
                  have BK201 := n3_
                  have BK213 := n4_
                  have HB := n5_
                  clear n0_ n1_ n2_ n3_ n4_ n5_
                  (try clear hb)
                  (try clear hb2)
                  (try clear hk)
                  (try clear hi)
                  refine hK.out _ _ ⟨(blk_cell BK184.out 0).trans rfl, (blk_cell BK184.out 1).trans rfl, (blk_cell BK184.out 2).trans rfl, (blk_cell BK184.out 3).trans rfl, (blk_cell BK184.out 4).trans rfl, (blk_cell BK184.out 5).trans rfl, (blk_cell BK184.out 6).trans rfl, (blk_cell BK184.out 7).trans rfl, (blk_cell BK201.out 0).trans rfl, (blk_cell BK201.out 1).trans rfl, (blk_cell BK201.out 2).trans rfl, (blk_cell BK201.out 3).trans rfl, (blk_cell BK201.out 4).trans rfl, (blk_cell BK201.out 5).trans rfl, (blk_cell BK201.out 6).trans rfl, (blk_cell BK201.out 7).trans rfl, (blk_cell BK213.out 0).trans rfl, (blk_cell BK213.out 1).trans rfl, (blk_cell BK213.out 2).trans rfl, (blk_cell BK213.out 3).trans rfl, (blk_cell BK213.out 4).trans rfl, (blk_cell BK213.out 5).trans rfl, (blk_cell BK213.out 6).trans rfl, (blk_cell BK213.out 7).trans rfl⟩ (fun hHeld => ?_)
                  clear hK K
                  refine norm_ (a' := ?_) ?_ ?_
                  rotate_left
                  · show Act.put _ (some 43) _ = _
                    simp only [Act.put, List.setIfInBounds_toArray, List.set_cons_zero, List.set_cons_succ, i64_w, i32_w]
                    rfl
                  refine one_ (i := 5) (N := some 45) #[true, true, true, true, true, true, false, false, false, false, false, false, false, false, false, false, false, false, false, false, false, false, false, false, false, false, false, false, false] rfl rfl (one_of HT_.out (by kernel_rfl)) (by decide) (fun K hK => ?_)
                  refine goes_ Try.func37 (by kernel_rfl) rfl #[.agg #[.int .i64 a0_0, .int .i64 a0_1, .int .i64 a0_2, .int .i64 a0_3, .int .i64 a0_4, .int .i64 a0_5, .int .i64 a0_6, .slice A0_7 l0_7.length c0_7]] (by rfl) rfl rfl (by (try simp only [List.map_toArray, List.map_cons, List.map_nil]); first | done | rfl | (simp only [List.length_drop, List.length_take]; rfl)) ?_
                  with_reducible refine (sextonref23_Is.calls kj2 a0_0 a0_1 a0_2 a0_3 a0_4 a0_5 a0_6 _ _ l0_7 t216 _ ?side1 ?side2 A19.out).mono ?_
                  (case side1 => repeat (first | exact (Kd.C_below HR0_7.out HB.out) | (with_reducible refine Kd.C_alloc ?_ _) | (with_reducible refine Kd.C_drewN ?_ _) | (with_reducible refine Kd.C_drew ?_)))
                  (case side2 => exact HC0_7.out)
                  rintro e w44 ⟨rfl, hb⟩
                  refine ⟨_, rfl, ?_⟩
                  have n0_ := Aside0.mk (Kd.R_below (by (with_reducible repeat (first | apply Kd.R_alloc | apply Kd.R_drewN | apply Kd.R_drew)); exact HO199.out) hb)
                  have n1_ := Aside0.mk (Kd.R_below (by (with_reducible repeat (first | apply Kd.R_alloc | apply Kd.R_drewN | apply Kd.R_drew)); exact HO211.out) hb)
                  have n2_ := Aside0.mk (blk_below (g := gb184) (o := .cells #[.int .i64 a0_0, .int .i64 a0_1, .int .i64 a0_2, .int .i64 a0_3, .int .i64 a0_4, .int .i64 a0_5, .int .i64 a0_6, .slice A0_7 l0_7.length c0_7] 29 (0, 0)) (by (with_reducible repeat (first | refine blk_drewN ?_ _ | refine blk_drew ?_ | refine blk_alloc ?_ _)); exact BK184.out) hb)
                  have n3_ := Aside0.mk (blk_below (g := gb201) (o := .cells #[.int .i64 t190, .int .i64 t191, .int .i64 t192, .int .i64 t193, .int .i64 t194, .int .i64 t195, .int .i64 t196, .slice Ao33 t197.length co33] 29 (0, 0)) (by (with_reducible repeat (first | refine blk_drewN ?_ _ | refine blk_drew ?_ | refine blk_alloc ?_ _)); exact BK201.out) hb)
                  have n4_ := Aside0.mk (blk_below (g := gb213) (o := .cells #[.int .i64 t202, .int .i64 t203, .int .i64 t204, .int .i64 t205, .int .i64 t206, .int .i64 t207, .int .i64 t208, .slice Ao39 t209.length co39] 29 (0, 0)) (by (with_reducible repeat (first | refine blk_drewN ?_ _ | refine blk_drew ?_ | refine blk_alloc ?_ _)); exact BK213.out) hb)
                  have n5_ := Aside0.mk (below_step (by repeat (first | (with_reducible first | exact HB.out | apply below_alloc | apply pw_below_drewN | apply below_drew1 | refine below_set ?_ GE184.out | refine below_set ?_ GE201.out | refine below_set ?_ GE213.out) | exact HB.out)) hb)
                  clear HO199
                  clear HO211
                  clear BK184
                  clear BK201
                  clear BK213
                  clear HB
                  have HO199 := n0_
                  have HO211 := n1_
                  have BK184 := n2_
                  have BK201 := n3_
                  have BK213 := n4_
                  have HB := n5_
                  clear n0_ n1_ n2_ n3_ n4_ n5_
                  (try clear hb)
                  (try clear hb2)
                  (try clear hk)
                  (try clear hi)
                  refine hK.out _ _ ⟨(blk_cell BK184.out 0).trans rfl, (blk_cell BK184.out 1).trans rfl, (blk_cell BK184.out 2).trans rfl, (blk_cell BK184.out 3).trans rfl, (blk_cell BK184.out 4).trans rfl, (blk_cell BK184.out 5).trans rfl, (blk_cell BK184.out 6).trans rfl, (blk_cell BK184.out 7).trans rfl, (blk_cell BK201.out 0).trans rfl, (blk_cell BK201.out 1).trans rfl, (blk_cell BK201.out 2).trans rfl, (blk_cell BK201.out 3).trans rfl, (blk_cell BK201.out 4).trans rfl, (blk_cell BK201.out 5).trans rfl, (blk_cell BK201.out 6).trans rfl, (blk_cell BK201.out 7).trans rfl, (blk_cell BK213.out 0).trans rfl, (blk_cell BK213.out 1).trans rfl, (blk_cell BK213.out 2).trans rfl, (blk_cell BK213.out 3).trans rfl, (blk_cell BK213.out 4).trans rfl, (blk_cell BK213.out 5).trans rfl, (blk_cell BK213.out 6).trans rfl, (blk_cell BK213.out 7).trans rfl⟩ (fun hHeld => ?_)
                  clear hK K
                  refine norm_ (a' := ?_) ?_ ?_
                  rotate_left
                  · show Act.put _ (some 45) _ = _
                    simp only [Act.put, List.setIfInBounds_toArray, List.set_cons_zero, List.set_cons_succ, i64_w, i32_w]
                    rfl
                  refine pure_ (i := 6) (N := some 46) (v := ?_) (a' := ?_) #[true, true, true, true, true, true, true, false, false, false, false, false, false, false, false, false, false, false, false, false, false, false, false, false, false, false, false, false, false] rfl rfl (any_of HT_.out (by kernel_rfl)) (fun _ _ _ h => h) (Or.inl ⟨by rfl, ?_⟩) ?_ ?_
                  rotate_left
                  · intro w'
                    go_simp
                    with_reducible rfl
                  rotate_left
                  · simp only [Act.put, List.setIfInBounds_toArray, List.set_cons_zero, List.set_cons_succ, i64_w, i32_w]
                    rfl
                  refine pure_ (i := 7) (N := some 47) (v := ?_) (a' := ?_) #[true, true, true, true, true, true, true, true, false, false, false, false, false, false, false, false, false, false, false, false, false, false, false, false, false, false, false, false, false] rfl rfl (any_of HT_.out (by kernel_rfl)) (fun _ _ _ h => h) (Or.inl ⟨by rfl, ?_⟩) ?_ ?_
                  rotate_left
                  · intro w'
                    go_simp
                    with_reducible rfl
                  rotate_left
                  · simp only [Act.put, List.setIfInBounds_toArray, List.set_cons_zero, List.set_cons_succ, i64_w, i32_w]
                    rfl
                  refine pure_ (i := 8) (N := some 48) (v := ?_) (a' := ?_) #[true, true, true, true, true, true, true, true, true, false, false, false, false, false, false, false, false, false, false, false, false, false, false, false, false, false, false, false, false] rfl rfl (any_of HT_.out (by kernel_rfl)) (fun _ _ _ h => h) (Or.inl ⟨by rfl, ?_⟩) ?_ ?_
                  rotate_left
                  · intro w'
                    go_simp
                    with_reducible rfl
                  rotate_left
                  · simp only [Act.put, List.setIfInBounds_toArray, List.set_cons_zero, List.set_cons_succ, i64_w, i32_w]
                    rfl
                  refine pure_ (i := 9) (N := some 49) (v := ?_) (a' := ?_) #[true, true, true, true, true, true, true, true, true, true, false, false, false, false, false, false, false, false, false, false, false, false, false, false, false, false, false, false, false] rfl rfl (any_of HT_.out (by kernel_rfl)) (fun _ _ _ h => h) (Or.inl ⟨by rfl, ?_⟩) ?_ ?_
                  rotate_left
                  · intro w'
                    go_simp
                    with_reducible rfl
                  rotate_left
                  · simp only [Act.put, List.setIfInBounds_toArray, List.set_cons_zero, List.set_cons_succ, i64_w, i32_w]
                    rfl
                  refine pure_ (i := 10) (N := some 50) (v := ?_) (a' := ?_) #[true, true, true, true, true, true, true, true, true, true, true, false, false, false, false, false, false, false, false, false, false, false, false, false, false, false, false, false, false] rfl rfl (any_of HT_.out (by kernel_rfl)) (fun _ _ _ h => h) (Or.inl ⟨by rfl, ?_⟩) ?_ ?_
                  rotate_left
                  · intro w'
                    go_simp
                    with_reducible rfl
                  rotate_left
                  · simp only [Act.put, List.setIfInBounds_toArray, List.set_cons_zero, List.set_cons_succ, i64_w, i32_w]
                    rfl
                  refine pure_ (i := 11) (N := some 51) (v := ?_) (a' := ?_) #[true, true, true, true, true, true, true, true, true, true, true, true, false, false, false, false, false, false, false, false, false, false, false, false, false, false, false, false, false] rfl rfl (any_of HT_.out (by kernel_rfl)) (fun _ _ _ h => h) (Or.inl ⟨by rfl, ?_⟩) ?_ ?_
                  rotate_left
                  · intro w'
                    go_simp
                    with_reducible rfl
                  rotate_left
                  · simp only [Act.put, List.setIfInBounds_toArray, List.set_cons_zero, List.set_cons_succ, i64_w, i32_w]
                    rfl
                  refine pure_ (i := 12) (N := some 52) (v := ?_) (a' := ?_) #[true, true, true, true, true, true, true, true, true, true, true, true, true, false, false, false, false, false, false, false, false, false, false, false, false, false, false, false, false] rfl rfl (any_of HT_.out (by kernel_rfl)) (fun _ _ _ h => h) (Or.inl ⟨by rfl, ?_⟩) ?_ ?_
                  rotate_left
                  · intro w'
                    go_simp
                    with_reducible rfl
                  rotate_left
                  · simp only [Act.put, List.setIfInBounds_toArray, List.set_cons_zero, List.set_cons_succ, i64_w, i32_w]
                    rfl
                  refine pure_ (i := 13) (N := some 53) (v := ?_) (a' := ?_) #[true, true, true, true, true, true, true, true, true, true, true, true, true, true, false, false, false, false, false, false, false, false, false, false, false, false, false, false, false] rfl rfl (any_of HT_.out (by kernel_rfl)) (fun _ _ _ h => h) (Or.inl ⟨by rfl, ?_⟩) ?_ ?_
                  rotate_left
                  · intro w'
                    go_simp
                    with_reducible rfl
                  rotate_left
                  · simp only [Act.put, List.setIfInBounds_toArray, List.set_cons_zero, List.set_cons_succ, i64_w, i32_w]
                    rfl
                  refine pure_ (i := 14) (N := some 54) (v := ?_) (a' := ?_) #[true, true, true, true, true, true, true, true, true, true, true, true, true, true, true, false, false, false, false, false, false, false, false, false, false, false, false, false, false] rfl rfl (any_of HT_.out (by kernel_rfl)) (fun _ _ _ h => h) (Or.inl ⟨by rfl, ?_⟩) ?_ ?_
                  rotate_left
                  · intro w'
                    go_simp
                    with_reducible rfl
                  rotate_left
                  · simp only [Act.put, List.setIfInBounds_toArray, List.set_cons_zero, List.set_cons_succ, i64_w, i32_w]
                    rfl
                  refine pure_ (i := 15) (N := some 55) (v := ?_) (a' := ?_) #[true, true, true, true, true, true, true, true, true, true, true, true, true, true, true, true, false, false, false, false, false, false, false, false, false, false, false, false, false] rfl rfl (any_of HT_.out (by kernel_rfl)) (fun _ _ _ h => h) (Or.inl ⟨by rfl, ?_⟩) ?_ ?_
                  rotate_left
                  · intro w'
                    go_simp
                    with_reducible rfl
                  rotate_left
                  · simp only [Act.put, List.setIfInBounds_toArray, List.set_cons_zero, List.set_cons_succ, i64_w, i32_w]
                    rfl
                  refine pure_ (i := 16) (N := some 56) (v := ?_) (a' := ?_) #[true, true, true, true, true, true, true, true, true, true, true, true, true, true, true, true, true, false, false, false, false, false, false, false, false, false, false, false, false] rfl rfl (any_of HT_.out (by kernel_rfl)) (fun _ _ _ h => h) (Or.inl ⟨by rfl, ?_⟩) ?_ ?_
                  rotate_left
                  · intro w'
                    go_simp
                    with_reducible rfl
                  rotate_left
                  · simp only [Act.put, List.setIfInBounds_toArray, List.set_cons_zero, List.set_cons_succ, i64_w, i32_w]
                    rfl
                  refine pure_ (i := 17) (N := some 57) (v := ?_) (a' := ?_) #[true, true, true, true, true, true, true, true, true, true, true, true, true, true, true, true, true, true, false, false, false, false, false, false, false, false, false, false, false] rfl rfl (any_of HT_.out (by kernel_rfl)) (fun _ _ _ h => h) (Or.inl ⟨by rfl, ?_⟩) ?_ ?_
                  rotate_left
                  · intro w'
                    go_simp
                    with_reducible rfl
                  rotate_left
                  · simp only [Act.put, List.setIfInBounds_toArray, List.set_cons_zero, List.set_cons_succ, i64_w, i32_w]
                    rfl
                  refine pure_ (i := 18) (N := some 58) (v := ?_) (a' := ?_) #[true, true, true, true, true, true, true, true, true, true, true, true, true, true, true, true, true, true, true, false, false, false, false, false, false, false, false, false, false] rfl rfl (any_of HT_.out (by kernel_rfl)) (fun _ _ _ h => h) (Or.inl ⟨by rfl, ?_⟩) ?_ ?_
                  rotate_left
                  · intro w'
                    go_simp
                    with_reducible rfl
                  rotate_left
                  · simp only [Act.put, List.setIfInBounds_toArray, List.set_cons_zero, List.set_cons_succ, i64_w, i32_w]
                    rfl
                  refine take_ (i := 19) (N := some 59) (v := ?_) (a' := ?_) #[true, true, true, true, true, true, true, true, true, true, true, true, true, true, true, true, true, true, true, true, false, false, false, false, false, false, false, false, false] rfl rfl (take_ofW HT_.out HW_.out (by kernel_rfl)) (fun _ _ _ h => h) (Or.inl ⟨by rfl, ?_⟩) hHeld ?_ ?_
                  rotate_left
                  · rintro w' ⟨s0, s1, s2, s3, s4, s5, s6, s7, s8, s9, s10, s11, s12, s13, s14, s15, s16, s17, s18, s19, s20, s21, s22, s23⟩
                    go_simp
                    with_reducible rfl
                  rotate_left
                  · simp only [Act.put, List.setIfInBounds_toArray, List.set_cons_zero, List.set_cons_succ, i64_w, i32_w]
                    rfl
                  refine take_ (i := 20) (N := some 60) (v := ?_) (a' := ?_) #[true, true, true, true, true, true, true, true, true, true, true, true, true, true, true, true, true, true, true, true, true, false, false, false, false, false, false, false, false] rfl rfl (take_ofW HT_.out HW_.out (by kernel_rfl)) (fun _ _ _ h => h) (Or.inl ⟨by rfl, ?_⟩) hHeld ?_ ?_
                  rotate_left
                  · rintro w' ⟨s0, s1, s2, s3, s4, s5, s6, s7, s8, s9, s10, s11, s12, s13, s14, s15, s16, s17, s18, s19, s20, s21, s22, s23⟩
                    go_simp
                    with_reducible rfl
                  rotate_left
                  · simp only [Act.put, List.setIfInBounds_toArray, List.set_cons_zero, List.set_cons_succ, i64_w, i32_w]
                    rfl
                  refine one_ (i := 21) (N := some 61) #[true, true, true, true, true, true, true, true, true, true, true, true, true, true, true, true, true, true, true, true, true, true, false, false, false, false, false, false, false] rfl rfl (one_of HT_.out (by kernel_rfl)) (by decide) (fun K hK => ?_)
                  refine goes_ Try.func26 (by kernel_rfl) rfl #[.agg #[.int .i64 t190, .int .i64 t191, .int .i64 t192, .int .i64 t193, .int .i64 t194, .int .i64 t195, .int .i64 t196, .slice Ao33 t197.length co33], .agg #[.int .i64 t202, .int .i64 t203, .int .i64 t204, .int .i64 t205, .int .i64 t206, .int .i64 t207, .int .i64 t208, .slice Ao39 t209.length co39]] (by rfl) rfl rfl (by (try simp only [List.map_toArray, List.map_cons, List.map_nil]); first | done | rfl | (simp only [List.length_drop, List.length_take]; rfl)) ?_
                  with_reducible refine (sextonref23_Same.calls kj2 t190 t191 t192 t193 t194 t195 t196 _ _ t197 t202 t203 t204 t205 t206 t207 t208 _ _ t209 true _ ?side1 ?side2 ?side3 ?side4 A23.out).mono ?_
                  (case side1 => repeat (first | exact (Kd.R_reads' HO199.out).2.2 | (with_reducible refine Kd.C_alloc ?_ _) | (with_reducible refine Kd.C_drewN ?_ _) | (with_reducible refine Kd.C_drew ?_)))
                  (case side2 => exact (Kd.R_reads' HO199.out).2.1)
                  (case side3 => repeat (first | exact (Kd.R_reads' HO211.out).2.2 | (with_reducible refine Kd.C_alloc ?_ _) | (with_reducible refine Kd.C_drewN ?_ _) | (with_reducible refine Kd.C_drew ?_)))
                  (case side4 => exact (Kd.R_reads' HO211.out).2.1)
                  rintro e w45 ⟨rfl, hb⟩
                  refine ⟨_, rfl, ?_⟩
                  have n0_ := Aside0.mk (Kd.R_below (by (with_reducible repeat (first | apply Kd.R_alloc | apply Kd.R_drewN | apply Kd.R_drew)); exact HO199.out) hb)
                  have n1_ := Aside0.mk (Kd.R_below (by (with_reducible repeat (first | apply Kd.R_alloc | apply Kd.R_drewN | apply Kd.R_drew)); exact HO211.out) hb)
                  have n2_ := Aside0.mk (blk_below (g := gb184) (o := .cells #[.int .i64 a0_0, .int .i64 a0_1, .int .i64 a0_2, .int .i64 a0_3, .int .i64 a0_4, .int .i64 a0_5, .int .i64 a0_6, .slice A0_7 l0_7.length c0_7] 29 (0, 0)) (by (with_reducible repeat (first | refine blk_drewN ?_ _ | refine blk_drew ?_ | refine blk_alloc ?_ _)); exact BK184.out) hb)
                  have n3_ := Aside0.mk (blk_below (g := gb201) (o := .cells #[.int .i64 t190, .int .i64 t191, .int .i64 t192, .int .i64 t193, .int .i64 t194, .int .i64 t195, .int .i64 t196, .slice Ao33 t197.length co33] 29 (0, 0)) (by (with_reducible repeat (first | refine blk_drewN ?_ _ | refine blk_drew ?_ | refine blk_alloc ?_ _)); exact BK201.out) hb)
                  have n4_ := Aside0.mk (blk_below (g := gb213) (o := .cells #[.int .i64 t202, .int .i64 t203, .int .i64 t204, .int .i64 t205, .int .i64 t206, .int .i64 t207, .int .i64 t208, .slice Ao39 t209.length co39] 29 (0, 0)) (by (with_reducible repeat (first | refine blk_drewN ?_ _ | refine blk_drew ?_ | refine blk_alloc ?_ _)); exact BK213.out) hb)
                  have n5_ := Aside0.mk (below_step (by repeat (first | (with_reducible first | exact HB.out | apply below_alloc | apply pw_below_drewN | apply below_drew1 | refine below_set ?_ GE184.out | refine below_set ?_ GE201.out | refine below_set ?_ GE213.out) | exact HB.out)) hb)
                  clear HO199
                  clear HO211
                  clear BK184
                  clear BK201
                  clear BK213
                  clear HB
                  have HO199 := n0_
                  have HO211 := n1_
                  have BK184 := n2_
                  have BK201 := n3_
                  have BK213 := n4_
                  have HB := n5_
                  clear n0_ n1_ n2_ n3_ n4_ n5_
                  (try clear hb)
                  (try clear hb2)
                  (try clear hk)
                  (try clear hi)
                  refine hK.out _ _ ⟨(blk_cell BK184.out 0).trans rfl, (blk_cell BK184.out 1).trans rfl, (blk_cell BK184.out 2).trans rfl, (blk_cell BK184.out 3).trans rfl, (blk_cell BK184.out 4).trans rfl, (blk_cell BK184.out 5).trans rfl, (blk_cell BK184.out 6).trans rfl, (blk_cell BK184.out 7).trans rfl, (blk_cell BK201.out 0).trans rfl, (blk_cell BK201.out 1).trans rfl, (blk_cell BK201.out 2).trans rfl, (blk_cell BK201.out 3).trans rfl, (blk_cell BK201.out 4).trans rfl, (blk_cell BK201.out 5).trans rfl, (blk_cell BK201.out 6).trans rfl, (blk_cell BK201.out 7).trans rfl, (blk_cell BK213.out 0).trans rfl, (blk_cell BK213.out 1).trans rfl, (blk_cell BK213.out 2).trans rfl, (blk_cell BK213.out 3).trans rfl, (blk_cell BK213.out 4).trans rfl, (blk_cell BK213.out 5).trans rfl, (blk_cell BK213.out 6).trans rfl, (blk_cell BK213.out 7).trans rfl⟩ (fun hHeld => ?_)
                  clear hK K
                  refine norm_ (a' := ?_) ?_ ?_
                  rotate_left
                  · show Act.put _ (some 61) _ = _
                    simp only [Act.put, List.setIfInBounds_toArray, List.set_cons_zero, List.set_cons_succ, i64_w, i32_w]
                    rfl
                  refine pure_ (i := 22) (N := some 62) (v := ?_) (a' := ?_) #[true, true, true, true, true, true, true, true, true, true, true, true, true, true, true, true, true, true, true, true, true, true, true, false, false, false, false, false, false] rfl rfl (any_of HT_.out (by kernel_rfl)) (fun _ _ _ h => h) (Or.inl ⟨by rfl, ?_⟩) ?_ ?_
                  rotate_left
                  · intro w'
                    go_simp
                    with_reducible rfl
                  rotate_left
                  · simp only [Act.put, List.setIfInBounds_toArray, List.set_cons_zero, List.set_cons_succ, i64_w, i32_w]
                    rfl
                  refine pure_ (i := 23) (N := some 63) (v := ?_) (a' := ?_) #[true, true, true, true, true, true, true, true, true, true, true, true, true, true, true, true, true, true, true, true, true, true, true, true, false, false, false, false, false] rfl rfl (any_of HT_.out (by kernel_rfl)) (fun _ _ _ h => h) (Or.inl ⟨by rfl, ?_⟩) ?_ ?_
                  rotate_left
                  · intro w'
                    go_simp
                    with_reducible rfl
                  rotate_left
                  · simp only [Act.put, List.setIfInBounds_toArray, List.set_cons_zero, List.set_cons_succ, i64_w, i32_w]
                    rfl
                  refine pure_ (i := 24) (N := some 64) (v := ?_) (a' := ?_) #[true, true, true, true, true, true, true, true, true, true, true, true, true, true, true, true, true, true, true, true, true, true, true, true, true, false, false, false, false] rfl rfl (any_of HT_.out (by kernel_rfl)) (fun _ _ _ h => h) (Or.inl ⟨by rfl, ?_⟩) ?_ ?_
                  rotate_left
                  · intro w'
                    go_simp
                    with_reducible rfl
                  rotate_left
                  · simp only [Act.put, List.setIfInBounds_toArray, List.set_cons_zero, List.set_cons_succ, i64_w, i32_w]
                    rfl
                  refine pure_ (i := 25) (N := some 65) (v := ?_) (a' := ?_) #[true, true, true, true, true, true, true, true, true, true, true, true, true, true, true, true, true, true, true, true, true, true, true, true, true, true, false, false, false] rfl rfl (any_of HT_.out (by kernel_rfl)) (fun _ _ _ h => h) (Or.inl ⟨by rfl, ?_⟩) ?_ ?_
                  rotate_left
                  · intro w'
                    go_simp
                    with_reducible rfl
                  rotate_left
                  · simp only [Act.put, List.setIfInBounds_toArray, List.set_cons_zero, List.set_cons_succ, i64_w, i32_w]
                    rfl
                  refine pure_ (i := 26) (N := some 66) (v := ?_) (a' := ?_) #[true, true, true, true, true, true, true, true, true, true, true, true, true, true, true, true, true, true, true, true, true, true, true, true, true, true, true, false, false] rfl rfl (any_of HT_.out (by kernel_rfl)) (fun _ _ _ h => h) (Or.inl ⟨by rfl, ?_⟩) ?_ ?_
                  rotate_left
                  · intro w'
                    go_simp
                    with_reducible rfl
                  rotate_left
                  · simp only [Act.put, List.setIfInBounds_toArray, List.set_cons_zero, List.set_cons_succ, i64_w, i32_w]
                    rfl
                  refine pure_ (i := 27) (N := some 67) (v := ?_) (a' := ?_) #[true, true, true, true, true, true, true, true, true, true, true, true, true, true, true, true, true, true, true, true, true, true, true, true, true, true, true, true, false] rfl rfl (any_of HT_.out (by kernel_rfl)) (fun _ _ _ h => h) (Or.inl ⟨by rfl, ?_⟩) ?_ ?_
                  rotate_left
                  · intro w'
                    go_simp
                    with_reducible rfl
                  rotate_left
                  · simp only [Act.put, List.setIfInBounds_toArray, List.set_cons_zero, List.set_cons_succ, i64_w, i32_w]
                    rfl
                  refine pure_ (i := 28) (N := some 4) (v := ?_) (a' := ?_) #[true, true, true, true, true, true, true, true, true, true, true, true, true, true, true, true, true, true, true, true, true, true, true, true, true, true, true, true, true] rfl rfl (any_of HT_.out (by kernel_rfl)) (fun _ _ _ h => h) (Or.inl ⟨by rfl, ?_⟩) ?_ ?_
                  rotate_left
                  · intro w'
                    go_simp
                    with_reducible rfl
                  rotate_left
                  · simp only [Act.put, List.setIfInBounds_toArray, List.set_cons_zero, List.set_cons_succ, i64_w, i32_w]
                    rfl
                  refine done_ (done_of HT_.out (by kernel_rfl)) ?_
                  try go_wp2
                  go_ret
                  exact ⟨by first | rfl | (simp [errW_none, errW_some] <;> rfl) | (simp [*, errW_none, errW_some] <;> rfl), by repeat (first | (with_reducible first | exact HB.out | apply below_alloc | apply pw_below_drewN | apply below_drew1 | refine below_set ?_ GE184.out | refine below_set ?_ GE201.out | refine below_set ?_ GE213.out) | exact HB.out)⟩
                · replace c24 := Bool.eq_false_iff.mpr c24
                  subst c24
                  have H1 : (some false) = some r := by rw [if_neg (show ¬ (false = true) by decide)] at H; exact H
                  exact absurd (H1.trans (congrArg some HRT.out)) (by decide)
              · rw [if_neg c22] at H
                exact absurd (H.trans (congrArg some HRT.out)) (by decide)
            · rw [if_neg c21] at H
              exact absurd (H.trans (congrArg some HRT.out)) (by decide)
          · rw [if_neg c20] at H
            exact absurd (H.trans (congrArg some HRT.out)) (by decide)
        · replace c17 := Bool.eq_false_iff.mpr c17
          subst c17
          have H1 : (some false) = some r := by rw [if_neg (show ¬ (false = true) by decide)] at H; exact H
          exact absurd (H1.trans (congrArg some HRT.out)) (by decide)

end Go.Proofs.Ytfejidinfcmfjaa.P
/-
  A message's bytes: what is put is got, whatever stands behind; what is got is put.
-/
namespace Go.Proofs.Ytfejidinfcmfjaa.MS
open Go.RowKit Go.Proofs Go.Proofs.CodecPlain Go.Proofs.YtfejidinfcmfjaaW.PrintWords Go.Proofs.YtfejidinfcmfjaaW.PrintLast Go.Proofs.Ytfejidinfcmfjaa.P

def InN (n : Int) : Prop := 0 ≤ n ∧ n ≤ 4294967295
theorem cat_cons (n : Int) (ns : List Int) : catStr ((n :: ns).map numStr) = numStr n ++ catStr (ns.map numStr) := rfl
theorem getNs_put : ∀ (ns : List Int) (_ : ∀ n ∈ ns, InN n) (rest : ByteArray), getNs ns.length (catStr (ns.map numStr) ++ rest) = (ns, rest, true)
  | [], _, rest => by
    show ([], ByteArray.empty ++ rest, true) = _
    rw [ByteArray.empty_append]
  | n :: ns, h, rest => by
    have hn := h n List.mem_cons_self
    have ih := getNs_put ns (fun m hm => h m (List.mem_cons_of_mem _ hm)) rest
    rw [cat_cons, ByteArray.append_assoc]
    simp only [List.length_cons, getNs]
    rw [getNum_put n hn.1 hn.2, if_pos rfl, ih]
theorem getNs_got : ∀ (k : Nat) (s : ByteArray) (ns : List Int) (rest : ByteArray), getNs k s = (ns, rest, true) → ns.length = k ∧ (∀ n ∈ ns, InN n) ∧ s = catStr (ns.map numStr) ++ rest
  | 0, s, ns, rest, h => by
    simp only [getNs, Prod.mk.injEq] at h
    obtain ⟨rfl, rfl, _⟩ := h
    refine ⟨rfl, by simp, ?_⟩
    show s = ByteArray.empty ++ s
    rw [ByteArray.empty_append]
  | k + 1, s, ns, rest, h => by
    simp only [getNs] at h
    obtain ⟨n, r, ok, hg⟩ : ∃ n r ok, getNum s = (n, r, ok) := ⟨_, _, _, rfl⟩
    rw [hg] at h
    cases ok
    · rw [if_neg (show ¬ (false = true) by decide)] at h
      simp only [Prod.mk.injEq] at h
      cases h.2.2
    · rw [if_pos rfl] at h
      simp only [Prod.mk.injEq] at h
      obtain ⟨rfl, h2, h3⟩ := h
      obtain ⟨e1, e2, e3⟩ := getNs_got k r (getNs k r).1 rest (by rw [← h2, ← h3])
      obtain ⟨g1, g2, g3⟩ := getNum_got hg
      refine ⟨by simp [e1], fun m hm => ?_, ?_⟩
      · rcases List.mem_cons.1 hm with rfl | hm
        · exact ⟨g1, g2⟩
        · exact e2 m hm
      · rw [cat_cons, ByteArray.append_assoc, ← e3]; exact g3
theorem msg_parts (n0 n1 n2 n3 n4 n5 n6 : Int) (l : List ByteArray) (h : isB n0 n1 n2 n3 n4 n5 n6 l = true) (rest : ByteArray) :
    getNs 7 (msgStr n0 n1 n2 n3 n4 n5 n6 l ++ rest) = ([n0, n1, n2, n3, n4, n5, n6], rowStr l ++ rest, true) ∧ getRow (rowStr l ++ rest) = (l, rest, true) := by
  obtain ⟨b0, b1, b2, b3, b4, b5, b6, hl, hsz⟩ := isB_bd h
  refine ⟨?_, getRow_put l (by omega) (fun t ht => by have := hsz t ht; omega) rest⟩
  unfold msgStr
  rw [ByteArray.append_assoc]
  exact getNs_put [n0, n1, n2, n3, n4, n5, n6] (by
    intro n hn
    simp only [List.mem_cons, List.not_mem_nil, or_false] at hn
    rcases hn with rfl | rfl | rfl | rfl | rfl | rfl | rfl <;> assumption) _
theorem app_nil (s : ByteArray) : s ++ (⟨#[]⟩ : ByteArray) = s := ByteArray.append_empty
theorem getM_put (n0 n1 n2 n3 n4 n5 n6 : Int) (l : List ByteArray) (h : isB n0 n1 n2 n3 n4 n5 n6 l = true) : getM (getNs 7 (msgStr n0 n1 n2 n3 n4 n5 n6 l)) = (n0, n1, n2, n3, n4, n5, n6, l, 0) := by
  obtain ⟨h1, h2⟩ := msg_parts n0 n1 n2 n3 n4 n5 n6 l h ⟨#[]⟩
  rw [app_nil] at h1
  rw [h1]
  unfold getM
  simp only [h2]
  rw [if_pos ⟨trivial, trivial, h⟩]
theorem getM_got (s : ByteArray) : getM (getNs 7 s) = (0, 0, 0, 0, 0, 0, 0, [], 30) ∨ ∃ n0 n1 n2 n3 n4 n5 n6 l, getM (getNs 7 s) = (n0, n1, n2, n3, n4, n5, n6, l, 0) ∧ isB n0 n1 n2 n3 n4 n5 n6 l = true ∧ msgStr n0 n1 n2 n3 n4 n5 n6 l = s := by
  obtain ⟨ns, rest, ok, hg⟩ : ∃ ns rest ok, getNs 7 s = (ns, rest, ok) := ⟨_, _, _, rfl⟩
  cases ok
  · exact .inl (getM_no (by rw [hg]))
  · obtain ⟨e1, _, e3⟩ := getNs_got 7 s ns rest hg
    obtain ⟨n0, n1, n2, n3, n4, n5, n6, rfl⟩ : ∃ n0 n1 n2 n3 n4 n5 n6, ns = [n0, n1, n2, n3, n4, n5, n6] := by
      match ns, e1 with
      | [n0, n1, n2, n3, n4, n5, n6], _ => exact ⟨_, _, _, _, _, _, _, rfl⟩
    obtain ⟨l, r, ok, hr⟩ : ∃ l r ok, getRow rest = (l, r, ok) := ⟨_, _, _, rfl⟩
    have hm : getM (getNs 7 s) = if ok = true ∧ r = ⟨#[]⟩ ∧ isB n0 n1 n2 n3 n4 n5 n6 l = true then (n0, n1, n2, n3, n4, n5, n6, l, 0) else (0, 0, 0, 0, 0, 0, 0, [], 30) := by
      rw [hg]; unfold getM; simp only [hr]
    by_cases hc : ok = true ∧ r = ⟨#[]⟩ ∧ isB n0 n1 n2 n3 n4 n5 n6 l = true
    · rw [if_pos hc] at hm
      obtain ⟨rfl, rfl, hi⟩ := hc
      obtain ⟨_, _, hrow⟩ := getRow_got hr
      rw [app_nil] at hrow
      exact .inr ⟨_, _, _, _, _, _, _, _, hm, hi, by unfold msgStr; rw [← hrow]; exact e3.symm⟩
    · rw [if_neg hc] at hm
      exact .inl hm
theorem put_f (n0 n1 n2 n3 n4 n5 n6 : Int) (l : List ByteArray) : msg_Put.f n0 n1 n2 n3 n4 n5 n6 l = some (if isB n0 n1 n2 n3 n4 n5 n6 l = true then (msgStr n0 n1 n2 n3 n4 n5 n6 l, 0) else (⟨#[]⟩, 1)) := by
  unfold msg_Put.f
  split <;> rfl
theorem get_f (s : ByteArray) : msg_Get.f s = some (getM (getNs 7 s)) := rfl
theorem same_ev (a0 a1 a2 a3 a4 a5 a6 : Int) (l : List ByteArray) (b0 b1 b2 b3 b4 b5 b6 : Int) (m : List ByteArray) (hl : l.length ≤ 100000) :
    Ev (fun k => sextonref23_Same.f k a0 a1 a2 a3 a4 a5 a6 l b0 b1 b2 b3 b4 b5 b6 m) (decide (a0 = b0 ∧ a1 = b1 ∧ a2 = b2 ∧ a3 = b3 ∧ a4 = b4 ∧ a5 = b5 ∧ a6 = b6 ∧ l = m)) := by
  obtain ⟨K, e⟩ := refTexts l m (by omega)
  simp only at e
  refine ⟨K, fun k hk => ?_⟩
  show sextonref23_Same.f k a0 a1 a2 a3 a4 a5 a6 l b0 b1 b2 b3 b4 b5 b6 m = _
  unfold sextonref23_Same.f
  rw [e k hk]
  by_cases h0 : a0 = b0
  · by_cases h1 : a1 = b1
    · by_cases h2 : a2 = b2
      · by_cases h3 : a3 = b3
        · by_cases h4 : a4 = b4
          · by_cases h5 : a5 = b5
            · by_cases h6 : a6 = b6
              · simp [h0, h1, h2, h3, h4, h5, h6]
              · simp [h6]
            · simp [h5]
          · simp [h4]
        · simp [h3]
      · simp [h2]
    · simp [h1]
  · simp [h0]
/-- Big answers for every message; where it says no there are at most 80 texts. -/
theorem big_f (n0 n1 n2 n3 n4 n5 n6 : Int) (l : List ByteArray) : ∃ r, (∀ k, 200 < k → sextonref23_Big.f k n0 n1 n2 n3 n4 n5 n6 l = some r) ∧ (r = false → l.length ≤ 80) := by
  unfold sextonref23_Big.f
  by_cases h80 : l.length ≤ 80
  · have : ∀ i : Nat, i ≤ l.length → ∃ r, ∀ k, 2 * (l.length - i) + 2 < k → sextonref23_Big.l0 k (i : Int) n0 n1 n2 n3 n4 n5 n6 l = some r := by
      intro i
      induction hd : l.length - i generalizing i with
      | zero =>
        intro hi
        refine ⟨decide ((l.length : Int) > 80), fun k hk => ?_⟩
        obtain ⟨k, rfl⟩ : ∃ m, k = m + 2 := ⟨k - 2, by omega⟩
        simp only [sextonref23_Big.l0]
        rw [if_neg (by omega)]
        simp only [sextonref23_Big.j1]
        rw [if_neg (by decide)]
      | succ d ih =>
        intro hi
        obtain ⟨r, hr⟩ := ih (i + 1) (by omega) (by omega)
        have step : ∀ k, 2 * (d + 1) + 2 < k → sextonref23_Big.l0 k (i : Int) n0 n1 n2 n3 n4 n5 n6 l = if ((rdOf ByteArray.empty l (i : Int)).size : Int) > 400 then some true else some r := by
          intro k hk
          obtain ⟨k, rfl⟩ : ∃ m, k = m + 2 := ⟨k - 2, by omega⟩
          simp only [sextonref23_Big.l0]
          rw [if_pos (by omega), decide_eq_true (by omega)]
          simp only [sextonref23_Big.j1]
          rw [if_pos trivial, if_pos (by omega), if_pos (by omega), show wrap64 ((i : Int) + 1) = ((i + 1 : Nat) : Int) by unfold wrap64; omega, hr k (by omega)]
        by_cases h1 : ((rdOf ByteArray.empty l (i : Int)).size : Int) > 400
        · exact ⟨true, fun k hk => by rw [step k hk, if_pos h1]⟩
        · exact ⟨r, fun k hk => by rw [step k hk, if_neg h1]⟩
    obtain ⟨r, hr⟩ := this 0 (by omega)
    exact ⟨r, fun k hk => hr k (by omega), fun _ => h80⟩
  · refine ⟨true, fun k hk => ?_, fun h => by cases h⟩
    obtain ⟨k, rfl⟩ : ∃ m, k = m + 2 := ⟨k - 2, by omega⟩
    simp only [sextonref23_Big.l0]
    rw [if_pos (by omega), decide_eq_false (by omega)]
    simp only [sextonref23_Big.j1]
    rw [if_neg (by decide), decide_eq_true (by omega)]
end Go.Proofs.Ytfejidinfcmfjaa.MS
/-
  What sextonref23.Put answers, told plainly.
-/
namespace Go.Proofs.Ytfejidinfcmfjaa.P
open Go.RowKit Go.Proofs Go.Proofs.CodecPlain Go.Proofs.YtfejidinfcmfjaaW.PrintWords Go.Proofs.YtfejidinfcmfjaaW.PrintLast Go.Proofs.Ytfejidinfcmfjaa.MS

theorem refPut_l0 (ns : List Int) (hn : ns.length = 7) (hin : ∀ n ∈ ns, 0 ≤ n ∧ n ≤ 4294967295) (l : List ByteArray) (row : ByteArray) (hrow : Ev (fun k => sextonref01_Row.f k l) (row, 0)) (hrs : row.size ≤ 1000000000) (n0 n1 n2 n3 n4 n5 n6 : Int) (d : Nat) : ∀ (i : Nat) (acc : ByteArray), i + d = 7 → acc.size ≤ 100 * i →
    Ev (fun k => sextonref23_Put.l0 k ns acc (i : Int) n0 n1 n2 n3 n4 n5 n6 l) (acc ++ catStr ((ns.drop i).map numStr) ++ row, 0) := by
  induction d with
  | zero =>
    intro i acc hi hs
    obtain ⟨K, e⟩ := hrow
    simp only at e
    refine ⟨K + 1, fun k hk => ?_⟩
    obtain ⟨k, rfl⟩ : ∃ m, k = m + 1 := ⟨k - 1, by omega⟩
    simp only [sextonref23_Put.l0]
    rw [if_neg (by omega), e k (by omega), Option.bind_some, if_pos (by show acc.size + row.size ≤ _; omega), List.drop_of_length_le (by omega)]
    show some (acc ++ row, 0) = some (acc ++ (⟨#[]⟩ : ByteArray) ++ row, 0)
    rw [app_nil]
  | succ d ih =>
    intro i acc hi hs
    have hlt : i < ns.length := by omega
    have hd : ns.drop i = ns[i] :: ns.drop (i + 1) := List.drop_eq_getElem_cons hlt
    have hb := hin ns[i] (List.getElem_mem hlt)
    obtain ⟨K, e⟩ := refNumber ns[i]
    simp only at e
    rw [if_pos hb] at e
    have hz : (numStr ns[i]).size ≤ 100 := by have := (numStr_size ns[i]).2; omega
    obtain ⟨K2, e2⟩ := ih (i + 1) (acc ++ numStr ns[i]) (by omega) (by rw [ByteArray.size_append]; omega)
    refine ⟨max K K2 + 1, fun k hk => ?_⟩
    obtain ⟨k, rfl⟩ : ∃ m, k = m + 1 := ⟨k - 1, by omega⟩
    simp only [sextonref23_Put.l0]
    rw [if_pos (by omega), if_pos (by omega), show rd ns (i : Int) = ns[i] by simp [rd, rdOf, hlt], e k (by omega), Option.bind_some, if_pos (by show acc.size + (numStr ns[i]).size ≤ _; omega), wrap_id (by omega) (by omega)]
    rw [hd, cat_cons, ← ByteArray.append_assoc]
    exact e2 k (by omega)
theorem refPut (n0 n1 n2 n3 n4 n5 n6 : Int) (l : List ByteArray) (hl : l.length ≤ 100000) : ∃ K, ∀ k, K ≤ k → sextonref23_Put.f k n0 n1 n2 n3 n4 n5 n6 l = some (if isB n0 n1 n2 n3 n4 n5 n6 l = true then (msgStr n0 n1 n2 n3 n4 n5 n6 l, 0) else (⟨#[]⟩, 1)) := by
  obtain ⟨K, e⟩ := refIs n0 n1 n2 n3 n4 n5 n6 l hl
  cases hb : isB n0 n1 n2 n3 n4 n5 n6 l
  · refine ⟨K, fun k hk => ?_⟩
    unfold sextonref23_Put.f
    rw [e k hk, Option.bind_some, hb, if_neg (by decide), if_neg (by decide)]
  · obtain ⟨b0, b1, b2, b3, b4, b5, b6, h60, h300⟩ := isB_bd hb
    have hall : l.all (fun s => decide (s.size ≤ 4000)) = true := by
      rw [List.all_eq_true]
      intro s hs
      have := h300 s hs
      exact decide_eq_true (by omega)
    have hr := refRow l
    rw [if_neg (by omega), if_pos hall] at hr
    have hs := row_size l h60 h300
    obtain ⟨K2, e2⟩ := refPut_l0 [n0, n1, n2, n3, n4, n5, n6] rfl (by intro n hn; simp only [List.mem_cons, List.not_mem_nil, or_false] at hn; rcases hn with rfl | rfl | rfl | rfl | rfl | rfl | rfl <;> assumption) l (rowStr l) hr (by omega) n0 n1 n2 n3 n4 n5 n6 7 0 ⟨#[]⟩ rfl (Nat.le_refl 0)
    simp only at e2
    refine ⟨max K K2, fun k hk => ?_⟩
    unfold sextonref23_Put.f
    rw [e k (by omega), Option.bind_some, hb, if_pos rfl, if_pos rfl]
    refine (e2 k (by omega)).trans ?_
    rw [List.drop_zero, show (⟨#[]⟩ : ByteArray) ++ catStr ([n0, n1, n2, n3, n4, n5, n6].map numStr) = catStr ([n0, n1, n2, n3, n4, n5, n6].map numStr) from ByteArray.empty_append]
    rfl
end Go.Proofs.Ytfejidinfcmfjaa.P
/-
  What can be read as data reads as a value of its kind: kind by kind, for the rows of the statements.
-/
namespace Go.Proofs.Ytfejidinfcmfjaa.Opens
open Go.ChangeShapes Go.WideShapes Go.ChangeAt Go.RowKit Go.Proofs.YtfejidinfcmfjaaW.PrintWords

def Opens (P : Program) {α : Type} (kd : Kd α) (ok : α → Prop) (t : TypeId) : Prop :=
  ∀ {H : Type} (enc : TypeId × Value → H) (W : World) (base : Nat) (spare : Nat → Bool) (held : Bool) (fuel : Nat) (cs : List Value) (x : DataW H × List MemPlace),
    DataW.trod enc P W base spare held fuel t cs = some x → ∃ a, kd.K W a cs ∧ ok a
def OkInt (k : IntKind) (n : Int) : Prop := (Lit.int k n).wf = true
def OkStr (s : ByteArray) : Prop := s.size ≤ maxLen
def OkList {α : Type} (ok : α → Prop) (l : List α) : Prop := l.length ≤ maxLen ∧ ∀ a ∈ l, ok a
def OkTrue {α : Type} (_ : α) : Prop := True
def OkPair {α β : Type} (p : α → Prop) (q : β → Prop) (x : α × β) : Prop := p x.1 ∧ q x.2

section
variable {P : Program} {t e : TypeId}
theorem opens_int {k : IntKind} (ht : P.underlying t = some (.int k)) : Opens P (Kd.int k) (OkInt k) t := by
  intro H enc W base spare held fuel cs x h
  obtain ⟨n, rfl, _, hw⟩ := DataW.trod_int ht h
  exact ⟨n, rfl, hw⟩
theorem opens_bool (ht : P.underlying t = some .bool) : Opens P Kd.bool OkTrue t := by
  intro H enc W base spare held fuel cs x h
  obtain ⟨b, rfl, _⟩ := DataW.trod_bool ht h
  exact ⟨b, rfl, trivial⟩
theorem opens_string (ht : P.underlying t = some .string) : Opens P Kd.string OkStr t := by
  intro H enc W base spare held fuel cs x h
  obtain ⟨s, rfl, _, hs⟩ := DataW.trod_string ht h
  exact ⟨s, rfl, hs⟩
theorem addr_add (a : Addr) (x i : Nat) : a.add (x + i) = (a.add x).add i := by
  unfold Addr.add
  by_cases h1 : x = 0 <;> by_cases h2 : i = 0 <;> simp [h1, h2, Nat.add_assoc]
theorem opens_slice {α : Type} {kd : Kd α} {ok : α → Prop} (ht : P.underlying t = some (.slice e)) (hc : P.cellsOf e = kd.sz) (he : Opens P kd ok e) : Opens P (Kd.slice e kd) (OkList ok) t := by
  intro H enc W base spare held fuel cs x h
  rcases DataW.trod_slice ht h with ⟨rfl, _⟩ | ⟨a, len, cap, elems, rest, n, _, rfl, _, hb, hl, hm, hlen, hel, _, _⟩
  · exact ⟨[], ⟨none, 0, rfl, Nat.le_refl _, rfl, by simp, fun h0 => absurd h0 (Nat.lt_irrefl 0)⟩, by simp [maxLen], by simp⟩
  · have each : ∀ i, i < len → ∃ (y : α) (c : List Value), c.length = kd.sz ∧ kd.K W y c ∧ ok y ∧ ∀ j u, c[j]? = some u → W.cell? ((a.add (i * kd.sz)).add j) = some u := by
      intro i hi
      have h1 := hel i hi
      rw [hc, List.getElem?_eq_getElem (by omega), Option.bind_eq_some_iff] at h1
      obtain ⟨c, hcs, hy⟩ := h1
      obtain ⟨y, hK, hok⟩ := he enc W base spare held n c _ hy
      obtain ⟨_, hcl, hcell⟩ := World.cells?_some hcs
      refine ⟨y, c, kd.K_len hK, hK, hok, fun j u hj => ?_⟩
      have hjl : j < kd.sz := by have := (List.getElem?_eq_some_iff.1 hj).1; rw [kd.K_len hK] at this; exact this
      rw [hcell j hjl, hj]
    have pick : ∃ l : List α, l.length = len ∧ ∀ i y, l[i]? = some y → ∃ c : List Value, c.length = kd.sz ∧ kd.K W y c ∧ ok y ∧ ∀ j u, c[j]? = some u → W.cell? ((a.add (i * kd.sz)).add j) = some u := by
      have key : ∀ m, m ≤ len → ∃ l : List α, l.length = m ∧ ∀ i y, l[i]? = some y → ∃ c : List Value, c.length = kd.sz ∧ kd.K W y c ∧ ok y ∧ ∀ j u, c[j]? = some u → W.cell? ((a.add (i * kd.sz)).add j) = some u := by
        intro m
        induction m with
        | zero => intro _; exact ⟨[], rfl, fun i y h => by simp at h⟩
        | succ m ih =>
          intro hm
          obtain ⟨l, hl1, hl2⟩ := ih (by omega)
          obtain ⟨y, c, h1, h2, h3, h4⟩ := each m (by omega)
          refine ⟨l ++ [y], by simp [hl1], fun i z hz => ?_⟩
          rcases Nat.lt_or_ge i l.length with hi | hi
          · rw [List.getElem?_append_left hi] at hz
            exact hl2 i z hz
          · have : i = l.length := by
              have := (List.getElem?_eq_some_iff.1 hz).1
              rw [List.length_append, List.length_singleton] at this
              omega
            subst this
            have hz' : y = z := by simpa using hz
            subst hz'
            exact ⟨c, h1, h2, h3, by rw [hl1]; exact h4⟩
      exact key len (Nat.le_refl _)
    obtain ⟨l, hl1, hl2⟩ := pick
    subst hl1
    refine ⟨l, ⟨some a, cap, rfl, hl, rfl, by unfold maxLen at hm; omega, fun _ => ⟨a, rfl, fun j p hj => ?_⟩⟩, by omega, fun y hy => ?_⟩
    · obtain ⟨c, h1, h2, _, h4⟩ := hl2 j p hj
      refine ⟨c, h1, h2, fun i u hu => ?_⟩
      rw [← h4 i u hu, addr_add]
    · obtain ⟨i, hi⟩ := List.getElem?_of_mem hy
      obtain ⟨_, _, _, h3, _⟩ := hl2 i y hi
      exact h3

/-- The same of fields in line, from one place of the cells on. -/
def OpensF (P : Program) {α : Type} (kd : Kd α) (ok : α → Prop) (fs : List Field) (off len : Nat) : Prop :=
  ∀ {H : Type} (enc : TypeId × Value → H) (W : World) (base : Nat) (spare : Nat → Bool) (held : Bool) (n : Nat) (cs : List Value),
    (∀ f ∈ fs, ∃ y, DataW.trod enc P W base spare held n f.type ((cs.drop f.offset).take (P.cellsOf f.type)) = some y) → off + len ≤ cs.length → ∃ a, kd.K W a ((cs.drop off).take len) ∧ ok a
theorem opensF_one {α : Type} {kd : Kd α} {ok : α → Prop} {f : Field} {t off len : Nat} (h : Opens P kd ok t) (ht : f.type = t) (ho : f.offset = off) (hl : P.cellsOf t = len) : OpensF P kd ok [f] off len := by
  intro H enc W base spare held n cs hf _
  obtain ⟨y, hy⟩ := hf f List.mem_cons_self
  subst ht ho hl
  exact h enc W base spare held n _ y hy
theorem opensF_pair {α β : Type} {kd : Kd α} {kd' : Kd β} {ok : α → Prop} {ok' : β → Prop} {f : Field} {fs : List Field} {t off len len' : Nat} (h : Opens P kd ok t) (ht : f.type = t) (ho : f.offset = off) (hl : P.cellsOf t = len)
    (h' : OpensF P kd' ok' fs (off + len) len') : OpensF P (Kd.pair kd kd') (OkPair ok ok') (f :: fs) off (len + len') := by
  intro H enc W base spare held n cs hf hle
  obtain ⟨y, hy⟩ := hf f List.mem_cons_self
  subst ht ho hl
  obtain ⟨a, ha, hoka⟩ := h enc W base spare held n _ y hy
  obtain ⟨b, hb, hokb⟩ := h' enc W base spare held n cs (fun g hg => hf g (List.mem_cons_of_mem _ hg)) (by omega)
  refine ⟨(a, b), ⟨_, _, ?_, ha, hb⟩, hoka, hokb⟩
  rw [List.take_add, List.drop_drop]
theorem opens_struct {α β : Type} {kd : Kd α} {ok : α → Prop} {fs : Array Field} {len : Nat} (ht : P.underlying t = some (.struct fs)) (hc : P.cellsOf t = len) (h : OpensF P kd ok fs.toList 0 len) (f : β → α) (g : α → β) (hg : ∀ a, f (g a) = a) :
    Opens P (Kd.iso kd f) (fun b => ok (f b)) t := by
  intro H enc W base spare held fuel cs x hx
  obtain ⟨xs, n, _, _, hl, hlen, hf⟩ := DataW.trod_struct ht hx
  obtain ⟨a, ha, hok⟩ := h enc W base spare held n cs (fun fd hfd => by
    obtain ⟨i, hi⟩ := List.getElem?_of_mem hfd
    have h1 := hf i fd (by simpa using hi)
    have hi2 : i < xs.length := by
      have := (List.getElem?_eq_some_iff.1 hi).1
      rw [hlen]; simpa using this
    rw [List.getElem?_eq_getElem hi2] at h1
    exact ⟨_, h1⟩) (by omega)
  refine ⟨g a, ?_, by show ok (f (g a)); rw [hg]; exact hok⟩
  show kd.K W (f (g a)) cs
  rw [hg]
  have : (cs.drop 0).take len = cs := by rw [List.drop_zero]; exact List.take_of_length_le (by omega)
  rw [this] at ha
  exact ha
theorem opens_struct_id {α : Type} {kd : Kd α} {ok : α → Prop} {fs : Array Field} {len : Nat} (ht : P.underlying t = some (.struct fs)) (hc : P.cellsOf t = len) (h : OpensF P kd ok fs.toList 0 len) : Opens P kd ok t :=
  opens_struct ht hc h id id (fun _ => rfl)

/-! ### a parameter, opened -/
variable {H : Type} {enc : TypeId × Value → H} {W : World} {base : Nat} {spare : Nat → Bool} {held : Bool} {r : Reach} {b0 : Nat} {v : Value} {d : DataW H} {ps : List MemPlace}
theorem param_slice {α : Type} {kd : Kd α} {ok : List α → Prop} (ht : P.underlying t = some (.slice e)) (h : Opens P (Kd.slice e kd) ok t) (hval : Value.okWide P W r b0 t v) (hd : DataW.Trod enc P W base spare held t v d ps) :
    ∃ A c l, v = .slice A l.length c ∧ l.length ≤ c ∧ Kd.C kd W A l.length l ∧ ok l := by
  obtain ⟨a, len, cap, rfl⟩ := okWide_slice ht hval
  obtain ⟨fuel, hf⟩ := hd
  obtain ⟨l, ⟨A, c, hcs, hl, hC⟩, hok⟩ := h enc W base spare held fuel _ _ hf
  have : Value.slice a len cap = Value.slice A l.length c := by simpa [Value.cells] using hcs
  exact ⟨A, c, l, this, hl, hC, hok⟩
theorem param_struct {α : Type} {kd : Kd α} {ok : α → Prop} {fs : Array Field} (ht : P.underlying t = some (.struct fs)) (h : Opens P kd ok t) (hval : Value.okWide P W r b0 t v) (hd : DataW.Trod enc P W base spare held t v d ps) :
    ∃ cs a, v = .agg cs ∧ kd.K W a cs.toList ∧ ok a := by
  obtain ⟨cs, rfl, hsz⟩ := okWide_struct ht hval
  obtain ⟨fuel, hf⟩ := hd
  obtain ⟨a, hK, hok⟩ := h enc W base spare held fuel _ _ hf
  exact ⟨cs, a, rfl, hK, hok⟩
theorem agg_eq {cs : Array Value} {l : List Value} (h : cs.toList = l) : cs = l.toArray := by rw [← h]
end
end Go.Proofs.Ytfejidinfcmfjaa.Opens
/-
  The plain statement of MsgBytes.
-/
namespace Go.Proofs.Ytfejidinfcmfjaa.Pure
open Go.RowKit Go.Proofs Go.Proofs.CodecPlain Go.Proofs.YtfejidinfcmfjaaW.PrintWords Go.Proofs.YtfejidinfcmfjaaW.PrintLast Go.Proofs.Ytfejidinfcmfjaa.P Go.Proofs.Ytfejidinfcmfjaa.MS Go.Proofs.Ytfejidinfcmfjaa.Opens

theorem MsgBytes (a0_0 a0_1 a0_2 a0_3 a0_4 a0_5 a0_6 : Int) (l0_7 : List ByteArray) (a1 : ByteArray) {okp : Prop} (h0 : okp) (h1 : OkStr a1) : ∃ k, sextonlaw23_MsgBytes.f k a0_0 a0_1 a0_2 a0_3 a0_4 a0_5 a0_6 l0_7 a1 = some true := by
  obtain ⟨r, hb, h80⟩ := big_f a0_0 a0_1 a0_2 a0_3 a0_4 a0_5 a0_6 l0_7
  have out : ∀ k, sextonlaw23_MsgBytes.j0 (k + 1) a1 true a0_0 a0_1 a0_2 a0_3 a0_4 a0_5 a0_6 l0_7 = some true := fun k => by
    simp only [sextonlaw23_MsgBytes.j0]
    rw [if_pos trivial]
  cases r with
  | true =>
    refine ⟨300, ?_⟩
    unfold sextonlaw23_MsgBytes.f
    rw [hb 300 (by omega), Option.bind_some, if_pos rfl]
    exact out 299
  | false =>
    have hl := h80 rfl
    by_cases hs : (a1.size : Int) > 800
    · refine ⟨300, ?_⟩
      unfold sextonlaw23_MsgBytes.f
      rw [hb 300 (by omega), Option.bind_some, if_neg (by decide), decide_eq_true hs]
      exact out 299
    · obtain ⟨K1, e1⟩ := refPut a0_0 a0_1 a0_2 a0_3 a0_4 a0_5 a0_6 l0_7 (by omega)
      obtain ⟨K2, e2⟩ := refIs a0_0 a0_1 a0_2 a0_3 a0_4 a0_5 a0_6 l0_7 (by omega)
      obtain ⟨g0, g1, g2, g3, g4, g5, g6, lg, eg, hg, hlg⟩ : ∃ g0 g1 g2 g3 g4 g5 g6 lg eg, getM (getNs 7 a1) = (g0, g1, g2, g3, g4, g5, g6, lg, eg) ∧ lg.length ≤ 100000 := by
        rcases getM_got a1 with h | ⟨n0, n1, n2, n3, n4, n5, n6, l, h, hi, _⟩
        · exact ⟨_, _, _, _, _, _, _, _, _, h, by simp⟩
        · obtain ⟨_, _, _, _, _, _, _, h60, _⟩ := isB_bd hi
          exact ⟨_, _, _, _, _, _, _, _, _, h, by omega⟩
      obtain ⟨K3, e3⟩ := same_ev g0 g1 g2 g3 g4 g5 g6 lg g0 g1 g2 g3 g4 g5 g6 lg hlg
      simp only [and_self, decide_true] at e3
      refine ⟨K1 + K2 + K3 + 300 + 1, ?_⟩
      unfold sextonlaw23_MsgBytes.f
      rw [hb _ (by omega), Option.bind_some, if_neg (by decide), decide_eq_false hs]
      simp only [sextonlaw23_MsgBytes.j0]
      rw [if_neg (by decide), put_f, Option.bind_some, e1 _ (by omega), Option.bind_some, get_f, hg, Option.bind_some]
      simp only [sextonref23_Get.f, hg, sextonlaw23_sent.f]
      rw [Option.bind_some, Option.bind_some, if_pos rfl, msg_is_f, Option.bind_some, e2 _ (by omega), Option.bind_some, if_pos (by simp), if_pos trivial, if_pos trivial, e3 _ (by omega), Option.bind_some, if_pos rfl]
      simp
end Go.Proofs.Ytfejidinfcmfjaa.Pure
