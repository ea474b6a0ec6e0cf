/-
  disk.done, by hand: a disk with those of its writes done that a function value chooses. For every disk and every such function value.
-/
import Derived.Test.YtoibofhmlokglaaHdiskCheck
import Derived.Test.YtoibofhmlokglaaHcopyStr
import Derived.Test.YtoibofhmlokglaaHcloneStr
namespace Go.Proofs.Ytoibofhmlokglaa.P
open Go.RowKit Go.Shelf Go.Proofs.YtoibofhmlokglaaW.PrintWords Go.Proofs.YtoibofhmlokglaaW.PrintLast Go.Proofs.YtoibofhmlokglaaW.PrintMore Go.Proofs.Plain

/-- Blocks behind those writes, from number i on, that p chooses. -/
def applyW (p : Int → Bool) : Nat → List S40 → List ByteArray → List ByteArray
  | _, [], b => b
  | i, x :: l, b => applyW p (i + 1) l (if p (i : Int) = true then b.set x.f0.toNat x.f1 else b)
theorem applyW_snoc (p : Int → Bool) : ∀ (l : List S40) (i : Nat) (x : S40) (b : List ByteArray), applyW p i (l ++ [x]) b = (if p ((i + l.length : Nat) : Int) = true then (applyW p i l b).set x.f0.toNat x.f1 else applyW p i l b)
  | [], i, x, b => by simp [applyW]
  | y :: l, i, x, b => by
    simp only [List.cons_append, applyW, List.length_cons]
    rw [applyW_snoc p l (i + 1) x]
    rw [show i + 1 + l.length = i + (l.length + 1) by omega]
theorem applyW_length (p : Int → Bool) : ∀ (l : List S40) (i : Nat) (b : List ByteArray), (applyW p i l b).length = b.length
  | [], i, b => rfl
  | y :: l, i, b => by
    simp only [applyW]
    rw [applyW_length p l]
    split <;> simp

/-- The function value answers p at every number that is no less than 0, and turns nothing that lies, from w on. -/
def PredI (g : Nat) (lb : Array Value) (p : Int → Bool) (w : World) : Prop :=
  (∀ args w, (callFunc g args).run Try.prog w = .ok (.enter g args) w) ∧
  ∀ (i : Nat) w1, Below w.heap.size w w1 → Calls Try.prog g (#[.int .i64 (i : Int)] ++ lb) w1 fun e w2 => e = .returned (.bool (p i)) ∧ Below w1.heap.size w1 w2

theorem check_len {l0 : List ByteArray} {l1 : List S40} (h : checkB l0 l1 = true) : 1 ≤ l0.length ∧ l0.length ≤ 200 ∧ l1.length ≤ 100 ∧ (∀ s ∈ l0, s.size ≤ 256) ∧ ∀ x ∈ l1, 0 ≤ x.f0 ∧ x.f0 < (l0.length : Int) ∧ x.f1.size ≤ 256 := by
  unfold checkB at h
  simp only [Bool.and_eq_true, decide_eq_true_eq, Bool.not_eq_true'] at h
  obtain ⟨⟨⟨⟨h1, h2⟩, h3⟩, h4⟩, h5⟩ := h
  refine ⟨h1, h2, h3, fun s hs => ?_, fun x hx => ?_⟩
  · have := List.any_eq_false.1 h4 s hs
    unfold longS at this
    simp at this
    exact this
  · have := List.any_eq_false.1 h5 x hx
    unfold oddW longS at this
    simp at this
    exact ⟨this.1.1, this.1.2, this.2⟩

set_option maxHeartbeats 8000000 in
set_option maxRecDepth 100000 in
theorem disk_done_yes (g : Nat) (lb : Array Value) (p : Int → Bool) (A0 : Option Addr) (c0 : Nat) (l0 : List ByteArray) (A1 : Option Addr) (c1 : Nat) (l1 : List S40) (w : World)
    (hr0 : Kd.C Kd.string w A0 l0.length l0) (hc0 : l0.length ≤ c0) (hr1 : Kd.C k40 w A1 l1.length l1) (hc1 : l1.length ≤ c1) (hck : checkB l0 l1 = true) (hp : PredI g lb p w) :
    Calls Try.prog 45 #[.agg #[.slice A0 l0.length c0, .slice A1 l1.length c1], .func (.func g) #[] lb] w fun e w' => ∃ v0 : Value, e = .returned (.tuple #[.agg #[v0, .slice none 0 0], .int .i64 0]) ∧ Kd.R Kd.string 9 w' w.heap.size (fun _ => True) v0 (applyW p 0 l1 l0) ∧ Below w.heap.size w w' := by
  obtain ⟨k1, k2, k3, k4, k5⟩ := check_len hck
  obtain ⟨eg, hpr⟩ := hp
  have HP := Aside0.mk hpr
  have HR0 := Aside0.mk hr0
  have HR1 := Aside0.mk hr1
  have HK5 := Aside0.mk k5
  obtain ⟨D, hD⟩ : ∃ D, D = Obj.cells #[.slice A0 l0.length c0, .slice A1 l1.length c1] 25 := ⟨_, rfl⟩
  have hB2 : Below w.heap.size w ((w.alloc D).alloc (.cells #[.slice none 0 0, .slice none 0 0] 25)) := ((Below.refl _ _).alloc (Nat.le_refl _) _).alloc (by simp) _
  have HB2 := Aside0.mk hB2
  have HC := Aside0.mk (disk_Check.calls A0 c0 l0 A1 c1 l1 true _ (Kd.C_below hr0 hB2) hc0 (Kd.C_below hr1 hB2) hc1 (by unfold disk_Check.f; rw [hck]))
  have hE := blk_new (w.alloc D) (.cells #[.slice none 0 0, .slice none 0 0] 25)
  rw [World.size_alloc] at hE
  have HE := Aside0.mk hE
  have HD := Aside0.mk (blk_alloc (blk_new w D) (.cells #[.slice none 0 0, .slice none 0 0] 25))
  subst hD
  clear hB2 hE hr0 hr1 hck hpr k4 k5
  go_enter Try.func45, Try.ntmps45
  go_wp2_with (first | (go_at_call 24; refine HC.out.mono ?_; rintro e w3 ⟨rfl, hb3⟩; have HE3 := Aside0.mk (blk_below HE.out hb3); have HD3 := Aside0.mk (blk_below HD.out hb3); have d0 := blk_cell HD3.out 0; have d1 := blk_cell HD3.out 1; have HB3 := Aside0.mk (HB2.out.trans (hb3.mono HB2.out.size)); clear hb3) | ((with_reducible refine gate_dst (N := 16) rfl ?_); refine Kd.R_make Kd.string (w0 := w) w.heap.size 9 rfl rfl 22 (.tmp 15) (.tmp 15) rfl (l0.length : Int) rfl rfl Try.underlying22 (.string ⟨#[]⟩) 16 slices_Clone_string_string_info rfl (by decide) (by omega) ⟨#[]⟩ (ok := fun _ => True) (okp := fun _ => False) rfl (fun _ h => h.elim) trivial (by omega) (by omega) HB3.out HB3.out.size ?_; intro v4 w4 ho4 hb4 hg4 _; have HO4 := Aside0.mk ho4; have HB4 := Aside0.mk hb4; have HE4 := Aside0.mk (blk_grown HE3.out hg4 (by simp)); have HD4 := Aside0.mk (blk_grown HD3.out hg4 (by simp)); clear ho4 hb4 hg4 d0 d1; have d0 := blk_cell HD4.out 0; have d1 := blk_cell HD4.out 1) | ((with_reducible refine gate_builtin (b := .copy) (xs := #[.tmp 17, .tmp 19]) rfl ?_); refine copy_strs rfl (.tmp 17) (.tmp 19) rfl v4 rfl A0 l0.length c0 rfl (List.replicate (l0.length : Int).toNat ⟨#[]⟩) l0 HO4.out (Kd.C_below HR0.out HB4.out) (by simp) (by omega) ?_; intro w5 ho5 hg5; have HO5 := Aside0.mk ho5; have HB5 := Aside0.mk (HB4.out.grown hg5 HB4.out.size (fun k e => (Kd.R_bound HO4.out).1 k e |>.2.1)); have HE5 := Aside0.mk (blk_grown HE4.out hg5 (Kd.R_ne HO4.out HE4.out (by decide))); have HD5 := Aside0.mk (blk_grown HD4.out hg5 (Kd.R_ne HO4.out HD4.out (by decide))); clear ho5 hg5 d0 d1; have d0 := blk_cell HD5.out 0; have d1 := blk_cell HD5.out 1))
  clear d0 d1 HC HE HD HE3 HD3 HB3 HE4 HD4 HO4 HB4 HD5 HB2
  obtain ⟨A, c, rfl⟩ := Kd.R_slice HO5.out
  obtain ⟨go, rfl⟩ : ∃ go, A = some ⟨go, 0, none⟩ := by
    obtain ⟨inner, ho⟩ := Kd.R_own HO5.out
    rcases ho.2 with ⟨he, h0⟩ | ⟨g', cap, cur, he, _⟩
    · omega
    · injection he with ha _ _; exact ⟨g', ha⟩
  go_loopw [24] (fun i wr => ∃ k : Nat, k ≤ l1.length ∧ i = .int .i64 k ∧ Aside0 (Kd.R Kd.string 9 wr w.heap.size (fun _ => True) (.slice (some ⟨go, 0, none⟩) l0.length c) (applyW p 0 (l1.take k) l0)) ∧ Aside0 (Below w.heap.size w wr) ∧ Aside0 (wr.heap[w.heap.size + 1]? = some (.cells #[.slice none 0 0, .slice none 0 0] 25 (0, 0))))
    (fun i _ => l1.length - (intOf i).toNat)
  case atStart => exact ⟨0, Nat.zero_le _, rfl, ⟨by simpa [applyW] using HO5.out⟩, HB5, HE5⟩
  case round =>
    clear HO5 HB5 HE5
    obtain ⟨k, hk, rfl, HO, HB, HE⟩ := hrel
    by_cases hlt : k < l1.length
    · have h5 := HK5.out l1[k] (List.getElem_mem hlt)
      obtain ⟨ad, rfl, hx0, hx1⟩ := at_T40 (Kd.C_below HR1.out HB.out) (k : Int) (by omega) (by omega)
      rw [rdWrite l1 k hlt, Int.toNat_natCast] at hx0 hx1
      have happ := applyW_snoc p (l1.take k) 0 l1[k] l0
      rw [← List.take_succ_eq_append_getElem hlt, List.length_take, Nat.min_eq_left (by omega), Nat.zero_add] at happ
      have HA := Aside0.mk happ
      have HL := Aside0.mk (applyW_length p (l1.take k) 0 l0)
      clear happ
      generalize l1[k] = x at *
      obtain ⟨at_, s⟩ := x
      simp only at h5 hx0 hx1
      obtain ⟨N, rfl⟩ : ∃ N : Nat, at_ = N := ⟨at_.toNat, by omega⟩
      have HB1 := Aside0.mk (show Below w.heap.size w (wr.alloc (.cells #[.int .i64 (N : Int), .string s] 40)) from HB.out.alloc HB.out.size _)
      have HCL := Aside0.mk (HP.out k _ HB1.out)
      have HW := Aside0.mk (blk_new wr (.cells #[.int .i64 (N : Int), .string s] 40))
      have HO1 := Aside0.mk (Kd.R_below HO.out ((Below.refl wr.heap.size wr).alloc (Nat.le_refl _) (.cells #[.int .i64 (N : Int), .string s] 40)))
      have HE1 := Aside0.mk (blk_alloc HE.out (.cells #[.int .i64 (N : Int), .string s] 40))
      have hN : N < l0.length := by omega
      clear h5
      cases hpk : p (k : Int)
      · rw [hpk] at HCL HA
        rw [if_neg (by decide)] at HA
        clear hpk
        go_wp2_with (go_at_fn g; refine HCL.out.mono ?_; rintro e w3 ⟨rfl, hb3⟩; have HO3 := Aside0.mk (Kd.R_below HO1.out hb3); have HE3 := Aside0.mk (blk_below HE1.out hb3); have HB3 := Aside0.mk (HB1.out.trans (hb3.mono HB1.out.size)); clear hb3)
        go_roundw
        case rel => exact ⟨k + 1, by omega, by go_num, ⟨by rw [HA.out]; exact HO3.out⟩, HB3, HE3⟩
        case measure => simp [intOf]; omega
      · rw [hpk] at HCL HA
        rw [if_pos rfl] at HA
        clear hpk
        go_wp2_with (go_at_fn g; refine HCL.out.mono ?_; rintro e w3 ⟨rfl, hb3⟩; have HO3 := Aside0.mk (Kd.R_below HO1.out hb3); have HE3 := Aside0.mk (blk_below HE1.out hb3); have HB3 := Aside0.mk (HB1.out.trans (hb3.mono HB1.out.size)); have hw3 := blk_below HW.out hb3; have dw0 := blk_cell hw3 0; have dw1 := blk_cell hw3 1; clear hb3 hw3; obtain ⟨hcg, hfg⟩ := Kd.R_cell (⟨#[]⟩ : ByteArray) (by rw [HL.out]; exact HO3.out) (N : Int) (by omega) (by rw [HL.out]; omega); rw [Int.toNat_natCast] at hcg hfg)
        obtain ⟨hR, hG⟩ := Kd.R_put (by rw [HL.out]; exact HO3.out) (N : Int) s
        rw [Int.toNat_natCast] at hR hG
        rw [HL.out] at hR
        have hge := (Kd.R_bound HO3.out).1 go rfl
        have hne : w.heap.size + 1 ≠ go := fun e => Kd.R_ne HO3.out HE3.out (by decide) (by rw [e]; rfl)
        refine ⟨⟨k + 1, by omega, by go_num, ⟨by rw [HA.out]; exact hR⟩, ⟨HB3.out.grown hG HB3.out.size (fun k e => by cases e; exact hge.2.1)⟩, ⟨blk_far HE3.out hne _⟩⟩, ?_⟩
        simp [intOf]; omega
    · obtain rfl : k = l1.length := by omega
      have e0 := blk_cell HE.out 0
      have e1 := blk_cell HE.out 1
      have f0 := blk_frozen HE.out 0
      have f1 := blk_frozen HE.out 1
      have hx : applyW p 0 (l1.take l1.length) l0 = applyW p 0 l1 l0 := by rw [List.take_length]
      rw [hx] at HO
      clear hx
      have HO' := Aside0.mk (Kd.R_set (Kd.R_set HO.out HE.out (by intro q hq; simp [Kd.string, Kd.scalar] at hq; subst hq; decide) 0 (.slice (some ⟨go, 0, none⟩) l0.length c)) (blk_set HE.out 0 (.slice (some ⟨go, 0, none⟩) l0.length c)) (by intro q hq; simp [Kd.string, Kd.scalar] at hq; subst hq; decide) 1 (.slice none 0 0))
      have HB' := Aside0.mk ((HB.out.setCell (p := ⟨w.heap.size + 1, 0, none⟩) (by simp) (.slice (some ⟨go, 0, none⟩) l0.length c)).setCell (p := ⟨w.heap.size + 1, 1, none⟩) (by simp) (.slice none 0 0))
      go_wp2
      have g0 := blk_cell (blk_set (blk_set HE.out 0 (.slice (some ⟨go, 0, none⟩) l0.length c)) 1 (.slice none 0 0)) 0
      have g1 := blk_cell (blk_set (blk_set HE.out 0 (.slice (some ⟨go, 0, none⟩) l0.length c)) 1 (.slice none 0 0)) 1
      refine bodyPost_ret (v := .tuple #[.agg #[.slice (some ⟨go, 0, none⟩) l0.length c, .slice none 0 0], .int .i64 0]) ?_ rfl ⟨_, rfl, HO'.out, HB'.out⟩
      simp [results, Try.results45, go_sem, g0, g1]
end Go.Proofs.Ytoibofhmlokglaa.P
