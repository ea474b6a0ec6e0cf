/-
  disk.Crash, by hand. For every disk and choice.
-/
import Derived.Test.YtoibofhmlokglaaHdiskSync
namespace Go.Proofs.Ytoibofhmlokglaa.P
open Go.RowKit Go.Shelf Go.Proofs.YtoibofhmlokglaaW.PrintWords Go.Proofs.YtoibofhmlokglaaW.PrintLast Go.Proofs.YtoibofhmlokglaaW.PrintMore Go.Proofs.Plain

/-- Whether a choice keeps number i. -/
def keepB (l : List Bool) (i : Int) : Bool := decide (i < (l.length : Int)) && rdOf false l i

set_option maxHeartbeats 2000000 in
theorem disk_Crash1_calls (i : Nat) (B : Nat) (A : Option Addr) (c : Nat) (l : List Bool) (w : World) (hb : w.cell? ⟨B, 0, none⟩ = some (.slice A l.length c)) (hr : Kd.C Kd.bool w A l.length l) :
    Calls Try.prog 47 #[.int .i64 (i : Int), .pointer (some ⟨B, 0, none⟩)] w fun e w' => e = .returned (.bool (keepB l i)) ∧ w' = w := by
  by_cases h : i < l.length
  · obtain ⟨ad, rfl, hx⟩ := Kd.at_bool hr (i : Int) (by omega) (by omega)
    rw [Int.toNat_natCast] at hx
    have hk := Aside0.mk (show keepB l i = rdOf false l (i : Int) by unfold keepB; rw [decide_eq_true (by omega)]; rfl)
    obtain ⟨b, hbb⟩ : ∃ b, b = rdOf false l (i : Int) := ⟨_, rfl⟩
    rw [← hbb] at hx hk
    have hd : decide ((i : Int) < (l.length : Int)) = true := decide_eq_true (by omega)
    have hd2 : decide (i < l.length) = true := decide_eq_true h
    have hm := hr.2.1
    clear hbb hr
    go_enter Try.func47, Try.ntmps47
    go_wp2
    go_ret
    exact ⟨by rw [hk.out]; cases b <;> rfl, rfl⟩
  · have hk := Aside0.mk (show keepB l i = false by unfold keepB; rw [decide_eq_false (by omega)]; rfl)
    have hd : decide ((i : Int) < (l.length : Int)) = false := decide_eq_false (by omega)
    have hd2 : decide (i < l.length) = false := decide_eq_false h
    clear hr h
    go_enter Try.func47, Try.ntmps47
    go_wp2
    go_ret
    exact ⟨by rw [hk.out]; rfl, rfl⟩
theorem crash_pred (B : Nat) (A : Option Addr) (c : Nat) (l : List Bool) (w : World) (hb : w.cell? ⟨B, 0, none⟩ = some (.slice A l.length c)) (hB : B < w.heap.size) (hr : Kd.C Kd.bool w A l.length l) : PredI 47 #[.pointer (some ⟨B, 0, none⟩)] (keepB l) w :=
  ⟨enters_of Try.func47 (by kernel_rfl) rfl, fun i w1 h1 => (disk_Crash1_calls i B A c l w1 ((h1.cell (p := ⟨B, 0, none⟩) hB).trans hb) (Kd.C_below hr h1)).mono (by rintro e w2 ⟨rfl, rfl⟩; exact ⟨rfl, Below.refl _ _⟩)⟩

/-- What disk.Crash answers. -/
def disk_Crash.f (l0_0 : List ByteArray) (l0_1 : List S40) (l1 : List Bool) : Option (List ByteArray × List S40 × Int) := some (doneV (keepB l1) l0_0 l0_1)

set_option maxHeartbeats 4000000 in
set_option maxRecDepth 100000 in
theorem disk_Crash.calls (A0_0 : Option Addr) (c0_0 : Nat) (l0_0 : List ByteArray) (A0_1 : Option Addr) (c0_1 : Nat) (l0_1 : List S40) (A1 : Option Addr) (c1 : Nat) (l1 : List Bool) (r1 : List ByteArray) (r2 : List S40) (r3 : Int) (w : World) (hr0_0 : Kd.C Kd.string w A0_0 l0_0.length l0_0) (hc0_0 : l0_0.length ≤ c0_0) (hr0_1 : Kd.C k40 w A0_1 l0_1.length l0_1) (hc0_1 : l0_1.length ≤ c0_1) (hr1 : Kd.C Kd.bool w A1 l1.length l1) (hc1 : l1.length ≤ c1) (h : disk_Crash.f l0_0 l0_1 l1 = some (r1, r2, r3)) :
    Calls Try.prog 19 #[.agg #[.slice A0_0 l0_0.length c0_0, .slice A0_1 l0_1.length c0_1], .slice A1 l1.length c1] w fun e w' => ∃ v0_ v1_ : Value, e = .returned (.tuple #[.agg #[v0_, v1_], .int .i64 r3]) ∧ Kd.R Kd.string 9 w' w.heap.size (fun _ => True) v0_ r1 ∧ Kd.R k40 40 w' w.heap.size (fun _ => True) v1_ r2 ∧ Below w.heap.size w w' := by
  have hv : doneV (keepB l1) l0_0 l0_1 = (r1, r2, r3) := by simpa [disk_Crash.f] using h
  have hw := doneV_wait (keepB l1) l0_0 l0_1
  rw [hv] at hw
  simp only at hw
  subst hw
  obtain ⟨D, hD⟩ : ∃ D, D = Obj.cells #[.slice A0_0 l0_0.length c0_0, .slice A0_1 l0_1.length c0_1] 25 := ⟨_, rfl⟩
  have hB2 : Below w.heap.size w (((w.alloc D).alloc (.cells #[.slice A1 l1.length c1] 26)).alloc (.cells #[.slice none 0 0, .slice none 0 0] 25)) := (((Below.refl _ _).alloc (Nat.le_refl _) _).alloc (by simp) _).alloc (by simp; omega) _
  have HB2 := Aside0.mk hB2
  have hbx0 := blk_alloc (blk_new (w.alloc D) (.cells #[.slice A1 l1.length c1] 26)) (.cells #[.slice none 0 0, .slice none 0 0] 25)
  rw [World.size_alloc] at hbx0
  have hC := disk_done_any 47 #[.pointer (some ⟨w.heap.size + 1, 0, none⟩)] (keepB l1) A0_0 c0_0 l0_0 A0_1 c0_1 l0_1 _ (Kd.C_below hr0_0 hB2) hc0_0 (Kd.C_below hr0_1 hB2) hc0_1 (crash_pred (w.heap.size + 1) A1 c1 l1 _ (blk_cell hbx0 0) (by simp) (Kd.C_below hr1 hB2))
  rw [hv] at hC
  have HC := Aside0.mk hC
  have hE := blk_new ((w.alloc D).alloc (.cells #[.slice A1 l1.length c1] 26)) (.cells #[.slice none 0 0, .slice none 0 0] 25)
  rw [World.size_alloc, World.size_alloc] at hE
  have HE := Aside0.mk hE
  subst hD
  clear hB2 hE hr0_0 hr0_1 hC hv h hr1 hbx0
  go_enter Try.func19, Try.ntmps19
  go_wp2_with (go_at_call 45; refine HC.out.mono ?_; rintro e w3 ⟨v0, rfl, hR3, hb3⟩; have HR3 := Aside0.mk (Kd.R_lower hR3 HB2.out.size); have HE3 := Aside0.mk (blk_below HE.out hb3); have HB3 := Aside0.mk (HB2.out.trans (hb3.mono HB2.out.size)); have e0 := blk_cell HE3.out 0; have e1 := blk_cell HE3.out 1; have f0 := blk_frozen HE3.out 0; have f1 := blk_frozen HE3.out 1; obtain ⟨A, c, rfl⟩ := Kd.R_slice hR3; clear hb3 hR3)
  have g0 := blk_cell (blk_set (blk_set HE3.out 0 (.slice A r1.length c)) 1 (.slice none 0 0)) 0
  have g1 := blk_cell (blk_set (blk_set HE3.out 0 (.slice A r1.length c)) 1 (.slice none 0 0)) 1
  refine bodyPost_ret (v := .tuple #[.agg #[.slice A r1.length c, .slice none 0 0], .int .i64 r3]) ?_ rfl ⟨_, _, rfl, Kd.R_set (Kd.R_set HR3.out HE3.out (by intro q hq; simp [Kd.string, Kd.scalar] at hq; subst hq; decide) 0 _) (blk_set HE3.out 0 _) (by intro q hq; simp [Kd.string, Kd.scalar] at hq; subst hq; decide) 1 _, Kd.R_nil _ _ _ _ _, (HB3.out.setCell (p := ⟨w.heap.size + 1 + 1, 0, none⟩) (by simp; omega) _).setCell (p := ⟨w.heap.size + 1 + 1, 1, none⟩) (by simp; omega) _⟩
  simp [results, Try.results19, go_sem, g0, g1]
end Go.Proofs.Ytoibofhmlokglaa.P
