/-
  disk.Sync and disk.Crash, by hand. For every disk and choice.
-/
import Derived.Test.YtoibofhmlokglaaHdiskDone
namespace Go.Proofs.Ytoibofhmlokglaa.P
open Go.RowKit Go.Shelf Go.Proofs.YtoibofhmlokglaaW.PrintWords Go.Proofs.YtoibofhmlokglaaW.PrintLast Go.Proofs.YtoibofhmlokglaaW.PrintMore Go.Proofs.Plain

set_option maxHeartbeats 4000000 in
set_option maxRecDepth 100000 in
theorem disk_done_no (g : Nat) (lb : Array Value) (A0 : Option Addr) (c0 : Nat) (l0 : List ByteArray) (A1 : Option Addr) (c1 : Nat) (l1 : List S40) (w : World)
    (hr0 : Kd.C Kd.string w A0 l0.length l0) (hc0 : l0.length ≤ c0) (hr1 : Kd.C k40 w A1 l1.length l1) (hc1 : l1.length ≤ c1) (hck : checkB l0 l1 = false) :
    Calls Try.prog 45 #[.agg #[.slice A0 l0.length c0, .slice A1 l1.length c1], .func (.func g) #[] lb] w fun e w' => e = .returned (.tuple #[.agg #[.slice none 0 0, .slice none 0 0], .int .i64 1]) ∧ Below w.heap.size w w' := by
  obtain ⟨D, hD⟩ : ∃ D, D = Obj.cells #[.slice A0 l0.length c0, .slice A1 l1.length c1] 25 := ⟨_, rfl⟩
  have hB2 : Below w.heap.size w ((w.alloc D).alloc (.cells #[.slice none 0 0, .slice none 0 0] 25)) := ((Below.refl _ _).alloc (Nat.le_refl _) _).alloc (by simp) _
  have HB2 := Aside0.mk hB2
  have HC := Aside0.mk (disk_Check.calls A0 c0 l0 A1 c1 l1 false _ (Kd.C_below hr0 hB2) hc0 (Kd.C_below hr1 hB2) hc1 (by unfold disk_Check.f; rw [hck]))
  have hE := blk_new (w.alloc D) (.cells #[.slice none 0 0, .slice none 0 0] 25)
  rw [World.size_alloc] at hE
  have HE := Aside0.mk hE
  subst hD
  clear hB2 hE hr0 hr1 hck
  go_enter Try.func45, Try.ntmps45
  go_wp2_with (go_at_call 24; refine HC.out.mono ?_; rintro e w3 ⟨rfl, hb3⟩; have HE3 := Aside0.mk (blk_below HE.out hb3); have HB3 := Aside0.mk (HB2.out.trans (hb3.mono HB2.out.size)); have e0 := blk_cell HE3.out 0; have e1 := blk_cell HE3.out 1; have f0 := blk_frozen HE3.out 0; have f1 := blk_frozen HE3.out 1; clear hb3)
  have g0 := blk_cell (blk_set (blk_set HE3.out 0 (.slice none 0 0)) 1 (.slice none 0 0)) 0
  have g1 := blk_cell (blk_set (blk_set HE3.out 0 (.slice none 0 0)) 1 (.slice none 0 0)) 1
  refine bodyPost_ret (v := .tuple #[.agg #[.slice none 0 0, .slice none 0 0], .int .i64 1]) ?_ rfl ⟨rfl, (HB3.out.setCell (p := ⟨w.heap.size + 1, 0, none⟩) (by simp) _).setCell (p := ⟨w.heap.size + 1, 1, none⟩) (by simp) _⟩
  simp [results, Try.results45, go_sem, g0, g1]

/-- What disk.Sync and disk.Crash answer, the chosen writes being those of p. -/
def doneV (p : Int → Bool) (l0 : List ByteArray) (l1 : List S40) : List ByteArray × List S40 × Int :=
  if checkB l0 l1 = true then (applyW p 0 l1 l0, [], 0) else ([], [], 1)

theorem disk_done_any (g : Nat) (lb : Array Value) (p : Int → Bool) (A0 : Option Addr) (c0 : Nat) (l0 : List ByteArray) (A1 : Option Addr) (c1 : Nat) (l1 : List S40) (w : World)
    (hr0 : Kd.C Kd.string w A0 l0.length l0) (hc0 : l0.length ≤ c0) (hr1 : Kd.C k40 w A1 l1.length l1) (hc1 : l1.length ≤ c1) (hp : PredI g lb p w) :
    Calls Try.prog 45 #[.agg #[.slice A0 l0.length c0, .slice A1 l1.length c1], .func (.func g) #[] lb] w fun e w' => ∃ v0 : Value, e = .returned (.tuple #[.agg #[v0, .slice none 0 0], .int .i64 (doneV p l0 l1).2.2]) ∧ Kd.R Kd.string 9 w' w.heap.size (fun _ => True) v0 (doneV p l0 l1).1 ∧ Below w.heap.size w w' := by
  cases hck : checkB l0 l1
  · refine (disk_done_no g lb A0 c0 l0 A1 c1 l1 w hr0 hc0 hr1 hc1 hck).mono ?_
    rintro e w' ⟨rfl, hb⟩
    have : doneV p l0 l1 = ([], [], 1) := by unfold doneV; rw [hck, if_neg (by decide)]
    rw [this]
    exact ⟨_, rfl, Kd.R_nil _ _ _ _ _, hb⟩
  · refine (disk_done_yes g lb p A0 c0 l0 A1 c1 l1 w hr0 hc0 hr1 hc1 hck hp).mono ?_
    rintro e w' ⟨v0, rfl, hR, hb⟩
    have : doneV p l0 l1 = (applyW p 0 l1 l0, [], 0) := by unfold doneV; rw [hck, if_pos rfl]
    rw [this]
    exact ⟨_, rfl, hR, hb⟩

set_option maxHeartbeats 1000000 in
theorem disk_Sync1_calls (i : Int) (w : World) : Calls Try.prog 46 #[.int .i64 i] w fun e w' => e = .returned (.bool true) ∧ w' = w := by
  go_enter Try.func46, Try.ntmps46
  go_wp2
  go_ret
  exact ⟨rfl, rfl⟩
theorem sync_pred (w : World) : PredI 46 #[] (fun _ => true) w :=
  ⟨enters_of Try.func46 (by kernel_rfl) rfl, fun i w1 _ => (disk_Sync1_calls i w1).mono (by rintro e w2 ⟨rfl, rfl⟩; exact ⟨rfl, Below.refl _ _⟩)⟩

/-- What disk.Sync answers. -/
def disk_Sync.f (l0_0 : List ByteArray) (l0_1 : List S40) : Option (List ByteArray × List S40 × Int) := some (doneV (fun _ => true) l0_0 l0_1)

theorem doneV_wait (p : Int → Bool) (l0 : List ByteArray) (l1 : List S40) : (doneV p l0 l1).2.1 = [] := by unfold doneV; split <;> rfl

set_option maxHeartbeats 4000000 in
set_option maxRecDepth 100000 in
theorem disk_Sync.calls (A0_0 : Option Addr) (c0_0 : Nat) (l0_0 : List ByteArray) (A0_1 : Option Addr) (c0_1 : Nat) (l0_1 : List S40) (r1 : List ByteArray) (r2 : List S40) (r3 : Int) (w : World) (hr0_0 : Kd.C Kd.string w A0_0 l0_0.length l0_0) (hc0_0 : l0_0.length ≤ c0_0) (hr0_1 : Kd.C k40 w A0_1 l0_1.length l0_1) (hc0_1 : l0_1.length ≤ c0_1) (h : disk_Sync.f l0_0 l0_1 = some (r1, r2, r3)) :
    Calls Try.prog 17 #[.agg #[.slice A0_0 l0_0.length c0_0, .slice A0_1 l0_1.length c0_1]] w fun e w' => ∃ v0_ v1_ : Value, e = .returned (.tuple #[.agg #[v0_, v1_], .int .i64 r3]) ∧ Kd.R Kd.string 9 w' w.heap.size (fun _ => True) v0_ r1 ∧ Kd.R k40 40 w' w.heap.size (fun _ => True) v1_ r2 ∧ Below w.heap.size w w' := by
  have hv : doneV (fun _ => true) l0_0 l0_1 = (r1, r2, r3) := by simpa [disk_Sync.f] using h
  have hw := doneV_wait (fun _ => true) l0_0 l0_1
  rw [hv] at hw
  simp only at hw
  subst hw
  obtain ⟨D, hD⟩ : ∃ D, D = Obj.cells #[.slice A0_0 l0_0.length c0_0, .slice A0_1 l0_1.length c0_1] 25 := ⟨_, rfl⟩
  have hB2 : Below w.heap.size w ((w.alloc D).alloc (.cells #[.slice none 0 0, .slice none 0 0] 25)) := ((Below.refl _ _).alloc (Nat.le_refl _) _).alloc (by simp) _
  have HB2 := Aside0.mk hB2
  have hC := disk_done_any 46 #[] (fun _ => true) A0_0 c0_0 l0_0 A0_1 c0_1 l0_1 _ (Kd.C_below hr0_0 hB2) hc0_0 (Kd.C_below hr0_1 hB2) hc0_1 (sync_pred _)
  rw [hv] at hC
  have HC := Aside0.mk hC
  have hE := blk_new (w.alloc D) (.cells #[.slice none 0 0, .slice none 0 0] 25)
  rw [World.size_alloc] at hE
  have HE := Aside0.mk hE
  subst hD
  clear hB2 hE hr0_0 hr0_1 hC hv h
  go_enter Try.func17, Try.ntmps17
  go_wp2_with (go_at_call 45; refine HC.out.mono ?_; rintro e w3 ⟨v0, rfl, hR3, hb3⟩; have HR3 := Aside0.mk (Kd.R_lower hR3 HB2.out.size); have HE3 := Aside0.mk (blk_below HE.out hb3); have HB3 := Aside0.mk (HB2.out.trans (hb3.mono HB2.out.size)); have e0 := blk_cell HE3.out 0; have e1 := blk_cell HE3.out 1; have f0 := blk_frozen HE3.out 0; have f1 := blk_frozen HE3.out 1; obtain ⟨A, c, rfl⟩ := Kd.R_slice hR3; clear hb3 hR3)
  have g0 := blk_cell (blk_set (blk_set HE3.out 0 (.slice A r1.length c)) 1 (.slice none 0 0)) 0
  have g1 := blk_cell (blk_set (blk_set HE3.out 0 (.slice A r1.length c)) 1 (.slice none 0 0)) 1
  refine bodyPost_ret (v := .tuple #[.agg #[.slice A r1.length c, .slice none 0 0], .int .i64 r3]) ?_ rfl ⟨_, _, rfl, Kd.R_set (Kd.R_set HR3.out HE3.out (by intro q hq; simp [Kd.string, Kd.scalar] at hq; subst hq; decide) 0 _) (blk_set HE3.out 0 _) (by intro q hq; simp [Kd.string, Kd.scalar] at hq; subst hq; decide) 1 _, Kd.R_nil _ _ _ _ _, (HB3.out.setCell (p := ⟨w.heap.size + 1, 0, none⟩) (by simp) _).setCell (p := ⟨w.heap.size + 1, 1, none⟩) (by simp) _⟩
  simp [results, Try.results17, go_sem, g0, g1]
end Go.Proofs.Ytoibofhmlokglaa.P
