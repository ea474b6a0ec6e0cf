/-
  disk.short and disk.Check, by hand. For every disk.
-/
import Derived.RangeFuncBox
import Derived.RangeFuncNested
import Derived.Test.YtoibofhmlokglaaHidxWrite
namespace Go.Proofs.Ytoibofhmlokglaa.P
open Go.RowKit Go.Shelf Go.Proofs.YtoibofhmlokglaaW.PrintWords Go.Proofs.YtoibofhmlokglaaW.PrintLast Go.Proofs.Plain

def longS (s : ByteArray) : Bool := decide (256 < s.size)
def oddW (n : Int) (x : S40) : Bool := decide (x.f0 < 0) || decide (x.f0 ≥ n) || longS x.f1
/-- Whether a disk is right. -/
def checkB (l0 : List ByteArray) (l1 : List S40) : Bool :=
  decide (1 ≤ l0.length) && decide (l0.length ≤ 200) && decide (l1.length ≤ 100) && !(l0.any longS) && !(l1.any (oddW l0.length))

set_option maxHeartbeats 1000000 in
theorem disk_short1_calls (s : ByteArray) (w : World) : Calls Try.prog 59 #[.string s] w fun e w' => e = .returned (.bool (longS s)) ∧ w' = w := by
  have hl := Aside0.mk (show longS s = decide (256 < (s.size : Int)) by unfold longS; by_cases h : 256 < s.size <;> simp [h] <;> omega)
  go_enter Try.func59, Try.ntmps59
  go_wp2
  go_ret
  exact ⟨by rw [hl.out]; rfl, rfl⟩
theorem short_pred (l : List ByteArray) (w : World) : PredAt 59 #[] Value.string longS l w :=
  ⟨enters_of Try.func59 (by kernel_rfl) rfl, fun x _ w1 _ => (disk_short1_calls x w1).mono (by rintro e w2 ⟨rfl, rfl⟩; exact ⟨rfl, Below.refl _ _⟩)⟩

set_option maxHeartbeats 1000000 in
theorem disk_short_calls (A : Option Addr) (c : Nat) (l : List ByteArray) (w : World) (hr : Kd.C Kd.string w A l.length l) :
    Calls Try.prog 42 #[.slice A l.length c] w fun e w' => e = .returned (.bool (!(l.any longS))) ∧ Below w.heap.size w w' := by
  have HC := Aside0.mk (ContainsFuncStr 59 #[] longS A c l w hr (short_pred l w))
  clear hr
  obtain ⟨b, hb⟩ : ∃ b, b = l.any longS := ⟨_, rfl⟩
  rw [← hb] at HC ⊢
  clear hb
  go_enter Try.func42, Try.ntmps42
  go_wp2_with (go_at_call 58; refine HC.out.mono ?_; rintro e w3 ⟨rfl, hb3⟩; have HB3 := Aside0.mk hb3; clear hb3)
  go_ret
  exact ⟨rfl, HB3.out⟩

/-- One text in a block of its own reads as a row. -/
theorem one_str (W : World) (s : ByteArray) (T : TypeId) : Kd.C Kd.string (W.alloc (.cells #[.string s] T)) (some ⟨W.heap.size, 0, none⟩) ([s] : List ByteArray).length [s] := by
  refine ⟨rfl, (by show 1 ≤ _; omega), fun _ => ⟨_, rfl, fun j p hj => ?_⟩⟩
  match j, hj with
  | 0, hj =>
    have hp : s = p := by simpa using hj
    subst hp
    refine ⟨[.string s], rfl, rfl, fun i u hu => ?_⟩
    match i, hu with
    | 0, hu =>
      have : Value.string s = u := by simpa using hu
      subst this
      simp [Kd.string, Kd.scalar, Addr.add]

theorem disk_short_one (w : World) (o : Obj) (s : ByteArray) :
    Calls Try.prog 42 #[.slice (some ⟨w.heap.size + 1, 0, none⟩) 1 1] ((w.alloc o).alloc (.cells #[.string s] 9)) fun e w' => e = .returned (.bool (!(longS s))) ∧ Below w.heap.size w w' := by
  have h := disk_short_calls _ 1 [s] _ (one_str (w.alloc o) s 9)
  rw [World.size_alloc] at h
  refine h.mono ?_
  rintro e w' ⟨rfl, hb⟩
  exact ⟨by simp, (((Below.refl _ _).alloc (Nat.le_refl _) _).alloc (by simp) _).trans (hb.mono (by simp; omega))⟩

set_option maxHeartbeats 2000000 in
theorem disk_Check1_calls (n : Int) (B : Nat) (x : S40) (w : World) (hb : w.cell? ⟨B, 0, none⟩ = some (.int .i64 n)) (hB : B < w.heap.size) :
    Calls Try.prog 48 #[.agg #[.int .i64 x.f0, .string x.f1], .pointer (some ⟨B, 0, none⟩)] w fun e w' => e = .returned (.bool (oddW n x)) ∧ Below w.heap.size w w' := by
  obtain ⟨at_, s⟩ := x
  simp only
  have ho := Aside0.mk (show oddW n ⟨at_, s⟩ = (decide (at_ < 0) || decide (at_ ≥ n) || longS s) from rfl)
  by_cases h1 : at_ < 0
  · have e1 : decide (at_ < 0) = true := decide_eq_true h1
    rw [e1] at ho
    go_enter Try.func48, Try.ntmps48
    go_wp2
    go_ret
    exact ⟨by rw [ho.out]; rfl, (Below.refl _ _).alloc (Nat.le_refl _) _⟩
  · have e1 : decide (at_ < 0) = false := decide_eq_false h1
    by_cases h2 : at_ ≥ n
    · have e2 : decide (n ≤ at_) = true := decide_eq_true h2
      rw [e1, show decide (at_ ≥ n) = true from decide_eq_true h2] at ho
      clear h1 h2
      go_enter Try.func48, Try.ntmps48
      go_wp2
      go_ret
      exact ⟨by rw [ho.out]; rfl, (Below.refl _ _).alloc (Nat.le_refl _) _⟩
    · have e2 : decide (n ≤ at_) = false := decide_eq_false h2
      rw [e1, show decide (at_ ≥ n) = false from decide_eq_false h2] at ho
      clear h1 h2
      obtain ⟨q, hq⟩ : ∃ q, q = longS s := ⟨_, rfl⟩
      have HO := Aside0.mk (disk_short_one w (.cells #[.int .i64 at_, .string s] 40) s)
      rw [← hq] at ho HO
      clear hq
      go_enter Try.func48, Try.ntmps48
      go_wp2_with (go_at_call 42; refine HO.out.mono ?_; rintro e w3 ⟨rfl, hb3⟩; have HB3 := Aside0.mk hb3; clear hb3)
      go_ret
      exact ⟨by rw [ho.out]; cases q <;> rfl, HB3.out⟩
/-- What disk.Check answers. -/
def disk_Check.f (l0_0 : List ByteArray) (l0_1 : List S40) : Option Bool := some (checkB l0_0 l0_1)

theorem check1_pred (n : Int) (B : Nat) (l : List S40) (w : World) (hb : w.cell? ⟨B, 0, none⟩ = some (.int .i64 n)) (hB : B < w.heap.size) :
    PredAt 48 #[.pointer (some ⟨B, 0, none⟩)] encWrite (oddW n) l w :=
  ⟨enters_of Try.func48 (by kernel_rfl) rfl, fun x _ w1 h1 => disk_Check1_calls n B x w1 ((h1.cell (p := ⟨B, 0, none⟩) hB).trans hb) (Nat.lt_of_lt_of_le hB h1.size)⟩

set_option maxHeartbeats 4000000 in
set_option maxRecDepth 100000 in
theorem disk_Check.calls (A0_0 : Option Addr) (c0_0 : Nat) (l0_0 : List ByteArray) (A0_1 : Option Addr) (c0_1 : Nat) (l0_1 : List S40) (r : Bool) (w : World) (hr0_0 : Kd.C Kd.string w A0_0 l0_0.length l0_0) (hc0_0 : l0_0.length ≤ c0_0) (hr0_1 : Kd.C k40 w A0_1 l0_1.length l0_1) (hc0_1 : l0_1.length ≤ c0_1) (h : disk_Check.f l0_0 l0_1 = some r) :
    Calls Try.prog 24 #[.agg #[.slice A0_0 l0_0.length c0_0, .slice A0_1 l0_1.length c0_1]] w fun e w' => e = .returned (.bool r) ∧ Below w.heap.size w w' := by
  have hck : r = checkB l0_0 l0_1 := by simpa [disk_Check.f] using h.symm
  clear h
  have m0 := hr0_0.2.1
  have m1 := hr0_1.2.1
  unfold checkB at hck
  obtain ⟨D, hD⟩ : ∃ D, D = Obj.cells #[.slice A0_0 l0_0.length c0_0, .slice A0_1 l0_1.length c0_1] 25 := ⟨_, rfl⟩
  have hB2 : Below w.heap.size w ((w.alloc D).alloc (.cells #[.int .i64 (l0_0.length : Int)] 3)) := ((Below.refl _ _).alloc (Nat.le_refl _) _).alloc (by simp) _
  have HS := Aside0.mk (disk_short_calls A0_0 c0_0 l0_0 _ (Kd.C_below hr0_0 hB2))
  have HR1 := Aside0.mk hr0_1
  have HB2 := Aside0.mk hB2
  have hbx0 := Boxed.new (w.alloc D) 3 (.int .i64 (l0_0.length : Int))
  rw [World.size_alloc] at hbx0
  have hbx := Aside0.mk hbx0
  have hcD := Aside0.mk (show ∀ w3, Below ((w.alloc D).alloc (.cells #[.int .i64 (l0_0.length : Int)] 3)).heap.size ((w.alloc D).alloc (.cells #[.int .i64 (l0_0.length : Int)] 3)) w3 → w3.cell? ⟨w.heap.size, 1, none⟩ = some (.slice A0_1 l0_1.length c0_1) by
    intro w3 hb
    have h1 : w3.heap[w.heap.size]? = some D := (hb.block w.heap.size (by simp; omega)).trans ((Below.heap_alloc (w.alloc D) _ w.heap.size (by simp)).trans (World.alloc_heap_new w D))
    subst hD
    simp [World.cell?, h1])
  have hPR := Aside0.mk (show ∀ w3, Below ((w.alloc D).alloc (.cells #[.int .i64 (l0_0.length : Int)] 3)).heap.size ((w.alloc D).alloc (.cells #[.int .i64 (l0_0.length : Int)] 3)) w3 →
      Calls Try.prog 49 #[.slice A0_1 l0_1.length c0_1, .func (.func 48) #[] #[.pointer (some ⟨w.heap.size + 1, 0, none⟩)]] w3 fun e w' => e = .returned (.bool (l0_1.any (oddW l0_0.length))) ∧ Below w3.heap.size w3 w' by
    intro w3 hb
    have hs : w.heap.size + 1 < w3.heap.size := by have := hb.size; simp at this; omega
    exact ContainsFuncWrite _ _ _ A0_1 c0_1 l0_1 w3 (Kd.C_below hr0_1 (hB2.trans (hb.mono hB2.size))) (check1_pred _ _ _ w3 ((hb.block (w.heap.size + 1) (by simp)).trans hbx0 |> fun h => by simp [World.cell?, h]) hs))
  clear hbx0
  subst hD
  clear hB2 hr0_0 hr0_1
  by_cases h1 : 1 ≤ l0_0.length
  · by_cases h2 : l0_0.length ≤ 200
    · by_cases h3 : l0_1.length ≤ 100
      · rw [decide_eq_true h1, decide_eq_true h2, decide_eq_true h3] at hck
        cases h4 : l0_0.any longS
        · rw [h4] at hck HS
          have HK := Aside0.mk hck
          clear hck h4
          go_enter Try.func24, Try.ntmps24
          obtain ⟨q, hq⟩ : ∃ q, q = l0_1.any (oddW l0_0.length) := ⟨_, rfl⟩
          rw [← hq] at hPR HK
          clear hq
          go_wp2_with (first | (go_at_call 42; refine HS.out.mono ?_; rintro e w3 ⟨rfl, hb3⟩; have HB3 := Aside0.mk hb3; have hc1 := hcD.out w3 hb3; have HP := Aside0.mk (hPR.out w3 hb3); clear hb3) | (go_at_call 49; refine HP.out.mono ?_; rintro e w4 ⟨rfl, hb4⟩; have HB4 := Aside0.mk hb4; clear hb4))
          go_ret
          exact ⟨by rw [HK.out]; cases q <;> rfl, (HB2.out.trans (HB3.out.mono HB2.out.size)).trans (HB4.out.mono (HB2.out.trans (HB3.out.mono HB2.out.size)).size)⟩
        · rw [h4] at hck HS
          have HK := Aside0.mk hck
          clear hck h4
          go_enter Try.func24, Try.ntmps24
          go_wp2_with (go_at_call 42; refine HS.out.mono ?_; rintro e w3 ⟨rfl, hb3⟩; have HB3 := Aside0.mk hb3; clear hb3)
          go_ret
          exact ⟨by rw [HK.out]; rfl, HB2.out.trans (HB3.out.mono HB2.out.size)⟩
      · rw [decide_eq_true h1, decide_eq_true h2, decide_eq_false h3] at hck
        have HK := Aside0.mk hck
        clear hck
        go_enter Try.func24, Try.ntmps24
        go_wp2
        go_ret
        exact ⟨by rw [HK.out]; rfl, HB2.out⟩
    · rw [decide_eq_true h1, decide_eq_false h2] at hck
      have HK := Aside0.mk hck
      clear hck
      go_enter Try.func24, Try.ntmps24
      go_wp2
      go_ret
      exact ⟨by rw [HK.out]; rfl, HB2.out⟩
  · rw [decide_eq_false h1] at hck
    have HK := Aside0.mk hck
    clear hck
    go_enter Try.func24, Try.ntmps24
    go_wp2
    go_ret
    exact ⟨by rw [HK.out]; rfl, HB2.out⟩
end Go.Proofs.Ytoibofhmlokglaa.P
