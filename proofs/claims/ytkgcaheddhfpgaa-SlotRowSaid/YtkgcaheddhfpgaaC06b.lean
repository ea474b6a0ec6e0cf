/-
  Texts that the claims of this chapter share, joined.
-/
import Derived.Test.YtkgcaheddhfpgaaWWords
import Derived.OwnWalk
import Derived.LoopTactic
import Derived.Shelf.RegionOpen
import Derived.Test.YtkgcaheddhfpgaaWMore
import Derived.Test.YtkgcaheddhfpgaaProg
import Derived.Test.YtkgcaheddhfpgaaPx0
import Derived.RangeFuncBox
import Derived.RangeFuncNested
import Derived.Laws.CopyOwn
import Derived.WalkSpells
import Derived.Test.YtkgcaheddhfpgaaC06a
import Derived.Deep.QuietTactic
import Derived.BigQuiet
import Derived.StillTactics
set_option linter.unusedVariables false
set_option linter.unusedSimpArgs false
/-
  Small plain words: the first place where a predicate holds; a list's element.
-/
namespace Go.Proofs.Plain
open Go.Proofs.YtkgcaheddhfpgaaW.PrintWords

theorem rdOf_nat {α : Type} {d : α} (l : List α) (k : Nat) (h : k < l.length) : rdOf d l (k : Int) = l[k] := by
  simp [rdOf, List.getD_eq_getElem?_getD, h]
/-- The first place at which p holds, or -1. -/
def idx {α : Type} (p : α → Bool) (l : List α) : Int := if l.any p = true then ((l.takeWhile fun x => !p x).length : Int) else -1
theorem idx_none {α : Type} {p : α → Bool} {l : List α} (h : ∀ x ∈ l, p x = false) : idx p l = -1 := by
  unfold idx
  rw [if_neg]
  intro h1
  obtain ⟨x, hx, hp⟩ := List.any_eq_true.1 h1
  rw [h x hx] at hp; cases hp
theorem idx_at {α : Type} {p : α → Bool} {l : List α} {k : Nat} (hk : k < l.length) (h : ∀ x ∈ l.take k, p x = false) (hp : p l[k] = true) : idx p l = (k : Int) := by
  unfold idx
  rw [if_pos (List.any_eq_true.2 ⟨l[k], List.getElem_mem hk, hp⟩)]
  have hl : l = l.take k ++ l[k] :: l.drop (k + 1) := by
    rw [List.getElem_cons_drop, List.take_append_drop]
  have key : ∀ (a : List α) (x : α) (b : List α), (∀ y ∈ a, p y = false) → p x = true → ((a ++ x :: b).takeWhile fun x => !p x).length = a.length := by
    intro a
    induction a with
    | nil => intro x b _ hx; simp [List.takeWhile, hx]
    | cons y a ih =>
      intro x b ha hx
      have h1 := ha y List.mem_cons_self
      simp only [List.cons_append, List.takeWhile, h1, Bool.not_false, List.length_cons]
      rw [ih x b (fun z hz => ha z (List.mem_cons_of_mem _ hz)) hx]
  have := key (l.take k) l[k] (l.drop (k + 1)) h hp
  rw [← hl, List.length_take] at this
  rw [this]
  omega
theorem idx_ge {α : Type} (p : α → Bool) (l : List α) : decide (idx p l ≥ 0) = l.any p := by
  unfold idx
  cases h : l.any p with
  | true => rw [if_pos rfl]; exact decide_eq_true (by omega)
  | false => rw [if_neg (by decide)]; rfl
end Go.Proofs.Plain
/-
  slices.IndexFunc and slices.ContainsFunc over texts, at whatever function value that answers a plain predicate, by hand.
-/
namespace Go.Proofs.Ytkgcaheddhfpgaa.P
open Go.RowKit Go.Shelf Go.Proofs.YtkgcaheddhfpgaaW.PrintWords Go.Proofs.YtkgcaheddhfpgaaW.PrintLast Go.Proofs.Plain

/-- The function value (g, with lb captured) answers p at each of l's elements, and turns nothing that lies, from w on. -/
def PredAt {α : Type} (g : Nat) (lb : Array Value) (enc : α → Value) (p : α → Bool) (l : List α) (w : World) : Prop :=
  (∀ args w, (callFunc g args).run Try.prog w = .ok (.enter g args) w) ∧
  ∀ x ∈ l, ∀ w1, Below w.heap.size w w1 → Calls Try.prog g (#[enc x] ++ lb) w1 fun e w2 => e = .returned (.bool (p x)) ∧ Below w1.heap.size w1 w2

set_option maxHeartbeats 2000000 in
theorem IndexFuncStr (g : Nat) (lb : Array Value) (p : ByteArray → Bool) (A : Option Addr) (c : Nat) (l : List ByteArray) (w : World) (hr : Kd.C Kd.string w A l.length l) (hp : PredAt g lb Value.string p l w) :
    Calls Try.prog 57 #[.slice A l.length c, .func (.func g) #[] lb] w fun e w' => e = .returned (.int .i64 (idx p l)) ∧ Below w.heap.size w w' := by
  have HR := Aside0.mk hr
  have hm := hr.2.1
  obtain ⟨eg, hpr⟩ := hp
  have HP := Aside0.mk hpr
  clear hr hpr
  go_enter Try.func57, Try.ntmps57
  go_wp2
  go_loopw [4, 5, 8] (fun _ _ i wr => ∃ k : Nat, k ≤ l.length ∧ i = .int .i64 k ∧ Aside0 (∀ x ∈ l.take k, p x = false) ∧ Aside0 (Below w.heap.size w wr)) (fun _ _ i _ => l.length - (intOf i).toNat)
  case atStart => exact ⟨0, Nat.zero_le _, rfl, ⟨by simp⟩, ⟨Below.refl _ _⟩⟩
  case round =>
    obtain ⟨k, hk, rfl, hall, HB⟩ := hrel
    by_cases hlt : k < l.length
    · obtain ⟨ad, rfl, hx⟩ := Kd.at_string (Kd.C_below HR.out HB.out) (k : Int) (by omega) (by omega)
      rw [rdOf_nat l k hlt, Int.toNat_natCast] at hx
      have hcall := HP.out l[k] (List.getElem_mem hlt) wr HB.out
      cases hpk : p l[k]
      · have hal2 : Aside0 (∀ x ∈ l.take (k + 1), p x = false) := ⟨by
          rw [List.take_succ_eq_append_getElem hlt]; intro s hs
          rcases List.mem_append.1 hs with h | h
          · exact hall.out s h
          · rw [List.mem_singleton.1 h]; exact hpk⟩
        have HC := Aside0.mk hcall
        have HK := Aside0.mk hpk
        clear hcall hpk
        go_wp2_with (go_at_fn g; refine HC.out.mono ?_; rintro e w3 ⟨rfl, hb3⟩; have HB3 := Aside0.mk (HB.out.trans (hb3.mono HB.out.size)); clear hb3; rw [HK.out])
        go_roundw
        case rel => exact ⟨k + 1, by omega, by go_num, hal2, HB3⟩
        case measure => simp [intOf]; omega
      · have HC := Aside0.mk hcall
        have HK := Aside0.mk hpk
        have hres := Aside0.mk (idx_at hlt hall.out hpk)
        clear hcall hpk
        go_wp2_with (go_at_fn g; refine HC.out.mono ?_; rintro e w3 ⟨rfl, hb3⟩; have HB3 := Aside0.mk (HB.out.trans (hb3.mono HB.out.size)); clear hb3; rw [HK.out])
        go_ret
        exact ⟨by rw [hres.out]; rfl, HB3.out⟩
    · obtain rfl : k = l.length := by omega
      have hres := Aside0.mk (idx_none (p := p) (l := l) (fun x hx => hall.out x (by rw [List.take_length]; exact hx)))
      go_wp2
      go_ret
      exact ⟨by rw [hres.out]; rfl, HB.out⟩

set_option maxHeartbeats 1000000 in
theorem ContainsFuncStr (g : Nat) (lb : Array Value) (p : ByteArray → Bool) (A : Option Addr) (c : Nat) (l : List ByteArray) (w : World) (hr : Kd.C Kd.string w A l.length l) (hp : PredAt g lb Value.string p l w) :
    Calls Try.prog 42 #[.slice A l.length c, .func (.func g) #[] lb] w fun e w' => e = .returned (.bool (l.any p)) ∧ Below w.heap.size w w' := by
  have HC := Aside0.mk (IndexFuncStr g lb p A c l w hr hp)
  have hge := Aside0.mk (idx_ge p l)
  clear hr hp
  obtain ⟨n, hn⟩ : ∃ n, n = idx p l := ⟨_, rfl⟩
  rw [← hn] at HC hge
  clear hn
  go_enter Try.func42, Try.ntmps42
  go_wp2_with (go_at_call 57; refine HC.out.mono ?_; rintro e w3 ⟨rfl, hb3⟩; have HB3 := Aside0.mk hb3; clear hb3)
  go_ret
  exact ⟨by rw [← hge.out]; rfl, HB3.out⟩
end Go.Proofs.Ytkgcaheddhfpgaa.P
/-
  slices.IndexFunc and slices.ContainsFunc over writes, at whatever function value that answers a plain predicate, by hand.
-/
namespace Go.Proofs.Ytkgcaheddhfpgaa.P
open Go.RowKit Go.Shelf Go.Proofs.YtkgcaheddhfpgaaW.PrintWords Go.Proofs.YtkgcaheddhfpgaaW.PrintLast Go.Proofs.Plain

/-- A write as a value. -/
def encWrite (x : S73) : Value := .agg #[.int .i64 x.f0, .string x.f1]
theorem rdWrite (l : List S73) (k : Nat) (h : k < l.length) : rd_T73 l (k : Int) = l[k] := by
  simp [rd_T73, List.getD_eq_getElem?_getD, h]

set_option maxHeartbeats 2000000 in
theorem IndexFuncWrite (g : Nat) (lb : Array Value) (p : S73 → Bool) (A : Option Addr) (c : Nat) (l : List S73) (w : World) (hr : Kd.C k73 w A l.length l) (hp : PredAt g lb encWrite p l w) :
    Calls Try.prog 73 #[.slice A l.length c, .func (.func g) #[] lb] w fun e w' => e = .returned (.int .i64 (idx p l)) ∧ Below w.heap.size w w' := by
  have HR := Aside0.mk hr
  have hm := hr.2.1
  obtain ⟨eg, hpr⟩ := hp
  have HP := Aside0.mk hpr
  clear hr hpr
  go_enter Try.func73, Try.ntmps73
  go_wp2
  go_loopw [4, 5, 8] (fun _ _ i wr => ∃ k : Nat, k ≤ l.length ∧ i = .int .i64 k ∧ Aside0 (∀ x ∈ l.take k, p x = false) ∧ Aside0 (Below w.heap.size w wr)) (fun _ _ i _ => l.length - (intOf i).toNat)
  case atStart => exact ⟨0, Nat.zero_le _, rfl, ⟨by simp⟩, ⟨Below.refl _ _⟩⟩
  case round =>
    obtain ⟨k, hk, rfl, hall, HB⟩ := hrel
    by_cases hlt : k < l.length
    · obtain ⟨ad, rfl, hx0, hx1⟩ := at_T73 (Kd.C_below HR.out HB.out) (k : Int) (by omega) (by omega)
      rw [rdWrite l k hlt, Int.toNat_natCast] at hx0 hx1
      have hcall := HP.out l[k] (List.getElem_mem hlt) wr HB.out
      unfold encWrite at hcall
      cases hpk : p l[k]
      · have hal2 : Aside0 (∀ x ∈ l.take (k + 1), p x = false) := ⟨by
          rw [List.take_succ_eq_append_getElem hlt]; intro s hs
          rcases List.mem_append.1 hs with h | h
          · exact hall.out s h
          · rw [List.mem_singleton.1 h]; exact hpk⟩
        have HC := Aside0.mk hcall
        have HK := Aside0.mk hpk
        clear hcall hpk
        go_wp2_with (go_at_fn g; refine HC.out.mono ?_; rintro e w3 ⟨rfl, hb3⟩; have HB3 := Aside0.mk (HB.out.trans (hb3.mono HB.out.size)); clear hb3; rw [HK.out])
        go_roundw
        case rel => exact ⟨k + 1, by omega, by go_num, hal2, HB3⟩
        case measure => simp [intOf]; omega
      · have HC := Aside0.mk hcall
        have HK := Aside0.mk hpk
        have hres := Aside0.mk (idx_at hlt hall.out hpk)
        clear hcall hpk
        go_wp2_with (go_at_fn g; refine HC.out.mono ?_; rintro e w3 ⟨rfl, hb3⟩; have HB3 := Aside0.mk (HB.out.trans (hb3.mono HB.out.size)); clear hb3; rw [HK.out])
        go_ret
        exact ⟨by rw [hres.out]; rfl, HB3.out⟩
    · obtain rfl : k = l.length := by omega
      have hres := Aside0.mk (idx_none (p := p) (l := l) (fun x hx => hall.out x (by rw [List.take_length]; exact hx)))
      go_wp2
      go_ret
      exact ⟨by rw [hres.out]; rfl, HB.out⟩

set_option maxHeartbeats 1000000 in
theorem ContainsFuncWrite (g : Nat) (lb : Array Value) (p : S73 → Bool) (A : Option Addr) (c : Nat) (l : List S73) (w : World) (hr : Kd.C k73 w A l.length l) (hp : PredAt g lb encWrite p l w) :
    Calls Try.prog 67 #[.slice A l.length c, .func (.func g) #[] lb] w fun e w' => e = .returned (.bool (l.any p)) ∧ Below w.heap.size w w' := by
  have HC := Aside0.mk (IndexFuncWrite g lb p A c l w hr hp)
  have hge := Aside0.mk (idx_ge p l)
  clear hr hp
  obtain ⟨n, hn⟩ : ∃ n, n = idx p l := ⟨_, rfl⟩
  rw [← hn] at HC hge
  clear hn
  go_enter Try.func67, Try.ntmps67
  go_wp2_with (go_at_call 73; refine HC.out.mono ?_; rintro e w3 ⟨rfl, hb3⟩; have HB3 := Aside0.mk hb3; clear hb3)
  go_ret
  exact ⟨by rw [← hge.out]; rfl, HB3.out⟩
end Go.Proofs.Ytkgcaheddhfpgaa.P
/-
  disk.short and disk.Check, by hand. For every disk.
-/
namespace Go.Proofs.Ytkgcaheddhfpgaa.P
open Go.RowKit Go.Shelf Go.Proofs.YtkgcaheddhfpgaaW.PrintWords Go.Proofs.YtkgcaheddhfpgaaW.PrintLast Go.Proofs.Plain

def longS (s : ByteArray) : Bool := decide (256 < s.size)
def oddW (n : Int) (x : S73) : Bool := decide (x.f0 < 0) || decide (x.f0 ≥ n) || longS x.f1
/-- Whether a disk is right. -/
def checkB (l0 : List ByteArray) (l1 : List S73) : Bool :=
  decide (1 ≤ l0.length) && decide (l0.length ≤ 200) && decide (l1.length ≤ 100) && !(l0.any longS) && !(l1.any (oddW l0.length))

set_option maxHeartbeats 1000000 in
theorem disk_short1_calls (s : ByteArray) (w : World) : Calls Try.prog 65 #[.string s] w fun e w' => e = .returned (.bool (longS s)) ∧ w' = w := by
  have hl := Aside0.mk (show longS s = decide (256 < (s.size : Int)) by unfold longS; by_cases h : 256 < s.size <;> simp [h] <;> omega)
  go_enter Try.func65, Try.ntmps65
  go_wp2
  go_ret
  exact ⟨by rw [hl.out]; rfl, rfl⟩
theorem short_pred (l : List ByteArray) (w : World) : PredAt 65 #[] Value.string longS l w :=
  ⟨enters_of Try.func65 (by kernel_rfl) rfl, fun x _ w1 _ => (disk_short1_calls x w1).mono (by rintro e w2 ⟨rfl, rfl⟩; exact ⟨rfl, Below.refl _ _⟩)⟩

set_option maxHeartbeats 1000000 in
theorem disk_short_calls (A : Option Addr) (c : Nat) (l : List ByteArray) (w : World) (hr : Kd.C Kd.string w A l.length l) :
    Calls Try.prog 51 #[.slice A l.length c] w fun e w' => e = .returned (.bool (!(l.any longS))) ∧ Below w.heap.size w w' := by
  have HC := Aside0.mk (ContainsFuncStr 65 #[] longS A c l w hr (short_pred l w))
  clear hr
  obtain ⟨b, hb⟩ : ∃ b, b = l.any longS := ⟨_, rfl⟩
  rw [← hb] at HC ⊢
  clear hb
  go_enter Try.func51, Try.ntmps51
  go_wp2_with (go_at_call 42; refine HC.out.mono ?_; rintro e w3 ⟨rfl, hb3⟩; have HB3 := Aside0.mk hb3; clear hb3)
  go_ret
  exact ⟨rfl, HB3.out⟩

/-- One text in a block of its own reads as a row. -/
theorem one_str (W : World) (s : ByteArray) (T : TypeId) : Kd.C Kd.string (W.alloc (.cells #[.string s] T)) (some ⟨W.heap.size, 0, none⟩) ([s] : List ByteArray).length [s] := by
  refine ⟨rfl, (by show 1 ≤ _; omega), fun _ => ⟨_, rfl, fun j p hj => ?_⟩⟩
  match j, hj with
  | 0, hj =>
    have hp : s = p := by simpa using hj
    subst hp
    refine ⟨[.string s], rfl, rfl, fun i u hu => ?_⟩
    match i, hu with
    | 0, hu =>
      have : Value.string s = u := by simpa using hu
      subst this
      simp [Kd.string, Kd.scalar, Addr.add]

theorem disk_short_one (w : World) (o : Obj) (s : ByteArray) :
    Calls Try.prog 51 #[.slice (some ⟨w.heap.size + 1, 0, none⟩) 1 1] ((w.alloc o).alloc (.cells #[.string s] 9)) fun e w' => e = .returned (.bool (!(longS s))) ∧ Below w.heap.size w w' := by
  have h := disk_short_calls _ 1 [s] _ (one_str (w.alloc o) s 9)
  rw [World.size_alloc] at h
  refine h.mono ?_
  rintro e w' ⟨rfl, hb⟩
  exact ⟨by simp, (((Below.refl _ _).alloc (Nat.le_refl _) _).alloc (by simp) _).trans (hb.mono (by simp; omega))⟩

set_option maxHeartbeats 2000000 in
theorem disk_Check1_calls (n : Int) (B : Nat) (x : S73) (w : World) (hb : w.cell? ⟨B, 0, none⟩ = some (.int .i64 n)) (hB : B < w.heap.size) :
    Calls Try.prog 66 #[.agg #[.int .i64 x.f0, .string x.f1], .pointer (some ⟨B, 0, none⟩)] w fun e w' => e = .returned (.bool (oddW n x)) ∧ Below w.heap.size w w' := by
  obtain ⟨at_, s⟩ := x
  simp only
  have ho := Aside0.mk (show oddW n ⟨at_, s⟩ = (decide (at_ < 0) || decide (at_ ≥ n) || longS s) from rfl)
  by_cases h1 : at_ < 0
  · have e1 : decide (at_ < 0) = true := decide_eq_true h1
    rw [e1] at ho
    go_enter Try.func66, Try.ntmps66
    go_wp2
    go_ret
    exact ⟨by rw [ho.out]; rfl, (Below.refl _ _).alloc (Nat.le_refl _) _⟩
  · have e1 : decide (at_ < 0) = false := decide_eq_false h1
    by_cases h2 : at_ ≥ n
    · have e2 : decide (n ≤ at_) = true := decide_eq_true h2
      rw [e1, show decide (at_ ≥ n) = true from decide_eq_true h2] at ho
      clear h1 h2
      go_enter Try.func66, Try.ntmps66
      go_wp2
      go_ret
      exact ⟨by rw [ho.out]; rfl, (Below.refl _ _).alloc (Nat.le_refl _) _⟩
    · have e2 : decide (n ≤ at_) = false := decide_eq_false h2
      rw [e1, show decide (at_ ≥ n) = false from decide_eq_false h2] at ho
      clear h1 h2
      obtain ⟨q, hq⟩ : ∃ q, q = longS s := ⟨_, rfl⟩
      have HO := Aside0.mk (disk_short_one w (.cells #[.int .i64 at_, .string s] 73) s)
      rw [← hq] at ho HO
      clear hq
      go_enter Try.func66, Try.ntmps66
      go_wp2_with (go_at_call 51; refine HO.out.mono ?_; rintro e w3 ⟨rfl, hb3⟩; have HB3 := Aside0.mk hb3; clear hb3)
      go_ret
      exact ⟨by rw [ho.out]; cases q <;> rfl, HB3.out⟩
/-- What disk.Check answers. -/
def disk_Check.f (l0_0 : List ByteArray) (l0_1 : List S73) : Option Bool := some (checkB l0_0 l0_1)

theorem check1_pred (n : Int) (B : Nat) (l : List S73) (w : World) (hb : w.cell? ⟨B, 0, none⟩ = some (.int .i64 n)) (hB : B < w.heap.size) :
    PredAt 66 #[.pointer (some ⟨B, 0, none⟩)] encWrite (oddW n) l w :=
  ⟨enters_of Try.func66 (by kernel_rfl) rfl, fun x _ w1 h1 => disk_Check1_calls n B x w1 ((h1.cell (p := ⟨B, 0, none⟩) hB).trans hb) (Nat.lt_of_lt_of_le hB h1.size)⟩

set_option maxHeartbeats 4000000 in
set_option maxRecDepth 100000 in
theorem disk_Check.calls (A0_0 : Option Addr) (c0_0 : Nat) (l0_0 : List ByteArray) (A0_1 : Option Addr) (c0_1 : Nat) (l0_1 : List S73) (r : Bool) (w : World) (hr0_0 : Kd.C Kd.string w A0_0 l0_0.length l0_0) (hc0_0 : l0_0.length ≤ c0_0) (hr0_1 : Kd.C k73 w A0_1 l0_1.length l0_1) (hc0_1 : l0_1.length ≤ c0_1) (h : disk_Check.f l0_0 l0_1 = some r) :
    Calls Try.prog 53 #[.agg #[.slice A0_0 l0_0.length c0_0, .slice A0_1 l0_1.length c0_1]] w fun e w' => e = .returned (.bool r) ∧ Below w.heap.size w w' := by
  have hck : r = checkB l0_0 l0_1 := by simpa [disk_Check.f] using h.symm
  clear h
  have m0 := hr0_0.2.1
  have m1 := hr0_1.2.1
  unfold checkB at hck
  obtain ⟨D, hD⟩ : ∃ D, D = Obj.cells #[.slice A0_0 l0_0.length c0_0, .slice A0_1 l0_1.length c0_1] 25 := ⟨_, rfl⟩
  have hB2 : Below w.heap.size w ((w.alloc D).alloc (.cells #[.int .i64 (l0_0.length : Int)] 3)) := ((Below.refl _ _).alloc (Nat.le_refl _) _).alloc (by simp) _
  have HS := Aside0.mk (disk_short_calls A0_0 c0_0 l0_0 _ (Kd.C_below hr0_0 hB2))
  have HR1 := Aside0.mk hr0_1
  have HB2 := Aside0.mk hB2
  have hbx0 := Boxed.new (w.alloc D) 3 (.int .i64 (l0_0.length : Int))
  rw [World.size_alloc] at hbx0
  have hbx := Aside0.mk hbx0
  have hcD := Aside0.mk (show ∀ w3, Below ((w.alloc D).alloc (.cells #[.int .i64 (l0_0.length : Int)] 3)).heap.size ((w.alloc D).alloc (.cells #[.int .i64 (l0_0.length : Int)] 3)) w3 → w3.cell? ⟨w.heap.size, 1, none⟩ = some (.slice A0_1 l0_1.length c0_1) by
    intro w3 hb
    have h1 : w3.heap[w.heap.size]? = some D := (hb.block w.heap.size (by simp; omega)).trans ((Below.heap_alloc (w.alloc D) _ w.heap.size (by simp)).trans (World.alloc_heap_new w D))
    subst hD
    simp [World.cell?, h1])
  have hPR := Aside0.mk (show ∀ w3, Below ((w.alloc D).alloc (.cells #[.int .i64 (l0_0.length : Int)] 3)).heap.size ((w.alloc D).alloc (.cells #[.int .i64 (l0_0.length : Int)] 3)) w3 →
      Calls Try.prog 67 #[.slice A0_1 l0_1.length c0_1, .func (.func 66) #[] #[.pointer (some ⟨w.heap.size + 1, 0, none⟩)]] w3 fun e w' => e = .returned (.bool (l0_1.any (oddW l0_0.length))) ∧ Below w3.heap.size w3 w' by
    intro w3 hb
    have hs : w.heap.size + 1 < w3.heap.size := by have := hb.size; simp at this; omega
    exact ContainsFuncWrite _ _ _ A0_1 c0_1 l0_1 w3 (Kd.C_below hr0_1 (hB2.trans (hb.mono hB2.size))) (check1_pred _ _ _ w3 ((hb.block (w.heap.size + 1) (by simp)).trans hbx0 |> fun h => by simp [World.cell?, h]) hs))
  clear hbx0
  subst hD
  clear hB2 hr0_0 hr0_1
  by_cases h1 : 1 ≤ l0_0.length
  · by_cases h2 : l0_0.length ≤ 200
    · by_cases h3 : l0_1.length ≤ 100
      · rw [decide_eq_true h1, decide_eq_true h2, decide_eq_true h3] at hck
        cases h4 : l0_0.any longS
        · rw [h4] at hck HS
          have HK := Aside0.mk hck
          clear hck h4
          go_enter Try.func53, Try.ntmps53
          obtain ⟨q, hq⟩ : ∃ q, q = l0_1.any (oddW l0_0.length) := ⟨_, rfl⟩
          rw [← hq] at hPR HK
          clear hq
          go_wp2_with (first | (go_at_call 51; refine HS.out.mono ?_; rintro e w3 ⟨rfl, hb3⟩; have HB3 := Aside0.mk hb3; have hc1 := hcD.out w3 hb3; have HP := Aside0.mk (hPR.out w3 hb3); clear hb3) | (go_at_call 67; refine HP.out.mono ?_; rintro e w4 ⟨rfl, hb4⟩; have HB4 := Aside0.mk hb4; clear hb4))
          go_ret
          exact ⟨by rw [HK.out]; cases q <;> rfl, (HB2.out.trans (HB3.out.mono HB2.out.size)).trans (HB4.out.mono (HB2.out.trans (HB3.out.mono HB2.out.size)).size)⟩
        · rw [h4] at hck HS
          have HK := Aside0.mk hck
          clear hck h4
          go_enter Try.func53, Try.ntmps53
          go_wp2_with (go_at_call 51; refine HS.out.mono ?_; rintro e w3 ⟨rfl, hb3⟩; have HB3 := Aside0.mk hb3; clear hb3)
          go_ret
          exact ⟨by rw [HK.out]; rfl, HB2.out.trans (HB3.out.mono HB2.out.size)⟩
      · rw [decide_eq_true h1, decide_eq_true h2, decide_eq_false h3] at hck
        have HK := Aside0.mk hck
        clear hck
        go_enter Try.func53, Try.ntmps53
        go_wp2
        go_ret
        exact ⟨by rw [HK.out]; rfl, HB2.out⟩
    · rw [decide_eq_true h1, decide_eq_false h2] at hck
      have HK := Aside0.mk hck
      clear hck
      go_enter Try.func53, Try.ntmps53
      go_wp2
      go_ret
      exact ⟨by rw [HK.out]; rfl, HB2.out⟩
  · rw [decide_eq_false h1] at hck
    have HK := Aside0.mk hck
    clear hck
    go_enter Try.func53, Try.ntmps53
    go_wp2
    go_ret
    exact ⟨by rw [HK.out]; rfl, HB2.out⟩
end Go.Proofs.Ytkgcaheddhfpgaa.P
/-
  copy of a row of texts into one of the call's own, as long.
-/
namespace Go.Proofs.Ytkgcaheddhfpgaa.P
open Go.RowKit Go.Proofs.YtkgcaheddhfpgaaW.PrintWords Go.Proofs.YtkgcaheddhfpgaaW.PrintLast Go.Proofs.Plain

theorem cstr_size : (Try.prog.info? 9).map (·.size) = some 1 := by kernel_rfl

theorem copy_strs {ops : Array Oper} {rest : List Oper} {o : Oper} {a : Act} {Q : Exit → Act → World → Prop} {W : World} {base : Nat} {ok : Nat → Prop} (hgd : o.guard = none) (d s : Operand)
    (ho : o.op = .call { callee := .builtin .copy, args := #[d, s], argTypes := #[22, 22] }) (v : Value) (hd : a.eval d = v) (A : Option Addr) (n c : Nat) (hs : a.eval s = .slice A n c)
    (xs l : List ByteArray) (HO : Kd.R Kd.string 9 W base ok v xs) (HR : Kd.C Kd.string W A n l) (hlen : xs.length = n) (h0 : 0 < n)
    (h : ∀ w1, Kd.R Kd.string 9 w1 base ok v l → W.grownBy w1 v.ownBlock → wpList Try.prog ops Q rest (a.put o.dst (goInt l.length)) w1) : wpList Try.prog ops Q (o :: rest) a W := by
  have hown := Kd.own_of_R (enc := Value.string) (h1 := fun _ => rfl) HO
  have hln : l.length = n := HR.1
  obtain ⟨ad, rfl, hcell⟩ := HR.2.2 h0
  rcases hown.2 with ⟨_, hz⟩ | ⟨g, cap, cur, rfl, hb, hg, hnc, hcm, hcs, htake⟩
  · omega
  · refine wpList_copy_own hgd d s 22 22 ho 9 Try.underlying22 cstr_size g 0 xs.length cap ad n c hd hs cur 9 hg (encs Value.string l) (by rw [hlen]; simp [encs, hln]) ?_ (by simp [encs]; omega) (by intro u hu; simp [encs] at hu; obtain ⟨x, _, rfl⟩ := hu; rfl) ?_
    · intro j u hj
      simp only [encs, List.getElem?_map, Option.map_eq_some_iff] at hj
      obtain ⟨p, hp, rfl⟩ := hj
      obtain ⟨cs, hl, hK, hc⟩ := hcell j p hp
      have hK' : cs = [.string p] := hK
      subst hK'
      have := hc 0 _ rfl
      simpa [Kd.string, Kd.scalar] using this
    · have e1 : (encs Value.string l).length = l.length := by simp [encs]
      rw [e1]
      refine h _ (Kd.R_of_own ⟨by simp [encs], .inr ⟨g, cap, _, by rw [hln, ← hlen], hb, setRow_heap W g cur _ 9 (0, 0) hg, by omega, hcm, ?_, ?_⟩⟩ (fun k hk => HO.1 k hk)) ?_
      · simp [encs]; omega
      · show List.take (l.length * 1) (List.take 0 cur.toList ++ (encs Value.string l ++ _)) = _
        rw [List.take_zero, List.nil_append, Nat.mul_one, List.take_append_of_le_length (by simp [encs]), List.take_of_length_le (by simp [encs])]
      · refine ⟨rfl, rfl, rfl, by simp [World.setRow], fun k _ hk => setRow_other W g k _ (fun e => hk (by rw [e]; rfl))⟩
end Go.Proofs.Ytkgcaheddhfpgaa.P
/-
  slices.Clone over texts, by hand: the same elements in a row of its own. For every row of no more than 1000000000 elements.
-/
namespace Go.Proofs.Ytkgcaheddhfpgaa.P
open Go.RowKit Go.Proofs.YtkgcaheddhfpgaaW.PrintWords Go.Proofs.YtkgcaheddhfpgaaW.PrintLast Go.Proofs.YtkgcaheddhfpgaaW.PrintMore Go.Proofs.Plain

/-- What slices.Clone answers. -/
def slices_Clone_string_string.f (l0 : List ByteArray) : Option (List ByteArray) := if l0.length ≤ 1000000000 then some l0 else none
theorem slices_Clone_string_string_info : (Try.prog.info? 9).map (fun i => (i.zero, i.size, i.bytes)) = some (some (.string ⟨#[]⟩), 1, 16) := by kernel_rfl

set_option maxHeartbeats 2000000 in
theorem slices_Clone_string_string.calls (A0 : Option Addr) (c0 : Nat) (l0 : List ByteArray) (r : List ByteArray) (w : World) (hr0 : Kd.C Kd.string w A0 l0.length l0) (hc0 : l0.length ≤ c0) (h : slices_Clone_string_string.f l0 = some r) :
    Calls Try.prog 35 #[.slice A0 l0.length c0] w fun e w' => ∃ v0_ : Value, e = .returned (v0_) ∧ Kd.R Kd.string 9 w' w.heap.size (fun _ => True) v0_ r ∧ Below w.heap.size w w' := by
  unfold slices_Clone_string_string.f at h
  split at h
  · rename_i hlen
    obtain rfl := Option.some.inj h
    have HR := Aside0.mk hr0
    have HL := Aside0.mk hlen
    have heq := fun (W : World) => Lib.run_eql_slice_nil (P := Try.prog) W 22 9 A0 l0.length c0 0 0 Try.underlying22
    clear h hlen
    cases A0 with
    | none =>
      have h0 : l0 = [] := by
        cases l0 with
        | nil => rfl
        | cons x l => obtain ⟨_, e, _⟩ := hr0.2.2 (by simp); cases e
      have HN := Aside0.mk h0
      clear hr0 h0
      go_enter Try.func35, Try.ntmps35
      go_wp2
      go_ret
      exact ⟨_, rfl, by rw [HN.out]; exact Kd.R_nil _ _ _ _ _, Below.refl _ _⟩
    | some ad =>
      clear hr0
      have HR0 := Aside0.mk (show Kd.R Kd.string 9 (w.alloc (.cells #[] 9)) w.heap.size (fun _ => True) (.slice (some ⟨w.heap.size, 0, none⟩) 0 0) [] from ⟨fun _ _ => trivial, [], World.ownsRow_lit w #[] 0 (Nat.le_refl _) (by simp [maxLen]) rfl, Reps.none _ _⟩)
      have HB := Aside0.mk (show Below w.heap.size w (w.alloc (.cells #[] 9)) from (Below.refl _ _).alloc (Nat.le_refl _) _)
      go_enter Try.func35, Try.ntmps35
      go_wp2_with (at_builtin; refine Kd.R_append_rows Kd.string (w0 := w) w.heap.size rfl (.tmp 5) (.tmp 6) 22 9 (.string ⟨#[]⟩) 16 rfl Try.underlying22 slices_Clone_string_string_info rfl (by decide) (by omega) (.slice (some ⟨w.heap.size, 0, none⟩) 0 0) ([] : List ByteArray) l0 _ _ _ (fun _ => True) (fun _ => False) rfl rfl HR0.out (Kd.C_below HR.out HB.out) (fun _ _ h => h) (fun _ h => h.elim) (fun _ _ => trivial) HB.out HB.out.size (by have := HL.out; simp; omega) ?_; intro v1 w1 ho hb _ _; have HO := Aside0.mk ho; have HB1 := Aside0.mk hb; clear ho hb)
      go_ret
      exact ⟨_, rfl, HO.out, HB1.out⟩
  · cases h
end Go.Proofs.Ytkgcaheddhfpgaa.P
/-
  slices.Clone over writes, by hand: the same elements in a row of its own. For every row of no more than 1000000000 elements.
-/
namespace Go.Proofs.Ytkgcaheddhfpgaa.P
open Go.RowKit Go.Proofs.YtkgcaheddhfpgaaW.PrintWords Go.Proofs.YtkgcaheddhfpgaaW.PrintLast Go.Proofs.YtkgcaheddhfpgaaW.PrintMore Go.Proofs.Plain

/-- What slices.Clone answers. -/
def slices_Clone_WN.f (l0 : List S73) : Option (List S73) := if l0.length ≤ 1000000000 then some l0 else none
theorem slices_Clone_WN_info : (Try.prog.info? 73).map (fun i => (i.zero, i.size, i.bytes)) = some (some (.agg #[(.int .i64 0), (.string ⟨#[]⟩)]), 2, 24) := by kernel_rfl

set_option maxHeartbeats 2000000 in
theorem slices_Clone_WN.calls (A0 : Option Addr) (c0 : Nat) (l0 : List S73) (r : List S73) (w : World) (hr0 : Kd.C k73 w A0 l0.length l0) (hc0 : l0.length ≤ c0) (h : slices_Clone_WN.f l0 = some r) :
    Calls Try.prog 36 #[.slice A0 l0.length c0] w fun e w' => ∃ v0_ : Value, e = .returned (v0_) ∧ Kd.R k73 73 w' w.heap.size (fun _ => True) v0_ r ∧ Below w.heap.size w w' := by
  unfold slices_Clone_WN.f at h
  split at h
  · rename_i hlen
    obtain rfl := Option.some.inj h
    have HR := Aside0.mk hr0
    have HL := Aside0.mk hlen
    have heq := fun (W : World) => Lib.run_eql_slice_nil (P := Try.prog) W 23 73 A0 l0.length c0 0 0 Try.underlying23
    clear h hlen
    cases A0 with
    | none =>
      have h0 : l0 = [] := by
        cases l0 with
        | nil => rfl
        | cons x l => obtain ⟨_, e, _⟩ := hr0.2.2 (by simp); cases e
      have HN := Aside0.mk h0
      clear hr0 h0
      go_enter Try.func36, Try.ntmps36
      go_wp2
      go_ret
      exact ⟨_, rfl, by rw [HN.out]; exact Kd.R_nil _ _ _ _ _, Below.refl _ _⟩
    | some ad =>
      clear hr0
      have HR0 := Aside0.mk (show Kd.R k73 73 (w.alloc (.cells #[] 73)) w.heap.size (fun _ => True) (.slice (some ⟨w.heap.size, 0, none⟩) 0 0) [] from ⟨fun _ _ => trivial, [], World.ownsRow_lit w #[] 0 (Nat.le_refl _) (by simp [maxLen]) rfl, Reps.none _ _⟩)
      have HB := Aside0.mk (show Below w.heap.size w (w.alloc (.cells #[] 73)) from (Below.refl _ _).alloc (Nat.le_refl _) _)
      go_enter Try.func36, Try.ntmps36
      go_wp2_with (at_builtin; refine Kd.R_append_rows k73 (w0 := w) w.heap.size rfl (.tmp 5) (.tmp 6) 23 73 (.agg #[(.int .i64 0), (.string ⟨#[]⟩)]) 24 rfl Try.underlying23 slices_Clone_WN_info rfl (by decide) (by omega) (.slice (some ⟨w.heap.size, 0, none⟩) 0 0) ([] : List S73) l0 _ _ _ (fun _ => True) (fun _ => False) rfl rfl HR0.out (Kd.C_below HR.out HB.out) (fun _ _ h => h) (fun _ h => h.elim) (fun _ _ => trivial) HB.out HB.out.size (by have := HL.out; simp; omega) ?_; intro v1 w1 ho hb _ _; have HO := Aside0.mk ho; have HB1 := Aside0.mk hb; clear ho hb)
      go_ret
      exact ⟨_, rfl, HO.out, HB1.out⟩
  · cases h
end Go.Proofs.Ytkgcaheddhfpgaa.P
-- Written by a program of this session (xprint.py) over the kit's print.py.
namespace Go.Proofs.Ytkgcaheddhfpgaa.P
open Go.RowKit Go.Proofs.YtkgcaheddhfpgaaW.PrintWords Go.Proofs.YtkgcaheddhfpgaaW.PrintLast Go.Proofs.YtkgcaheddhfpgaaW.PrintMore
attribute [local go_sem] max2_int min2_int max_two min_two max_three min_three max_four min_four   -- for this text's walks alone
set_option linter.unusedVariables false
set_option linter.unusedSimpArgs false

/-! ### disk_open: function 39 -/
def disk_open.f (l0_0 : List ByteArray) (l0_1 : List (S73)) (a1 : Int) : Option (Int) := (disk_Check.f l0_0 l0_1).bind fun t107 => (if t107 = true then (if a1 < 0 then (some 40) else (if a1 ≥ (l0_0.length : Int) then (some 40) else (some 0))) else (some 1))
set_option maxHeartbeats 8000000 in
set_option maxRecDepth 100000 in
theorem disk_open.calls (A0_0 : Option Addr) (c0_0 : Nat) (l0_0 : List ByteArray) (A0_1 : Option Addr) (c0_1 : Nat) (l0_1 : List (S73)) (a1 : Int) (r : Int) (w : World) (hr0_0 : Kd.C Kd.string w A0_0 l0_0.length l0_0) (hc0_0 : l0_0.length ≤ c0_0) (hr0_1 : Kd.C k73 w A0_1 l0_1.length l0_1) (hc0_1 : l0_1.length ≤ c0_1) (h : disk_open.f l0_0 l0_1 a1 = some r) :
    Calls Try.prog 39 #[.agg #[.slice A0_0 l0_0.length c0_0, .slice A0_1 l0_1.length c0_1], .int .i64 a1] w fun e w' => e = .returned (.int .i64 r) ∧ Below w.heap.size w w' := by
  have hu25 := Try.underlying25
  have HR0_0 := Aside0.mk hr0_0
  have HC0_0 := Aside0.mk hc0_0
  clear hr0_0 hc0_0
  have HR0_1 := Aside0.mk hr0_1
  have HC0_1 := Aside0.mk hc0_1
  clear hr0_1 hc0_1
  have HB := Aside0.mk (Below.refl w.heap.size w)
  have H : ((disk_Check.f l0_0 l0_1).bind fun t107 => (if t107 = true then (if a1 < 0 then (some 40) else (if a1 ≥ (l0_0.length : Int) then (some 40) else (some 0))) else (some 1))) = some r := h
  clear h
  replace H := Option.bind_eq_some_iff.mp H
  obtain ⟨t107, A30, H⟩ := H
  replace H : (if t107 = true then (if a1 < 0 then (some 40) else (if a1 ≥ (l0_0.length : Int) then (some 40) else (some 0))) else (some 1)) = some r := H
  have A3 := Aside0.mk A30
  clear A30
  by_cases c4 : t107 = true
  · subst c4
    have H1 : (if a1 < 0 then (some 40) else (if a1 ≥ (l0_0.length : Int) then (some 40) else (some 0))) = some r := by rw [if_pos rfl] at H; exact H
    clear H
    have H := H1
    clear H1
    by_cases c5 : a1 < 0
    · rw [if_pos c5] at H
      have c5b0 : decide (a1 < 0) = true := decide_eq_true c5
      clear c5
      obtain rfl := Option.some.inj H
      go_enter Try.func39, Try.ntmps39
      go_wp2_with (first | ((with_reducible refine gate_dst (N := 2) rfl ?_); (try (refine gate_guard (by rfl) ?_; dsimp only)); refine box_event ?hg (N := 2) ?hd (cs := #[.slice A0_0 l0_0.length c0_0, .slice A0_1 l0_1.length c0_1]) (t := 25) ?hr ?_; (case hd => rfl); (case hg => rfl); (case hr => first | (go_simp; done) | (go_simp; rfl)); intro gb106 hg w6 hbox hb; have n0_ := Aside0.mk (below_step (by repeat (first | (with_reducible first | exact HB.out | apply below_alloc | apply pw_below_drewN | apply below_drew1) | exact HB.out)) hb); have n1_ := Aside0.mk (hbox); have n2_ := Aside0.mk ((by rw [hg]; exact (below_size (by repeat (first | (with_reducible first | exact HB.out | apply below_alloc | apply pw_below_drewN | apply below_drew1) | exact HB.out))) : w.heap.size ≤ gb106)); have n3_ := Aside0.mk ((by rw [hg]; exact (below_size (by repeat (first | (with_reducible first | exact HB.out | apply below_alloc | apply pw_below_drewN | apply below_drew1) | exact HB.out))) : w.heap.size ≤ gb106)); clear HB; have HB := n0_; have BK106 := n1_; have GW106 := n2_; have GE106 := n3_; clear n0_ n1_ n2_ n3_; clear hb hbox hg; have hcz7_0 : w6.cell? ⟨gb106, 0, none⟩ = some (.slice A0_0 l0_0.length c0_0) := (blk_cell BK106.out 0).trans rfl; have hcz7_1 : w6.cell? ⟨gb106, 1, none⟩ = some (.slice A0_1 l0_1.length c0_1) := (blk_cell BK106.out 1).trans rfl; have hfz7_0 := blk_frozen BK106.out 0; have hfz7_1 := blk_frozen BK106.out 1) | ((with_reducible refine gate_callee (f := 53) rfl ?_); refine goesL_ (some 7) rfl rfl Try.func53 (by kernel_rfl) rfl #[.agg #[.slice A0_0 l0_0.length c0_0, .slice A0_1 l0_1.length c0_1]] rfl (by (try simp only [List.map_toArray, List.map_cons, List.map_nil]); first | done | rfl | (simp only [List.length_drop, List.length_take]; rfl)) ?_; (with_reducible refine (disk_Check.calls _ _ l0_0 _ _ l0_1 true _ ?side1 ?side2 ?side3 ?side4 A3.out).mono ?_); (case side1 => repeat (first | exact (Kd.C_below HR0_0.out HB.out) | (with_reducible refine Kd.C_alloc ?_ _) | (with_reducible refine Kd.C_drewN ?_ _) | (with_reducible refine Kd.C_drew ?_))); (case side2 => exact HC0_0.out); (case side3 => repeat (first | exact (Kd.C_below HR0_1.out HB.out) | (with_reducible refine Kd.C_alloc ?_ _) | (with_reducible refine Kd.C_drewN ?_ _) | (with_reducible refine Kd.C_drew ?_))); (case side4 => exact HC0_1.out); rintro e w8 ⟨rfl, hb⟩; refine ⟨_, rfl, ?_⟩; have n0_ := Aside0.mk (blk_below (g := gb106) (o := .cells #[.slice A0_0 l0_0.length c0_0, .slice A0_1 l0_1.length c0_1] 25 (0, 0)) (by (with_reducible repeat (first | refine blk_drewN ?_ _ | refine blk_drew ?_ | refine blk_alloc ?_ _)); exact BK106.out) hb); have n1_ := Aside0.mk (below_step (by repeat (first | (with_reducible first | exact HB.out | apply below_alloc | apply pw_below_drewN | apply below_drew1 | refine below_set ?_ GE106.out) | exact HB.out)) hb); clear BK106; clear HB; have BK106 := n0_; have HB := n1_; clear n0_ n1_; (try clear hb); (try clear hb2); (try clear hk); (try clear hi)))
      go_ret
      exact ⟨by first | rfl | (simp [errW_none, errW_some] <;> rfl) | (simp [*, errW_none, errW_some] <;> rfl), by repeat (first | (with_reducible first | exact HB.out | apply below_alloc | apply pw_below_drewN | apply below_drew1 | refine below_set ?_ GE106.out) | exact HB.out)⟩
    · rw [if_neg c5] at H
      have c5b0 : decide (a1 < 0) = false := decide_eq_false c5
      clear c5
      by_cases c9 : a1 ≥ (l0_0.length : Int)
      · rw [if_pos c9] at H
        have c9b0 : decide ((l0_0.length : Int) ≤ a1) = true := decide_eq_true c9
        clear c9
        obtain rfl := Option.some.inj H
        go_enter Try.func39, Try.ntmps39
        go_wp2_with (first | ((with_reducible refine gate_dst (N := 2) rfl ?_); (try (refine gate_guard (by rfl) ?_; dsimp only)); refine box_event ?hg (N := 2) ?hd (cs := #[.slice A0_0 l0_0.length c0_0, .slice A0_1 l0_1.length c0_1]) (t := 25) ?hr ?_; (case hd => rfl); (case hg => rfl); (case hr => first | (go_simp; done) | (go_simp; rfl)); intro gb106 hg w10 hbox hb; have n0_ := Aside0.mk (below_step (by repeat (first | (with_reducible first | exact HB.out | apply below_alloc | apply pw_below_drewN | apply below_drew1) | exact HB.out)) hb); have n1_ := Aside0.mk (hbox); have n2_ := Aside0.mk ((by rw [hg]; exact (below_size (by repeat (first | (with_reducible first | exact HB.out | apply below_alloc | apply pw_below_drewN | apply below_drew1) | exact HB.out))) : w.heap.size ≤ gb106)); have n3_ := Aside0.mk ((by rw [hg]; exact (below_size (by repeat (first | (with_reducible first | exact HB.out | apply below_alloc | apply pw_below_drewN | apply below_drew1) | exact HB.out))) : w.heap.size ≤ gb106)); clear HB; have HB := n0_; have BK106 := n1_; have GW106 := n2_; have GE106 := n3_; clear n0_ n1_ n2_ n3_; clear hb hbox hg; have hcz11_0 : w10.cell? ⟨gb106, 0, none⟩ = some (.slice A0_0 l0_0.length c0_0) := (blk_cell BK106.out 0).trans rfl; have hcz11_1 : w10.cell? ⟨gb106, 1, none⟩ = some (.slice A0_1 l0_1.length c0_1) := (blk_cell BK106.out 1).trans rfl; have hfz11_0 := blk_frozen BK106.out 0; have hfz11_1 := blk_frozen BK106.out 1) | ((with_reducible refine gate_callee (f := 53) rfl ?_); refine goesL_ (some 7) rfl rfl Try.func53 (by kernel_rfl) rfl #[.agg #[.slice A0_0 l0_0.length c0_0, .slice A0_1 l0_1.length c0_1]] rfl (by (try simp only [List.map_toArray, List.map_cons, List.map_nil]); first | done | rfl | (simp only [List.length_drop, List.length_take]; rfl)) ?_; (with_reducible refine (disk_Check.calls _ _ l0_0 _ _ l0_1 true _ ?side1 ?side2 ?side3 ?side4 A3.out).mono ?_); (case side1 => repeat (first | exact (Kd.C_below HR0_0.out HB.out) | (with_reducible refine Kd.C_alloc ?_ _) | (with_reducible refine Kd.C_drewN ?_ _) | (with_reducible refine Kd.C_drew ?_))); (case side2 => exact HC0_0.out); (case side3 => repeat (first | exact (Kd.C_below HR0_1.out HB.out) | (with_reducible refine Kd.C_alloc ?_ _) | (with_reducible refine Kd.C_drewN ?_ _) | (with_reducible refine Kd.C_drew ?_))); (case side4 => exact HC0_1.out); rintro e w12 ⟨rfl, hb⟩; refine ⟨_, rfl, ?_⟩; have n0_ := Aside0.mk (blk_below (g := gb106) (o := .cells #[.slice A0_0 l0_0.length c0_0, .slice A0_1 l0_1.length c0_1] 25 (0, 0)) (by (with_reducible repeat (first | refine blk_drewN ?_ _ | refine blk_drew ?_ | refine blk_alloc ?_ _)); exact BK106.out) hb); have n1_ := Aside0.mk (below_step (by repeat (first | (with_reducible first | exact HB.out | apply below_alloc | apply pw_below_drewN | apply below_drew1 | refine below_set ?_ GE106.out) | exact HB.out)) hb); clear BK106; clear HB; have BK106 := n0_; have HB := n1_; clear n0_ n1_; (try clear hb); (try clear hb2); (try clear hk); (try clear hi); have hcz13_0 : w12.cell? ⟨gb106, 0, none⟩ = some (.slice A0_0 l0_0.length c0_0) := (blk_cell BK106.out 0).trans rfl; have hcz13_1 : w12.cell? ⟨gb106, 1, none⟩ = some (.slice A0_1 l0_1.length c0_1) := (blk_cell BK106.out 1).trans rfl; have hfz13_0 := blk_frozen BK106.out 0; have hfz13_1 := blk_frozen BK106.out 1))
        go_ret
        exact ⟨by first | rfl | (simp [errW_none, errW_some] <;> rfl) | (simp [*, errW_none, errW_some] <;> rfl), by repeat (first | (with_reducible first | exact HB.out | apply below_alloc | apply pw_below_drewN | apply below_drew1 | refine below_set ?_ GE106.out) | exact HB.out)⟩
      · rw [if_neg c9] at H
        have c9b0 : decide ((l0_0.length : Int) ≤ a1) = false := decide_eq_false c9
        clear c9
        obtain rfl := Option.some.inj H
        go_enter Try.func39, Try.ntmps39
        go_wp2_with (first | ((with_reducible refine gate_dst (N := 2) rfl ?_); (try (refine gate_guard (by rfl) ?_; dsimp only)); refine box_event ?hg (N := 2) ?hd (cs := #[.slice A0_0 l0_0.length c0_0, .slice A0_1 l0_1.length c0_1]) (t := 25) ?hr ?_; (case hd => rfl); (case hg => rfl); (case hr => first | (go_simp; done) | (go_simp; rfl)); intro gb106 hg w14 hbox hb; have n0_ := Aside0.mk (below_step (by repeat (first | (with_reducible first | exact HB.out | apply below_alloc | apply pw_below_drewN | apply below_drew1) | exact HB.out)) hb); have n1_ := Aside0.mk (hbox); have n2_ := Aside0.mk ((by rw [hg]; exact (below_size (by repeat (first | (with_reducible first | exact HB.out | apply below_alloc | apply pw_below_drewN | apply below_drew1) | exact HB.out))) : w.heap.size ≤ gb106)); have n3_ := Aside0.mk ((by rw [hg]; exact (below_size (by repeat (first | (with_reducible first | exact HB.out | apply below_alloc | apply pw_below_drewN | apply below_drew1) | exact HB.out))) : w.heap.size ≤ gb106)); clear HB; have HB := n0_; have BK106 := n1_; have GW106 := n2_; have GE106 := n3_; clear n0_ n1_ n2_ n3_; clear hb hbox hg; have hcz15_0 : w14.cell? ⟨gb106, 0, none⟩ = some (.slice A0_0 l0_0.length c0_0) := (blk_cell BK106.out 0).trans rfl; have hcz15_1 : w14.cell? ⟨gb106, 1, none⟩ = some (.slice A0_1 l0_1.length c0_1) := (blk_cell BK106.out 1).trans rfl; have hfz15_0 := blk_frozen BK106.out 0; have hfz15_1 := blk_frozen BK106.out 1) | ((with_reducible refine gate_callee (f := 53) rfl ?_); refine goesL_ (some 7) rfl rfl Try.func53 (by kernel_rfl) rfl #[.agg #[.slice A0_0 l0_0.length c0_0, .slice A0_1 l0_1.length c0_1]] rfl (by (try simp only [List.map_toArray, List.map_cons, List.map_nil]); first | done | rfl | (simp only [List.length_drop, List.length_take]; rfl)) ?_; (with_reducible refine (disk_Check.calls _ _ l0_0 _ _ l0_1 true _ ?side1 ?side2 ?side3 ?side4 A3.out).mono ?_); (case side1 => repeat (first | exact (Kd.C_below HR0_0.out HB.out) | (with_reducible refine Kd.C_alloc ?_ _) | (with_reducible refine Kd.C_drewN ?_ _) | (with_reducible refine Kd.C_drew ?_))); (case side2 => exact HC0_0.out); (case side3 => repeat (first | exact (Kd.C_below HR0_1.out HB.out) | (with_reducible refine Kd.C_alloc ?_ _) | (with_reducible refine Kd.C_drewN ?_ _) | (with_reducible refine Kd.C_drew ?_))); (case side4 => exact HC0_1.out); rintro e w16 ⟨rfl, hb⟩; refine ⟨_, rfl, ?_⟩; have n0_ := Aside0.mk (blk_below (g := gb106) (o := .cells #[.slice A0_0 l0_0.length c0_0, .slice A0_1 l0_1.length c0_1] 25 (0, 0)) (by (with_reducible repeat (first | refine blk_drewN ?_ _ | refine blk_drew ?_ | refine blk_alloc ?_ _)); exact BK106.out) hb); have n1_ := Aside0.mk (below_step (by repeat (first | (with_reducible first | exact HB.out | apply below_alloc | apply pw_below_drewN | apply below_drew1 | refine below_set ?_ GE106.out) | exact HB.out)) hb); clear BK106; clear HB; have BK106 := n0_; have HB := n1_; clear n0_ n1_; (try clear hb); (try clear hb2); (try clear hk); (try clear hi); have hcz17_0 : w16.cell? ⟨gb106, 0, none⟩ = some (.slice A0_0 l0_0.length c0_0) := (blk_cell BK106.out 0).trans rfl; have hcz17_1 : w16.cell? ⟨gb106, 1, none⟩ = some (.slice A0_1 l0_1.length c0_1) := (blk_cell BK106.out 1).trans rfl; have hfz17_0 := blk_frozen BK106.out 0; have hfz17_1 := blk_frozen BK106.out 1))
        go_ret
        exact ⟨by first | rfl | (simp [errW_none, errW_some] <;> rfl) | (simp [*, errW_none, errW_some] <;> rfl), by repeat (first | (with_reducible first | exact HB.out | apply below_alloc | apply pw_below_drewN | apply below_drew1 | refine below_set ?_ GE106.out) | exact HB.out)⟩
  · replace c4 := Bool.eq_false_iff.mpr c4
    subst c4
    have H1 : (some 1) = some r := by rw [if_neg (show ¬ (false = true) by decide)] at H; exact H
    clear H
    have H := H1
    clear H1
    obtain rfl := Option.some.inj H
    go_enter Try.func39, Try.ntmps39
    go_wp2_with (first | ((with_reducible refine gate_dst (N := 2) rfl ?_); (try (refine gate_guard (by rfl) ?_; dsimp only)); refine box_event ?hg (N := 2) ?hd (cs := #[.slice A0_0 l0_0.length c0_0, .slice A0_1 l0_1.length c0_1]) (t := 25) ?hr ?_; (case hd => rfl); (case hg => rfl); (case hr => first | (go_simp; done) | (go_simp; rfl)); intro gb106 hg w18 hbox hb; have n0_ := Aside0.mk (below_step (by repeat (first | (with_reducible first | exact HB.out | apply below_alloc | apply pw_below_drewN | apply below_drew1) | exact HB.out)) hb); have n1_ := Aside0.mk (hbox); have n2_ := Aside0.mk ((by rw [hg]; exact (below_size (by repeat (first | (with_reducible first | exact HB.out | apply below_alloc | apply pw_below_drewN | apply below_drew1) | exact HB.out))) : w.heap.size ≤ gb106)); have n3_ := Aside0.mk ((by rw [hg]; exact (below_size (by repeat (first | (with_reducible first | exact HB.out | apply below_alloc | apply pw_below_drewN | apply below_drew1) | exact HB.out))) : w.heap.size ≤ gb106)); clear HB; have HB := n0_; have BK106 := n1_; have GW106 := n2_; have GE106 := n3_; clear n0_ n1_ n2_ n3_; clear hb hbox hg; have hcz19_0 : w18.cell? ⟨gb106, 0, none⟩ = some (.slice A0_0 l0_0.length c0_0) := (blk_cell BK106.out 0).trans rfl; have hcz19_1 : w18.cell? ⟨gb106, 1, none⟩ = some (.slice A0_1 l0_1.length c0_1) := (blk_cell BK106.out 1).trans rfl; have hfz19_0 := blk_frozen BK106.out 0; have hfz19_1 := blk_frozen BK106.out 1) | ((with_reducible refine gate_callee (f := 53) rfl ?_); refine goesL_ (some 7) rfl rfl Try.func53 (by kernel_rfl) rfl #[.agg #[.slice A0_0 l0_0.length c0_0, .slice A0_1 l0_1.length c0_1]] rfl (by (try simp only [List.map_toArray, List.map_cons, List.map_nil]); first | done | rfl | (simp only [List.length_drop, List.length_take]; rfl)) ?_; (with_reducible refine (disk_Check.calls _ _ l0_0 _ _ l0_1 false _ ?side1 ?side2 ?side3 ?side4 A3.out).mono ?_); (case side1 => repeat (first | exact (Kd.C_below HR0_0.out HB.out) | (with_reducible refine Kd.C_alloc ?_ _) | (with_reducible refine Kd.C_drewN ?_ _) | (with_reducible refine Kd.C_drew ?_))); (case side2 => exact HC0_0.out); (case side3 => repeat (first | exact (Kd.C_below HR0_1.out HB.out) | (with_reducible refine Kd.C_alloc ?_ _) | (with_reducible refine Kd.C_drewN ?_ _) | (with_reducible refine Kd.C_drew ?_))); (case side4 => exact HC0_1.out); rintro e w20 ⟨rfl, hb⟩; refine ⟨_, rfl, ?_⟩; have n0_ := Aside0.mk (blk_below (g := gb106) (o := .cells #[.slice A0_0 l0_0.length c0_0, .slice A0_1 l0_1.length c0_1] 25 (0, 0)) (by (with_reducible repeat (first | refine blk_drewN ?_ _ | refine blk_drew ?_ | refine blk_alloc ?_ _)); exact BK106.out) hb); have n1_ := Aside0.mk (below_step (by repeat (first | (with_reducible first | exact HB.out | apply below_alloc | apply pw_below_drewN | apply below_drew1 | refine below_set ?_ GE106.out) | exact HB.out)) hb); clear BK106; clear HB; have BK106 := n0_; have HB := n1_; clear n0_ n1_; (try clear hb); (try clear hb2); (try clear hk); (try clear hi)))
    go_ret
    exact ⟨by first | rfl | (simp [errW_none, errW_some] <;> rfl) | (simp [*, errW_none, errW_some] <;> rfl), by repeat (first | (with_reducible first | exact HB.out | apply below_alloc | apply pw_below_drewN | apply below_drew1 | refine below_set ?_ GE106.out) | exact HB.out)⟩

end Go.Proofs.Ytkgcaheddhfpgaa.P
/-
  disk.Write, by hand. For every disk, number and text.
-/
namespace Go.Proofs.Ytkgcaheddhfpgaa.P
open Go.RowKit Go.Shelf Go.Proofs.YtkgcaheddhfpgaaW.PrintWords Go.Proofs.YtkgcaheddhfpgaaW.PrintLast Go.Proofs.YtkgcaheddhfpgaaW.PrintMore Go.Proofs.Plain

/-- What disk.Write answers. -/
def writeV (l0 : List ByteArray) (l1 : List S73) (at_ : Int) (s : ByteArray) : List ByteArray × List S73 × Int :=
  if checkB l0 l1 = false then ([], [], 1) else if at_ < 0 ∨ at_ ≥ (l0.length : Int) then ([], [], 40) else if longS s = true then ([], [], 1) else if l1.length = 100 then ([], [], 41) else (l0, l1 ++ [⟨at_, s⟩], 0)
def disk_Write.f (l0_0 : List ByteArray) (l0_1 : List S73) (a1 : Int) (a2 : ByteArray) : Option (List ByteArray × List S73 × Int) := some (writeV l0_0 l0_1 a1 a2)

theorem open_f (l0 : List ByteArray) (l1 : List S73) (at_ : Int) : disk_open.f l0 l1 at_ = some (if checkB l0 l1 = false then 1 else if at_ < 0 ∨ at_ ≥ (l0.length : Int) then 40 else 0) := by
  unfold disk_open.f disk_Check.f
  simp only [Option.bind_some]
  cases checkB l0 l1
  · rfl
  · by_cases h1 : at_ < 0
    · simp [h1]
    · by_cases h2 : at_ ≥ (l0.length : Int)
      · simp [h1, h2]
      · simp [h1, h2]

theorem disk_short_new (w : World) (s : ByteArray) :
    Calls Try.prog 51 #[.slice (some ⟨w.heap.size, 0, none⟩) 1 1] (w.alloc (.cells #[.string s] 9)) fun e w' => e = .returned (.bool (!(longS s))) ∧ Below w.heap.size w w' := by
  have h := disk_short_calls _ 1 [s] _ (one_str w s 9)
  refine h.mono ?_
  rintro e w' ⟨rfl, hb⟩
  exact ⟨by simp, ((Below.refl _ _).alloc (Nat.le_refl _) _).trans (hb.mono (by simp))⟩

theorem row_block {w : World} {base : Nat} {e : TypeId} {size n c : Nat} {A : Option Addr} {xs : List Value} (h : w.ownsRow base e size (.slice A n c) n xs) (hn : 0 < n) : ∃ go cells, A = some ⟨go, 0, none⟩ ∧ w.heap[go]? = some (.cells cells e (0, 0)) := by
  rcases h.2 with ⟨he, h0⟩ | ⟨g', cap, cur, he, _, hg, _⟩
  · omega
  · injection he with ha _ _; exact ⟨g', cur, ha, hg⟩

section
variable (A0 : Option Addr) (c0 : Nat) (l0 : List ByteArray) (A1 : Option Addr) (c1 : Nat) (l1 : List S73) (at_ : Int) (s : ByteArray) (w : World)
  (hr0 : Kd.C Kd.string w A0 l0.length l0) (hc0 : l0.length ≤ c0) (hr1 : Kd.C k73 w A1 l1.length l1) (hc1 : l1.length ≤ c1)
include hr0 hc0 hr1 hc1

set_option maxHeartbeats 8000000 in
set_option maxRecDepth 100000 in
theorem disk_Write_yes (hck : checkB l0 l1 = true) (ha : ¬ (at_ < 0 ∨ at_ ≥ (l0.length : Int))) (hs : longS s = false) (hl : ¬ l1.length = 100) :
    Calls Try.prog 33 #[.agg #[.slice A0 l0.length c0, .slice A1 l1.length c1], .int .i64 at_, .string s] w fun e w' => ∃ v0_ v1_ : Value, e = .returned (.tuple #[.agg #[v0_, v1_], .int .i64 0]) ∧ Kd.R Kd.string 9 w' w.heap.size (fun _ => True) v0_ l0 ∧ Kd.R k73 73 w' w.heap.size (fun _ => True) v1_ (l1 ++ [⟨at_, s⟩]) ∧ Below w.heap.size w w' := by
  have hk1 : 1 ≤ l0.length ∧ l0.length ≤ 200 ∧ l1.length ≤ 100 := by
    unfold checkB at hck
    simp only [Bool.and_eq_true, decide_eq_true_eq] at hck
    exact ⟨hck.1.1.1.1, hck.1.1.1.2, hck.1.1.2⟩
  obtain ⟨k1, k2, k3⟩ := hk1
  have hop := open_f l0 l1 at_
  rw [if_neg (by rw [hck]; decide), if_neg ha] at hop
  have HR0 := Aside0.mk hr0
  have HR1 := Aside0.mk hr1
  obtain ⟨D, hD⟩ : ∃ D, D = Obj.cells #[.slice A0 l0.length c0, .slice A1 l1.length c1] 25 := ⟨_, rfl⟩
  have hB2 : Below w.heap.size w ((w.alloc D).alloc (.cells #[.slice none 0 0, .slice none 0 0] 25)) := ((Below.refl _ _).alloc (Nat.le_refl _) _).alloc (by simp) _
  have HB2 := Aside0.mk hB2
  have HC := Aside0.mk (disk_open.calls A0 c0 l0 A1 c1 l1 at_ 0 _ (Kd.C_below hr0 hB2) hc0 (Kd.C_below hr1 hB2) hc1 hop)
  have hE := blk_new (w.alloc D) (.cells #[.slice none 0 0, .slice none 0 0] 25)
  rw [World.size_alloc] at hE
  have HE := Aside0.mk hE
  have HD := Aside0.mk (blk_alloc (blk_new w D) (.cells #[.slice none 0 0, .slice none 0 0] 25))
  have HCL := Aside0.mk (show slices_Clone_WN.f l1 = some l1 by unfold slices_Clone_WN.f; rw [if_pos (by omega)])
  have HS := Aside0.mk hs
  have e100 : ((l1.length : Int) == 100) = false := by simp; omega
  have e100n : (l1.length == 100) = false := by simpa using hl
  subst hD
  clear hB2 hE hr0 hr1 hck hop ha hs hl
  go_enter Try.func33, Try.ntmps33
  go_wp2_with (first | (go_at_call 39; refine HC.out.mono ?_; rintro e w3 ⟨rfl, hb3⟩; have HE3 := Aside0.mk (blk_below HE.out hb3); have HD3 := Aside0.mk (blk_below HD.out hb3); have HB3 := Aside0.mk (HB2.out.trans (hb3.mono HB2.out.size)); clear hb3) | (go_at_call 51; refine (disk_short_new _ _).mono ?_; rintro e w4 ⟨rfl, hb4⟩; have HE4 := Aside0.mk (blk_below HE3.out hb4); have HD4 := Aside0.mk (blk_below HD3.out hb4); have HB4 := Aside0.mk (HB3.out.trans (hb4.mono HB3.out.size)); clear hb4; have d0 := blk_cell HD4.out 0; have d1 := blk_cell HD4.out 1; rw [HS.out]) | ((with_reducible refine gate_dst (N := 33) rfl ?_); refine Kd.R_make Kd.string (w0 := w) w.heap.size 9 rfl rfl 22 (.tmp 32) (.tmp 32) rfl (l0.length : Int) rfl rfl Try.underlying22 (.string ⟨#[]⟩) 16 slices_Clone_string_string_info rfl (by decide) (by omega) ⟨#[]⟩ (ok := fun _ => True) (okp := fun _ => False) rfl (fun _ h => h.elim) trivial (by omega) (by omega) HB4.out HB4.out.size ?_; intro v5 w5 ho5 hb5 hg5 _; have HO5 := Aside0.mk ho5; have HB5 := Aside0.mk hb5; have HE5 := Aside0.mk (blk_grown HE4.out hg5 (by simp)); have HD5 := Aside0.mk (blk_grown HD4.out hg5 (by simp)); obtain ⟨A5, c5, rfl⟩ := Kd.R_slice ho5; simp only [List.length_replicate, Int.toNat_natCast] at *; clear ho5 hb5 hg5 d0 d1; have HT6 := Aside0.mk (blk_new w5 (.cells #[.slice A5 l0.length c5, .slice none 0 0] 25)); have HD6 := Aside0.mk (blk_alloc HD5.out (.cells #[.slice A5 l0.length c5, .slice none 0 0] 25)); have HE6 := Aside0.mk (blk_alloc HE5.out (.cells #[.slice A5 l0.length c5, .slice none 0 0] 25)); have HB6 := Aside0.mk (HB5.out.alloc HB5.out.size (.cells #[.slice A5 l0.length c5, .slice none 0 0] 25)); have HO6 := Aside0.mk (Kd.R_below HO5.out ((Below.refl w5.heap.size w5).alloc (Nat.le_refl _) (.cells #[.slice A5 l0.length c5, .slice none 0 0] 25))); have d0 := blk_cell HD6.out 0; have d1 := blk_cell HD6.out 1) | ((with_reducible refine gate_builtin (b := .copy) (xs := #[.tmp 36, .tmp 38]) rfl ?_); refine copy_strs rfl (.tmp 36) (.tmp 38) rfl (.slice A5 l0.length c5) rfl A0 l0.length c0 rfl (List.replicate l0.length ⟨#[]⟩) l0 HO6.out (Kd.C_below HR0.out HB6.out) (by simp) (by omega) ?_; intro w7 ho7 hg7; have HO7 := Aside0.mk ho7; have HB7 := Aside0.mk (HB6.out.grown hg7 HB6.out.size (fun k e => (Kd.R_bound HO6.out).1 k e |>.2.1)); have HE7 := Aside0.mk (blk_grown HE6.out hg7 (Kd.R_ne HO6.out HE6.out (by decide))); have HD7 := Aside0.mk (blk_grown HD6.out hg7 (Kd.R_ne HO6.out HD6.out (by decide))); have HT7 := Aside0.mk (blk_grown HT6.out hg7 (Kd.R_ne HO6.out HT6.out (by decide))); clear ho7 hg7 d0 d1; have d0 := blk_cell HD7.out 0; have d1 := blk_cell HD7.out 1) | (go_at_call 36; refine (slices_Clone_WN.calls A1 c1 l1 l1 _ (Kd.C_below HR1.out HB7.out) hc1 HCL.out).mono ?_; rintro e w8 ⟨v8, rfl, ho8, hb8⟩; have HO8 := Aside0.mk (Kd.R_below HO7.out hb8); have HE8 := Aside0.mk (blk_below HE7.out hb8); have HT8 := Aside0.mk (blk_below HT7.out hb8); have HP8 := Aside0.mk (Kd.R_lower ho8 HB7.out.size); have HB8 := Aside0.mk (HB7.out.trans (hb8.mono HB7.out.size)); obtain ⟨A8, c8, rfl⟩ := Kd.R_slice ho8; clear ho8 hb8 d0 d1) | ((with_reducible refine gate_builtin (b := .append) (xs := #[.tmp 42, .tmp 46]) rfl ?_); at_builtin; refine Kd.R_append k73 (w0 := w) w.heap.size rfl (.tmp 42) (.tmp 46) 23 73 (.agg #[(.int .i64 0), (.string ⟨#[]⟩)]) 24 rfl Try.underlying23 slices_Clone_WN_info rfl (by decide) (by omega) (.slice A8 l1.length c8) l1 ⟨at_, s⟩ [.int .i64 at_, .string s] (fun _ => True) (fun _ => False) rfl rfl (k73_mkM _ _ _ _) (fun _ hk => hk.elim) (fun _ _ => trivial) HP8.out HB8.out HB8.out.size (by omega) ?_; intro v9 w9 ho9 hb9 hg9 _; have HP9 := Aside0.mk ho9; have HB9 := Aside0.mk hb9; have HE9 := Aside0.mk (blk_grown HE8.out hg9 (Kd.R_ne HP8.out HE8.out (by decide))); have HT9 := Aside0.mk (blk_grown HT8.out hg9 (Kd.R_ne HP8.out HT8.out (by decide))); obtain ⟨A9, c9, rfl⟩ := Kd.R_slice ho9; have HG9 := Aside0.mk hg9; clear ho9 hb9 hg9; have t0 := blk_cell HT9.out 0; have t1 := blk_cell HT9.out 1; have tf := blk_frozen HT9.out 1; have hsl : (l1 ++ [(⟨at_, s⟩ : S73)]).length = l1.length + 1 := (by simp); rw [hsl] at HP9; clear hsl; have hlt5 := blk_lt HE5.out; have HE10 := Aside0.mk (blk_far HE9.out (p := ⟨w5.heap.size, 1, none⟩) (by show w.heap.size + 1 ≠ w5.heap.size; omega) (.slice A9 (l1.length + 1) c9)); have HT10 := Aside0.mk (blk_set HT9.out 1 (.slice A9 (l1.length + 1) c9)); have e0 := blk_cell HE10.out 0; have e1 := blk_cell HE10.out 1; have f0 := blk_frozen HE10.out 0; have f1 := blk_frozen HE10.out 1))
  obtain ⟨go, cells, hA5, hgo⟩ := row_block (Kd.own_of_R HO8.out) (by omega)
  have HO9 : Kd.R Kd.string 9 w9 w.heap.size (fun _ => True) (.slice A5 l0.length c5) l0 := Kd.R_of_own ((Kd.own_of_R HO8.out).kept HG9.out (.inr (by rw [hA5]; exact Kd.R_ne HP8.out hgo (by decide)))) (fun _ _ => trivial)
  have HE11 := blk_set HE10.out 0 (.slice A5 l0.length c5)
  have HE12 := blk_set HE11 1 (.slice A9 (l1.length + 1) c9)
  have qs : ∀ q, q ∈ 9 :: Kd.string.E → q ≠ 25 := by intro q hq; simp [Kd.string, Kd.scalar] at hq; subst hq; decide
  have qw : ∀ q, q ∈ 73 :: k73.E → q ≠ 25 := by intro q hq; simp [k73, Kd.iso, Kd.pair, Kd.int, Kd.string, Kd.scalar] at hq; subst hq; decide
  have g0 := blk_cell HE12 0
  have g1 := blk_cell HE12 1
  have hs5 : w.heap.size ≤ w5.heap.size := HB5.out.size
  refine bodyPost_ret (v := .tuple #[.agg #[.slice A5 l0.length c5, .slice A9 (l1.length + 1) c9], .int .i64 0]) ?_ rfl ⟨_, _, rfl, Kd.R_set (Kd.R_set (Kd.R_set HO9 HT9.out qs 1 _) HE10.out qs 0 _) HE11 qs 1 _, Kd.R_set (Kd.R_set (Kd.R_set HP9.out HT9.out qw 1 _) HE10.out qw 0 _) HE11 qw 1 _, ((HB9.out.setCell (p := ⟨w5.heap.size, 1, none⟩) hs5 _).setCell (p := ⟨w.heap.size + 1, 0, none⟩) (by simp) _).setCell (p := ⟨w.heap.size + 1, 1, none⟩) (by simp) _⟩
  simp [results, Try.results33, go_sem, g0, g1]

set_option maxHeartbeats 4000000 in
set_option maxRecDepth 100000 in
theorem disk_Write_open (er : Int) (hop : disk_open.f l0 l1 at_ = some er) (hne : er ≠ 0) :
    Calls Try.prog 33 #[.agg #[.slice A0 l0.length c0, .slice A1 l1.length c1], .int .i64 at_, .string s] w fun e w' => e = .returned (.tuple #[.agg #[.slice none 0 0, .slice none 0 0], .int .i64 er]) ∧ Below w.heap.size w w' := by
  have HR0 := Aside0.mk hr0
  obtain ⟨D, hD⟩ : ∃ D, D = Obj.cells #[.slice A0 l0.length c0, .slice A1 l1.length c1] 25 := ⟨_, rfl⟩
  have hB2 : Below w.heap.size w ((w.alloc D).alloc (.cells #[.slice none 0 0, .slice none 0 0] 25)) := ((Below.refl _ _).alloc (Nat.le_refl _) _).alloc (by simp) _
  have HB2 := Aside0.mk hB2
  have HC := Aside0.mk (disk_open.calls A0 c0 l0 A1 c1 l1 at_ er _ (Kd.C_below hr0 hB2) hc0 (Kd.C_below hr1 hB2) hc1 hop)
  have hE := blk_new (w.alloc D) (.cells #[.slice none 0 0, .slice none 0 0] 25)
  rw [World.size_alloc] at hE
  have HE := Aside0.mk hE
  have HD := Aside0.mk (blk_alloc (blk_new w D) (.cells #[.slice none 0 0, .slice none 0 0] 25))
  subst hD
  clear hB2 hE hr0 hr1 hop
  have e2 : (er != 0) = true := by simpa using hne
  clear hne
  go_enter Try.func33, Try.ntmps33
  go_wp2_with (go_at_call 39; refine HC.out.mono ?_; rintro e w3 ⟨rfl, hb3⟩; have HE3 := Aside0.mk (blk_below HE.out hb3); have HD3 := Aside0.mk (blk_below HD.out hb3); have HB3 := Aside0.mk (HB2.out.trans (hb3.mono HB2.out.size)); clear hb3; have e0 := blk_cell HE3.out 0; have e1 := blk_cell HE3.out 1; have f0 := blk_frozen HE3.out 0; have f1 := blk_frozen HE3.out 1)
  have g0 := blk_cell (blk_set (blk_set HE3.out 0 (.slice none 0 0)) 1 (.slice none 0 0)) 0
  have g1 := blk_cell (blk_set (blk_set HE3.out 0 (.slice none 0 0)) 1 (.slice none 0 0)) 1
  refine bodyPost_ret (v := .tuple #[.agg #[.slice none 0 0, .slice none 0 0], .int .i64 er]) ?_ rfl ⟨rfl, (HB3.out.setCell (p := ⟨w.heap.size + 1, 0, none⟩) (by simp) _).setCell (p := ⟨w.heap.size + 1, 1, none⟩) (by simp) _⟩
  simp [results, Try.results33, go_sem, g0, g1]

set_option maxHeartbeats 4000000 in
set_option maxRecDepth 100000 in
theorem disk_Write_long (hop : disk_open.f l0 l1 at_ = some 0) (hs : longS s = true) :
    Calls Try.prog 33 #[.agg #[.slice A0 l0.length c0, .slice A1 l1.length c1], .int .i64 at_, .string s] w fun e w' => e = .returned (.tuple #[.agg #[.slice none 0 0, .slice none 0 0], .int .i64 1]) ∧ Below w.heap.size w w' := by
  have HR0 := Aside0.mk hr0
  obtain ⟨D, hD⟩ : ∃ D, D = Obj.cells #[.slice A0 l0.length c0, .slice A1 l1.length c1] 25 := ⟨_, rfl⟩
  have hB2 : Below w.heap.size w ((w.alloc D).alloc (.cells #[.slice none 0 0, .slice none 0 0] 25)) := ((Below.refl _ _).alloc (Nat.le_refl _) _).alloc (by simp) _
  have HB2 := Aside0.mk hB2
  have HC := Aside0.mk (disk_open.calls A0 c0 l0 A1 c1 l1 at_ 0 _ (Kd.C_below hr0 hB2) hc0 (Kd.C_below hr1 hB2) hc1 hop)
  have hE := blk_new (w.alloc D) (.cells #[.slice none 0 0, .slice none 0 0] 25)
  rw [World.size_alloc] at hE
  have HE := Aside0.mk hE
  have HD := Aside0.mk (blk_alloc (blk_new w D) (.cells #[.slice none 0 0, .slice none 0 0] 25))
  subst hD
  clear hB2 hE hr0 hr1 hop
  have HS := Aside0.mk hs
  clear hs
  go_enter Try.func33, Try.ntmps33
  go_wp2_with (first | (go_at_call 39; refine HC.out.mono ?_; rintro e w3 ⟨rfl, hb3⟩; have HE3 := Aside0.mk (blk_below HE.out hb3); have HD3 := Aside0.mk (blk_below HD.out hb3); have HB3 := Aside0.mk (HB2.out.trans (hb3.mono HB2.out.size)); clear hb3) | (go_at_call 51; refine (disk_short_new _ _).mono ?_; rintro e w4 ⟨rfl, hb4⟩; have HE4 := Aside0.mk (blk_below HE3.out hb4); have HD4 := Aside0.mk (blk_below HD3.out hb4); have HB4 := Aside0.mk (HB3.out.trans (hb4.mono HB3.out.size)); clear hb4; have d0 := blk_cell HD4.out 0; have d1 := blk_cell HD4.out 1; rw [HS.out]; have e0 := blk_cell HE4.out 0; have e1 := blk_cell HE4.out 1; have f0 := blk_frozen HE4.out 0; have f1 := blk_frozen HE4.out 1))
  have g0 := blk_cell (blk_set (blk_set HE4.out 0 (.slice none 0 0)) 1 (.slice none 0 0)) 0
  have g1 := blk_cell (blk_set (blk_set HE4.out 0 (.slice none 0 0)) 1 (.slice none 0 0)) 1
  refine bodyPost_ret (v := .tuple #[.agg #[.slice none 0 0, .slice none 0 0], .int .i64 1]) ?_ rfl ⟨rfl, (HB4.out.setCell (p := ⟨w.heap.size + 1, 0, none⟩) (by simp) _).setCell (p := ⟨w.heap.size + 1, 1, none⟩) (by simp) _⟩
  simp [results, Try.results33, go_sem, g0, g1]

set_option maxHeartbeats 4000000 in
set_option maxRecDepth 100000 in
theorem disk_Write_full (hop : disk_open.f l0 l1 at_ = some 0) (hs : longS s = false) (hl : l1.length = 100) :
    Calls Try.prog 33 #[.agg #[.slice A0 l0.length c0, .slice A1 l1.length c1], .int .i64 at_, .string s] w fun e w' => e = .returned (.tuple #[.agg #[.slice none 0 0, .slice none 0 0], .int .i64 41]) ∧ Below w.heap.size w w' := by
  have HR0 := Aside0.mk hr0
  obtain ⟨D, hD⟩ : ∃ D, D = Obj.cells #[.slice A0 l0.length c0, .slice A1 l1.length c1] 25 := ⟨_, rfl⟩
  have hB2 : Below w.heap.size w ((w.alloc D).alloc (.cells #[.slice none 0 0, .slice none 0 0] 25)) := ((Below.refl _ _).alloc (Nat.le_refl _) _).alloc (by simp) _
  have HB2 := Aside0.mk hB2
  have HC := Aside0.mk (disk_open.calls A0 c0 l0 A1 c1 l1 at_ 0 _ (Kd.C_below hr0 hB2) hc0 (Kd.C_below hr1 hB2) hc1 hop)
  have hE := blk_new (w.alloc D) (.cells #[.slice none 0 0, .slice none 0 0] 25)
  rw [World.size_alloc] at hE
  have HE := Aside0.mk hE
  have HD := Aside0.mk (blk_alloc (blk_new w D) (.cells #[.slice none 0 0, .slice none 0 0] 25))
  subst hD
  clear hB2 hE hr0 hr1 hop
  have HS := Aside0.mk hs
  have e100 : ((l1.length : Int) == 100) = true := by simp; omega
  have e100n : (l1.length == 100) = true := by simpa using hl
  clear hs hl
  go_enter Try.func33, Try.ntmps33
  go_wp2_with (first | (go_at_call 39; refine HC.out.mono ?_; rintro e w3 ⟨rfl, hb3⟩; have HE3 := Aside0.mk (blk_below HE.out hb3); have HD3 := Aside0.mk (blk_below HD.out hb3); have HB3 := Aside0.mk (HB2.out.trans (hb3.mono HB2.out.size)); clear hb3) | (go_at_call 51; refine (disk_short_new _ _).mono ?_; rintro e w4 ⟨rfl, hb4⟩; have HE4 := Aside0.mk (blk_below HE3.out hb4); have HD4 := Aside0.mk (blk_below HD3.out hb4); have HB4 := Aside0.mk (HB3.out.trans (hb4.mono HB3.out.size)); clear hb4; have d0 := blk_cell HD4.out 0; have d1 := blk_cell HD4.out 1; rw [HS.out]; have e0 := blk_cell HE4.out 0; have e1 := blk_cell HE4.out 1; have f0 := blk_frozen HE4.out 0; have f1 := blk_frozen HE4.out 1))
  have g0 := blk_cell (blk_set (blk_set HE4.out 0 (.slice none 0 0)) 1 (.slice none 0 0)) 0
  have g1 := blk_cell (blk_set (blk_set HE4.out 0 (.slice none 0 0)) 1 (.slice none 0 0)) 1
  refine bodyPost_ret (v := .tuple #[.agg #[.slice none 0 0, .slice none 0 0], .int .i64 41]) ?_ rfl ⟨rfl, (HB4.out.setCell (p := ⟨w.heap.size + 1, 0, none⟩) (by simp) _).setCell (p := ⟨w.heap.size + 1, 1, none⟩) (by simp) _⟩
  simp [results, Try.results33, go_sem, g0, g1]
end

theorem disk_Write.calls (A0_0 : Option Addr) (c0_0 : Nat) (l0_0 : List ByteArray) (A0_1 : Option Addr) (c0_1 : Nat) (l0_1 : List S73) (a1 : Int) (a2 : ByteArray) (r1 : List ByteArray) (r2 : List S73) (r3 : Int) (w : World) (hr0_0 : Kd.C Kd.string w A0_0 l0_0.length l0_0) (hc0_0 : l0_0.length ≤ c0_0) (hr0_1 : Kd.C k73 w A0_1 l0_1.length l0_1) (hc0_1 : l0_1.length ≤ c0_1) (h : disk_Write.f l0_0 l0_1 a1 a2 = some (r1, r2, r3)) :
    Calls Try.prog 33 #[.agg #[.slice A0_0 l0_0.length c0_0, .slice A0_1 l0_1.length c0_1], .int .i64 a1, .string a2] w fun e w' => ∃ v0_ v1_ : Value, e = .returned (.tuple #[.agg #[v0_, v1_], .int .i64 r3]) ∧ Kd.R Kd.string 9 w' w.heap.size (fun _ => True) v0_ r1 ∧ Kd.R k73 73 w' w.heap.size (fun _ => True) v1_ r2 ∧ Below w.heap.size w w' := by
  have hv : writeV l0_0 l0_1 a1 a2 = (r1, r2, r3) := by simpa [disk_Write.f] using h
  have hop := open_f l0_0 l0_1 a1
  unfold writeV at hv
  by_cases h1 : checkB l0_0 l0_1 = false
  · rw [if_pos h1] at hv hop
    simp only [Prod.mk.injEq] at hv
    obtain ⟨rfl, rfl, rfl⟩ := hv
    refine (disk_Write_open A0_0 c0_0 l0_0 A0_1 c0_1 l0_1 a1 a2 w hr0_0 hc0_0 hr0_1 hc0_1 1 hop (by decide)).mono ?_
    rintro e w' ⟨rfl, hb⟩
    exact ⟨_, _, rfl, Kd.R_nil _ _ _ _ _, Kd.R_nil _ _ _ _ _, hb⟩
  · rw [if_neg h1] at hv hop
    by_cases h2 : a1 < 0 ∨ a1 ≥ (l0_0.length : Int)
    · rw [if_pos h2] at hv hop
      simp only [Prod.mk.injEq] at hv
      obtain ⟨rfl, rfl, rfl⟩ := hv
      refine (disk_Write_open A0_0 c0_0 l0_0 A0_1 c0_1 l0_1 a1 a2 w hr0_0 hc0_0 hr0_1 hc0_1 40 hop (by decide)).mono ?_
      rintro e w' ⟨rfl, hb⟩
      exact ⟨_, _, rfl, Kd.R_nil _ _ _ _ _, Kd.R_nil _ _ _ _ _, hb⟩
    · rw [if_neg h2] at hv hop
      by_cases h3 : longS a2 = true
      · rw [if_pos h3] at hv
        simp only [Prod.mk.injEq] at hv
        obtain ⟨rfl, rfl, rfl⟩ := hv
        refine (disk_Write_long A0_0 c0_0 l0_0 A0_1 c0_1 l0_1 a1 a2 w hr0_0 hc0_0 hr0_1 hc0_1 hop h3).mono ?_
        rintro e w' ⟨rfl, hb⟩
        exact ⟨_, _, rfl, Kd.R_nil _ _ _ _ _, Kd.R_nil _ _ _ _ _, hb⟩
      · rw [if_neg h3] at hv
        have h3' : longS a2 = false := by simpa using h3
        by_cases h4 : l0_1.length = 100
        · rw [if_pos h4] at hv
          simp only [Prod.mk.injEq] at hv
          obtain ⟨rfl, rfl, rfl⟩ := hv
          refine (disk_Write_full A0_0 c0_0 l0_0 A0_1 c0_1 l0_1 a1 a2 w hr0_0 hc0_0 hr0_1 hc0_1 hop h3' h4).mono ?_
          rintro e w' ⟨rfl, hb⟩
          exact ⟨_, _, rfl, Kd.R_nil _ _ _ _ _, Kd.R_nil _ _ _ _ _, hb⟩
        · rw [if_neg h4] at hv
          simp only [Prod.mk.injEq] at hv
          obtain ⟨rfl, rfl, rfl⟩ := hv
          exact disk_Write_yes A0_0 c0_0 l0_0 A0_1 c0_1 l0_1 a1 a2 w hr0_0 hc0_0 hr0_1 hc0_1 (by simpa using h1) h2 h3' h4
end Go.Proofs.Ytkgcaheddhfpgaa.P
/-
  disk.done, by hand: a disk with those of its writes done that a function value chooses. For every disk and every such function value.
-/
namespace Go.Proofs.Ytkgcaheddhfpgaa.P
open Go.RowKit Go.Shelf Go.Proofs.YtkgcaheddhfpgaaW.PrintWords Go.Proofs.YtkgcaheddhfpgaaW.PrintLast Go.Proofs.YtkgcaheddhfpgaaW.PrintMore Go.Proofs.Plain

/-- Blocks behind those writes, from number i on, that p chooses. -/
def applyW (p : Int → Bool) : Nat → List S73 → List ByteArray → List ByteArray
  | _, [], b => b
  | i, x :: l, b => applyW p (i + 1) l (if p (i : Int) = true then b.set x.f0.toNat x.f1 else b)
theorem applyW_snoc (p : Int → Bool) : ∀ (l : List S73) (i : Nat) (x : S73) (b : List ByteArray), applyW p i (l ++ [x]) b = (if p ((i + l.length : Nat) : Int) = true then (applyW p i l b).set x.f0.toNat x.f1 else applyW p i l b)
  | [], i, x, b => by simp [applyW]
  | y :: l, i, x, b => by
    simp only [List.cons_append, applyW, List.length_cons]
    rw [applyW_snoc p l (i + 1) x]
    rw [show i + 1 + l.length = i + (l.length + 1) by omega]
theorem applyW_length (p : Int → Bool) : ∀ (l : List S73) (i : Nat) (b : List ByteArray), (applyW p i l b).length = b.length
  | [], i, b => rfl
  | y :: l, i, b => by
    simp only [applyW]
    rw [applyW_length p l]
    split <;> simp

/-- The function value answers p at every number that is no less than 0, and turns nothing that lies, from w on. -/
def PredI (g : Nat) (lb : Array Value) (p : Int → Bool) (w : World) : Prop :=
  (∀ args w, (callFunc g args).run Try.prog w = .ok (.enter g args) w) ∧
  ∀ (i : Nat) w1, Below w.heap.size w w1 → Calls Try.prog g (#[.int .i64 (i : Int)] ++ lb) w1 fun e w2 => e = .returned (.bool (p i)) ∧ Below w1.heap.size w1 w2

theorem check_len {l0 : List ByteArray} {l1 : List S73} (h : checkB l0 l1 = true) : 1 ≤ l0.length ∧ l0.length ≤ 200 ∧ l1.length ≤ 100 ∧ (∀ s ∈ l0, s.size ≤ 256) ∧ ∀ x ∈ l1, 0 ≤ x.f0 ∧ x.f0 < (l0.length : Int) ∧ x.f1.size ≤ 256 := by
  unfold checkB at h
  simp only [Bool.and_eq_true, decide_eq_true_eq, Bool.not_eq_true'] at h
  obtain ⟨⟨⟨⟨h1, h2⟩, h3⟩, h4⟩, h5⟩ := h
  refine ⟨h1, h2, h3, fun s hs => ?_, fun x hx => ?_⟩
  · have := List.any_eq_false.1 h4 s hs
    unfold longS at this
    simp at this
    exact this
  · have := List.any_eq_false.1 h5 x hx
    unfold oddW longS at this
    simp at this
    exact ⟨this.1.1, this.1.2, this.2⟩

set_option maxHeartbeats 8000000 in
set_option maxRecDepth 100000 in
theorem disk_done_yes (g : Nat) (lb : Array Value) (p : Int → Bool) (A0 : Option Addr) (c0 : Nat) (l0 : List ByteArray) (A1 : Option Addr) (c1 : Nat) (l1 : List S73) (w : World)
    (hr0 : Kd.C Kd.string w A0 l0.length l0) (hc0 : l0.length ≤ c0) (hr1 : Kd.C k73 w A1 l1.length l1) (hc1 : l1.length ≤ c1) (hck : checkB l0 l1 = true) (hp : PredI g lb p w) :
    Calls Try.prog 37 #[.agg #[.slice A0 l0.length c0, .slice A1 l1.length c1], .func (.func g) #[] lb] w fun e w' => ∃ v0 : Value, e = .returned (.tuple #[.agg #[v0, .slice none 0 0], .int .i64 0]) ∧ Kd.R Kd.string 9 w' w.heap.size (fun _ => True) v0 (applyW p 0 l1 l0) ∧ Below w.heap.size w w' := by
  obtain ⟨k1, k2, k3, k4, k5⟩ := check_len hck
  obtain ⟨eg, hpr⟩ := hp
  have HP := Aside0.mk hpr
  have HR0 := Aside0.mk hr0
  have HR1 := Aside0.mk hr1
  have HK5 := Aside0.mk k5
  obtain ⟨D, hD⟩ : ∃ D, D = Obj.cells #[.slice A0 l0.length c0, .slice A1 l1.length c1] 25 := ⟨_, rfl⟩
  have hB2 : Below w.heap.size w ((w.alloc D).alloc (.cells #[.slice none 0 0, .slice none 0 0] 25)) := ((Below.refl _ _).alloc (Nat.le_refl _) _).alloc (by simp) _
  have HB2 := Aside0.mk hB2
  have HC := Aside0.mk (disk_Check.calls A0 c0 l0 A1 c1 l1 true _ (Kd.C_below hr0 hB2) hc0 (Kd.C_below hr1 hB2) hc1 (by unfold disk_Check.f; rw [hck]))
  have hE := blk_new (w.alloc D) (.cells #[.slice none 0 0, .slice none 0 0] 25)
  rw [World.size_alloc] at hE
  have HE := Aside0.mk hE
  have HD := Aside0.mk (blk_alloc (blk_new w D) (.cells #[.slice none 0 0, .slice none 0 0] 25))
  subst hD
  clear hB2 hE hr0 hr1 hck hpr k4 k5
  go_enter Try.func37, Try.ntmps37
  go_wp2_with (first | (go_at_call 53; refine HC.out.mono ?_; rintro e w3 ⟨rfl, hb3⟩; have HE3 := Aside0.mk (blk_below HE.out hb3); have HD3 := Aside0.mk (blk_below HD.out hb3); have d0 := blk_cell HD3.out 0; have d1 := blk_cell HD3.out 1; have HB3 := Aside0.mk (HB2.out.trans (hb3.mono HB2.out.size)); clear hb3) | ((with_reducible refine gate_dst (N := 16) rfl ?_); refine Kd.R_make Kd.string (w0 := w) w.heap.size 9 rfl rfl 22 (.tmp 15) (.tmp 15) rfl (l0.length : Int) rfl rfl Try.underlying22 (.string ⟨#[]⟩) 16 slices_Clone_string_string_info rfl (by decide) (by omega) ⟨#[]⟩ (ok := fun _ => True) (okp := fun _ => False) rfl (fun _ h => h.elim) trivial (by omega) (by omega) HB3.out HB3.out.size ?_; intro v4 w4 ho4 hb4 hg4 _; have HO4 := Aside0.mk ho4; have HB4 := Aside0.mk hb4; have HE4 := Aside0.mk (blk_grown HE3.out hg4 (by simp)); have HD4 := Aside0.mk (blk_grown HD3.out hg4 (by simp)); clear ho4 hb4 hg4 d0 d1; have d0 := blk_cell HD4.out 0; have d1 := blk_cell HD4.out 1) | ((with_reducible refine gate_builtin (b := .copy) (xs := #[.tmp 17, .tmp 19]) rfl ?_); refine copy_strs rfl (.tmp 17) (.tmp 19) rfl v4 rfl A0 l0.length c0 rfl (List.replicate (l0.length : Int).toNat ⟨#[]⟩) l0 HO4.out (Kd.C_below HR0.out HB4.out) (by simp) (by omega) ?_; intro w5 ho5 hg5; have HO5 := Aside0.mk ho5; have HB5 := Aside0.mk (HB4.out.grown hg5 HB4.out.size (fun k e => (Kd.R_bound HO4.out).1 k e |>.2.1)); have HE5 := Aside0.mk (blk_grown HE4.out hg5 (Kd.R_ne HO4.out HE4.out (by decide))); have HD5 := Aside0.mk (blk_grown HD4.out hg5 (Kd.R_ne HO4.out HD4.out (by decide))); clear ho5 hg5 d0 d1; have d0 := blk_cell HD5.out 0; have d1 := blk_cell HD5.out 1))
  clear d0 d1 HC HE HD HE3 HD3 HB3 HE4 HD4 HO4 HB4 HD5 HB2
  obtain ⟨A, c, rfl⟩ := Kd.R_slice HO5.out
  obtain ⟨go, rfl⟩ : ∃ go, A = some ⟨go, 0, none⟩ := by
    obtain ⟨inner, ho⟩ := Kd.R_own HO5.out
    rcases ho.2 with ⟨he, h0⟩ | ⟨g', cap, cur, he, _⟩
    · omega
    · injection he with ha _ _; exact ⟨g', ha⟩
  go_loopw [24] (fun i wr => ∃ k : Nat, k ≤ l1.length ∧ i = .int .i64 k ∧ Aside0 (Kd.R Kd.string 9 wr w.heap.size (fun _ => True) (.slice (some ⟨go, 0, none⟩) l0.length c) (applyW p 0 (l1.take k) l0)) ∧ Aside0 (Below w.heap.size w wr) ∧ Aside0 (wr.heap[w.heap.size + 1]? = some (.cells #[.slice none 0 0, .slice none 0 0] 25 (0, 0))))
    (fun i _ => l1.length - (intOf i).toNat)
  case atStart => exact ⟨0, Nat.zero_le _, rfl, ⟨by simpa [applyW] using HO5.out⟩, HB5, HE5⟩
  case round =>
    clear HO5 HB5 HE5
    obtain ⟨k, hk, rfl, HO, HB, HE⟩ := hrel
    by_cases hlt : k < l1.length
    · have h5 := HK5.out l1[k] (List.getElem_mem hlt)
      obtain ⟨ad, rfl, hx0, hx1⟩ := at_T73 (Kd.C_below HR1.out HB.out) (k : Int) (by omega) (by omega)
      rw [rdWrite l1 k hlt, Int.toNat_natCast] at hx0 hx1
      have happ := applyW_snoc p (l1.take k) 0 l1[k] l0
      rw [← List.take_succ_eq_append_getElem hlt, List.length_take, Nat.min_eq_left (by omega), Nat.zero_add] at happ
      have HA := Aside0.mk happ
      have HL := Aside0.mk (applyW_length p (l1.take k) 0 l0)
      clear happ
      generalize l1[k] = x at *
      obtain ⟨at_, s⟩ := x
      simp only at h5 hx0 hx1
      obtain ⟨N, rfl⟩ : ∃ N : Nat, at_ = N := ⟨at_.toNat, by omega⟩
      have HB1 := Aside0.mk (show Below w.heap.size w (wr.alloc (.cells #[.int .i64 (N : Int), .string s] 73)) from HB.out.alloc HB.out.size _)
      have HCL := Aside0.mk (HP.out k _ HB1.out)
      have HW := Aside0.mk (blk_new wr (.cells #[.int .i64 (N : Int), .string s] 73))
      have HO1 := Aside0.mk (Kd.R_below HO.out ((Below.refl wr.heap.size wr).alloc (Nat.le_refl _) (.cells #[.int .i64 (N : Int), .string s] 73)))
      have HE1 := Aside0.mk (blk_alloc HE.out (.cells #[.int .i64 (N : Int), .string s] 73))
      have hN : N < l0.length := by omega
      clear h5
      cases hpk : p (k : Int)
      · rw [hpk] at HCL HA
        rw [if_neg (by decide)] at HA
        clear hpk
        go_wp2_with (go_at_fn g; refine HCL.out.mono ?_; rintro e w3 ⟨rfl, hb3⟩; have HO3 := Aside0.mk (Kd.R_below HO1.out hb3); have HE3 := Aside0.mk (blk_below HE1.out hb3); have HB3 := Aside0.mk (HB1.out.trans (hb3.mono HB1.out.size)); clear hb3)
        go_roundw
        case rel => exact ⟨k + 1, by omega, by go_num, ⟨by rw [HA.out]; exact HO3.out⟩, HB3, HE3⟩
        case measure => simp [intOf]; omega
      · rw [hpk] at HCL HA
        rw [if_pos rfl] at HA
        clear hpk
        go_wp2_with (go_at_fn g; refine HCL.out.mono ?_; rintro e w3 ⟨rfl, hb3⟩; have HO3 := Aside0.mk (Kd.R_below HO1.out hb3); have HE3 := Aside0.mk (blk_below HE1.out hb3); have HB3 := Aside0.mk (HB1.out.trans (hb3.mono HB1.out.size)); have hw3 := blk_below HW.out hb3; have dw0 := blk_cell hw3 0; have dw1 := blk_cell hw3 1; clear hb3 hw3; obtain ⟨hcg, hfg⟩ := Kd.R_cell (⟨#[]⟩ : ByteArray) (by rw [HL.out]; exact HO3.out) (N : Int) (by omega) (by rw [HL.out]; omega); rw [Int.toNat_natCast] at hcg hfg)
        obtain ⟨hR, hG⟩ := Kd.R_put (by rw [HL.out]; exact HO3.out) (N : Int) s
        rw [Int.toNat_natCast] at hR hG
        rw [HL.out] at hR
        have hge := (Kd.R_bound HO3.out).1 go rfl
        have hne : w.heap.size + 1 ≠ go := fun e => Kd.R_ne HO3.out HE3.out (by decide) (by rw [e]; rfl)
        refine ⟨⟨k + 1, by omega, by go_num, ⟨by rw [HA.out]; exact hR⟩, ⟨HB3.out.grown hG HB3.out.size (fun k e => by cases e; exact hge.2.1)⟩, ⟨blk_far HE3.out hne _⟩⟩, ?_⟩
        simp [intOf]; omega
    · obtain rfl : k = l1.length := by omega
      have e0 := blk_cell HE.out 0
      have e1 := blk_cell HE.out 1
      have f0 := blk_frozen HE.out 0
      have f1 := blk_frozen HE.out 1
      have hx : applyW p 0 (l1.take l1.length) l0 = applyW p 0 l1 l0 := by rw [List.take_length]
      rw [hx] at HO
      clear hx
      have HO' := Aside0.mk (Kd.R_set (Kd.R_set HO.out HE.out (by intro q hq; simp [Kd.string, Kd.scalar] at hq; subst hq; decide) 0 (.slice (some ⟨go, 0, none⟩) l0.length c)) (blk_set HE.out 0 (.slice (some ⟨go, 0, none⟩) l0.length c)) (by intro q hq; simp [Kd.string, Kd.scalar] at hq; subst hq; decide) 1 (.slice none 0 0))
      have HB' := Aside0.mk ((HB.out.setCell (p := ⟨w.heap.size + 1, 0, none⟩) (by simp) (.slice (some ⟨go, 0, none⟩) l0.length c)).setCell (p := ⟨w.heap.size + 1, 1, none⟩) (by simp) (.slice none 0 0))
      go_wp2
      have g0 := blk_cell (blk_set (blk_set HE.out 0 (.slice (some ⟨go, 0, none⟩) l0.length c)) 1 (.slice none 0 0)) 0
      have g1 := blk_cell (blk_set (blk_set HE.out 0 (.slice (some ⟨go, 0, none⟩) l0.length c)) 1 (.slice none 0 0)) 1
      refine bodyPost_ret (v := .tuple #[.agg #[.slice (some ⟨go, 0, none⟩) l0.length c, .slice none 0 0], .int .i64 0]) ?_ rfl ⟨_, rfl, HO'.out, HB'.out⟩
      simp [results, Try.results37, go_sem, g0, g1]
end Go.Proofs.Ytkgcaheddhfpgaa.P
/-
  disk.Sync and disk.Crash, by hand. For every disk and choice.
-/
namespace Go.Proofs.Ytkgcaheddhfpgaa.P
open Go.RowKit Go.Shelf Go.Proofs.YtkgcaheddhfpgaaW.PrintWords Go.Proofs.YtkgcaheddhfpgaaW.PrintLast Go.Proofs.YtkgcaheddhfpgaaW.PrintMore Go.Proofs.Plain

set_option maxHeartbeats 4000000 in
set_option maxRecDepth 100000 in
theorem disk_done_no (g : Nat) (lb : Array Value) (A0 : Option Addr) (c0 : Nat) (l0 : List ByteArray) (A1 : Option Addr) (c1 : Nat) (l1 : List S73) (w : World)
    (hr0 : Kd.C Kd.string w A0 l0.length l0) (hc0 : l0.length ≤ c0) (hr1 : Kd.C k73 w A1 l1.length l1) (hc1 : l1.length ≤ c1) (hck : checkB l0 l1 = false) :
    Calls Try.prog 37 #[.agg #[.slice A0 l0.length c0, .slice A1 l1.length c1], .func (.func g) #[] lb] w fun e w' => e = .returned (.tuple #[.agg #[.slice none 0 0, .slice none 0 0], .int .i64 1]) ∧ Below w.heap.size w w' := by
  obtain ⟨D, hD⟩ : ∃ D, D = Obj.cells #[.slice A0 l0.length c0, .slice A1 l1.length c1] 25 := ⟨_, rfl⟩
  have hB2 : Below w.heap.size w ((w.alloc D).alloc (.cells #[.slice none 0 0, .slice none 0 0] 25)) := ((Below.refl _ _).alloc (Nat.le_refl _) _).alloc (by simp) _
  have HB2 := Aside0.mk hB2
  have HC := Aside0.mk (disk_Check.calls A0 c0 l0 A1 c1 l1 false _ (Kd.C_below hr0 hB2) hc0 (Kd.C_below hr1 hB2) hc1 (by unfold disk_Check.f; rw [hck]))
  have hE := blk_new (w.alloc D) (.cells #[.slice none 0 0, .slice none 0 0] 25)
  rw [World.size_alloc] at hE
  have HE := Aside0.mk hE
  subst hD
  clear hB2 hE hr0 hr1 hck
  go_enter Try.func37, Try.ntmps37
  go_wp2_with (go_at_call 53; refine HC.out.mono ?_; rintro e w3 ⟨rfl, hb3⟩; have HE3 := Aside0.mk (blk_below HE.out hb3); have HB3 := Aside0.mk (HB2.out.trans (hb3.mono HB2.out.size)); have e0 := blk_cell HE3.out 0; have e1 := blk_cell HE3.out 1; have f0 := blk_frozen HE3.out 0; have f1 := blk_frozen HE3.out 1; clear hb3)
  have g0 := blk_cell (blk_set (blk_set HE3.out 0 (.slice none 0 0)) 1 (.slice none 0 0)) 0
  have g1 := blk_cell (blk_set (blk_set HE3.out 0 (.slice none 0 0)) 1 (.slice none 0 0)) 1
  refine bodyPost_ret (v := .tuple #[.agg #[.slice none 0 0, .slice none 0 0], .int .i64 1]) ?_ rfl ⟨rfl, (HB3.out.setCell (p := ⟨w.heap.size + 1, 0, none⟩) (by simp) _).setCell (p := ⟨w.heap.size + 1, 1, none⟩) (by simp) _⟩
  simp [results, Try.results37, go_sem, g0, g1]

/-- What disk.Sync and disk.Crash answer, the chosen writes being those of p. -/
def doneV (p : Int → Bool) (l0 : List ByteArray) (l1 : List S73) : List ByteArray × List S73 × Int :=
  if checkB l0 l1 = true then (applyW p 0 l1 l0, [], 0) else ([], [], 1)

theorem disk_done_any (g : Nat) (lb : Array Value) (p : Int → Bool) (A0 : Option Addr) (c0 : Nat) (l0 : List ByteArray) (A1 : Option Addr) (c1 : Nat) (l1 : List S73) (w : World)
    (hr0 : Kd.C Kd.string w A0 l0.length l0) (hc0 : l0.length ≤ c0) (hr1 : Kd.C k73 w A1 l1.length l1) (hc1 : l1.length ≤ c1) (hp : PredI g lb p w) :
    Calls Try.prog 37 #[.agg #[.slice A0 l0.length c0, .slice A1 l1.length c1], .func (.func g) #[] lb] w fun e w' => ∃ v0 : Value, e = .returned (.tuple #[.agg #[v0, .slice none 0 0], .int .i64 (doneV p l0 l1).2.2]) ∧ Kd.R Kd.string 9 w' w.heap.size (fun _ => True) v0 (doneV p l0 l1).1 ∧ Below w.heap.size w w' := by
  cases hck : checkB l0 l1
  · refine (disk_done_no g lb A0 c0 l0 A1 c1 l1 w hr0 hc0 hr1 hc1 hck).mono ?_
    rintro e w' ⟨rfl, hb⟩
    have : doneV p l0 l1 = ([], [], 1) := by unfold doneV; rw [hck, if_neg (by decide)]
    rw [this]
    exact ⟨_, rfl, Kd.R_nil _ _ _ _ _, hb⟩
  · refine (disk_done_yes g lb p A0 c0 l0 A1 c1 l1 w hr0 hc0 hr1 hc1 hck hp).mono ?_
    rintro e w' ⟨v0, rfl, hR, hb⟩
    have : doneV p l0 l1 = (applyW p 0 l1 l0, [], 0) := by unfold doneV; rw [hck, if_pos rfl]
    rw [this]
    exact ⟨_, rfl, hR, hb⟩

set_option maxHeartbeats 1000000 in
theorem disk_Sync1_calls (i : Int) (w : World) : Calls Try.prog 52 #[.int .i64 i] w fun e w' => e = .returned (.bool true) ∧ w' = w := by
  go_enter Try.func52, Try.ntmps52
  go_wp2
  go_ret
  exact ⟨rfl, rfl⟩
theorem sync_pred (w : World) : PredI 52 #[] (fun _ => true) w :=
  ⟨enters_of Try.func52 (by kernel_rfl) rfl, fun i w1 _ => (disk_Sync1_calls i w1).mono (by rintro e w2 ⟨rfl, rfl⟩; exact ⟨rfl, Below.refl _ _⟩)⟩

/-- What disk.Sync answers. -/
def disk_Sync.f (l0_0 : List ByteArray) (l0_1 : List S73) : Option (List ByteArray × List S73 × Int) := some (doneV (fun _ => true) l0_0 l0_1)

theorem doneV_wait (p : Int → Bool) (l0 : List ByteArray) (l1 : List S73) : (doneV p l0 l1).2.1 = [] := by unfold doneV; split <;> rfl

set_option maxHeartbeats 4000000 in
set_option maxRecDepth 100000 in
theorem disk_Sync.calls (A0_0 : Option Addr) (c0_0 : Nat) (l0_0 : List ByteArray) (A0_1 : Option Addr) (c0_1 : Nat) (l0_1 : List S73) (r1 : List ByteArray) (r2 : List S73) (r3 : Int) (w : World) (hr0_0 : Kd.C Kd.string w A0_0 l0_0.length l0_0) (hc0_0 : l0_0.length ≤ c0_0) (hr0_1 : Kd.C k73 w A0_1 l0_1.length l0_1) (hc0_1 : l0_1.length ≤ c0_1) (h : disk_Sync.f l0_0 l0_1 = some (r1, r2, r3)) :
    Calls Try.prog 34 #[.agg #[.slice A0_0 l0_0.length c0_0, .slice A0_1 l0_1.length c0_1]] w fun e w' => ∃ v0_ v1_ : Value, e = .returned (.tuple #[.agg #[v0_, v1_], .int .i64 r3]) ∧ Kd.R Kd.string 9 w' w.heap.size (fun _ => True) v0_ r1 ∧ Kd.R k73 73 w' w.heap.size (fun _ => True) v1_ r2 ∧ Below w.heap.size w w' := by
  have hv : doneV (fun _ => true) l0_0 l0_1 = (r1, r2, r3) := by simpa [disk_Sync.f] using h
  have hw := doneV_wait (fun _ => true) l0_0 l0_1
  rw [hv] at hw
  simp only at hw
  subst hw
  obtain ⟨D, hD⟩ : ∃ D, D = Obj.cells #[.slice A0_0 l0_0.length c0_0, .slice A0_1 l0_1.length c0_1] 25 := ⟨_, rfl⟩
  have hB2 : Below w.heap.size w ((w.alloc D).alloc (.cells #[.slice none 0 0, .slice none 0 0] 25)) := ((Below.refl _ _).alloc (Nat.le_refl _) _).alloc (by simp) _
  have HB2 := Aside0.mk hB2
  have hC := disk_done_any 52 #[] (fun _ => true) A0_0 c0_0 l0_0 A0_1 c0_1 l0_1 _ (Kd.C_below hr0_0 hB2) hc0_0 (Kd.C_below hr0_1 hB2) hc0_1 (sync_pred _)
  rw [hv] at hC
  have HC := Aside0.mk hC
  have hE := blk_new (w.alloc D) (.cells #[.slice none 0 0, .slice none 0 0] 25)
  rw [World.size_alloc] at hE
  have HE := Aside0.mk hE
  subst hD
  clear hB2 hE hr0_0 hr0_1 hC hv h
  go_enter Try.func34, Try.ntmps34
  go_wp2_with (go_at_call 37; refine HC.out.mono ?_; rintro e w3 ⟨v0, rfl, hR3, hb3⟩; have HR3 := Aside0.mk (Kd.R_lower hR3 HB2.out.size); have HE3 := Aside0.mk (blk_below HE.out hb3); have HB3 := Aside0.mk (HB2.out.trans (hb3.mono HB2.out.size)); have e0 := blk_cell HE3.out 0; have e1 := blk_cell HE3.out 1; have f0 := blk_frozen HE3.out 0; have f1 := blk_frozen HE3.out 1; obtain ⟨A, c, rfl⟩ := Kd.R_slice hR3; clear hb3 hR3)
  have g0 := blk_cell (blk_set (blk_set HE3.out 0 (.slice A r1.length c)) 1 (.slice none 0 0)) 0
  have g1 := blk_cell (blk_set (blk_set HE3.out 0 (.slice A r1.length c)) 1 (.slice none 0 0)) 1
  refine bodyPost_ret (v := .tuple #[.agg #[.slice A r1.length c, .slice none 0 0], .int .i64 r3]) ?_ rfl ⟨_, _, rfl, Kd.R_set (Kd.R_set HR3.out HE3.out (by intro q hq; simp [Kd.string, Kd.scalar] at hq; subst hq; decide) 0 _) (blk_set HE3.out 0 _) (by intro q hq; simp [Kd.string, Kd.scalar] at hq; subst hq; decide) 1 _, Kd.R_nil _ _ _ _ _, (HB3.out.setCell (p := ⟨w.heap.size + 1, 0, none⟩) (by simp) _).setCell (p := ⟨w.heap.size + 1, 1, none⟩) (by simp) _⟩
  simp [results, Try.results34, go_sem, g0, g1]
end Go.Proofs.Ytkgcaheddhfpgaa.P
/-
  disk.Crash, by hand. For every disk and choice.
-/
namespace Go.Proofs.Ytkgcaheddhfpgaa.P
open Go.RowKit Go.Shelf Go.Proofs.YtkgcaheddhfpgaaW.PrintWords Go.Proofs.YtkgcaheddhfpgaaW.PrintLast Go.Proofs.YtkgcaheddhfpgaaW.PrintMore Go.Proofs.Plain

/-- Whether a choice keeps number i. -/
def keepB (l : List Bool) (i : Int) : Bool := decide (i < (l.length : Int)) && rdOf false l i

set_option maxHeartbeats 2000000 in
theorem disk_Crash1_calls (i : Nat) (B : Nat) (A : Option Addr) (c : Nat) (l : List Bool) (w : World) (hb : w.cell? ⟨B, 0, none⟩ = some (.slice A l.length c)) (hr : Kd.C Kd.bool w A l.length l) :
    Calls Try.prog 38 #[.int .i64 (i : Int), .pointer (some ⟨B, 0, none⟩)] w fun e w' => e = .returned (.bool (keepB l i)) ∧ w' = w := by
  by_cases h : i < l.length
  · obtain ⟨ad, rfl, hx⟩ := Kd.at_bool hr (i : Int) (by omega) (by omega)
    rw [Int.toNat_natCast] at hx
    have hk := Aside0.mk (show keepB l i = rdOf false l (i : Int) by unfold keepB; rw [decide_eq_true (by omega)]; rfl)
    obtain ⟨b, hbb⟩ : ∃ b, b = rdOf false l (i : Int) := ⟨_, rfl⟩
    rw [← hbb] at hx hk
    have hd : decide ((i : Int) < (l.length : Int)) = true := decide_eq_true (by omega)
    have hd2 : decide (i < l.length) = true := decide_eq_true h
    have hm := hr.2.1
    clear hbb hr
    go_enter Try.func38, Try.ntmps38
    go_wp2
    go_ret
    exact ⟨by rw [hk.out]; cases b <;> rfl, rfl⟩
  · have hk := Aside0.mk (show keepB l i = false by unfold keepB; rw [decide_eq_false (by omega)]; rfl)
    have hd : decide ((i : Int) < (l.length : Int)) = false := decide_eq_false (by omega)
    have hd2 : decide (i < l.length) = false := decide_eq_false h
    clear hr h
    go_enter Try.func38, Try.ntmps38
    go_wp2
    go_ret
    exact ⟨by rw [hk.out]; rfl, rfl⟩
theorem crash_pred (B : Nat) (A : Option Addr) (c : Nat) (l : List Bool) (w : World) (hb : w.cell? ⟨B, 0, none⟩ = some (.slice A l.length c)) (hB : B < w.heap.size) (hr : Kd.C Kd.bool w A l.length l) : PredI 38 #[.pointer (some ⟨B, 0, none⟩)] (keepB l) w :=
  ⟨enters_of Try.func38 (by kernel_rfl) rfl, fun i w1 h1 => (disk_Crash1_calls i B A c l w1 ((h1.cell (p := ⟨B, 0, none⟩) hB).trans hb) (Kd.C_below hr h1)).mono (by rintro e w2 ⟨rfl, rfl⟩; exact ⟨rfl, Below.refl _ _⟩)⟩

/-- What disk.Crash answers. -/
def disk_Crash.f (l0_0 : List ByteArray) (l0_1 : List S73) (l1 : List Bool) : Option (List ByteArray × List S73 × Int) := some (doneV (keepB l1) l0_0 l0_1)

set_option maxHeartbeats 4000000 in
set_option maxRecDepth 100000 in
theorem disk_Crash.calls (A0_0 : Option Addr) (c0_0 : Nat) (l0_0 : List ByteArray) (A0_1 : Option Addr) (c0_1 : Nat) (l0_1 : List S73) (A1 : Option Addr) (c1 : Nat) (l1 : List Bool) (r1 : List ByteArray) (r2 : List S73) (r3 : Int) (w : World) (hr0_0 : Kd.C Kd.string w A0_0 l0_0.length l0_0) (hc0_0 : l0_0.length ≤ c0_0) (hr0_1 : Kd.C k73 w A0_1 l0_1.length l0_1) (hc0_1 : l0_1.length ≤ c0_1) (hr1 : Kd.C Kd.bool w A1 l1.length l1) (hc1 : l1.length ≤ c1) (h : disk_Crash.f l0_0 l0_1 l1 = some (r1, r2, r3)) :
    Calls Try.prog 16 #[.agg #[.slice A0_0 l0_0.length c0_0, .slice A0_1 l0_1.length c0_1], .slice A1 l1.length c1] w fun e w' => ∃ v0_ v1_ : Value, e = .returned (.tuple #[.agg #[v0_, v1_], .int .i64 r3]) ∧ Kd.R Kd.string 9 w' w.heap.size (fun _ => True) v0_ r1 ∧ Kd.R k73 73 w' w.heap.size (fun _ => True) v1_ r2 ∧ Below w.heap.size w w' := by
  have hv : doneV (keepB l1) l0_0 l0_1 = (r1, r2, r3) := by simpa [disk_Crash.f] using h
  have hw := doneV_wait (keepB l1) l0_0 l0_1
  rw [hv] at hw
  simp only at hw
  subst hw
  obtain ⟨D, hD⟩ : ∃ D, D = Obj.cells #[.slice A0_0 l0_0.length c0_0, .slice A0_1 l0_1.length c0_1] 25 := ⟨_, rfl⟩
  have hB2 : Below w.heap.size w (((w.alloc D).alloc (.cells #[.slice A1 l1.length c1] 34)).alloc (.cells #[.slice none 0 0, .slice none 0 0] 25)) := (((Below.refl _ _).alloc (Nat.le_refl _) _).alloc (by simp) _).alloc (by simp; omega) _
  have HB2 := Aside0.mk hB2
  have hbx0 := blk_alloc (blk_new (w.alloc D) (.cells #[.slice A1 l1.length c1] 34)) (.cells #[.slice none 0 0, .slice none 0 0] 25)
  rw [World.size_alloc] at hbx0
  have hC := disk_done_any 38 #[.pointer (some ⟨w.heap.size + 1, 0, none⟩)] (keepB l1) A0_0 c0_0 l0_0 A0_1 c0_1 l0_1 _ (Kd.C_below hr0_0 hB2) hc0_0 (Kd.C_below hr0_1 hB2) hc0_1 (crash_pred (w.heap.size + 1) A1 c1 l1 _ (blk_cell hbx0 0) (by simp) (Kd.C_below hr1 hB2))
  rw [hv] at hC
  have HC := Aside0.mk hC
  have hE := blk_new ((w.alloc D).alloc (.cells #[.slice A1 l1.length c1] 34)) (.cells #[.slice none 0 0, .slice none 0 0] 25)
  rw [World.size_alloc, World.size_alloc] at hE
  have HE := Aside0.mk hE
  subst hD
  clear hB2 hE hr0_0 hr0_1 hC hv h hr1 hbx0
  go_enter Try.func16, Try.ntmps16
  go_wp2_with (go_at_call 37; refine HC.out.mono ?_; rintro e w3 ⟨v0, rfl, hR3, hb3⟩; have HR3 := Aside0.mk (Kd.R_lower hR3 HB2.out.size); have HE3 := Aside0.mk (blk_below HE.out hb3); have HB3 := Aside0.mk (HB2.out.trans (hb3.mono HB2.out.size)); have e0 := blk_cell HE3.out 0; have e1 := blk_cell HE3.out 1; have f0 := blk_frozen HE3.out 0; have f1 := blk_frozen HE3.out 1; obtain ⟨A, c, rfl⟩ := Kd.R_slice hR3; clear hb3 hR3)
  have g0 := blk_cell (blk_set (blk_set HE3.out 0 (.slice A r1.length c)) 1 (.slice none 0 0)) 0
  have g1 := blk_cell (blk_set (blk_set HE3.out 0 (.slice A r1.length c)) 1 (.slice none 0 0)) 1
  refine bodyPost_ret (v := .tuple #[.agg #[.slice A r1.length c, .slice none 0 0], .int .i64 r3]) ?_ rfl ⟨_, _, rfl, Kd.R_set (Kd.R_set HR3.out HE3.out (by intro q hq; simp [Kd.string, Kd.scalar] at hq; subst hq; decide) 0 _) (blk_set HE3.out 0 _) (by intro q hq; simp [Kd.string, Kd.scalar] at hq; subst hq; decide) 1 _, Kd.R_nil _ _ _ _ _, (HB3.out.setCell (p := ⟨w.heap.size + 1 + 1, 0, none⟩) (by simp; omega) _).setCell (p := ⟨w.heap.size + 1 + 1, 1, none⟩) (by simp; omega) _⟩
  simp [results, Try.results16, go_sem, g0, g1]
end Go.Proofs.Ytkgcaheddhfpgaa.P
-- Written by a program of this session (xprint.py) over the kit's print.py.
namespace Go.Proofs.Ytkgcaheddhfpgaa.P
open Go.RowKit Go.Proofs.YtkgcaheddhfpgaaW.PrintWords Go.Proofs.YtkgcaheddhfpgaaW.PrintLast Go.Proofs.YtkgcaheddhfpgaaW.PrintMore
attribute [local go_sem] max2_int min2_int max_two min_two max_three min_three max_four min_four   -- for this text's walks alone
set_option linter.unusedVariables false
set_option linter.unusedSimpArgs false

/-! ### disk_Read: function 18 -/
def disk_Read.f (l0_0 : List ByteArray) (l0_1 : List (S73)) (a1 : Int) : Option (ByteArray × Int) := (disk_open.f l0_0 l0_1 a1).bind fun t109 => (if t109 = 0 then ((disk_Sync.f l0_0 l0_1).bind fun bt110 => (if bt110.2.2 = 0 then (if 0 ≤ a1 then (if a1 < (bt110.1.length : Int) then (some (rdOf ByteArray.empty bt110.1 a1, 0)) else (none)) else (none)) else (some ((⟨#[]⟩ : ByteArray), bt110.2.2)))) else (some ((⟨#[]⟩ : ByteArray), t109)))
set_option maxHeartbeats 8000000 in
set_option maxRecDepth 100000 in
theorem disk_Read.calls (A0_0 : Option Addr) (c0_0 : Nat) (l0_0 : List ByteArray) (A0_1 : Option Addr) (c0_1 : Nat) (l0_1 : List (S73)) (a1 : Int) (r1 : ByteArray) (r2 : Int) (w : World) (hr0_0 : Kd.C Kd.string w A0_0 l0_0.length l0_0) (hc0_0 : l0_0.length ≤ c0_0) (hr0_1 : Kd.C k73 w A0_1 l0_1.length l0_1) (hc0_1 : l0_1.length ≤ c0_1) (h : disk_Read.f l0_0 l0_1 a1 = some (r1, r2)) :
    Calls Try.prog 18 #[.agg #[.slice A0_0 l0_0.length c0_0, .slice A0_1 l0_1.length c0_1], .int .i64 a1] w fun e w' => e = .returned (.tuple #[.string r1, .int .i64 r2]) ∧ Below w.heap.size w w' := by
  have hu25 := Try.underlying25
  have HR0_0 := Aside0.mk hr0_0
  have HC0_0 := Aside0.mk hc0_0
  clear hr0_0 hc0_0
  have HR0_1 := Aside0.mk hr0_1
  have HC0_1 := Aside0.mk hc0_1
  clear hr0_1 hc0_1
  have HB := Aside0.mk (Below.refl w.heap.size w)
  have H : ((disk_open.f l0_0 l0_1 a1).bind fun t109 => (if t109 = 0 then ((disk_Sync.f l0_0 l0_1).bind fun bt110 => (if bt110.2.2 = 0 then (if 0 ≤ a1 then (if a1 < (bt110.1.length : Int) then (some (rdOf ByteArray.empty bt110.1 a1, 0)) else (none)) else (none)) else (some ((⟨#[]⟩ : ByteArray), bt110.2.2)))) else (some ((⟨#[]⟩ : ByteArray), t109)))) = some (r1, r2) := h
  clear h
  replace H := Option.bind_eq_some_iff.mp H
  obtain ⟨t109, A30, H⟩ := H
  replace H : (if t109 = 0 then ((disk_Sync.f l0_0 l0_1).bind fun bt110 => (if bt110.2.2 = 0 then (if 0 ≤ a1 then (if a1 < (bt110.1.length : Int) then (some (rdOf ByteArray.empty bt110.1 a1, 0)) else (none)) else (none)) else (some ((⟨#[]⟩ : ByteArray), bt110.2.2)))) else (some ((⟨#[]⟩ : ByteArray), t109))) = some (r1, r2) := H
  have A3 := Aside0.mk A30
  clear A30
  by_cases c4 : t109 = 0
  · rw [if_pos c4] at H
    have c4b0 : (t109 == 0) = true := beq_iff_eq.mpr c4
    have c4b1 : (t109 != 0) = false := bne_eq_false_iff_eq.mpr c4
    clear c4
    replace H := Option.bind_eq_some_iff.mp H
    obtain ⟨⟨t110, t113, t116⟩, A50, H⟩ := H
    replace H : (if t116 = 0 then (if 0 ≤ a1 then (if a1 < (t110.length : Int) then (some (rdOf ByteArray.empty t110 a1, 0)) else (none)) else (none)) else (some ((⟨#[]⟩ : ByteArray), t116))) = some (r1, r2) := H
    have A5 := Aside0.mk A50
    clear A50
    by_cases c6 : t116 = 0
    · rw [if_pos c6] at H
      have c6b0 : (t116 == 0) = true := beq_iff_eq.mpr c6
      have c6b1 : (t116 != 0) = false := bne_eq_false_iff_eq.mpr c6
      clear c6
      by_cases c7 : 0 ≤ a1
      · rw [if_pos c7] at H
        have c7b0 : decide (0 ≤ a1) = true := decide_eq_true c7
        clear c7
        by_cases c8 : a1 < (t110.length : Int)
        · rw [if_pos c8] at H
          have c8b0 : decide (a1 < (t110.length : Int)) = true := decide_eq_true c8
          clear c8
          simp only [Option.some.injEq, Prod.mk.injEq] at H
          obtain ⟨rfl, rfl⟩ := H
          go_enter Try.func18, Try.ntmps18
          go_wp2_with (first | ((with_reducible refine gate_dst (N := 2) rfl ?_); refine box_event ?hg (N := 2) ?hd (cs := #[.slice A0_0 l0_0.length c0_0, .slice A0_1 l0_1.length c0_1]) (t := 25) ?hr ?_; (case hd => rfl); (case hg => rfl); (case hr => first | (go_simp; done) | (go_simp; rfl)); intro gb108 hg w9 hbox hb; have n0_ := Aside0.mk (below_step (by repeat (first | (with_reducible first | exact HB.out | apply below_alloc | apply pw_below_drewN | apply below_drew1) | exact HB.out)) hb); have n1_ := Aside0.mk (hbox); have n2_ := Aside0.mk ((by rw [hg]; exact (below_size (by repeat (first | (with_reducible first | exact HB.out | apply below_alloc | apply pw_below_drewN | apply below_drew1) | exact HB.out))) : w.heap.size ≤ gb108)); have n3_ := Aside0.mk ((by rw [hg]; exact (below_size (by repeat (first | (with_reducible first | exact HB.out | apply below_alloc | apply pw_below_drewN | apply below_drew1) | exact HB.out))) : w.heap.size ≤ gb108)); clear HB; have HB := n0_; have BK108 := n1_; have GW108 := n2_; have GE108 := n3_; clear n0_ n1_ n2_ n3_; clear hb hbox hg; have hcz10_0 : w9.cell? ⟨gb108, 0, none⟩ = some (.slice A0_0 l0_0.length c0_0) := (blk_cell BK108.out 0).trans rfl; have hcz10_1 : w9.cell? ⟨gb108, 1, none⟩ = some (.slice A0_1 l0_1.length c0_1) := (blk_cell BK108.out 1).trans rfl; have hfz10_0 := blk_frozen BK108.out 0; have hfz10_1 := blk_frozen BK108.out 1) | ((with_reducible refine gate_callee (f := 39) rfl ?_); refine goesL_ (some 11) rfl rfl Try.func39 (by kernel_rfl) rfl #[.agg #[.slice A0_0 l0_0.length c0_0, .slice A0_1 l0_1.length c0_1], .int .i64 a1] rfl (by (try simp only [List.map_toArray, List.map_cons, List.map_nil]); first | done | rfl | (simp only [List.length_drop, List.length_take]; rfl)) ?_; (with_reducible refine (disk_open.calls _ _ l0_0 _ _ l0_1 a1 t109 _ ?side1 ?side2 ?side3 ?side4 A3.out).mono ?_); (case side1 => repeat (first | exact (Kd.C_below HR0_0.out HB.out) | (with_reducible refine Kd.C_alloc ?_ _) | (with_reducible refine Kd.C_drewN ?_ _) | (with_reducible refine Kd.C_drew ?_))); (case side2 => exact HC0_0.out); (case side3 => repeat (first | exact (Kd.C_below HR0_1.out HB.out) | (with_reducible refine Kd.C_alloc ?_ _) | (with_reducible refine Kd.C_drewN ?_ _) | (with_reducible refine Kd.C_drew ?_))); (case side4 => exact HC0_1.out); rintro e w11 ⟨rfl, hb⟩; refine ⟨_, rfl, ?_⟩; have n0_ := Aside0.mk (blk_below (g := gb108) (o := .cells #[.slice A0_0 l0_0.length c0_0, .slice A0_1 l0_1.length c0_1] 25 (0, 0)) (by (with_reducible repeat (first | refine blk_drewN ?_ _ | refine blk_drew ?_ | refine blk_alloc ?_ _)); exact BK108.out) hb); have n1_ := Aside0.mk (below_step (by repeat (first | (with_reducible first | exact HB.out | apply below_alloc | apply pw_below_drewN | apply below_drew1 | refine below_set ?_ GE108.out) | exact HB.out)) hb); clear BK108; clear HB; have BK108 := n0_; have HB := n1_; clear n0_ n1_; (try clear hb); (try clear hb2); (try clear hk); (try clear hi); have hcz12_0 : w11.cell? ⟨gb108, 0, none⟩ = some (.slice A0_0 l0_0.length c0_0) := (blk_cell BK108.out 0).trans rfl; have hcz12_1 : w11.cell? ⟨gb108, 1, none⟩ = some (.slice A0_1 l0_1.length c0_1) := (blk_cell BK108.out 1).trans rfl; have hfz12_0 := blk_frozen BK108.out 0; have hfz12_1 := blk_frozen BK108.out 1) | ((with_reducible refine gate_callee (f := 34) rfl ?_); refine goesL_ (some 17) rfl rfl Try.func34 (by kernel_rfl) rfl #[.agg #[.slice A0_0 l0_0.length c0_0, .slice A0_1 l0_1.length c0_1]] rfl (by (try simp only [List.map_toArray, List.map_cons, List.map_nil]); first | done | rfl | (simp only [List.length_drop, List.length_take]; rfl)) ?_; (with_reducible refine (disk_Sync.calls _ _ l0_0 _ _ l0_1 t110 t113 t116 _ ?side1 ?side2 ?side3 ?side4 A5.out).mono ?_); (case side1 => repeat (first | exact (Kd.C_below HR0_0.out HB.out) | (with_reducible refine Kd.C_alloc ?_ _) | (with_reducible refine Kd.C_drewN ?_ _) | (with_reducible refine Kd.C_drew ?_))); (case side2 => exact HC0_0.out); (case side3 => repeat (first | exact (Kd.C_below HR0_1.out HB.out) | (with_reducible refine Kd.C_alloc ?_ _) | (with_reducible refine Kd.C_drewN ?_ _) | (with_reducible refine Kd.C_drew ?_))); (case side4 => exact HC0_1.out); rintro e w13 ⟨v111, v114, rfl, ho0, ho1, hb⟩; refine ⟨_, rfl, ?_⟩; have n0_ := Aside0.mk (Kd.R_lower ho0 (below_size (by repeat (first | (with_reducible first | exact HB.out | apply below_alloc | apply pw_below_drewN | apply below_drew1 | refine below_set ?_ GE108.out) | exact HB.out)))); have n1_ := Aside0.mk (Kd.R_lower ho1 (below_size (by repeat (first | (with_reducible first | exact HB.out | apply below_alloc | apply pw_below_drewN | apply below_drew1 | refine below_set ?_ GE108.out) | exact HB.out)))); have n2_ := Aside0.mk (blk_below (g := gb108) (o := .cells #[.slice A0_0 l0_0.length c0_0, .slice A0_1 l0_1.length c0_1] 25 (0, 0)) (by (with_reducible repeat (first | refine blk_drewN ?_ _ | refine blk_drew ?_ | refine blk_alloc ?_ _)); exact BK108.out) hb); have n3_ := Aside0.mk (below_step (by repeat (first | (with_reducible first | exact HB.out | apply below_alloc | apply pw_below_drewN | apply below_drew1 | refine below_set ?_ GE108.out) | exact HB.out)) hb); clear BK108; clear HB; have HO112 := n0_; have HO115 := n1_; have BK108 := n2_; have HB := n3_; clear n0_ n1_ n2_ n3_; (try clear hb); (try clear hb2); (try clear hk); (try clear hi); (try clear ho0); (try clear ho1)) | ((with_reducible refine gate_dst (N := 7) rfl ?_); refine box_event ?hg (N := 7) ?hd (cs := #[.slice none 0 0, .slice none 0 0]) (t := 25) ?hr ?_; (case hd => rfl); (case hg => rfl); (case hr => first | (go_simp; done) | (go_simp; rfl)); intro gb117 hg w14 hbox hb; have n0_ := Aside0.mk (Kd.R_below (by (with_reducible repeat (first | apply Kd.R_alloc | apply Kd.R_drewN | apply Kd.R_drew)); exact HO112.out) hb); have n1_ := Aside0.mk (Kd.R_below (by (with_reducible repeat (first | apply Kd.R_alloc | apply Kd.R_drewN | apply Kd.R_drew)); exact HO115.out) hb); have n2_ := Aside0.mk (blk_below (g := gb108) (o := .cells #[.slice A0_0 l0_0.length c0_0, .slice A0_1 l0_1.length c0_1] 25 (0, 0)) (by (with_reducible repeat (first | refine blk_drewN ?_ _ | refine blk_drew ?_ | refine blk_alloc ?_ _)); exact BK108.out) hb); have n3_ := Aside0.mk (below_step (by repeat (first | (with_reducible first | exact HB.out | apply below_alloc | apply pw_below_drewN | apply below_drew1 | refine below_set ?_ GE108.out) | exact HB.out)) hb); have n4_ := Aside0.mk (hbox); have n5_ := Aside0.mk ((by rw [hg]; exact (below_size (by repeat (first | (with_reducible first | exact HB.out | apply below_alloc | apply pw_below_drewN | apply below_drew1 | refine below_set ?_ GE108.out) | exact HB.out))) : w.heap.size ≤ gb117)); have n6_ := Aside0.mk ((by rw [hg]; exact (below_size (by repeat (first | (with_reducible first | exact HB.out | apply below_alloc | apply pw_below_drewN | apply below_drew1 | refine below_set ?_ GE108.out) | exact HB.out))) : w.heap.size ≤ gb117)); have n7_ := Aside0.mk ((by rw [hg]; exact Nat.ne_of_lt (blk_lt (g := gb108) (o := .cells #[.slice A0_0 l0_0.length c0_0, .slice A0_1 l0_1.length c0_1] 25 (0, 0)) (by (with_reducible repeat (first | refine blk_drewN ?_ _ | refine blk_drew ?_ | refine blk_alloc ?_ _)); exact BK108.out)) : gb108 ≠ gb117)); have n8_ := Aside0.mk ((by rw [hg]; exact Nat.ne_of_gt (blk_lt (g := gb108) (o := .cells #[.slice A0_0 l0_0.length c0_0, .slice A0_1 l0_1.length c0_1] 25 (0, 0)) (by (with_reducible repeat (first | refine blk_drewN ?_ _ | refine blk_drew ?_ | refine blk_alloc ?_ _)); exact BK108.out)) : gb117 ≠ gb108)); clear HO112; clear HO115; clear BK108; clear HB; have HO112 := n0_; have HO115 := n1_; have BK108 := n2_; have HB := n3_; have BK117 := n4_; have GW117 := n5_; have GE117 := n6_; have NB108_117 := n7_; have NB117_108 := n8_; clear n0_ n1_ n2_ n3_ n4_ n5_ n6_ n7_ n8_; clear hb hbox hg; obtain ⟨Ao15, co15, eo15⟩ := Kd.R_slice HO112.out; subst eo15; have hnb16 := NB117_108.out; have hnc16 := NB108_117.out; have hcz17_0 : w14.cell? ⟨gb117, 0, none⟩ = some (.slice none 0 0) := (blk_cell BK117.out 0).trans rfl; have hcz17_1 : w14.cell? ⟨gb117, 1, none⟩ = some (.slice none 0 0) := (blk_cell BK117.out 1).trans rfl; have hfz17_0 := blk_frozen BK117.out 0; have hfz17_1 := blk_frozen BK117.out 1; obtain ⟨Ao18, co18, eo18⟩ := Kd.R_slice HO115.out; subst eo18; have p118 : 0 ≤ (a1 : Int) := of_decide_eq_true (by first | (with_reducible assumption) | assumption); have q118 : a1 < (t110.length : Int) := of_decide_eq_true (by first | (with_reducible assumption) | assumption); obtain ⟨ad118, e118, hx118_0⟩ := Kd.at_string (Kd.R_reads' HO112.out).2.2 a1 p118 q118; cases e118; have hn118_0 : ad118.block ≠ gb117 := Kd.own_blk (Kd.R_ne HO112.out BK117.out (by decide)); have hn118_1 : ad118.block ≠ gb117 := Kd.own_blk (Kd.R_ne HO112.out BK117.out (by decide)); replace hx118_0 := (cell_far (p := ⟨gb117, 0, none⟩) (by first | (rw [add_block]; exact hn118_0) | (show (Addr.add _ _).block ≠ _; rw [add_block]; exact hn118_0) | exact hn118_0) (.slice (some ad118) t110.length co15)).trans hx118_0; replace hx118_0 := (cell_far (p := ⟨gb117, 1, none⟩) (by first | (rw [add_block]; exact hn118_1) | (show (Addr.add _ _).block ≠ _; rw [add_block]; exact hn118_1) | exact hn118_1) (.slice Ao18 t113.length co18)).trans hx118_0; clear hn118_0; clear hn118_1; replace p118 := eq_true p118; replace q118 := eq_true q118))
          go_ret2
          exact ⟨by first | rfl | (simp [errW_none, errW_some] <;> rfl) | (simp [*, errW_none, errW_some] <;> rfl), by repeat (first | (with_reducible first | exact HB.out | apply below_alloc | apply pw_below_drewN | apply below_drew1 | refine below_set ?_ GE108.out | refine below_set ?_ GE117.out) | exact HB.out)⟩
        · rw [if_neg c8] at H
          exact absurd H (by simp)
      · rw [if_neg c7] at H
        exact absurd H (by simp)
    · rw [if_neg c6] at H
      have c6b0 : (t116 == 0) = false := beq_eq_false_iff_ne.mpr c6
      have c6b1 : (t116 != 0) = true := bne_iff_ne.mpr c6
      simp only [Option.some.injEq, Prod.mk.injEq] at H
      obtain ⟨rfl, rfl⟩ := H
      go_enter Try.func18, Try.ntmps18
      go_wp2_with (first | ((with_reducible refine gate_dst (N := 2) rfl ?_); refine box_event ?hg (N := 2) ?hd (cs := #[.slice A0_0 l0_0.length c0_0, .slice A0_1 l0_1.length c0_1]) (t := 25) ?hr ?_; (case hd => rfl); (case hg => rfl); (case hr => first | (go_simp; done) | (go_simp; rfl)); intro gb108 hg w19 hbox hb; have n0_ := Aside0.mk (below_step (by repeat (first | (with_reducible first | exact HB.out | apply below_alloc | apply pw_below_drewN | apply below_drew1) | exact HB.out)) hb); have n1_ := Aside0.mk (hbox); have n2_ := Aside0.mk ((by rw [hg]; exact (below_size (by repeat (first | (with_reducible first | exact HB.out | apply below_alloc | apply pw_below_drewN | apply below_drew1) | exact HB.out))) : w.heap.size ≤ gb108)); have n3_ := Aside0.mk ((by rw [hg]; exact (below_size (by repeat (first | (with_reducible first | exact HB.out | apply below_alloc | apply pw_below_drewN | apply below_drew1) | exact HB.out))) : w.heap.size ≤ gb108)); clear HB; have HB := n0_; have BK108 := n1_; have GW108 := n2_; have GE108 := n3_; clear n0_ n1_ n2_ n3_; clear hb hbox hg; have hcz20_0 : w19.cell? ⟨gb108, 0, none⟩ = some (.slice A0_0 l0_0.length c0_0) := (blk_cell BK108.out 0).trans rfl; have hcz20_1 : w19.cell? ⟨gb108, 1, none⟩ = some (.slice A0_1 l0_1.length c0_1) := (blk_cell BK108.out 1).trans rfl; have hfz20_0 := blk_frozen BK108.out 0; have hfz20_1 := blk_frozen BK108.out 1) | ((with_reducible refine gate_callee (f := 39) rfl ?_); refine goesL_ (some 11) rfl rfl Try.func39 (by kernel_rfl) rfl #[.agg #[.slice A0_0 l0_0.length c0_0, .slice A0_1 l0_1.length c0_1], .int .i64 a1] rfl (by (try simp only [List.map_toArray, List.map_cons, List.map_nil]); first | done | rfl | (simp only [List.length_drop, List.length_take]; rfl)) ?_; (with_reducible refine (disk_open.calls _ _ l0_0 _ _ l0_1 a1 t109 _ ?side1 ?side2 ?side3 ?side4 A3.out).mono ?_); (case side1 => repeat (first | exact (Kd.C_below HR0_0.out HB.out) | (with_reducible refine Kd.C_alloc ?_ _) | (with_reducible refine Kd.C_drewN ?_ _) | (with_reducible refine Kd.C_drew ?_))); (case side2 => exact HC0_0.out); (case side3 => repeat (first | exact (Kd.C_below HR0_1.out HB.out) | (with_reducible refine Kd.C_alloc ?_ _) | (with_reducible refine Kd.C_drewN ?_ _) | (with_reducible refine Kd.C_drew ?_))); (case side4 => exact HC0_1.out); rintro e w21 ⟨rfl, hb⟩; refine ⟨_, rfl, ?_⟩; have n0_ := Aside0.mk (blk_below (g := gb108) (o := .cells #[.slice A0_0 l0_0.length c0_0, .slice A0_1 l0_1.length c0_1] 25 (0, 0)) (by (with_reducible repeat (first | refine blk_drewN ?_ _ | refine blk_drew ?_ | refine blk_alloc ?_ _)); exact BK108.out) hb); have n1_ := Aside0.mk (below_step (by repeat (first | (with_reducible first | exact HB.out | apply below_alloc | apply pw_below_drewN | apply below_drew1 | refine below_set ?_ GE108.out) | exact HB.out)) hb); clear BK108; clear HB; have BK108 := n0_; have HB := n1_; clear n0_ n1_; (try clear hb); (try clear hb2); (try clear hk); (try clear hi); have hcz22_0 : w21.cell? ⟨gb108, 0, none⟩ = some (.slice A0_0 l0_0.length c0_0) := (blk_cell BK108.out 0).trans rfl; have hcz22_1 : w21.cell? ⟨gb108, 1, none⟩ = some (.slice A0_1 l0_1.length c0_1) := (blk_cell BK108.out 1).trans rfl; have hfz22_0 := blk_frozen BK108.out 0; have hfz22_1 := blk_frozen BK108.out 1) | ((with_reducible refine gate_callee (f := 34) rfl ?_); refine goesL_ (some 17) rfl rfl Try.func34 (by kernel_rfl) rfl #[.agg #[.slice A0_0 l0_0.length c0_0, .slice A0_1 l0_1.length c0_1]] rfl (by (try simp only [List.map_toArray, List.map_cons, List.map_nil]); first | done | rfl | (simp only [List.length_drop, List.length_take]; rfl)) ?_; (with_reducible refine (disk_Sync.calls _ _ l0_0 _ _ l0_1 t110 t113 t116 _ ?side1 ?side2 ?side3 ?side4 A5.out).mono ?_); (case side1 => repeat (first | exact (Kd.C_below HR0_0.out HB.out) | (with_reducible refine Kd.C_alloc ?_ _) | (with_reducible refine Kd.C_drewN ?_ _) | (with_reducible refine Kd.C_drew ?_))); (case side2 => exact HC0_0.out); (case side3 => repeat (first | exact (Kd.C_below HR0_1.out HB.out) | (with_reducible refine Kd.C_alloc ?_ _) | (with_reducible refine Kd.C_drewN ?_ _) | (with_reducible refine Kd.C_drew ?_))); (case side4 => exact HC0_1.out); rintro e w23 ⟨v111, v114, rfl, ho0, ho1, hb⟩; refine ⟨_, rfl, ?_⟩; have n0_ := Aside0.mk (Kd.R_lower ho0 (below_size (by repeat (first | (with_reducible first | exact HB.out | apply below_alloc | apply pw_below_drewN | apply below_drew1 | refine below_set ?_ GE108.out) | exact HB.out)))); have n1_ := Aside0.mk (Kd.R_lower ho1 (below_size (by repeat (first | (with_reducible first | exact HB.out | apply below_alloc | apply pw_below_drewN | apply below_drew1 | refine below_set ?_ GE108.out) | exact HB.out)))); have n2_ := Aside0.mk (blk_below (g := gb108) (o := .cells #[.slice A0_0 l0_0.length c0_0, .slice A0_1 l0_1.length c0_1] 25 (0, 0)) (by (with_reducible repeat (first | refine blk_drewN ?_ _ | refine blk_drew ?_ | refine blk_alloc ?_ _)); exact BK108.out) hb); have n3_ := Aside0.mk (below_step (by repeat (first | (with_reducible first | exact HB.out | apply below_alloc | apply pw_below_drewN | apply below_drew1 | refine below_set ?_ GE108.out) | exact HB.out)) hb); clear BK108; clear HB; have HO112 := n0_; have HO115 := n1_; have BK108 := n2_; have HB := n3_; clear n0_ n1_ n2_ n3_; (try clear hb); (try clear hb2); (try clear hk); (try clear hi); (try clear ho0); (try clear ho1)) | ((with_reducible refine gate_dst (N := 7) rfl ?_); refine box_event ?hg (N := 7) ?hd (cs := #[.slice none 0 0, .slice none 0 0]) (t := 25) ?hr ?_; (case hd => rfl); (case hg => rfl); (case hr => first | (go_simp; done) | (go_simp; rfl)); intro gb117 hg w24 hbox hb; have n0_ := Aside0.mk (Kd.R_below (by (with_reducible repeat (first | apply Kd.R_alloc | apply Kd.R_drewN | apply Kd.R_drew)); exact HO112.out) hb); have n1_ := Aside0.mk (Kd.R_below (by (with_reducible repeat (first | apply Kd.R_alloc | apply Kd.R_drewN | apply Kd.R_drew)); exact HO115.out) hb); have n2_ := Aside0.mk (blk_below (g := gb108) (o := .cells #[.slice A0_0 l0_0.length c0_0, .slice A0_1 l0_1.length c0_1] 25 (0, 0)) (by (with_reducible repeat (first | refine blk_drewN ?_ _ | refine blk_drew ?_ | refine blk_alloc ?_ _)); exact BK108.out) hb); have n3_ := Aside0.mk (below_step (by repeat (first | (with_reducible first | exact HB.out | apply below_alloc | apply pw_below_drewN | apply below_drew1 | refine below_set ?_ GE108.out) | exact HB.out)) hb); have n4_ := Aside0.mk (hbox); have n5_ := Aside0.mk ((by rw [hg]; exact (below_size (by repeat (first | (with_reducible first | exact HB.out | apply below_alloc | apply pw_below_drewN | apply below_drew1 | refine below_set ?_ GE108.out) | exact HB.out))) : w.heap.size ≤ gb117)); have n6_ := Aside0.mk ((by rw [hg]; exact (below_size (by repeat (first | (with_reducible first | exact HB.out | apply below_alloc | apply pw_below_drewN | apply below_drew1 | refine below_set ?_ GE108.out) | exact HB.out))) : w.heap.size ≤ gb117)); have n7_ := Aside0.mk ((by rw [hg]; exact Nat.ne_of_lt (blk_lt (g := gb108) (o := .cells #[.slice A0_0 l0_0.length c0_0, .slice A0_1 l0_1.length c0_1] 25 (0, 0)) (by (with_reducible repeat (first | refine blk_drewN ?_ _ | refine blk_drew ?_ | refine blk_alloc ?_ _)); exact BK108.out)) : gb108 ≠ gb117)); have n8_ := Aside0.mk ((by rw [hg]; exact Nat.ne_of_gt (blk_lt (g := gb108) (o := .cells #[.slice A0_0 l0_0.length c0_0, .slice A0_1 l0_1.length c0_1] 25 (0, 0)) (by (with_reducible repeat (first | refine blk_drewN ?_ _ | refine blk_drew ?_ | refine blk_alloc ?_ _)); exact BK108.out)) : gb117 ≠ gb108)); clear HO112; clear HO115; clear BK108; clear HB; have HO112 := n0_; have HO115 := n1_; have BK108 := n2_; have HB := n3_; have BK117 := n4_; have GW117 := n5_; have GE117 := n6_; have NB108_117 := n7_; have NB117_108 := n8_; clear n0_ n1_ n2_ n3_ n4_ n5_ n6_ n7_ n8_; clear hb hbox hg; obtain ⟨Ao25, co25, eo25⟩ := Kd.R_slice HO112.out; subst eo25; have hnb26 := NB117_108.out; have hnc26 := NB108_117.out; have hcz27_0 : w24.cell? ⟨gb117, 0, none⟩ = some (.slice none 0 0) := (blk_cell BK117.out 0).trans rfl; have hcz27_1 : w24.cell? ⟨gb117, 1, none⟩ = some (.slice none 0 0) := (blk_cell BK117.out 1).trans rfl; have hfz27_0 := blk_frozen BK117.out 0; have hfz27_1 := blk_frozen BK117.out 1; obtain ⟨Ao28, co28, eo28⟩ := Kd.R_slice HO115.out; subst eo28))
      go_ret2
      exact ⟨by first | rfl | (simp [errW_none, errW_some] <;> rfl) | (simp [*, errW_none, errW_some] <;> rfl), by repeat (first | (with_reducible first | exact HB.out | apply below_alloc | apply pw_below_drewN | apply below_drew1 | refine below_set ?_ GE108.out | refine below_set ?_ GE117.out) | exact HB.out)⟩
  · rw [if_neg c4] at H
    have c4b0 : (t109 == 0) = false := beq_eq_false_iff_ne.mpr c4
    have c4b1 : (t109 != 0) = true := bne_iff_ne.mpr c4
    simp only [Option.some.injEq, Prod.mk.injEq] at H
    obtain ⟨rfl, rfl⟩ := H
    go_enter Try.func18, Try.ntmps18
    go_wp2_with (first | ((with_reducible refine gate_dst (N := 2) rfl ?_); refine box_event ?hg (N := 2) ?hd (cs := #[.slice A0_0 l0_0.length c0_0, .slice A0_1 l0_1.length c0_1]) (t := 25) ?hr ?_; (case hd => rfl); (case hg => rfl); (case hr => first | (go_simp; done) | (go_simp; rfl)); intro gb108 hg w29 hbox hb; have n0_ := Aside0.mk (below_step (by repeat (first | (with_reducible first | exact HB.out | apply below_alloc | apply pw_below_drewN | apply below_drew1) | exact HB.out)) hb); have n1_ := Aside0.mk (hbox); have n2_ := Aside0.mk ((by rw [hg]; exact (below_size (by repeat (first | (with_reducible first | exact HB.out | apply below_alloc | apply pw_below_drewN | apply below_drew1) | exact HB.out))) : w.heap.size ≤ gb108)); have n3_ := Aside0.mk ((by rw [hg]; exact (below_size (by repeat (first | (with_reducible first | exact HB.out | apply below_alloc | apply pw_below_drewN | apply below_drew1) | exact HB.out))) : w.heap.size ≤ gb108)); clear HB; have HB := n0_; have BK108 := n1_; have GW108 := n2_; have GE108 := n3_; clear n0_ n1_ n2_ n3_; clear hb hbox hg; have hcz30_0 : w29.cell? ⟨gb108, 0, none⟩ = some (.slice A0_0 l0_0.length c0_0) := (blk_cell BK108.out 0).trans rfl; have hcz30_1 : w29.cell? ⟨gb108, 1, none⟩ = some (.slice A0_1 l0_1.length c0_1) := (blk_cell BK108.out 1).trans rfl; have hfz30_0 := blk_frozen BK108.out 0; have hfz30_1 := blk_frozen BK108.out 1) | ((with_reducible refine gate_callee (f := 39) rfl ?_); refine goesL_ (some 11) rfl rfl Try.func39 (by kernel_rfl) rfl #[.agg #[.slice A0_0 l0_0.length c0_0, .slice A0_1 l0_1.length c0_1], .int .i64 a1] rfl (by (try simp only [List.map_toArray, List.map_cons, List.map_nil]); first | done | rfl | (simp only [List.length_drop, List.length_take]; rfl)) ?_; (with_reducible refine (disk_open.calls _ _ l0_0 _ _ l0_1 a1 t109 _ ?side1 ?side2 ?side3 ?side4 A3.out).mono ?_); (case side1 => repeat (first | exact (Kd.C_below HR0_0.out HB.out) | (with_reducible refine Kd.C_alloc ?_ _) | (with_reducible refine Kd.C_drewN ?_ _) | (with_reducible refine Kd.C_drew ?_))); (case side2 => exact HC0_0.out); (case side3 => repeat (first | exact (Kd.C_below HR0_1.out HB.out) | (with_reducible refine Kd.C_alloc ?_ _) | (with_reducible refine Kd.C_drewN ?_ _) | (with_reducible refine Kd.C_drew ?_))); (case side4 => exact HC0_1.out); rintro e w31 ⟨rfl, hb⟩; refine ⟨_, rfl, ?_⟩; have n0_ := Aside0.mk (blk_below (g := gb108) (o := .cells #[.slice A0_0 l0_0.length c0_0, .slice A0_1 l0_1.length c0_1] 25 (0, 0)) (by (with_reducible repeat (first | refine blk_drewN ?_ _ | refine blk_drew ?_ | refine blk_alloc ?_ _)); exact BK108.out) hb); have n1_ := Aside0.mk (below_step (by repeat (first | (with_reducible first | exact HB.out | apply below_alloc | apply pw_below_drewN | apply below_drew1 | refine below_set ?_ GE108.out) | exact HB.out)) hb); clear BK108; clear HB; have BK108 := n0_; have HB := n1_; clear n0_ n1_; (try clear hb); (try clear hb2); (try clear hk); (try clear hi)))
    go_ret2
    exact ⟨by first | rfl | (simp [errW_none, errW_some] <;> rfl) | (simp [*, errW_none, errW_some] <;> rfl), by repeat (first | (with_reducible first | exact HB.out | apply below_alloc | apply pw_below_drewN | apply below_drew1 | refine below_set ?_ GE108.out) | exact HB.out)⟩

end Go.Proofs.Ytkgcaheddhfpgaa.P
/-
  What disk.Read and disk.Write tell, plainly.
-/
namespace Go.Proofs.Ytkgcaheddhfpgaa.P
open Go.RowKit Go.Proofs.YtkgcaheddhfpgaaW.PrintWords Go.Proofs.YtkgcaheddhfpgaaW.PrintLast Go.Proofs.Plain

theorem wrap_at {x : Int} (h0 : -9223372036854775808 ≤ x) (h1 : x ≤ 9223372036854775807) : wrap64 x = x := by unfold wrap64; omega

/-- What disk.Read answers. -/
def readV (l0 : List ByteArray) (l1 : List S73) (at_ : Int) : ByteArray × Int :=
  if checkB l0 l1 = false then (⟨#[]⟩, 1) else if at_ < 0 ∨ at_ ≥ (l0.length : Int) then (⟨#[]⟩, 40) else (rdOf ByteArray.empty (applyW (fun _ => true) 0 l1 l0) at_, 0)

theorem read_f (l0 : List ByteArray) (l1 : List S73) (at_ : Int) : disk_Read.f l0 l1 at_ = some (readV l0 l1 at_) := by
  unfold disk_Read.f readV
  rw [open_f]
  simp only [Option.bind_some]
  by_cases h1 : checkB l0 l1 = false
  · simp [h1]
  · rw [if_neg h1, if_neg h1]
    by_cases h2 : at_ < 0 ∨ at_ ≥ (l0.length : Int)
    · simp [h2]
    · rw [if_neg h2, if_neg h2, if_pos rfl]
      have h1' : checkB l0 l1 = true := by simpa using h1
      unfold disk_Sync.f doneV
      rw [if_pos h1']
      simp only [Option.bind_some]
      rw [if_pos trivial, if_pos (by omega), if_pos (by rw [applyW_length]; omega)]

theorem check_write {l0 : List ByteArray} {l1 : List S73} {at_ : Int} {s : ByteArray} (h : checkB l0 l1 = true) (ha : ¬ (at_ < 0 ∨ at_ ≥ (l0.length : Int))) (hs : longS s = false) (hl : ¬ l1.length = 100) :
    checkB l0 (l1 ++ [⟨at_, s⟩]) = true := by
  unfold checkB at h ⊢
  simp only [Bool.and_eq_true, decide_eq_true_eq, Bool.not_eq_true'] at h ⊢
  obtain ⟨⟨⟨⟨h1, h2⟩, h3⟩, h4⟩, h5⟩ := h
  refine ⟨⟨⟨⟨h1, h2⟩, by simp; omega⟩, h4⟩, ?_⟩
  rw [List.any_append, h5]
  simp only [List.any_cons, List.any_nil, Bool.or_false, Bool.false_or]
  unfold oddW
  rw [hs]
  simp only [Bool.or_false, Bool.or_eq_false_iff, decide_eq_false_iff_not]
  omega

theorem rdOf_set (l : List ByteArray) (i : Int) (s : ByteArray) (k : Int) (hi : 0 ≤ i) (hil : i < (l.length : Int)) (hk : 0 ≤ k) : rdOf ByteArray.empty (l.set i.toNat s) k = if k = i then s else rdOf ByteArray.empty l k := by
  unfold rdOf
  rw [List.getD_eq_getElem?_getD, List.getD_eq_getElem?_getD, List.getElem?_set]
  by_cases h : k = i
  · subst h
    rw [if_pos rfl, if_pos rfl, if_pos (by omega)]; rfl
  · rw [if_neg h, if_neg (by omega)]
end Go.Proofs.Ytkgcaheddhfpgaa.P
-- Written by a program of this session (xprint.py) over the kit's print.py.
namespace Go.Proofs.Ytkgcaheddhfpgaa.P
open Go.RowKit Go.Proofs.YtkgcaheddhfpgaaW.PrintWords Go.Proofs.YtkgcaheddhfpgaaW.PrintLast Go.Proofs.YtkgcaheddhfpgaaW.PrintMore
attribute [local go_sem] max2_int min2_int max_two min_two max_three min_three max_four min_four   -- for this text's walks alone
set_option linter.unusedVariables false
set_option linter.unusedSimpArgs false

/-! ### twin_read: function 47 -/
def twin_read.f (k : Nat) (a0 : ByteArray) : Option (Int × ByteArray × Bool) := (crc_Get.f k a0).bind fun bt135 => (if bt135.2.2 = 0 then (if bt135.2.1.toList = ([] : List UInt8) then ((codec_GetNumber.f bt135.1).bind fun bt138 => (some (bt138.1, bt138.2.1, bt138.2.2))) else (some (0, (⟨#[]⟩ : ByteArray), false))) else (some (0, (⟨#[]⟩ : ByteArray), false)))
set_option maxHeartbeats 8000000 in
set_option maxRecDepth 100000 in
theorem twin_read.calls (k : Nat) (a0 : ByteArray) (r1 : Int) (r2 : ByteArray) (r3 : Bool) (w : World) (h : twin_read.f k a0 = some (r1, r2, r3)) :
    Calls Try.prog 47 #[.string a0] w fun e w' => e = .returned (.agg #[.int .i64 r1, .string r2, .bool r3]) ∧ Below w.heap.size w w' := by
  have hu61 := Try.underlying61
  have HB := Aside0.mk (Below.refl w.heap.size w)
  have H : ((crc_Get.f k a0).bind fun bt135 => (if bt135.2.2 = 0 then (if bt135.2.1.toList = ([] : List UInt8) then ((codec_GetNumber.f bt135.1).bind fun bt138 => (some (bt138.1, bt138.2.1, bt138.2.2))) else (some (0, (⟨#[]⟩ : ByteArray), false))) else (some (0, (⟨#[]⟩ : ByteArray), false)))) = some (r1, r2, r3) := h
  clear h
  replace H := Option.bind_eq_some_iff.mp H
  obtain ⟨⟨t135, t136, t137⟩, A20, H⟩ := H
  replace H : (if t137 = 0 then (if t136.toList = ([] : List UInt8) then ((codec_GetNumber.f t135).bind fun bt138 => (some (bt138.1, bt138.2.1, bt138.2.2))) else (some (0, (⟨#[]⟩ : ByteArray), false))) else (some (0, (⟨#[]⟩ : ByteArray), false))) = some (r1, r2, r3) := H
  have A2 := Aside0.mk A20
  clear A20
  by_cases c3 : t137 = 0
  · rw [if_pos c3] at H
    have c3b0 : (t137 == 0) = true := beq_iff_eq.mpr c3
    have c3b1 : (t137 != 0) = false := bne_eq_false_iff_eq.mpr c3
    clear c3
    by_cases c4 : t136.toList = ([] : List UInt8)
    · rw [if_pos c4] at H
      have c4b0 : (t136.toList == ([] : List UInt8)) = true := beq_iff_eq.mpr c4
      have c4b1 : (t136.toList != ([] : List UInt8)) = false := bne_eq_false_iff_eq.mpr c4
      clear c4
      replace H := Option.bind_eq_some_iff.mp H
      obtain ⟨⟨t138, t139, t140⟩, A50, H⟩ := H
      replace H : (some (t138, t139, t140)) = some (r1, r2, r3) := H
      have A5 := Aside0.mk A50
      clear A50
      simp only [Option.some.injEq, Prod.mk.injEq] at H
      obtain ⟨rfl, rfl, rfl⟩ := H
      go_enter Try.func47, Try.ntmps47
      go_wp2_with (first | ((with_reducible refine gate_dst (N := 2) rfl ?_); refine box_event ?hg (N := 2) ?hd (cs := #[.int .i64 0, .string (⟨#[]⟩ : ByteArray), .bool false]) (t := 61) ?hr ?_; (case hd => rfl); (case hg => rfl); (case hr => first | (go_simp; done) | (go_simp; rfl)); intro gb134 hg w6 hbox hb; have n0_ := Aside0.mk (below_step (by repeat (first | (with_reducible first | exact HB.out | apply below_alloc | apply pw_below_drewN | apply below_drew1) | exact HB.out)) hb); have n1_ := Aside0.mk (hbox); have n2_ := Aside0.mk ((by rw [hg]; exact (below_size (by repeat (first | (with_reducible first | exact HB.out | apply below_alloc | apply pw_below_drewN | apply below_drew1) | exact HB.out))) : w.heap.size ≤ gb134)); have n3_ := Aside0.mk ((by rw [hg]; exact (below_size (by repeat (first | (with_reducible first | exact HB.out | apply below_alloc | apply pw_below_drewN | apply below_drew1) | exact HB.out))) : w.heap.size ≤ gb134)); clear HB; have HB := n0_; have BK134 := n1_; have GW134 := n2_; have GE134 := n3_; clear n0_ n1_ n2_ n3_; clear hb hbox hg) | ((with_reducible refine gate_callee (f := 55) rfl ?_); refine goesL_ (some 11) rfl rfl Try.func55 (by kernel_rfl) rfl #[.string a0] rfl (by (try simp only [List.map_toArray, List.map_cons, List.map_nil]); first | done | rfl | (simp only [List.length_drop, List.length_take]; rfl)) ?_; (with_reducible refine (crc_Get.calls k a0 t135 t136 t137 _ A2.out).mono ?_); rintro e w7 ⟨rfl, hb⟩; refine ⟨_, rfl, ?_⟩; have n0_ := Aside0.mk (blk_below (g := gb134) (o := .cells #[.int .i64 0, .string (⟨#[]⟩ : ByteArray), .bool false] 61 (0, 0)) (by (with_reducible repeat (first | refine blk_drewN ?_ _ | refine blk_drew ?_ | refine blk_alloc ?_ _)); exact BK134.out) hb); have n1_ := Aside0.mk (below_step (by repeat (first | (with_reducible first | exact HB.out | apply below_alloc | apply pw_below_drewN | apply below_drew1 | refine below_set ?_ GE134.out) | exact HB.out)) hb); clear BK134; clear HB; have BK134 := n0_; have HB := n1_; clear n0_ n1_; (try clear hb); (try clear hb2); (try clear hk); (try clear hi)) | ((with_reducible refine gate_callee (f := 61) rfl ?_); refine goesL_ (some 24) rfl rfl Try.func61 (by kernel_rfl) rfl #[.string t135] rfl (by (try simp only [List.map_toArray, List.map_cons, List.map_nil]); first | done | rfl | (simp only [List.length_drop, List.length_take]; rfl)) ?_; (with_reducible refine (codec_GetNumber.calls t135 t138 t139 t140 _ A5.out).mono ?_); rintro e w' ⟨rfl, ⟨nd, rfl⟩⟩; refine ⟨_, rfl, ?_⟩; (try (rw [drewN_self w7]; generalize hq_ : World.drewN w7 _ = w7; have n0_ : Aside0 (w7.heap[gb134]? = some (.cells #[.int .i64 0, .string (⟨#[]⟩ : ByteArray), .bool false] 61 (0, 0))) := ⟨by rw [← hq_]; exact (by (with_reducible repeat (first | refine blk_drewN ?_ _ | refine blk_drew ?_ | refine blk_alloc ?_ _)); exact BK134.out)⟩; have n1_ : Aside0 (Below w.heap.size w w7) := ⟨by rw [← hq_]; exact (by repeat (first | (with_reducible first | exact HB.out | apply below_alloc | apply pw_below_drewN | apply below_drew1 | refine below_set ?_ GE134.out) | exact HB.out))⟩; clear BK134 HB hq_; have BK134 := n0_; have HB := n1_; clear n0_ n1_)); have hcz8_0 : w7.cell? ⟨gb134, 0, none⟩ = some (.int .i64 0) := (blk_cell BK134.out 0).trans rfl; have hcz8_1 : w7.cell? ⟨gb134, 1, none⟩ = some (.string (⟨#[]⟩ : ByteArray)) := (blk_cell BK134.out 1).trans rfl; have hcz8_2 : w7.cell? ⟨gb134, 2, none⟩ = some (.bool false) := (blk_cell BK134.out 2).trans rfl; have hfz8_0 := blk_frozen BK134.out 0; have hfz8_1 := blk_frozen BK134.out 1; have hfz8_2 := blk_frozen BK134.out 2))
      refine bodyPost_ret (results_cell_row rfl _ _ gb134 61 #[.int .i64 t138, .string t139, .bool t140] (0, 0) _ rfl (by (with_reducible repeat (first | refine blk_drewN ?_ _ | refine blk_drew ?_ | refine blk_alloc ?_ _)); refine blk_put (cs := #[.int .i64 t138, .string t139, .bool false]) ?_ 2 _ rfl; (with_reducible repeat (first | refine blk_drewN ?_ _ | refine blk_drew ?_ | refine blk_alloc ?_ _)); refine blk_put (cs := #[.int .i64 t138, .string (⟨#[]⟩ : ByteArray), .bool false]) ?_ 1 _ rfl; (with_reducible repeat (first | refine blk_drewN ?_ _ | refine blk_drew ?_ | refine blk_alloc ?_ _)); refine blk_put (cs := #[.int .i64 0, .string (⟨#[]⟩ : ByteArray), .bool false]) ?_ 0 _ rfl; (with_reducible repeat (first | refine blk_drewN ?_ _ | refine blk_drew ?_ | refine blk_alloc ?_ _)); exact BK134.out) Try.underlying61 rfl (by kernel_rfl)) rfl ?_
      exact ⟨by first | rfl | (simp [errW_none, errW_some] <;> rfl) | (simp [*, errW_none, errW_some] <;> rfl), by repeat (first | (with_reducible first | exact HB.out | apply below_alloc | apply pw_below_drewN | apply below_drew1 | refine below_set ?_ GE134.out) | exact HB.out)⟩
    · rw [if_neg c4] at H
      have c4b0 : (t136.toList == ([] : List UInt8)) = false := beq_eq_false_iff_ne.mpr c4
      have c4b1 : (t136.toList != ([] : List UInt8)) = true := bne_iff_ne.mpr c4
      simp only [Option.some.injEq, Prod.mk.injEq] at H
      obtain ⟨rfl, rfl, rfl⟩ := H
      go_enter Try.func47, Try.ntmps47
      go_wp2_with (first | ((with_reducible refine gate_dst (N := 2) rfl ?_); refine box_event ?hg (N := 2) ?hd (cs := #[.int .i64 0, .string (⟨#[]⟩ : ByteArray), .bool false]) (t := 61) ?hr ?_; (case hd => rfl); (case hg => rfl); (case hr => first | (go_simp; done) | (go_simp; rfl)); intro gb134 hg w9 hbox hb; have n0_ := Aside0.mk (below_step (by repeat (first | (with_reducible first | exact HB.out | apply below_alloc | apply pw_below_drewN | apply below_drew1) | exact HB.out)) hb); have n1_ := Aside0.mk (hbox); have n2_ := Aside0.mk ((by rw [hg]; exact (below_size (by repeat (first | (with_reducible first | exact HB.out | apply below_alloc | apply pw_below_drewN | apply below_drew1) | exact HB.out))) : w.heap.size ≤ gb134)); have n3_ := Aside0.mk ((by rw [hg]; exact (below_size (by repeat (first | (with_reducible first | exact HB.out | apply below_alloc | apply pw_below_drewN | apply below_drew1) | exact HB.out))) : w.heap.size ≤ gb134)); clear HB; have HB := n0_; have BK134 := n1_; have GW134 := n2_; have GE134 := n3_; clear n0_ n1_ n2_ n3_; clear hb hbox hg) | ((with_reducible refine gate_callee (f := 55) rfl ?_); refine goesL_ (some 11) rfl rfl Try.func55 (by kernel_rfl) rfl #[.string a0] rfl (by (try simp only [List.map_toArray, List.map_cons, List.map_nil]); first | done | rfl | (simp only [List.length_drop, List.length_take]; rfl)) ?_; (with_reducible refine (crc_Get.calls k a0 t135 t136 t137 _ A2.out).mono ?_); rintro e w10 ⟨rfl, hb⟩; refine ⟨_, rfl, ?_⟩; have n0_ := Aside0.mk (blk_below (g := gb134) (o := .cells #[.int .i64 0, .string (⟨#[]⟩ : ByteArray), .bool false] 61 (0, 0)) (by (with_reducible repeat (first | refine blk_drewN ?_ _ | refine blk_drew ?_ | refine blk_alloc ?_ _)); exact BK134.out) hb); have n1_ := Aside0.mk (below_step (by repeat (first | (with_reducible first | exact HB.out | apply below_alloc | apply pw_below_drewN | apply below_drew1 | refine below_set ?_ GE134.out) | exact HB.out)) hb); clear BK134; clear HB; have BK134 := n0_; have HB := n1_; clear n0_ n1_; (try clear hb); (try clear hb2); (try clear hk); (try clear hi); have hcz11_0 : w10.cell? ⟨gb134, 0, none⟩ = some (.int .i64 0) := (blk_cell BK134.out 0).trans rfl; have hcz11_1 : w10.cell? ⟨gb134, 1, none⟩ = some (.string (⟨#[]⟩ : ByteArray)) := (blk_cell BK134.out 1).trans rfl; have hcz11_2 : w10.cell? ⟨gb134, 2, none⟩ = some (.bool false) := (blk_cell BK134.out 2).trans rfl; have hfz11_0 := blk_frozen BK134.out 0; have hfz11_1 := blk_frozen BK134.out 1; have hfz11_2 := blk_frozen BK134.out 2))
      refine bodyPost_ret (results_cell_row rfl _ _ gb134 61 #[.int .i64 0, .string (⟨#[]⟩ : ByteArray), .bool false] (0, 0) _ rfl (by (with_reducible repeat (first | refine blk_drewN ?_ _ | refine blk_drew ?_ | refine blk_alloc ?_ _)); refine blk_put (cs := #[.int .i64 0, .string (⟨#[]⟩ : ByteArray), .bool false]) ?_ 2 _ rfl; (with_reducible repeat (first | refine blk_drewN ?_ _ | refine blk_drew ?_ | refine blk_alloc ?_ _)); refine blk_put (cs := #[.int .i64 0, .string (⟨#[]⟩ : ByteArray), .bool false]) ?_ 1 _ rfl; (with_reducible repeat (first | refine blk_drewN ?_ _ | refine blk_drew ?_ | refine blk_alloc ?_ _)); refine blk_put (cs := #[.int .i64 0, .string (⟨#[]⟩ : ByteArray), .bool false]) ?_ 0 _ rfl; (with_reducible repeat (first | refine blk_drewN ?_ _ | refine blk_drew ?_ | refine blk_alloc ?_ _)); exact BK134.out) Try.underlying61 rfl (by kernel_rfl)) rfl ?_
      exact ⟨by first | rfl | (simp [errW_none, errW_some] <;> rfl) | (simp [*, errW_none, errW_some] <;> rfl), by repeat (first | (with_reducible first | exact HB.out | apply below_alloc | apply pw_below_drewN | apply below_drew1 | refine below_set ?_ GE134.out) | exact HB.out)⟩
  · rw [if_neg c3] at H
    have c3b0 : (t137 == 0) = false := beq_eq_false_iff_ne.mpr c3
    have c3b1 : (t137 != 0) = true := bne_iff_ne.mpr c3
    simp only [Option.some.injEq, Prod.mk.injEq] at H
    obtain ⟨rfl, rfl, rfl⟩ := H
    go_enter Try.func47, Try.ntmps47
    go_wp2_with (first | ((with_reducible refine gate_dst (N := 2) rfl ?_); refine box_event ?hg (N := 2) ?hd (cs := #[.int .i64 0, .string (⟨#[]⟩ : ByteArray), .bool false]) (t := 61) ?hr ?_; (case hd => rfl); (case hg => rfl); (case hr => first | (go_simp; done) | (go_simp; rfl)); intro gb134 hg w12 hbox hb; have n0_ := Aside0.mk (below_step (by repeat (first | (with_reducible first | exact HB.out | apply below_alloc | apply pw_below_drewN | apply below_drew1) | exact HB.out)) hb); have n1_ := Aside0.mk (hbox); have n2_ := Aside0.mk ((by rw [hg]; exact (below_size (by repeat (first | (with_reducible first | exact HB.out | apply below_alloc | apply pw_below_drewN | apply below_drew1) | exact HB.out))) : w.heap.size ≤ gb134)); have n3_ := Aside0.mk ((by rw [hg]; exact (below_size (by repeat (first | (with_reducible first | exact HB.out | apply below_alloc | apply pw_below_drewN | apply below_drew1) | exact HB.out))) : w.heap.size ≤ gb134)); clear HB; have HB := n0_; have BK134 := n1_; have GW134 := n2_; have GE134 := n3_; clear n0_ n1_ n2_ n3_; clear hb hbox hg) | ((with_reducible refine gate_callee (f := 55) rfl ?_); refine goesL_ (some 11) rfl rfl Try.func55 (by kernel_rfl) rfl #[.string a0] rfl (by (try simp only [List.map_toArray, List.map_cons, List.map_nil]); first | done | rfl | (simp only [List.length_drop, List.length_take]; rfl)) ?_; (with_reducible refine (crc_Get.calls k a0 t135 t136 t137 _ A2.out).mono ?_); rintro e w13 ⟨rfl, hb⟩; refine ⟨_, rfl, ?_⟩; have n0_ := Aside0.mk (blk_below (g := gb134) (o := .cells #[.int .i64 0, .string (⟨#[]⟩ : ByteArray), .bool false] 61 (0, 0)) (by (with_reducible repeat (first | refine blk_drewN ?_ _ | refine blk_drew ?_ | refine blk_alloc ?_ _)); exact BK134.out) hb); have n1_ := Aside0.mk (below_step (by repeat (first | (with_reducible first | exact HB.out | apply below_alloc | apply pw_below_drewN | apply below_drew1 | refine below_set ?_ GE134.out) | exact HB.out)) hb); clear BK134; clear HB; have BK134 := n0_; have HB := n1_; clear n0_ n1_; (try clear hb); (try clear hb2); (try clear hk); (try clear hi); have hcz14_0 : w13.cell? ⟨gb134, 0, none⟩ = some (.int .i64 0) := (blk_cell BK134.out 0).trans rfl; have hcz14_1 : w13.cell? ⟨gb134, 1, none⟩ = some (.string (⟨#[]⟩ : ByteArray)) := (blk_cell BK134.out 1).trans rfl; have hcz14_2 : w13.cell? ⟨gb134, 2, none⟩ = some (.bool false) := (blk_cell BK134.out 2).trans rfl; have hfz14_0 := blk_frozen BK134.out 0; have hfz14_1 := blk_frozen BK134.out 1; have hfz14_2 := blk_frozen BK134.out 2))
    refine bodyPost_ret (results_cell_row rfl _ _ gb134 61 #[.int .i64 0, .string (⟨#[]⟩ : ByteArray), .bool false] (0, 0) _ rfl (by (with_reducible repeat (first | refine blk_drewN ?_ _ | refine blk_drew ?_ | refine blk_alloc ?_ _)); refine blk_put (cs := #[.int .i64 0, .string (⟨#[]⟩ : ByteArray), .bool false]) ?_ 2 _ rfl; (with_reducible repeat (first | refine blk_drewN ?_ _ | refine blk_drew ?_ | refine blk_alloc ?_ _)); refine blk_put (cs := #[.int .i64 0, .string (⟨#[]⟩ : ByteArray), .bool false]) ?_ 1 _ rfl; (with_reducible repeat (first | refine blk_drewN ?_ _ | refine blk_drew ?_ | refine blk_alloc ?_ _)); refine blk_put (cs := #[.int .i64 0, .string (⟨#[]⟩ : ByteArray), .bool false]) ?_ 0 _ rfl; (with_reducible repeat (first | refine blk_drewN ?_ _ | refine blk_drew ?_ | refine blk_alloc ?_ _)); exact BK134.out) Try.underlying61 rfl (by kernel_rfl)) rfl ?_
    exact ⟨by first | rfl | (simp [errW_none, errW_some] <;> rfl) | (simp [*, errW_none, errW_some] <;> rfl), by repeat (first | (with_reducible first | exact HB.out | apply below_alloc | apply pw_below_drewN | apply below_drew1 | refine below_set ?_ GE134.out) | exact HB.out)⟩

end Go.Proofs.Ytkgcaheddhfpgaa.P
/-
  twin.newer, by hand.
-/
namespace Go.Proofs.Ytkgcaheddhfpgaa.P
open Go.RowKit Go.Proofs.YtkgcaheddhfpgaaW.PrintWords Go.Proofs.YtkgcaheddhfpgaaW.PrintLast

/-- Both copies of a twin, as cells. -/
def blkT (n0 : Int) (t0 : ByteArray) (k0 : Bool) (n1 : Int) (t1 : ByteArray) (k1 : Bool) : Array Value := #[.int .i64 n0, .string t0, .bool k0, .int .i64 n1, .string t1, .bool k1]
/-- Whether the first one is newer. -/
def newB (n0 : Int) (k0 : Bool) (n1 : Int) (k1 : Bool) : Bool := k0 && (!k1 || decide (n0 > n1))
def newV (n0 : Int) (k0 : Bool) (n1 : Int) (k1 : Bool) : Int := if newB n0 k0 n1 k1 = true then 0 else 1
set_option maxHeartbeats 2000000 in
theorem twin_newer_calls (n0 : Int) (t0 : ByteArray) (k0 : Bool) (n1 : Int) (t1 : ByteArray) (k1 : Bool) (w : World) :
    Calls Try.prog 29 #[.agg (blkT n0 t0 k0 n1 t1 k1)] w fun e w' => e = .returned (.int .i64 (newV n0 k0 n1 k1)) ∧ Below w.heap.size w w' := by
  have HB := Aside0.mk ((Below.refl w.heap.size w).alloc (Nat.le_refl _) (.cells (blkT n0 t0 k0 n1 t1 k1) 62))
  have hv := Aside0.mk (show newV n0 k0 n1 k1 = if newB n0 k0 n1 k1 = true then 0 else 1 from rfl)
  unfold newB at hv
  unfold blkT
  cases k0
  · go_enter Try.func29, Try.ntmps29
    go_wp2
    go_ret
    exact ⟨by rw [hv.out]; rfl, HB.out⟩
  · cases k1
    · go_enter Try.func29, Try.ntmps29
      go_wp2
      go_ret
      exact ⟨by rw [hv.out]; rfl, HB.out⟩
    · by_cases h : n0 > n1
      · have h1 : decide (n1 < n0) = true := decide_eq_true h
        rw [decide_eq_true h] at hv
        clear h
        go_enter Try.func29, Try.ntmps29
        go_wp2
        go_ret
        exact ⟨by rw [hv.out]; rfl, HB.out⟩
      · have h1 : decide (n1 < n0) = false := decide_eq_false h
        rw [decide_eq_false h] at hv
        clear h
        go_enter Try.func29, Try.ntmps29
        go_wp2
        go_ret
        exact ⟨by rw [hv.out]; rfl, HB.out⟩
end Go.Proofs.Ytkgcaheddhfpgaa.P
/-
  twin.pair, by hand.
-/
namespace Go.Proofs.Ytkgcaheddhfpgaa.P
open Go.RowKit Go.Proofs.YtkgcaheddhfpgaaW.PrintWords Go.Proofs.YtkgcaheddhfpgaaW.PrintLast

def blk0 : Array Value := blkT 0 ⟨#[]⟩ false 0 ⟨#[]⟩ false
theorem zero_twin (w : World) : Sem.run Try.prog (zeroValue 62) w = .ok (.agg #[.int .i64 0, .string ⟨#[]⟩, .bool false, .int .i64 0, .string ⟨#[]⟩, .bool false]) w := by kernel_rfl
attribute [local go_sem] zero_twin
/-- What twin.pair answers. -/
def twin_pair.f (k : Nat) (l0 : List ByteArray) (l1 : List S73) (a : Int) : Option (Int × ByteArray × Bool × Int × ByteArray × Bool × Int) :=
  (disk_Read.f l0 l1 (wrap64 a)).bind fun r0 => if r0.2 = 0 then (twin_read.f k r0.1).bind fun v0 => (disk_Read.f l0 l1 (wrap64 (a + 1))).bind fun r1 =>
    if r1.2 = 0 then (twin_read.f k r1.1).bind fun v1 => some (v0.1, v0.2.1, v0.2.2, v1.1, v1.2.1, v1.2.2, if v0.2.2 = true ∧ v1.2.2 = true ∧ v0.1 = v1.1 then 50 else 0)
    else some (v0.1, v0.2.1, v0.2.2, 0, ⟨#[]⟩, false, r1.2)
  else some (0, ⟨#[]⟩, false, 0, ⟨#[]⟩, false, r0.2)
theorem blkT_one (n0 : Int) (t0 : ByteArray) (k0 : Bool) (n1 : Int) (t1 : ByteArray) (k1 : Bool) : ∀ q ∈ (blkT n0 t0 k0 n1 t1 k1).toList, q.oneCell' = true := by
  intro q hq
  simp only [blkT, List.mem_cons, List.not_mem_nil, or_false] at hq
  rcases hq with rfl | rfl | rfl | rfl | rfl | rfl <;> rfl
theorem store_twin {W : World} {g : Nat} {cur : Array Value} (hh : W.heap[g]? = some (.cells cur 62 (0, 0))) (hs : cur.size = 6) (n0 : Int) (t0 : ByteArray) (k0 : Bool) (n1 : Int) (t1 : ByteArray) (k1 : Bool) :
    (Instr.storeAt 62 (.pointer (some ⟨g, 0, none⟩)) (.agg (blkT n0 t0 k0 n1 t1 k1))).run Try.prog W = .ok () (W.setCells g 0 (blkT n0 t0 k0 n1 t1 k1).toList) ∧
    (W.setCells g 0 (blkT n0 t0 k0 n1 t1 k1).toList).heap[g]? = some (.cells (blkT n0 t0 k0 n1 t1 k1) 62 (0, 0)) := by
  have hl : (blkT n0 t0 k0 n1 t1 k1).toList.length = 6 := rfl
  refine ⟨run_store_run (P := Try.prog) (o := 0) 62 _ _ hh rfl (by rw [hl]; kernel_rfl) (by omega) (blkT_one n0 t0 k0 n1 t1 k1), ?_⟩
  obtain ⟨cur', h1, h2, h3⟩ := setCells_row (blkT n0 t0 k0 n1 t1 k1).toList 0 W cur hh (by omega)
  rw [h1]
  have : cur' = blkT n0 t0 k0 n1 t1 k1 := by
    apply Array.toList_inj.1
    rw [h3, List.take_zero, List.nil_append, hl, List.drop_of_length_le (by rw [Array.length_toList]; omega), List.append_nil]
  rw [this]
theorem below_cells {B g : Nat} {w W : World} (h : Below B w W) (hg : B ≤ g) (vs : List Value) : Below B w (W.setCells g 0 vs) := by
  have hs := setCells_same g vs 0 W
  exact h.trans ⟨hs.1, hs.2.1, hs.2.2.1, Nat.le_of_eq hs.2.2.2.symm, fun k hk => setCells_far _ _ k (by omega)⟩


set_option maxHeartbeats 16000000 in
set_option maxRecDepth 100000 in
theorem twin_pair_0 (A0 : Option Addr) (c0 : Nat) (l0 : List ByteArray) (A1 : Option Addr) (c1 : Nat) (l1 : List S73) (a : Int) (s0 : ByteArray) (e0 : Int) (hR0 : Aside0 (disk_Read.f l0 l1 (wrap64 a) = some (s0, e0))) (hne0 : Aside0 (e0 ≠ 0)) (w : World)
    (hr0 : Kd.C Kd.string w A0 l0.length l0) (hc0 : l0.length ≤ c0) (hr1 : Kd.C k73 w A1 l1.length l1) (hc1 : l1.length ≤ c1) :
    Calls Try.prog 28 #[.agg #[.slice A0 l0.length c0, .slice A1 l1.length c1], .int .i64 a] w fun e w' => e = .returned (.tuple #[.agg (blkT 0 ⟨#[]⟩ false 0 ⟨#[]⟩ false), .int .i64 e0]) ∧ Below w.heap.size w w' := by
  have HR0 := Aside0.mk hr0
  have HR1 := Aside0.mk hr1
  have HB0 := Aside0.mk ((((Below.refl w.heap.size w).alloc (Nat.le_refl _) (.cells #[.slice A0 l0.length c0, .slice A1 l1.length c1] 25)).alloc (by simp) (.cells blk0 62)).alloc (by simp; omega) (.cells blk0 62))
  have HD0 := Aside0.mk (blk_alloc (blk_alloc (blk_new w (.cells #[.slice A0 l0.length c0, .slice A1 l1.length c1] 25)) (.cells blk0 62)) (.cells blk0 62))
  have h4 := blk_alloc (blk_new (w.alloc (.cells #[.slice A0 l0.length c0, .slice A1 l1.length c1] 25)) (.cells blk0 62)) (.cells blk0 62)
  have h6 := blk_new ((w.alloc (.cells #[.slice A0 l0.length c0, .slice A1 l1.length c1] 25)).alloc (.cells blk0 62)) (.cells blk0 62)
  rw [World.size_alloc] at h4
  rw [World.size_alloc, World.size_alloc] at h6
  have HZ0 := Aside0.mk h4
  have HE0 := Aside0.mk h6
  have HRD := Aside0.mk (fun (x : Int) (s : ByteArray) (e : Int) (h : disk_Read.f l0 l1 x = some (s, e)) W (hb : Below w.heap.size w W) => disk_Read.calls A0 c0 l0 A1 c1 l1 x s e W (Kd.C_below hr0 hb) hc0 (Kd.C_below hr1 hb) hc1 h)
  clear h4 h6 hr0 hr1
  go_enter Try.func28, Try.ntmps28
  go_wp2
  go_loopw [7, 8, 9, 10] (fun _ _ _ i wr => ∃ k : Nat, i = .int .i64 k ∧ (k = 0 ∧ Aside0 (wr.heap[w.heap.size + 2]? = some (.cells (blk0) 62 (0, 0)))) ∧ Aside0 (wr.heap[w.heap.size]? = some (.cells #[.slice A0 l0.length c0, .slice A1 l1.length c1] 25 (0, 0))) ∧ Aside0 (wr.heap[w.heap.size + 1]? = some (.cells blk0 62 (0, 0))) ∧ Aside0 (Below w.heap.size w wr))
    (fun _ _ _ i _ => 2 - (intOf i).toNat)
  case atStart => exact ⟨0, rfl, ⟨rfl, HE0⟩, HD0, HZ0, HB0⟩
  case round =>
    clear HD0 HZ0 HB0 HE0
    obtain ⟨k, rfl, hcase, HD, HZ, HB⟩ := hrel
    obtain ⟨rfl, HE⟩ := hcase
    have hne : (e0 != 0) = true := by rw [bne_iff_ne]; exact hne0.out
    have dk0 := blk_cell HD.out 0
    have dk1 := blk_cell HD.out 1
    simp only [List.getElem?_toArray, List.getElem?_cons_zero, List.getElem?_cons_succ] at dk0 dk1
    go_wp2_with (first | (go_at_call 18; (with_reducible refine (HRD.out _ s0 e0 hR0.out _ HB.out).mono ?_); rintro e w3 ⟨rfl, hb3⟩; have HD3 := Aside0.mk (blk_below HD.out hb3); have HZ3 := Aside0.mk (blk_below HZ.out hb3); have HE3 := Aside0.mk (blk_below HE.out hb3); have HB3 := Aside0.mk (HB.out.trans (hb3.mono HB.out.size)); clear hb3; have g0 := blk_cell HE3.out 0; have g1 := blk_cell HE3.out 1; have g2 := blk_cell HE3.out 2; have g3 := blk_cell HE3.out 3; have g4 := blk_cell HE3.out 4; have g5 := blk_cell HE3.out 5; simp only [blkT, blk0, List.getElem?_toArray, List.getElem?_cons_zero, List.getElem?_cons_succ] at g0 g1 g2 g3 g4 g5) | ((with_reducible refine gate_store (t := 62) (p := 4) rfl ?_); refine store_event (t := 62) (p := 4) (w1 := w3.setCells (w.heap.size + 1) 0 (blkT 0 ⟨#[]⟩ false 0 ⟨#[]⟩ false).toList) rfl rfl rfl ?hr ?_; (case hr => (unfold execOp; simp only [Act.eval, Sem.run_bind, Sem.run_pure, Result.andThen_ok]; show ((Sem.run Try.prog (Instr.storeAt 62 (.pointer (some ⟨w.heap.size + 1, 0, none⟩)) (.agg (blkT 0 ⟨#[]⟩ false 0 ⟨#[]⟩ false))) w3).andThen _) = _; rw [(store_twin HZ3.out rfl 0 ⟨#[]⟩ false 0 ⟨#[]⟩ false).1]; try rfl)); intro w9 hw9; have HC9 := Aside0.mk (hw9 ▸ (store_twin HZ3.out rfl 0 ⟨#[]⟩ false 0 ⟨#[]⟩ false).2 : w9.heap[w.heap.size + 1]? = some (.cells (blkT 0 ⟨#[]⟩ false 0 ⟨#[]⟩ false) 62 (0, 0))); have HB9 := Aside0.mk (show Below w.heap.size w w9 by rw [hw9]; exact below_cells HB3.out (by omega) _); clear hw9))
    have d0 := blk_cell HC9.out 0
    have d1 := blk_cell HC9.out 1
    have d2 := blk_cell HC9.out 2
    have d3 := blk_cell HC9.out 3
    have d4 := blk_cell HC9.out 4
    have d5 := blk_cell HC9.out 5
    simp only [blkT, blk0, List.getElem?_toArray, List.getElem?_cons_zero, List.getElem?_cons_succ] at d0 d1 d2 d3 d4 d5
    refine bodyPost_ret (v := .tuple #[.agg (blkT 0 ⟨#[]⟩ false 0 ⟨#[]⟩ false), .int .i64 e0]) ?_ rfl ⟨rfl, HB9.out⟩
    simp [results, Try.results28, go_sem, blkT, d0, d1, d2, d3, d4, d5]

set_option maxHeartbeats 16000000 in
set_option maxRecDepth 100000 in
theorem twin_pair_1 (A0 : Option Addr) (c0 : Nat) (l0 : List ByteArray) (A1 : Option Addr) (c1 : Nat) (l1 : List S73) (a : Int) (K : Nat) (s0 : ByteArray) (n0 : Int) (t0 : ByteArray) (k0 : Bool) (s1 : ByteArray) (e1 : Int) (hR0 : Aside0 (disk_Read.f l0 l1 (wrap64 a) = some (s0, 0))) (hT0 : Aside0 (twin_read.f K s0 = some (n0, t0, k0))) (hR1 : Aside0 (disk_Read.f l0 l1 (wrap64 (a + 1)) = some (s1, e1))) (hne0 : Aside0 (e1 ≠ 0)) (w : World)
    (hr0 : Kd.C Kd.string w A0 l0.length l0) (hc0 : l0.length ≤ c0) (hr1 : Kd.C k73 w A1 l1.length l1) (hc1 : l1.length ≤ c1) :
    Calls Try.prog 28 #[.agg #[.slice A0 l0.length c0, .slice A1 l1.length c1], .int .i64 a] w fun e w' => e = .returned (.tuple #[.agg (blkT n0 t0 k0 0 ⟨#[]⟩ false), .int .i64 e1]) ∧ Below w.heap.size w w' := by
  have HR0 := Aside0.mk hr0
  have HR1 := Aside0.mk hr1
  have HB0 := Aside0.mk ((((Below.refl w.heap.size w).alloc (Nat.le_refl _) (.cells #[.slice A0 l0.length c0, .slice A1 l1.length c1] 25)).alloc (by simp) (.cells blk0 62)).alloc (by simp; omega) (.cells blk0 62))
  have HD0 := Aside0.mk (blk_alloc (blk_alloc (blk_new w (.cells #[.slice A0 l0.length c0, .slice A1 l1.length c1] 25)) (.cells blk0 62)) (.cells blk0 62))
  have h4 := blk_alloc (blk_new (w.alloc (.cells #[.slice A0 l0.length c0, .slice A1 l1.length c1] 25)) (.cells blk0 62)) (.cells blk0 62)
  have h6 := blk_new ((w.alloc (.cells #[.slice A0 l0.length c0, .slice A1 l1.length c1] 25)).alloc (.cells blk0 62)) (.cells blk0 62)
  rw [World.size_alloc] at h4
  rw [World.size_alloc, World.size_alloc] at h6
  have HZ0 := Aside0.mk h4
  have HE0 := Aside0.mk h6
  have HRD := Aside0.mk (fun (x : Int) (s : ByteArray) (e : Int) (h : disk_Read.f l0 l1 x = some (s, e)) W (hb : Below w.heap.size w W) => disk_Read.calls A0 c0 l0 A1 c1 l1 x s e W (Kd.C_below hr0 hb) hc0 (Kd.C_below hr1 hb) hc1 h)
  clear h4 h6 hr0 hr1
  go_enter Try.func28, Try.ntmps28
  go_wp2
  go_loopw [7, 8, 9, 10] (fun _ _ _ i wr => ∃ k : Nat, i = .int .i64 k ∧ (k = 0 ∧ Aside0 (wr.heap[w.heap.size + 2]? = some (.cells (blk0) 62 (0, 0))) ∨ k = 1 ∧ Aside0 (wr.heap[w.heap.size + 2]? = some (.cells (blkT n0 t0 k0 0 ⟨#[]⟩ false) 62 (0, 0)))) ∧ Aside0 (wr.heap[w.heap.size]? = some (.cells #[.slice A0 l0.length c0, .slice A1 l1.length c1] 25 (0, 0))) ∧ Aside0 (wr.heap[w.heap.size + 1]? = some (.cells blk0 62 (0, 0))) ∧ Aside0 (Below w.heap.size w wr))
    (fun _ _ _ i _ => 2 - (intOf i).toNat)
  case atStart => exact ⟨0, rfl, .inl ⟨rfl, HE0⟩, HD0, HZ0, HB0⟩
  case round =>
    clear HD0 HZ0 HB0 HE0
    obtain ⟨k, rfl, hcase, HD, HZ, HB⟩ := hrel
    rcases hcase with ⟨rfl, HE⟩ | ⟨rfl, HE⟩
    · have dk0 := blk_cell HD.out 0
      have dk1 := blk_cell HD.out 1
      simp only [List.getElem?_toArray, List.getElem?_cons_zero, List.getElem?_cons_succ] at dk0 dk1
      go_wp2_with (first | (go_at_call 18; (with_reducible refine (HRD.out _ s0 0 hR0.out _ HB.out).mono ?_); rintro e w3 ⟨rfl, hb3⟩; have HD3 := Aside0.mk (blk_below HD.out hb3); have HZ3 := Aside0.mk (blk_below HZ.out hb3); have HE3 := Aside0.mk (blk_below HE.out hb3); have HB3 := Aside0.mk (HB.out.trans (hb3.mono HB.out.size)); clear hb3) | (go_at_call 47; (with_reducible refine (twin_read.calls K s0 n0 t0 k0 _ hT0.out).mono ?_); rintro e w4 ⟨rfl, hb4⟩; have HD4 := Aside0.mk (blk_below HD3.out hb4); have HZ4 := Aside0.mk (blk_below HZ3.out hb4); have HE4 := Aside0.mk (blk_below HE3.out hb4); have HB4 := Aside0.mk (HB3.out.trans (hb4.mono HB3.out.size)); clear hb4; have c0 := blk_cell HE4.out 0; have f0 := blk_frozen HE4.out 0; have c1 := blk_cell HE4.out 1; have f1 := blk_frozen HE4.out 1; have c2 := blk_cell HE4.out 2; have f2 := blk_frozen HE4.out 2; simp only [blkT, blk0, List.getElem?_toArray, List.getElem?_cons_zero, List.getElem?_cons_succ] at c0 c1 c2))
      go_roundw
      case measure => simp [intOf]
      case rel =>
      refine ⟨1, by go_num, .inr (⟨rfl, ⟨blk_set (blk_set (blk_set HE4.out 0 _) 1 _) 2 _⟩⟩), ⟨blk_far (blk_far (blk_far HD4.out (by show w.heap.size ≠ w.heap.size + 2; omega) _) (by show w.heap.size ≠ w.heap.size + 2; omega) _) (by show w.heap.size ≠ w.heap.size + 2; omega) _⟩, ⟨blk_far (blk_far (blk_far HZ4.out (by show w.heap.size + 1 ≠ w.heap.size + 2; omega) _) (by show w.heap.size + 1 ≠ w.heap.size + 2; omega) _) (by show w.heap.size + 1 ≠ w.heap.size + 2; omega) _⟩, ⟨((HB4.out.setCell (p := ⟨w.heap.size + 2, 0, none⟩) (by show w.heap.size ≤ w.heap.size + 2; omega) _).setCell (p := ⟨w.heap.size + 2, 1, none⟩) (by show w.heap.size ≤ w.heap.size + 2; omega) _).setCell (p := ⟨w.heap.size + 2, 2, none⟩) (by show w.heap.size ≤ w.heap.size + 2; omega) _⟩⟩
    · have hne : (e1 != 0) = true := by rw [bne_iff_ne]; exact hne0.out
      have dk0 := blk_cell HD.out 0
      have dk1 := blk_cell HD.out 1
      simp only [List.getElem?_toArray, List.getElem?_cons_zero, List.getElem?_cons_succ] at dk0 dk1
      go_wp2_with (first | (go_at_call 18; (with_reducible refine (HRD.out _ s1 e1 hR1.out _ HB.out).mono ?_); rintro e w3 ⟨rfl, hb3⟩; have HD3 := Aside0.mk (blk_below HD.out hb3); have HZ3 := Aside0.mk (blk_below HZ.out hb3); have HE3 := Aside0.mk (blk_below HE.out hb3); have HB3 := Aside0.mk (HB.out.trans (hb3.mono HB.out.size)); clear hb3; have g0 := blk_cell HE3.out 0; have g1 := blk_cell HE3.out 1; have g2 := blk_cell HE3.out 2; have g3 := blk_cell HE3.out 3; have g4 := blk_cell HE3.out 4; have g5 := blk_cell HE3.out 5; simp only [blkT, blk0, List.getElem?_toArray, List.getElem?_cons_zero, List.getElem?_cons_succ] at g0 g1 g2 g3 g4 g5) | ((with_reducible refine gate_store (t := 62) (p := 4) rfl ?_); refine store_event (t := 62) (p := 4) (w1 := w3.setCells (w.heap.size + 1) 0 (blkT n0 t0 k0 0 ⟨#[]⟩ false).toList) rfl rfl rfl ?hr ?_; (case hr => (unfold execOp; simp only [Act.eval, Sem.run_bind, Sem.run_pure, Result.andThen_ok]; show ((Sem.run Try.prog (Instr.storeAt 62 (.pointer (some ⟨w.heap.size + 1, 0, none⟩)) (.agg (blkT n0 t0 k0 0 ⟨#[]⟩ false))) w3).andThen _) = _; rw [(store_twin HZ3.out rfl n0 t0 k0 0 ⟨#[]⟩ false).1]; try rfl)); intro w9 hw9; have HC9 := Aside0.mk (hw9 ▸ (store_twin HZ3.out rfl n0 t0 k0 0 ⟨#[]⟩ false).2 : w9.heap[w.heap.size + 1]? = some (.cells (blkT n0 t0 k0 0 ⟨#[]⟩ false) 62 (0, 0))); have HB9 := Aside0.mk (show Below w.heap.size w w9 by rw [hw9]; exact below_cells HB3.out (by omega) _); clear hw9))
      have d0 := blk_cell HC9.out 0
      have d1 := blk_cell HC9.out 1
      have d2 := blk_cell HC9.out 2
      have d3 := blk_cell HC9.out 3
      have d4 := blk_cell HC9.out 4
      have d5 := blk_cell HC9.out 5
      simp only [blkT, blk0, List.getElem?_toArray, List.getElem?_cons_zero, List.getElem?_cons_succ] at d0 d1 d2 d3 d4 d5
      refine bodyPost_ret (v := .tuple #[.agg (blkT n0 t0 k0 0 ⟨#[]⟩ false), .int .i64 e1]) ?_ rfl ⟨rfl, HB9.out⟩
      simp [results, Try.results28, go_sem, blkT, d0, d1, d2, d3, d4, d5]

set_option maxHeartbeats 16000000 in
set_option maxRecDepth 100000 in
theorem twin_pair_2 (A0 : Option Addr) (c0 : Nat) (l0 : List ByteArray) (A1 : Option Addr) (c1 : Nat) (l1 : List S73) (a : Int) (K : Nat) (s0 : ByteArray) (n0 : Int) (t0 : ByteArray) (k0 : Bool) (s1 : ByteArray) (n1 : Int) (t1 : ByteArray) (k1 : Bool) (hR0 : Aside0 (disk_Read.f l0 l1 (wrap64 a) = some (s0, 0))) (hT0 : Aside0 (twin_read.f K s0 = some (n0, t0, k0))) (hR1 : Aside0 (disk_Read.f l0 l1 (wrap64 (a + 1)) = some (s1, 0))) (hT1 : Aside0 (twin_read.f K s1 = some (n1, t1, k1))) (er : Int) (her : Aside0 (er = if k0 = true ∧ k1 = true ∧ n0 = n1 then 50 else 0)) (w : World)
    (hr0 : Kd.C Kd.string w A0 l0.length l0) (hc0 : l0.length ≤ c0) (hr1 : Kd.C k73 w A1 l1.length l1) (hc1 : l1.length ≤ c1) :
    Calls Try.prog 28 #[.agg #[.slice A0 l0.length c0, .slice A1 l1.length c1], .int .i64 a] w fun e w' => e = .returned (.tuple #[.agg (blkT n0 t0 k0 n1 t1 k1), .int .i64 er]) ∧ Below w.heap.size w w' := by
  have HR0 := Aside0.mk hr0
  have HR1 := Aside0.mk hr1
  have HB0 := Aside0.mk ((((Below.refl w.heap.size w).alloc (Nat.le_refl _) (.cells #[.slice A0 l0.length c0, .slice A1 l1.length c1] 25)).alloc (by simp) (.cells blk0 62)).alloc (by simp; omega) (.cells blk0 62))
  have HD0 := Aside0.mk (blk_alloc (blk_alloc (blk_new w (.cells #[.slice A0 l0.length c0, .slice A1 l1.length c1] 25)) (.cells blk0 62)) (.cells blk0 62))
  have h4 := blk_alloc (blk_new (w.alloc (.cells #[.slice A0 l0.length c0, .slice A1 l1.length c1] 25)) (.cells blk0 62)) (.cells blk0 62)
  have h6 := blk_new ((w.alloc (.cells #[.slice A0 l0.length c0, .slice A1 l1.length c1] 25)).alloc (.cells blk0 62)) (.cells blk0 62)
  rw [World.size_alloc] at h4
  rw [World.size_alloc, World.size_alloc] at h6
  have HZ0 := Aside0.mk h4
  have HE0 := Aside0.mk h6
  have HRD := Aside0.mk (fun (x : Int) (s : ByteArray) (e : Int) (h : disk_Read.f l0 l1 x = some (s, e)) W (hb : Below w.heap.size w W) => disk_Read.calls A0 c0 l0 A1 c1 l1 x s e W (Kd.C_below hr0 hb) hc0 (Kd.C_below hr1 hb) hc1 h)
  clear h4 h6 hr0 hr1
  go_enter Try.func28, Try.ntmps28
  go_wp2
  go_loopw [7, 8, 9, 10] (fun _ _ _ i wr => ∃ k : Nat, i = .int .i64 k ∧ (k = 0 ∧ Aside0 (wr.heap[w.heap.size + 2]? = some (.cells (blk0) 62 (0, 0))) ∨ k = 1 ∧ Aside0 (wr.heap[w.heap.size + 2]? = some (.cells (blkT n0 t0 k0 0 ⟨#[]⟩ false) 62 (0, 0))) ∨ k = 2 ∧ Aside0 (wr.heap[w.heap.size + 2]? = some (.cells (blkT n0 t0 k0 n1 t1 k1) 62 (0, 0)))) ∧ Aside0 (wr.heap[w.heap.size]? = some (.cells #[.slice A0 l0.length c0, .slice A1 l1.length c1] 25 (0, 0))) ∧ Aside0 (wr.heap[w.heap.size + 1]? = some (.cells blk0 62 (0, 0))) ∧ Aside0 (Below w.heap.size w wr))
    (fun _ _ _ i _ => 2 - (intOf i).toNat)
  case atStart => exact ⟨0, rfl, .inl ⟨rfl, HE0⟩, HD0, HZ0, HB0⟩
  case round =>
    clear HD0 HZ0 HB0 HE0
    obtain ⟨k, rfl, hcase, HD, HZ, HB⟩ := hrel
    rcases hcase with ⟨rfl, HE⟩ | ⟨rfl, HE⟩ | ⟨rfl, HE⟩
    · have dk0 := blk_cell HD.out 0
      have dk1 := blk_cell HD.out 1
      simp only [List.getElem?_toArray, List.getElem?_cons_zero, List.getElem?_cons_succ] at dk0 dk1
      go_wp2_with (first | (go_at_call 18; (with_reducible refine (HRD.out _ s0 0 hR0.out _ HB.out).mono ?_); rintro e w3 ⟨rfl, hb3⟩; have HD3 := Aside0.mk (blk_below HD.out hb3); have HZ3 := Aside0.mk (blk_below HZ.out hb3); have HE3 := Aside0.mk (blk_below HE.out hb3); have HB3 := Aside0.mk (HB.out.trans (hb3.mono HB.out.size)); clear hb3) | (go_at_call 47; (with_reducible refine (twin_read.calls K s0 n0 t0 k0 _ hT0.out).mono ?_); rintro e w4 ⟨rfl, hb4⟩; have HD4 := Aside0.mk (blk_below HD3.out hb4); have HZ4 := Aside0.mk (blk_below HZ3.out hb4); have HE4 := Aside0.mk (blk_below HE3.out hb4); have HB4 := Aside0.mk (HB3.out.trans (hb4.mono HB3.out.size)); clear hb4; have c0 := blk_cell HE4.out 0; have f0 := blk_frozen HE4.out 0; have c1 := blk_cell HE4.out 1; have f1 := blk_frozen HE4.out 1; have c2 := blk_cell HE4.out 2; have f2 := blk_frozen HE4.out 2; simp only [blkT, blk0, List.getElem?_toArray, List.getElem?_cons_zero, List.getElem?_cons_succ] at c0 c1 c2))
      go_roundw
      case measure => simp [intOf]
      case rel =>
      refine ⟨1, by go_num, .inr (.inl ⟨rfl, ⟨blk_set (blk_set (blk_set HE4.out 0 _) 1 _) 2 _⟩⟩), ⟨blk_far (blk_far (blk_far HD4.out (by show w.heap.size ≠ w.heap.size + 2; omega) _) (by show w.heap.size ≠ w.heap.size + 2; omega) _) (by show w.heap.size ≠ w.heap.size + 2; omega) _⟩, ⟨blk_far (blk_far (blk_far HZ4.out (by show w.heap.size + 1 ≠ w.heap.size + 2; omega) _) (by show w.heap.size + 1 ≠ w.heap.size + 2; omega) _) (by show w.heap.size + 1 ≠ w.heap.size + 2; omega) _⟩, ⟨((HB4.out.setCell (p := ⟨w.heap.size + 2, 0, none⟩) (by show w.heap.size ≤ w.heap.size + 2; omega) _).setCell (p := ⟨w.heap.size + 2, 1, none⟩) (by show w.heap.size ≤ w.heap.size + 2; omega) _).setCell (p := ⟨w.heap.size + 2, 2, none⟩) (by show w.heap.size ≤ w.heap.size + 2; omega) _⟩⟩
    · have dk0 := blk_cell HD.out 0
      have dk1 := blk_cell HD.out 1
      simp only [List.getElem?_toArray, List.getElem?_cons_zero, List.getElem?_cons_succ] at dk0 dk1
      go_wp2_with (first | (go_at_call 18; (with_reducible refine (HRD.out _ s1 0 hR1.out _ HB.out).mono ?_); rintro e w3 ⟨rfl, hb3⟩; have HD3 := Aside0.mk (blk_below HD.out hb3); have HZ3 := Aside0.mk (blk_below HZ.out hb3); have HE3 := Aside0.mk (blk_below HE.out hb3); have HB3 := Aside0.mk (HB.out.trans (hb3.mono HB.out.size)); clear hb3) | (go_at_call 47; (with_reducible refine (twin_read.calls K s1 n1 t1 k1 _ hT1.out).mono ?_); rintro e w4 ⟨rfl, hb4⟩; have HD4 := Aside0.mk (blk_below HD3.out hb4); have HZ4 := Aside0.mk (blk_below HZ3.out hb4); have HE4 := Aside0.mk (blk_below HE3.out hb4); have HB4 := Aside0.mk (HB3.out.trans (hb4.mono HB3.out.size)); clear hb4; have c0 := blk_cell HE4.out 3; have f0 := blk_frozen HE4.out 3; have c1 := blk_cell HE4.out 4; have f1 := blk_frozen HE4.out 4; have c2 := blk_cell HE4.out 5; have f2 := blk_frozen HE4.out 5; simp only [blkT, blk0, List.getElem?_toArray, List.getElem?_cons_zero, List.getElem?_cons_succ] at c0 c1 c2))
      go_roundw
      case measure => simp [intOf]
      case rel =>
      refine ⟨2, by go_num, .inr (.inr ⟨rfl, ⟨blk_set (blk_set (blk_set HE4.out 3 _) 4 _) 5 _⟩⟩), ⟨blk_far (blk_far (blk_far HD4.out (by show w.heap.size ≠ w.heap.size + 2; omega) _) (by show w.heap.size ≠ w.heap.size + 2; omega) _) (by show w.heap.size ≠ w.heap.size + 2; omega) _⟩, ⟨blk_far (blk_far (blk_far HZ4.out (by show w.heap.size + 1 ≠ w.heap.size + 2; omega) _) (by show w.heap.size + 1 ≠ w.heap.size + 2; omega) _) (by show w.heap.size + 1 ≠ w.heap.size + 2; omega) _⟩, ⟨((HB4.out.setCell (p := ⟨w.heap.size + 2, 3, none⟩) (by show w.heap.size ≤ w.heap.size + 2; omega) _).setCell (p := ⟨w.heap.size + 2, 4, none⟩) (by show w.heap.size ≤ w.heap.size + 2; omega) _).setCell (p := ⟨w.heap.size + 2, 5, none⟩) (by show w.heap.size ≤ w.heap.size + 2; omega) _⟩⟩
    · have g0 := blk_cell HE.out 0
      have g1 := blk_cell HE.out 1
      have g2 := blk_cell HE.out 2
      have g3 := blk_cell HE.out 3
      have g4 := blk_cell HE.out 4
      have g5 := blk_cell HE.out 5
      simp only [blkT, blk0, List.getElem?_toArray, List.getElem?_cons_zero, List.getElem?_cons_succ] at g0 g1 g2 g3 g4 g5
      by_cases hn : n0 = n1
      · have hn2 : (n0 == n1) = true := by rw [beq_iff_eq]; exact hn
        have HN := Aside0.mk hn
        clear hn
        cases k0
        · skip
          go_wp2_with (first | (go_at_call 18; fail) | ((with_reducible refine gate_store (t := 62) (p := 4) rfl ?_); refine store_event (t := 62) (p := 4) (w1 := wr.setCells (w.heap.size + 1) 0 (blkT n0 t0 false n1 t1 k1).toList) rfl rfl rfl ?hr ?_; (case hr => (unfold execOp; simp only [Act.eval, Sem.run_bind, Sem.run_pure, Result.andThen_ok]; show ((Sem.run Try.prog (Instr.storeAt 62 (.pointer (some ⟨w.heap.size + 1, 0, none⟩)) (.agg (blkT n0 t0 false n1 t1 k1))) wr).andThen _) = _; rw [(store_twin HZ.out rfl n0 t0 false n1 t1 k1).1]; try rfl)); intro w9 hw9; have HC9 := Aside0.mk (hw9 ▸ (store_twin HZ.out rfl n0 t0 false n1 t1 k1).2 : w9.heap[w.heap.size + 1]? = some (.cells (blkT n0 t0 false n1 t1 k1) 62 (0, 0))); have HB9 := Aside0.mk (show Below w.heap.size w w9 by rw [hw9]; exact below_cells HB.out (by omega) _); clear hw9))
          have d0 := blk_cell HC9.out 0
          have d1 := blk_cell HC9.out 1
          have d2 := blk_cell HC9.out 2
          have d3 := blk_cell HC9.out 3
          have d4 := blk_cell HC9.out 4
          have d5 := blk_cell HC9.out 5
          simp only [blkT, blk0, List.getElem?_toArray, List.getElem?_cons_zero, List.getElem?_cons_succ] at d0 d1 d2 d3 d4 d5
          refine bodyPost_ret (v := .tuple #[.agg (blkT n0 t0 false n1 t1 k1), .int .i64 0]) ?_ rfl ⟨by rw [show er = 0 from by rw [her.out, if_neg (by simp)]], HB9.out⟩
          simp [results, Try.results28, go_sem, blkT, d0, d1, d2, d3, d4, d5]
        · cases k1
          · skip
            go_wp2_with (first | (go_at_call 18; fail) | ((with_reducible refine gate_store (t := 62) (p := 4) rfl ?_); refine store_event (t := 62) (p := 4) (w1 := wr.setCells (w.heap.size + 1) 0 (blkT n0 t0 true n1 t1 false).toList) rfl rfl rfl ?hr ?_; (case hr => (unfold execOp; simp only [Act.eval, Sem.run_bind, Sem.run_pure, Result.andThen_ok]; show ((Sem.run Try.prog (Instr.storeAt 62 (.pointer (some ⟨w.heap.size + 1, 0, none⟩)) (.agg (blkT n0 t0 true n1 t1 false))) wr).andThen _) = _; rw [(store_twin HZ.out rfl n0 t0 true n1 t1 false).1]; try rfl)); intro w9 hw9; have HC9 := Aside0.mk (hw9 ▸ (store_twin HZ.out rfl n0 t0 true n1 t1 false).2 : w9.heap[w.heap.size + 1]? = some (.cells (blkT n0 t0 true n1 t1 false) 62 (0, 0))); have HB9 := Aside0.mk (show Below w.heap.size w w9 by rw [hw9]; exact below_cells HB.out (by omega) _); clear hw9))
            have d0 := blk_cell HC9.out 0
            have d1 := blk_cell HC9.out 1
            have d2 := blk_cell HC9.out 2
            have d3 := blk_cell HC9.out 3
            have d4 := blk_cell HC9.out 4
            have d5 := blk_cell HC9.out 5
            simp only [blkT, blk0, List.getElem?_toArray, List.getElem?_cons_zero, List.getElem?_cons_succ] at d0 d1 d2 d3 d4 d5
            refine bodyPost_ret (v := .tuple #[.agg (blkT n0 t0 true n1 t1 false), .int .i64 0]) ?_ rfl ⟨by rw [show er = 0 from by rw [her.out, if_neg (by simp)]], HB9.out⟩
            simp [results, Try.results28, go_sem, blkT, d0, d1, d2, d3, d4, d5]
          · skip
            go_wp2_with (first | (go_at_call 18; fail) | ((with_reducible refine gate_store (t := 62) (p := 4) rfl ?_); refine store_event (t := 62) (p := 4) (w1 := wr.setCells (w.heap.size + 1) 0 (blkT n0 t0 true n1 t1 true).toList) rfl rfl rfl ?hr ?_; (case hr => (unfold execOp; simp only [Act.eval, Sem.run_bind, Sem.run_pure, Result.andThen_ok]; show ((Sem.run Try.prog (Instr.storeAt 62 (.pointer (some ⟨w.heap.size + 1, 0, none⟩)) (.agg (blkT n0 t0 true n1 t1 true))) wr).andThen _) = _; rw [(store_twin HZ.out rfl n0 t0 true n1 t1 true).1]; try rfl)); intro w9 hw9; have HC9 := Aside0.mk (hw9 ▸ (store_twin HZ.out rfl n0 t0 true n1 t1 true).2 : w9.heap[w.heap.size + 1]? = some (.cells (blkT n0 t0 true n1 t1 true) 62 (0, 0))); have HB9 := Aside0.mk (show Below w.heap.size w w9 by rw [hw9]; exact below_cells HB.out (by omega) _); clear hw9))
            have d0 := blk_cell HC9.out 0
            have d1 := blk_cell HC9.out 1
            have d2 := blk_cell HC9.out 2
            have d3 := blk_cell HC9.out 3
            have d4 := blk_cell HC9.out 4
            have d5 := blk_cell HC9.out 5
            simp only [blkT, blk0, List.getElem?_toArray, List.getElem?_cons_zero, List.getElem?_cons_succ] at d0 d1 d2 d3 d4 d5
            refine bodyPost_ret (v := .tuple #[.agg (blkT n0 t0 true n1 t1 true), .int .i64 50]) ?_ rfl ⟨by rw [show er = 50 from by rw [her.out, if_pos (by simp [HN.out])]], HB9.out⟩
            simp [results, Try.results28, go_sem, blkT, d0, d1, d2, d3, d4, d5]
      · have hn2 : (n0 == n1) = false := by rw [beq_eq_false_iff_ne]; exact hn
        have HN := Aside0.mk hn
        clear hn
        cases k0
        · skip
          go_wp2_with (first | (go_at_call 18; fail) | ((with_reducible refine gate_store (t := 62) (p := 4) rfl ?_); refine store_event (t := 62) (p := 4) (w1 := wr.setCells (w.heap.size + 1) 0 (blkT n0 t0 false n1 t1 k1).toList) rfl rfl rfl ?hr ?_; (case hr => (unfold execOp; simp only [Act.eval, Sem.run_bind, Sem.run_pure, Result.andThen_ok]; show ((Sem.run Try.prog (Instr.storeAt 62 (.pointer (some ⟨w.heap.size + 1, 0, none⟩)) (.agg (blkT n0 t0 false n1 t1 k1))) wr).andThen _) = _; rw [(store_twin HZ.out rfl n0 t0 false n1 t1 k1).1]; try rfl)); intro w9 hw9; have HC9 := Aside0.mk (hw9 ▸ (store_twin HZ.out rfl n0 t0 false n1 t1 k1).2 : w9.heap[w.heap.size + 1]? = some (.cells (blkT n0 t0 false n1 t1 k1) 62 (0, 0))); have HB9 := Aside0.mk (show Below w.heap.size w w9 by rw [hw9]; exact below_cells HB.out (by omega) _); clear hw9))
          have d0 := blk_cell HC9.out 0
          have d1 := blk_cell HC9.out 1
          have d2 := blk_cell HC9.out 2
          have d3 := blk_cell HC9.out 3
          have d4 := blk_cell HC9.out 4
          have d5 := blk_cell HC9.out 5
          simp only [blkT, blk0, List.getElem?_toArray, List.getElem?_cons_zero, List.getElem?_cons_succ] at d0 d1 d2 d3 d4 d5
          refine bodyPost_ret (v := .tuple #[.agg (blkT n0 t0 false n1 t1 k1), .int .i64 0]) ?_ rfl ⟨by rw [show er = 0 from by rw [her.out, if_neg (by simp)]], HB9.out⟩
          simp [results, Try.results28, go_sem, blkT, d0, d1, d2, d3, d4, d5]
        · cases k1
          · skip
            go_wp2_with (first | (go_at_call 18; fail) | ((with_reducible refine gate_store (t := 62) (p := 4) rfl ?_); refine store_event (t := 62) (p := 4) (w1 := wr.setCells (w.heap.size + 1) 0 (blkT n0 t0 true n1 t1 false).toList) rfl rfl rfl ?hr ?_; (case hr => (unfold execOp; simp only [Act.eval, Sem.run_bind, Sem.run_pure, Result.andThen_ok]; show ((Sem.run Try.prog (Instr.storeAt 62 (.pointer (some ⟨w.heap.size + 1, 0, none⟩)) (.agg (blkT n0 t0 true n1 t1 false))) wr).andThen _) = _; rw [(store_twin HZ.out rfl n0 t0 true n1 t1 false).1]; try rfl)); intro w9 hw9; have HC9 := Aside0.mk (hw9 ▸ (store_twin HZ.out rfl n0 t0 true n1 t1 false).2 : w9.heap[w.heap.size + 1]? = some (.cells (blkT n0 t0 true n1 t1 false) 62 (0, 0))); have HB9 := Aside0.mk (show Below w.heap.size w w9 by rw [hw9]; exact below_cells HB.out (by omega) _); clear hw9))
            have d0 := blk_cell HC9.out 0
            have d1 := blk_cell HC9.out 1
            have d2 := blk_cell HC9.out 2
            have d3 := blk_cell HC9.out 3
            have d4 := blk_cell HC9.out 4
            have d5 := blk_cell HC9.out 5
            simp only [blkT, blk0, List.getElem?_toArray, List.getElem?_cons_zero, List.getElem?_cons_succ] at d0 d1 d2 d3 d4 d5
            refine bodyPost_ret (v := .tuple #[.agg (blkT n0 t0 true n1 t1 false), .int .i64 0]) ?_ rfl ⟨by rw [show er = 0 from by rw [her.out, if_neg (by simp)]], HB9.out⟩
            simp [results, Try.results28, go_sem, blkT, d0, d1, d2, d3, d4, d5]
          · skip
            go_wp2_with (first | (go_at_call 18; fail) | ((with_reducible refine gate_store (t := 62) (p := 4) rfl ?_); refine store_event (t := 62) (p := 4) (w1 := wr.setCells (w.heap.size + 1) 0 (blkT n0 t0 true n1 t1 true).toList) rfl rfl rfl ?hr ?_; (case hr => (unfold execOp; simp only [Act.eval, Sem.run_bind, Sem.run_pure, Result.andThen_ok]; show ((Sem.run Try.prog (Instr.storeAt 62 (.pointer (some ⟨w.heap.size + 1, 0, none⟩)) (.agg (blkT n0 t0 true n1 t1 true))) wr).andThen _) = _; rw [(store_twin HZ.out rfl n0 t0 true n1 t1 true).1]; try rfl)); intro w9 hw9; have HC9 := Aside0.mk (hw9 ▸ (store_twin HZ.out rfl n0 t0 true n1 t1 true).2 : w9.heap[w.heap.size + 1]? = some (.cells (blkT n0 t0 true n1 t1 true) 62 (0, 0))); have HB9 := Aside0.mk (show Below w.heap.size w w9 by rw [hw9]; exact below_cells HB.out (by omega) _); clear hw9))
            have d0 := blk_cell HC9.out 0
            have d1 := blk_cell HC9.out 1
            have d2 := blk_cell HC9.out 2
            have d3 := blk_cell HC9.out 3
            have d4 := blk_cell HC9.out 4
            have d5 := blk_cell HC9.out 5
            simp only [blkT, blk0, List.getElem?_toArray, List.getElem?_cons_zero, List.getElem?_cons_succ] at d0 d1 d2 d3 d4 d5
            refine bodyPost_ret (v := .tuple #[.agg (blkT n0 t0 true n1 t1 true), .int .i64 0]) ?_ rfl ⟨by rw [show er = 0 from by rw [her.out, if_neg (fun h => HN.out h.2.2)]], HB9.out⟩
            simp [results, Try.results28, go_sem, blkT, d0, d1, d2, d3, d4, d5]

theorem twin_pair.calls (k : Nat) (A0 : Option Addr) (c0 : Nat) (l0 : List ByteArray) (A1 : Option Addr) (c1 : Nat) (l1 : List S73) (a : Int) (n0 : Int) (t0 : ByteArray) (k0 : Bool) (n1 : Int) (t1 : ByteArray) (k1 : Bool) (er : Int) (w : World)
    (hr0 : Kd.C Kd.string w A0 l0.length l0) (hc0 : l0.length ≤ c0) (hr1 : Kd.C k73 w A1 l1.length l1) (hc1 : l1.length ≤ c1) (h : twin_pair.f k l0 l1 a = some (n0, t0, k0, n1, t1, k1, er)) :
    Calls Try.prog 28 #[.agg #[.slice A0 l0.length c0, .slice A1 l1.length c1], .int .i64 a] w fun e w' => e = .returned (.tuple #[.agg (blkT n0 t0 k0 n1 t1 k1), .int .i64 er]) ∧ Below w.heap.size w w' := by
  unfold twin_pair.f at h
  obtain ⟨⟨s0, e0⟩, h0, h⟩ := Option.bind_eq_some_iff.1 h
  by_cases z0 : e0 = 0
  · subst z0
    rw [if_pos rfl] at h
    obtain ⟨⟨m0, u0, b0⟩, g0, h⟩ := Option.bind_eq_some_iff.1 h
    obtain ⟨⟨s1, e1⟩, h1, h⟩ := Option.bind_eq_some_iff.1 h
    by_cases z1 : e1 = 0
    · subst z1
      rw [if_pos rfl] at h
      obtain ⟨⟨m1, u1, b1⟩, g1, h⟩ := Option.bind_eq_some_iff.1 h
      simp only [Option.some.injEq, Prod.mk.injEq] at h
      obtain ⟨rfl, rfl, rfl, rfl, rfl, rfl, rfl⟩ := h
      exact twin_pair_2 A0 c0 l0 A1 c1 l1 a k s0 _ _ _ s1 _ _ _ ⟨h0⟩ ⟨g0⟩ ⟨h1⟩ ⟨g1⟩ _ ⟨rfl⟩ w hr0 hc0 hr1 hc1
    · rw [if_neg z1] at h
      simp only [Option.some.injEq, Prod.mk.injEq] at h
      obtain ⟨rfl, rfl, rfl, rfl, rfl, rfl, rfl⟩ := h
      exact twin_pair_1 A0 c0 l0 A1 c1 l1 a k s0 _ _ _ s1 _ ⟨h0⟩ ⟨g0⟩ ⟨h1⟩ ⟨z1⟩ w hr0 hc0 hr1 hc1
  · rw [if_neg z0] at h
    simp only [Option.some.injEq, Prod.mk.injEq] at h
    obtain ⟨rfl, rfl, rfl, rfl, rfl, rfl, rfl⟩ := h
    exact twin_pair_0 A0 c0 l0 A1 c1 l1 a s0 _ ⟨h0⟩ ⟨z0⟩ w hr0 hc0 hr1 hc1
end Go.Proofs.Ytkgcaheddhfpgaa.P
/-
  twin.Get, by hand.
-/
namespace Go.Proofs.Ytkgcaheddhfpgaa.P
open Go.RowKit Go.Proofs.YtkgcaheddhfpgaaW.PrintWords Go.Proofs.YtkgcaheddhfpgaaW.PrintLast

attribute [local go_sem] zero_twin
/-- What twin.Get answers. -/
def twin_GetK.f (k : Nat) (l0 : List ByteArray) (l1 : List S73) (a : Int) : Option (ByteArray × Int × Int) :=
  (twin_pair.f k l0 l1 a).bind fun (n0, t0, k0, n1, t1, k1, er) => if er = 0 then (if newB n0 k0 n1 k1 = true then some (t0, n0, 0) else some (t1, n1, 0)) else some (⟨#[]⟩, 0, er)
set_option maxHeartbeats 8000000 in
set_option maxRecDepth 100000 in
theorem twin_Get_in (k : Nat) (A0 : Option Addr) (c0 : Nat) (l0 : List ByteArray) (A1 : Option Addr) (c1 : Nat) (l1 : List S73) (a : Int) (n0 : Int) (t0 : ByteArray) (k0 : Bool) (n1 : Int) (t1 : ByteArray) (k1 : Bool) (er : Int) (rt : ByteArray) (rn re : Int) (hres : (if er = 0 then (if newB n0 k0 n1 k1 = true then (t0, n0, (0 : Int)) else (t1, n1, 0)) else (⟨#[]⟩, 0, er)) = (rt, rn, re)) (w : World)
    (hr0 : Kd.C Kd.string w A0 l0.length l0) (hc0 : l0.length ≤ c0) (hr1 : Kd.C k73 w A1 l1.length l1) (hc1 : l1.length ≤ c1) (h : twin_pair.f k l0 l1 a = some (n0, t0, k0, n1, t1, k1, er)) :
    Calls Try.prog 12 #[.agg #[.slice A0 l0.length c0, .slice A1 l1.length c1], .int .i64 a] w fun e w' => e = .returned (.tuple #[.string rt, .int .i64 rn, .int .i64 re]) ∧ Below w.heap.size w w' := by
  have HB0 := Aside0.mk ((Below.refl w.heap.size w).alloc (Nat.le_refl _) (.cells #[.slice A0 l0.length c0, .slice A1 l1.length c1] 25))
  have HP := Aside0.mk (fun W (q0 : Kd.C Kd.string W A0 l0.length l0) (q1 : Kd.C k73 W A1 l1.length l1) => twin_pair.calls k A0 c0 l0 A1 c1 l1 a n0 t0 k0 n1 t1 k1 er W q0 hc0 q1 hc1 h)
  have HR0 := Aside0.mk (Kd.C_below hr0 HB0.out)
  have HR1 := Aside0.mk (Kd.C_below hr1 HB0.out)
  clear hr0 hr1 h
  by_cases he : er = 0
  · subst he
    rw [if_pos rfl] at hres
    cases hn : newB n0 k0 n1 k1
    · rw [hn, if_neg (by decide)] at hres
      injection hres with e1 e2
      injection e2 with e2 e3
      subst e1 e2 e3
      have HN := Aside0.mk (fun W => (twin_newer_calls n0 t0 k0 n1 t1 k1 W).mono (fun e w' (h : _ ∧ _) => (⟨by rw [h.1, show newV n0 k0 n1 k1 = 1 by unfold newV; rw [hn]; rfl], h.2⟩ : e = .returned (.int .i64 1) ∧ Below W.heap.size W w')))
      clear hn
      go_enter Try.func12, Try.ntmps12
      go_wp2_with (first | (go_at_call 28; (refine (HP.out _ HR0.out HR1.out).mono ?_); rintro e w3 ⟨rfl, hb⟩; have HB3 := Aside0.mk (HB0.out.trans (hb.mono HB0.out.size)); clear hb) | ((with_reducible refine gate_store (t := 62) (p := 7) rfl ?_); refine store_event (t := 62) (p := 7) (w1 := (w3.alloc (.cells blk0 62)).setCells w3.heap.size 0 (blkT n0 t0 k0 n1 t1 k1).toList) rfl rfl rfl ?hr ?_; (case hr => (unfold execOp; simp only [Act.eval, Sem.run_bind, Sem.run_pure, Result.andThen_ok]; show ((Sem.run Try.prog (Instr.storeAt 62 (.pointer (some ⟨w3.heap.size, 0, none⟩)) (.agg (blkT n0 t0 k0 n1 t1 k1))) (w3.alloc (.cells blk0 62))).andThen _) = _; rw [(store_twin (blk_new w3 (.cells blk0 62)) rfl n0 t0 k0 n1 t1 k1).1]; try rfl)); intro w4 hw; have HC4 := Aside0.mk (hw ▸ (store_twin (blk_new w3 (.cells blk0 62)) rfl n0 t0 k0 n1 t1 k1).2 : w4.heap[w3.heap.size]? = some (.cells (blkT n0 t0 k0 n1 t1 k1) 62 (0, 0))); have HB4 := Aside0.mk (show Below w.heap.size w w4 by rw [hw]; exact below_cells (HB3.out.alloc HB3.out.size _) HB3.out.size _); have c0_ := blk_cell HC4.out 0; have c1_ := blk_cell HC4.out 1; have c2_ := blk_cell HC4.out 2; have c3_ := blk_cell HC4.out 3; have c4_ := blk_cell HC4.out 4; have c5_ := blk_cell HC4.out 5; simp only [blkT, List.getElem?_toArray, List.getElem?_cons_zero, List.getElem?_cons_succ] at c0_ c1_ c2_ c3_ c4_ c5_; clear hw) | (go_at_call 29; (refine (HN.out _).mono ?_); rintro e w5 ⟨rfl, hb⟩; have HB5 := Aside0.mk (HB4.out.trans (hb.mono HB4.out.size)); have HC5 := Aside0.mk (blk_below HC4.out hb); have d0 := blk_cell HC5.out 0; have d1 := blk_cell HC5.out 1; have d2 := blk_cell HC5.out 2; have d3 := blk_cell HC5.out 3; have d4 := blk_cell HC5.out 4; have d5 := blk_cell HC5.out 5; simp only [blkT, List.getElem?_toArray, List.getElem?_cons_zero, List.getElem?_cons_succ] at d0 d1 d2 d3 d4 d5; clear hb))
      refine start_ (n := 7) (S := fun w' => w'.cell? ⟨w5.heap.size, 0, none⟩ = some (.int .i64 n1) ∧ w'.cell? ⟨w5.heap.size, 1, none⟩ = some (.string t1)) (ds := []) #[false, false, false, false, false, false, false] (by kernel_rfl) rfl rfl ⟨((blk_cell (blk_drew (blk_new w5 (.cells #[.int .i64 n1, .string t1, .bool k1] 61))) 0).trans rfl), ((blk_cell (blk_drew (blk_new w5 (.cells #[.int .i64 n1, .string t1, .bool k1] 61))) 1).trans rfl)⟩ (fun hHeld => ?_)
      refine pure_ (i := 0) (N := some 23) (v := ?_) (a' := ?_) #[true, false, false, false, false, false, false] rfl rfl (by kernel_rfl) (fun _ _ _ h => h) (Or.inl ⟨by rfl, ?_⟩) ?_ ?_
      rotate_left
      · intro w'
        go_simp
        with_reducible rfl
      rotate_left
      · simp only [Act.put, List.setIfInBounds_toArray, List.set_cons_zero, List.set_cons_succ, i64_w, i32_w]
        rfl
      refine pure_ (i := 2) (N := some 25) (v := ?_) (a' := ?_) #[true, false, true, false, false, false, false] rfl rfl (by kernel_rfl) (fun _ _ _ h => h) (Or.inl ⟨by rfl, ?_⟩) ?_ ?_
      rotate_left
      · intro w'
        go_simp
        with_reducible rfl
      rotate_left
      · simp only [Act.put, List.setIfInBounds_toArray, List.set_cons_zero, List.set_cons_succ, i64_w, i32_w]
        rfl
      refine take_ (i := 1) (N := some 24) (v := ?_) (a' := ?_) #[true, true, true, false, false, false, false] rfl rfl (by kernel_rfl) (fun _ _ _ h => h) (Or.inl ⟨by rfl, ?_⟩) hHeld ?_ ?_
      rotate_left
      · rintro w' ⟨s0, s1⟩
        go_simp
        with_reducible rfl
      rotate_left
      · simp only [Act.put, List.setIfInBounds_toArray, List.set_cons_zero, List.set_cons_succ, i64_w, i32_w]
        rfl
      refine pure_ (i := 4) (N := some 4) (v := ?_) (a' := ?_) #[true, true, true, false, true, false, false] rfl rfl (by kernel_rfl) (fun _ _ _ h => h) (Or.inl ⟨by rfl, ?_⟩) ?_ ?_
      rotate_left
      · intro w'
        go_simp
        with_reducible rfl
      rotate_left
      · simp only [Act.put, List.setIfInBounds_toArray, List.set_cons_zero, List.set_cons_succ, i64_w, i32_w]
        rfl
      refine take_ (i := 3) (N := some 26) (v := ?_) (a' := ?_) #[true, true, true, true, true, false, false] rfl rfl (by kernel_rfl) (fun _ _ _ h => h) (Or.inl ⟨by rfl, ?_⟩) hHeld ?_ ?_
      rotate_left
      · rintro w' ⟨s0, s1⟩
        go_simp
        with_reducible rfl
      rotate_left
      · simp only [Act.put, List.setIfInBounds_toArray, List.set_cons_zero, List.set_cons_succ, i64_w, i32_w]
        rfl
      refine pure_ (i := 5) (N := some 5) (v := ?_) (a' := ?_) #[true, true, true, true, true, true, false] rfl rfl (by kernel_rfl) (fun _ _ _ h => h) (Or.inl ⟨by rfl, ?_⟩) ?_ ?_
      rotate_left
      · intro w'
        go_simp
        with_reducible rfl
      rotate_left
      · simp only [Act.put, List.setIfInBounds_toArray, List.set_cons_zero, List.set_cons_succ, i64_w, i32_w]
        rfl
      refine pure_ (i := 6) (N := some 6) (v := ?_) (a' := ?_) #[true, true, true, true, true, true, true] rfl rfl (by kernel_rfl) (fun _ _ _ h => h) (Or.inl ⟨by rfl, ?_⟩) ?_ ?_
      rotate_left
      · intro w'
        go_simp
        with_reducible rfl
      rotate_left
      · simp only [Act.put, List.setIfInBounds_toArray, List.set_cons_zero, List.set_cons_succ, i64_w, i32_w]
        rfl
      refine done_ (by kernel_rfl) ?_
      go_wp2
      go_ret3
      exact ⟨rfl, below_drew1 (HB5.out.alloc HB5.out.size _)⟩
    · rw [hn, if_pos rfl] at hres
      injection hres with e1 e2
      injection e2 with e2 e3
      subst e1 e2 e3
      have HN := Aside0.mk (fun W => (twin_newer_calls n0 t0 k0 n1 t1 k1 W).mono (fun e w' (h : _ ∧ _) => (⟨by rw [h.1, show newV n0 k0 n1 k1 = 0 by unfold newV; rw [hn]; rfl], h.2⟩ : e = .returned (.int .i64 0) ∧ Below W.heap.size W w')))
      clear hn
      go_enter Try.func12, Try.ntmps12
      go_wp2_with (first | (go_at_call 28; (refine (HP.out _ HR0.out HR1.out).mono ?_); rintro e w3 ⟨rfl, hb⟩; have HB3 := Aside0.mk (HB0.out.trans (hb.mono HB0.out.size)); clear hb) | ((with_reducible refine gate_store (t := 62) (p := 7) rfl ?_); refine store_event (t := 62) (p := 7) (w1 := (w3.alloc (.cells blk0 62)).setCells w3.heap.size 0 (blkT n0 t0 k0 n1 t1 k1).toList) rfl rfl rfl ?hr ?_; (case hr => (unfold execOp; simp only [Act.eval, Sem.run_bind, Sem.run_pure, Result.andThen_ok]; show ((Sem.run Try.prog (Instr.storeAt 62 (.pointer (some ⟨w3.heap.size, 0, none⟩)) (.agg (blkT n0 t0 k0 n1 t1 k1))) (w3.alloc (.cells blk0 62))).andThen _) = _; rw [(store_twin (blk_new w3 (.cells blk0 62)) rfl n0 t0 k0 n1 t1 k1).1]; try rfl)); intro w4 hw; have HC4 := Aside0.mk (hw ▸ (store_twin (blk_new w3 (.cells blk0 62)) rfl n0 t0 k0 n1 t1 k1).2 : w4.heap[w3.heap.size]? = some (.cells (blkT n0 t0 k0 n1 t1 k1) 62 (0, 0))); have HB4 := Aside0.mk (show Below w.heap.size w w4 by rw [hw]; exact below_cells (HB3.out.alloc HB3.out.size _) HB3.out.size _); have c0_ := blk_cell HC4.out 0; have c1_ := blk_cell HC4.out 1; have c2_ := blk_cell HC4.out 2; have c3_ := blk_cell HC4.out 3; have c4_ := blk_cell HC4.out 4; have c5_ := blk_cell HC4.out 5; simp only [blkT, List.getElem?_toArray, List.getElem?_cons_zero, List.getElem?_cons_succ] at c0_ c1_ c2_ c3_ c4_ c5_; clear hw) | (go_at_call 29; (refine (HN.out _).mono ?_); rintro e w5 ⟨rfl, hb⟩; have HB5 := Aside0.mk (HB4.out.trans (hb.mono HB4.out.size)); have HC5 := Aside0.mk (blk_below HC4.out hb); have d0 := blk_cell HC5.out 0; have d1 := blk_cell HC5.out 1; have d2 := blk_cell HC5.out 2; have d3 := blk_cell HC5.out 3; have d4 := blk_cell HC5.out 4; have d5 := blk_cell HC5.out 5; simp only [blkT, List.getElem?_toArray, List.getElem?_cons_zero, List.getElem?_cons_succ] at d0 d1 d2 d3 d4 d5; clear hb))
      refine start_ (n := 7) (S := fun w' => w'.cell? ⟨w5.heap.size, 0, none⟩ = some (.int .i64 n0) ∧ w'.cell? ⟨w5.heap.size, 1, none⟩ = some (.string t0)) (ds := []) #[false, false, false, false, false, false, false] (by kernel_rfl) rfl rfl ⟨((blk_cell (blk_drew (blk_new w5 (.cells #[.int .i64 n0, .string t0, .bool k0] 61))) 0).trans rfl), ((blk_cell (blk_drew (blk_new w5 (.cells #[.int .i64 n0, .string t0, .bool k0] 61))) 1).trans rfl)⟩ (fun hHeld => ?_)
      refine pure_ (i := 0) (N := some 23) (v := ?_) (a' := ?_) #[true, false, false, false, false, false, false] rfl rfl (by kernel_rfl) (fun _ _ _ h => h) (Or.inl ⟨by rfl, ?_⟩) ?_ ?_
      rotate_left
      · intro w'
        go_simp
        with_reducible rfl
      rotate_left
      · simp only [Act.put, List.setIfInBounds_toArray, List.set_cons_zero, List.set_cons_succ, i64_w, i32_w]
        rfl
      refine pure_ (i := 2) (N := some 25) (v := ?_) (a' := ?_) #[true, false, true, false, false, false, false] rfl rfl (by kernel_rfl) (fun _ _ _ h => h) (Or.inl ⟨by rfl, ?_⟩) ?_ ?_
      rotate_left
      · intro w'
        go_simp
        with_reducible rfl
      rotate_left
      · simp only [Act.put, List.setIfInBounds_toArray, List.set_cons_zero, List.set_cons_succ, i64_w, i32_w]
        rfl
      refine take_ (i := 1) (N := some 24) (v := ?_) (a' := ?_) #[true, true, true, false, false, false, false] rfl rfl (by kernel_rfl) (fun _ _ _ h => h) (Or.inl ⟨by rfl, ?_⟩) hHeld ?_ ?_
      rotate_left
      · rintro w' ⟨s0, s1⟩
        go_simp
        with_reducible rfl
      rotate_left
      · simp only [Act.put, List.setIfInBounds_toArray, List.set_cons_zero, List.set_cons_succ, i64_w, i32_w]
        rfl
      refine pure_ (i := 4) (N := some 4) (v := ?_) (a' := ?_) #[true, true, true, false, true, false, false] rfl rfl (by kernel_rfl) (fun _ _ _ h => h) (Or.inl ⟨by rfl, ?_⟩) ?_ ?_
      rotate_left
      · intro w'
        go_simp
        with_reducible rfl
      rotate_left
      · simp only [Act.put, List.setIfInBounds_toArray, List.set_cons_zero, List.set_cons_succ, i64_w, i32_w]
        rfl
      refine take_ (i := 3) (N := some 26) (v := ?_) (a' := ?_) #[true, true, true, true, true, false, false] rfl rfl (by kernel_rfl) (fun _ _ _ h => h) (Or.inl ⟨by rfl, ?_⟩) hHeld ?_ ?_
      rotate_left
      · rintro w' ⟨s0, s1⟩
        go_simp
        with_reducible rfl
      rotate_left
      · simp only [Act.put, List.setIfInBounds_toArray, List.set_cons_zero, List.set_cons_succ, i64_w, i32_w]
        rfl
      refine pure_ (i := 5) (N := some 5) (v := ?_) (a' := ?_) #[true, true, true, true, true, true, false] rfl rfl (by kernel_rfl) (fun _ _ _ h => h) (Or.inl ⟨by rfl, ?_⟩) ?_ ?_
      rotate_left
      · intro w'
        go_simp
        with_reducible rfl
      rotate_left
      · simp only [Act.put, List.setIfInBounds_toArray, List.set_cons_zero, List.set_cons_succ, i64_w, i32_w]
        rfl
      refine pure_ (i := 6) (N := some 6) (v := ?_) (a' := ?_) #[true, true, true, true, true, true, true] rfl rfl (by kernel_rfl) (fun _ _ _ h => h) (Or.inl ⟨by rfl, ?_⟩) ?_ ?_
      rotate_left
      · intro w'
        go_simp
        with_reducible rfl
      rotate_left
      · simp only [Act.put, List.setIfInBounds_toArray, List.set_cons_zero, List.set_cons_succ, i64_w, i32_w]
        rfl
      refine done_ (by kernel_rfl) ?_
      go_wp2
      go_ret3
      exact ⟨rfl, below_drew1 (HB5.out.alloc HB5.out.size _)⟩
  · rw [if_neg he] at hres
    injection hres with e1 e2
    injection e2 with e2 e3
    subst e1 e2 e3
    have hne : (er != 0) = true := by rw [bne_iff_ne]; exact he
    clear he
    go_enter Try.func12, Try.ntmps12
    go_wp2_with (first | (go_at_call 28; (refine (HP.out _ HR0.out HR1.out).mono ?_); rintro e w3 ⟨rfl, hb⟩; have HB3 := Aside0.mk (HB0.out.trans (hb.mono HB0.out.size)); clear hb) | ((with_reducible refine gate_store (t := 62) (p := 7) rfl ?_); refine store_event (t := 62) (p := 7) (w1 := (w3.alloc (.cells blk0 62)).setCells w3.heap.size 0 (blkT n0 t0 k0 n1 t1 k1).toList) rfl rfl rfl ?hr ?_; (case hr => (unfold execOp; simp only [Act.eval, Sem.run_bind, Sem.run_pure, Result.andThen_ok]; show ((Sem.run Try.prog (Instr.storeAt 62 (.pointer (some ⟨w3.heap.size, 0, none⟩)) (.agg (blkT n0 t0 k0 n1 t1 k1))) (w3.alloc (.cells blk0 62))).andThen _) = _; rw [(store_twin (blk_new w3 (.cells blk0 62)) rfl n0 t0 k0 n1 t1 k1).1]; try rfl)); intro w4 hw; have HC4 := Aside0.mk (hw ▸ (store_twin (blk_new w3 (.cells blk0 62)) rfl n0 t0 k0 n1 t1 k1).2 : w4.heap[w3.heap.size]? = some (.cells (blkT n0 t0 k0 n1 t1 k1) 62 (0, 0))); have HB4 := Aside0.mk (show Below w.heap.size w w4 by rw [hw]; exact below_cells (HB3.out.alloc HB3.out.size _) HB3.out.size _); clear hw))
    go_ret3
    exact ⟨rfl, HB4.out⟩
theorem twin_GetK.calls (k : Nat) (A0_0 : Option Addr) (c0_0 : Nat) (l0_0 : List ByteArray) (A0_1 : Option Addr) (c0_1 : Nat) (l0_1 : List S73) (a1 : Int) (r1 : ByteArray) (r2 : Int) (r3 : Int) (w : World) (hr0_0 : Kd.C Kd.string w A0_0 l0_0.length l0_0) (hc0_0 : l0_0.length ≤ c0_0) (hr0_1 : Kd.C k73 w A0_1 l0_1.length l0_1) (hc0_1 : l0_1.length ≤ c0_1) (h : twin_GetK.f k l0_0 l0_1 a1 = some (r1, r2, r3)) :
    Calls Try.prog 12 #[.agg #[.slice A0_0 l0_0.length c0_0, .slice A0_1 l0_1.length c0_1], .int .i64 a1] w fun e w' => e = .returned (.tuple #[.string r1, .int .i64 r2, .int .i64 r3]) ∧ Below w.heap.size w w' := by
  unfold twin_GetK.f at h
  obtain ⟨⟨n0, t0, k0, n1, t1, k1, er⟩, hp, h⟩ := Option.bind_eq_some_iff.1 h
  refine twin_Get_in k A0_0 c0_0 l0_0 A0_1 c0_1 l0_1 a1 n0 t0 k0 n1 t1 k1 er r1 r2 r3 ?_ w hr0_0 hc0_0 hr0_1 hc0_1 hp
  simp only at h
  by_cases he : er = 0
  · rw [if_pos he] at h ⊢
    by_cases hn : newB n0 k0 n1 k1 = true
    · rw [if_pos hn] at h ⊢
      exact Option.some.inj h
    · rw [if_neg hn] at h ⊢
      exact Option.some.inj h
  · rw [if_neg he] at h ⊢
    exact Option.some.inj h
end Go.Proofs.Ytkgcaheddhfpgaa.P
/-
  What twin.Get tells, plainly.
-/
namespace Go.Proofs.Ytkgcaheddhfpgaa.P
open Go.RowKit Go.Proofs Go.Proofs.CodecPlain Go.Proofs.YtkgcaheddhfpgaaW.PrintWords Go.Proofs.YtkgcaheddhfpgaaW.PrintLast Go.Proofs.Plain

/-- What a block says: a number, a text; whether it is a copy. -/
def verV (s : ByteArray) : Int × ByteArray × Bool := if (getFrame s).2.2 = 0 ∧ (getFrame s).2.1 = ⟨#[]⟩ then getNum (getFrame s).1 else (0, ⟨#[]⟩, false)
theorem ver_ev (s : ByteArray) : Ev (fun k => twin_read.f k s) (verV s) := by
  refine Ev.bind (get_ev s) ?_
  by_cases h1 : (getFrame s).2.2 = 0
  · by_cases h2 : (getFrame s).2.1 = ⟨#[]⟩
    · have hv : verV s = getNum (getFrame s).1 := if_pos ⟨h1, h2⟩
      rw [hv]
      refine Ev.congr (f := fun _ => some (getNum (getFrame s).1)) (fun k => ?_) (Ev.now _)
      rw [if_pos h1, if_pos (by rw [h2, ByteArray.toList_eq])]
      rfl
    · have hv : verV s = (0, ⟨#[]⟩, false) := if_neg (fun h => h2 h.2)
      rw [hv]
      refine Ev.congr (f := fun _ => some (0, ⟨#[]⟩, false)) (fun k => ?_) (Ev.now _)
      rw [if_pos h1, if_neg (by
        intro h
        apply h2
        rw [ByteArray.toList_eq] at h
        exact ba_ext h)]
  · have hv : verV s = (0, ⟨#[]⟩, false) := if_neg (fun h => h1 h.1)
    rw [hv]
    exact Ev.congr (f := fun _ => some (0, ⟨#[]⟩, false)) (fun k => by rw [if_neg h1]) (Ev.now _)
/-- What both blocks of a twin say, and the error. -/
def pairV (l0 : List ByteArray) (l1 : List S73) (a : Int) : Int × ByteArray × Bool × Int × ByteArray × Bool × Int :=
  if (readV l0 l1 (wrap64 a)).2 = 0 then
    (if (readV l0 l1 (wrap64 (a + 1))).2 = 0 then
      ((verV (readV l0 l1 (wrap64 a)).1).1, (verV (readV l0 l1 (wrap64 a)).1).2.1, (verV (readV l0 l1 (wrap64 a)).1).2.2, (verV (readV l0 l1 (wrap64 (a + 1))).1).1, (verV (readV l0 l1 (wrap64 (a + 1))).1).2.1, (verV (readV l0 l1 (wrap64 (a + 1))).1).2.2,
        if (verV (readV l0 l1 (wrap64 a)).1).2.2 = true ∧ (verV (readV l0 l1 (wrap64 (a + 1))).1).2.2 = true ∧ (verV (readV l0 l1 (wrap64 a)).1).1 = (verV (readV l0 l1 (wrap64 (a + 1))).1).1 then 50 else 0)
    else ((verV (readV l0 l1 (wrap64 a)).1).1, (verV (readV l0 l1 (wrap64 a)).1).2.1, (verV (readV l0 l1 (wrap64 a)).1).2.2, 0, ⟨#[]⟩, false, (readV l0 l1 (wrap64 (a + 1))).2))
  else (0, ⟨#[]⟩, false, 0, ⟨#[]⟩, false, (readV l0 l1 (wrap64 a)).2)
theorem pair_ev (l0 : List ByteArray) (l1 : List S73) (a : Int) : Ev (fun k => twin_pair.f k l0 l1 a) (pairV l0 l1 a) := by
  unfold twin_pair.f pairV
  simp only [read_f, Option.bind_some]
  by_cases h1 : (readV l0 l1 (wrap64 a)).2 = 0
  · simp only [if_pos h1]
    refine Ev.bind (ver_ev _) ?_
    by_cases h2 : (readV l0 l1 (wrap64 (a + 1))).2 = 0
    · simp only [if_pos h2]
      exact Ev.bind (ver_ev _) (Ev.now _)
    · simp only [if_neg h2]
      exact Ev.now _
  · simp only [if_neg h1]
    exact Ev.now _
/-- What twin.Get tells. -/
def getT (l0 : List ByteArray) (l1 : List S73) (a : Int) : ByteArray × Int × Int :=
  match pairV l0 l1 a with
  | (n0, t0, k0, n1, t1, k1, er) => if er = 0 then (if newB n0 k0 n1 k1 = true then (t0, n0, 0) else (t1, n1, 0)) else (⟨#[]⟩, 0, er)
end Go.Proofs.Ytkgcaheddhfpgaa.P
-- Written by a program of this session (xprint.py) over the kit's print.py.
namespace Go.Proofs.Ytkgcaheddhfpgaa.P
open Go.RowKit Go.Proofs.YtkgcaheddhfpgaaW.PrintWords Go.Proofs.YtkgcaheddhfpgaaW.PrintLast Go.Proofs.YtkgcaheddhfpgaaW.PrintMore
attribute [local go_sem] max2_int min2_int max_two min_two max_three min_three max_four min_four   -- for this text's walks alone
set_option linter.unusedVariables false
set_option linter.unusedSimpArgs false

/-! ### slices_Index_int_int: function 70 -/
def slices_Index_int_int.l0 : Nat → List Int → Int → Int → Int → Option (Int)
  | 0, _, _, _, _ => none
  | k + 1, x0, x1, x7, x8 => if x8 < x7 then (if 0 ≤ x8 then (if x8 < (x0.length : Int) then (if x1 = (rd x0 x8) then (some x8) else (slices_Index_int_int.l0 k x0 x1 x7 (wrap64 (x8 + 1)))) else (none)) else (none)) else (some (-1))
def slices_Index_int_int.f (k : Nat) (l0 : List Int) (a1 : Int) : Option (Int) := slices_Index_int_int.l0 k l0 a1 (l0.length : Int) 0
set_option maxHeartbeats 8000000 in
set_option maxRecDepth 100000 in
theorem slices_Index_int_int.calls (k : Nat) (A0 : Option Addr) (c0 : Nat) (l0 : List Int) (a1 : Int) (r : Int) (w : World) (hr0 : Kd.C (Kd.int .i64) w A0 l0.length l0) (hc0 : l0.length ≤ c0) (h : slices_Index_int_int.f k l0 a1 = some r) :
    Calls Try.prog 70 #[.slice A0 l0.length c0, .int .i64 a1] w fun e w' => e = .returned (.int .i64 r) ∧ Drawn0 w w' := by
  have HR0 := Aside0.mk hr0
  have HC0 := Aside0.mk hc0
  clear hr0 hc0
  have H : (slices_Index_int_int.l0 k l0 a1 (l0.length : Int) 0) = some r := h
  clear h
  have H' := Aside0.mk H
  clear H
  go_enter Try.func70, Try.ntmps70
  go_wp2
  go_loopg [8] k (fun kq v8 w' => ∃ (x8_1 : Int), v8 = .int .i64 x8_1 ∧ Aside0 (slices_Index_int_int.l0 kq l0 a1 (l0.length : Int) x8_1 = some r) ∧ Aside0 (kq ≤ k) ∧ Drawn0 w w')
  case atStart => exact ⟨(0), (by first | rfl | (simp; done) | (simp [*]; done)), H', ⟨Nat.le_refl _⟩, by repeat (first | exact Drawn0.refl _ | apply Drawn0.step)⟩
  case round =>
    clear H'
    try clear p2
    obtain ⟨x8_1, rfl, HA, HK1, ⟨m1, rfl⟩⟩ := hrel
    cases gk with
    | zero => exact absurd HA.out (by simp [slices_Index_int_int.l0])
    | succ k1 =>
      have H := HA.out
      clear HA
      simp only [slices_Index_int_int.l0] at H
      by_cases c3 : x8_1 < (l0.length : Int)
      · rw [if_pos c3] at H
        have c3b0 : decide (x8_1 < (l0.length : Int)) = true := decide_eq_true c3
        clear c3
        by_cases c4 : 0 ≤ x8_1
        · rw [if_pos c4] at H
          have c4b0 : decide (0 ≤ x8_1) = true := decide_eq_true c4
          clear c4
          by_cases c5 : x8_1 < (l0.length : Int)
          · rw [if_pos c5] at H
            have c5b0 : decide (x8_1 < (l0.length : Int)) = true := decide_eq_true c5
            clear c5
            by_cases c6 : a1 = (rd l0 x8_1)
            · rw [if_pos c6] at H
              have c6b0 : (a1 == (rd l0 x8_1)) = true := beq_iff_eq.mpr c6
              have c6b1 : (a1 != (rd l0 x8_1)) = false := bne_eq_false_iff_eq.mpr c6
              clear c6
              obtain rfl := Option.some.inj H
              have p283 : 0 ≤ (x8_1 : Int) := of_decide_eq_true (by first | (with_reducible assumption) | assumption)
              have q283 : x8_1 < (l0.length : Int) := of_decide_eq_true (by first | (with_reducible assumption) | assumption)
              obtain ⟨ad283, e283, hx283_0⟩ := Kd.at_int HR0.out x8_1 p283 q283
              cases e283
              replace p283 := eq_true p283
              replace q283 := eq_true q283
              go_wp2
              go_ret
              exact ⟨by first | rfl | (simp; done) | (simp [*]; done), by repeat (first | exact Drawn0.refl _ | apply Drawn0.step)⟩
            · rw [if_neg c6] at H
              have c6b0 : (a1 == (rd l0 x8_1)) = false := beq_eq_false_iff_ne.mpr c6
              have c6b1 : (a1 != (rd l0 x8_1)) = true := bne_iff_ne.mpr c6
              have H' := Aside0.mk H
              clear H
              have p283 : 0 ≤ (x8_1 : Int) := of_decide_eq_true (by first | (with_reducible assumption) | assumption)
              have q283 : x8_1 < (l0.length : Int) := of_decide_eq_true (by first | (with_reducible assumption) | assumption)
              obtain ⟨ad283, e283, hx283_0⟩ := Kd.at_int HR0.out x8_1 p283 q283
              cases e283
              replace p283 := eq_true p283
              replace q283 := eq_true q283
              go_wp2
              go_roundg k1
              case measure => have := HK1.out; omega
              case rel => exact ⟨(wrap64 (x8_1 + 1)), (by first | rfl | (simp; done) | (simp [*]; done)), H', ⟨by have := HK1.out; omega⟩, by repeat (first | exact Drawn0.refl _ | apply Drawn0.step)⟩
          · rw [if_neg c5] at H
            exact absurd H (by simp)
        · rw [if_neg c4] at H
          exact absurd H (by simp)
      · rw [if_neg c3] at H
        have c3b0 : decide (x8_1 < (l0.length : Int)) = false := decide_eq_false c3
        clear c3
        obtain rfl := Option.some.inj H
        go_wp2
        go_ret
        exact ⟨by first | rfl | (simp; done) | (simp [*]; done), by repeat (first | exact Drawn0.refl _ | apply Drawn0.step)⟩

end Go.Proofs.Ytkgcaheddhfpgaa.P
