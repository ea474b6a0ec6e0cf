/-
  disk.Write, by hand. For every disk, number and text.
-/
import Derived.Test.YtoibofhmlokglaaHdiskCheck
import Derived.Test.YtoibofhmlokglaaHcopyStr
import Derived.Test.YtoibofhmlokglaaHcloneStr
import Derived.Test.YtoibofhmlokglaaHcloneWrite
import Derived.Test.YtoibofhmlokglaaFdiskopen
namespace Go.Proofs.Ytoibofhmlokglaa.P
open Go.RowKit Go.Shelf Go.Proofs.YtoibofhmlokglaaW.PrintWords Go.Proofs.YtoibofhmlokglaaW.PrintLast Go.Proofs.YtoibofhmlokglaaW.PrintMore Go.Proofs.Plain

/-- What disk.Write answers. -/
def writeV (l0 : List ByteArray) (l1 : List S40) (at_ : Int) (s : ByteArray) : List ByteArray × List S40 × Int :=
  if checkB l0 l1 = false then ([], [], 1) else if at_ < 0 ∨ at_ ≥ (l0.length : Int) then ([], [], 40) else if longS s = true then ([], [], 1) else if l1.length = 100 then ([], [], 41) else (l0, l1 ++ [⟨at_, s⟩], 0)
def disk_Write.f (l0_0 : List ByteArray) (l0_1 : List S40) (a1 : Int) (a2 : ByteArray) : Option (List ByteArray × List S40 × Int) := some (writeV l0_0 l0_1 a1 a2)

theorem open_f (l0 : List ByteArray) (l1 : List S40) (at_ : Int) : disk_open.f l0 l1 at_ = some (if checkB l0 l1 = false then 1 else if at_ < 0 ∨ at_ ≥ (l0.length : Int) then 40 else 0) := by
  unfold disk_open.f disk_Check.f
  simp only [Option.bind_some]
  cases checkB l0 l1
  · rfl
  · by_cases h1 : at_ < 0
    · simp [h1]
    · by_cases h2 : at_ ≥ (l0.length : Int)
      · simp [h1, h2]
      · simp [h1, h2]

theorem disk_short_new (w : World) (s : ByteArray) :
    Calls Try.prog 42 #[.slice (some ⟨w.heap.size, 0, none⟩) 1 1] (w.alloc (.cells #[.string s] 9)) fun e w' => e = .returned (.bool (!(longS s))) ∧ Below w.heap.size w w' := by
  have h := disk_short_calls _ 1 [s] _ (one_str w s 9)
  refine h.mono ?_
  rintro e w' ⟨rfl, hb⟩
  exact ⟨by simp, ((Below.refl _ _).alloc (Nat.le_refl _) _).trans (hb.mono (by simp))⟩

theorem row_block {w : World} {base : Nat} {e : TypeId} {size n c : Nat} {A : Option Addr} {xs : List Value} (h : w.ownsRow base e size (.slice A n c) n xs) (hn : 0 < n) : ∃ go cells, A = some ⟨go, 0, none⟩ ∧ w.heap[go]? = some (.cells cells e (0, 0)) := by
  rcases h.2 with ⟨he, h0⟩ | ⟨g', cap, cur, he, _, hg, _⟩
  · omega
  · injection he with ha _ _; exact ⟨g', cur, ha, hg⟩

section
variable (A0 : Option Addr) (c0 : Nat) (l0 : List ByteArray) (A1 : Option Addr) (c1 : Nat) (l1 : List S40) (at_ : Int) (s : ByteArray) (w : World)
  (hr0 : Kd.C Kd.string w A0 l0.length l0) (hc0 : l0.length ≤ c0) (hr1 : Kd.C k40 w A1 l1.length l1) (hc1 : l1.length ≤ c1)
include hr0 hc0 hr1 hc1

set_option maxHeartbeats 8000000 in
set_option maxRecDepth 100000 in
theorem disk_Write_yes (hck : checkB l0 l1 = true) (ha : ¬ (at_ < 0 ∨ at_ ≥ (l0.length : Int))) (hs : longS s = false) (hl : ¬ l1.length = 100) :
    Calls Try.prog 13 #[.agg #[.slice A0 l0.length c0, .slice A1 l1.length c1], .int .i64 at_, .string s] w fun e w' => ∃ v0_ v1_ : Value, e = .returned (.tuple #[.agg #[v0_, v1_], .int .i64 0]) ∧ Kd.R Kd.string 9 w' w.heap.size (fun _ => True) v0_ l0 ∧ Kd.R k40 40 w' w.heap.size (fun _ => True) v1_ (l1 ++ [⟨at_, s⟩]) ∧ Below w.heap.size w w' := by
  have hk1 : 1 ≤ l0.length ∧ l0.length ≤ 200 ∧ l1.length ≤ 100 := by
    unfold checkB at hck
    simp only [Bool.and_eq_true, decide_eq_true_eq] at hck
    exact ⟨hck.1.1.1.1, hck.1.1.1.2, hck.1.1.2⟩
  obtain ⟨k1, k2, k3⟩ := hk1
  have hop := open_f l0 l1 at_
  rw [if_neg (by rw [hck]; decide), if_neg ha] at hop
  have HR0 := Aside0.mk hr0
  have HR1 := Aside0.mk hr1
  obtain ⟨D, hD⟩ : ∃ D, D = Obj.cells #[.slice A0 l0.length c0, .slice A1 l1.length c1] 25 := ⟨_, rfl⟩
  have hB2 : Below w.heap.size w ((w.alloc D).alloc (.cells #[.slice none 0 0, .slice none 0 0] 25)) := ((Below.refl _ _).alloc (Nat.le_refl _) _).alloc (by simp) _
  have HB2 := Aside0.mk hB2
  have HC := Aside0.mk (disk_open.calls A0 c0 l0 A1 c1 l1 at_ 0 _ (Kd.C_below hr0 hB2) hc0 (Kd.C_below hr1 hB2) hc1 hop)
  have hE := blk_new (w.alloc D) (.cells #[.slice none 0 0, .slice none 0 0] 25)
  rw [World.size_alloc] at hE
  have HE := Aside0.mk hE
  have HD := Aside0.mk (blk_alloc (blk_new w D) (.cells #[.slice none 0 0, .slice none 0 0] 25))
  have HCL := Aside0.mk (show slices_Clone_WN.f l1 = some l1 by unfold slices_Clone_WN.f; rw [if_pos (by omega)])
  have HS := Aside0.mk hs
  have e100 : ((l1.length : Int) == 100) = false := by simp; omega
  have e100n : (l1.length == 100) = false := by simpa using hl
  subst hD
  clear hB2 hE hr0 hr1 hck hop ha hs hl
  go_enter Try.func13, Try.ntmps13
  go_wp2_with (first | (go_at_call 41; refine HC.out.mono ?_; rintro e w3 ⟨rfl, hb3⟩; have HE3 := Aside0.mk (blk_below HE.out hb3); have HD3 := Aside0.mk (blk_below HD.out hb3); have HB3 := Aside0.mk (HB2.out.trans (hb3.mono HB2.out.size)); clear hb3) | (go_at_call 42; refine (disk_short_new _ _).mono ?_; rintro e w4 ⟨rfl, hb4⟩; have HE4 := Aside0.mk (blk_below HE3.out hb4); have HD4 := Aside0.mk (blk_below HD3.out hb4); have HB4 := Aside0.mk (HB3.out.trans (hb4.mono HB3.out.size)); clear hb4; have d0 := blk_cell HD4.out 0; have d1 := blk_cell HD4.out 1; rw [HS.out]) | ((with_reducible refine gate_dst (N := 33) rfl ?_); refine Kd.R_make Kd.string (w0 := w) w.heap.size 9 rfl rfl 22 (.tmp 32) (.tmp 32) rfl (l0.length : Int) rfl rfl Try.underlying22 (.string ⟨#[]⟩) 16 slices_Clone_string_string_info rfl (by decide) (by omega) ⟨#[]⟩ (ok := fun _ => True) (okp := fun _ => False) rfl (fun _ h => h.elim) trivial (by omega) (by omega) HB4.out HB4.out.size ?_; intro v5 w5 ho5 hb5 hg5 _; have HO5 := Aside0.mk ho5; have HB5 := Aside0.mk hb5; have HE5 := Aside0.mk (blk_grown HE4.out hg5 (by simp)); have HD5 := Aside0.mk (blk_grown HD4.out hg5 (by simp)); obtain ⟨A5, c5, rfl⟩ := Kd.R_slice ho5; simp only [List.length_replicate, Int.toNat_natCast] at *; clear ho5 hb5 hg5 d0 d1; have HT6 := Aside0.mk (blk_new w5 (.cells #[.slice A5 l0.length c5, .slice none 0 0] 25)); have HD6 := Aside0.mk (blk_alloc HD5.out (.cells #[.slice A5 l0.length c5, .slice none 0 0] 25)); have HE6 := Aside0.mk (blk_alloc HE5.out (.cells #[.slice A5 l0.length c5, .slice none 0 0] 25)); have HB6 := Aside0.mk (HB5.out.alloc HB5.out.size (.cells #[.slice A5 l0.length c5, .slice none 0 0] 25)); have HO6 := Aside0.mk (Kd.R_below HO5.out ((Below.refl w5.heap.size w5).alloc (Nat.le_refl _) (.cells #[.slice A5 l0.length c5, .slice none 0 0] 25))); have d0 := blk_cell HD6.out 0; have d1 := blk_cell HD6.out 1) | ((with_reducible refine gate_builtin (b := .copy) (xs := #[.tmp 36, .tmp 38]) rfl ?_); refine copy_strs rfl (.tmp 36) (.tmp 38) rfl (.slice A5 l0.length c5) rfl A0 l0.length c0 rfl (List.replicate l0.length ⟨#[]⟩) l0 HO6.out (Kd.C_below HR0.out HB6.out) (by simp) (by omega) ?_; intro w7 ho7 hg7; have HO7 := Aside0.mk ho7; have HB7 := Aside0.mk (HB6.out.grown hg7 HB6.out.size (fun k e => (Kd.R_bound HO6.out).1 k e |>.2.1)); have HE7 := Aside0.mk (blk_grown HE6.out hg7 (Kd.R_ne HO6.out HE6.out (by decide))); have HD7 := Aside0.mk (blk_grown HD6.out hg7 (Kd.R_ne HO6.out HD6.out (by decide))); have HT7 := Aside0.mk (blk_grown HT6.out hg7 (Kd.R_ne HO6.out HT6.out (by decide))); clear ho7 hg7 d0 d1; have d0 := blk_cell HD7.out 0; have d1 := blk_cell HD7.out 1) | (go_at_call 43; refine (slices_Clone_WN.calls A1 c1 l1 l1 _ (Kd.C_below HR1.out HB7.out) hc1 HCL.out).mono ?_; rintro e w8 ⟨v8, rfl, ho8, hb8⟩; have HO8 := Aside0.mk (Kd.R_below HO7.out hb8); have HE8 := Aside0.mk (blk_below HE7.out hb8); have HT8 := Aside0.mk (blk_below HT7.out hb8); have HP8 := Aside0.mk (Kd.R_lower ho8 HB7.out.size); have HB8 := Aside0.mk (HB7.out.trans (hb8.mono HB7.out.size)); obtain ⟨A8, c8, rfl⟩ := Kd.R_slice ho8; clear ho8 hb8 d0 d1) | ((with_reducible refine gate_builtin (b := .append) (xs := #[.tmp 42, .tmp 46]) rfl ?_); at_builtin; refine Kd.R_append k40 (w0 := w) w.heap.size rfl (.tmp 42) (.tmp 46) 23 40 (.agg #[(.int .i64 0), (.string ⟨#[]⟩)]) 24 rfl Try.underlying23 slices_Clone_WN_info rfl (by decide) (by omega) (.slice A8 l1.length c8) l1 ⟨at_, s⟩ [.int .i64 at_, .string s] (fun _ => True) (fun _ => False) rfl rfl (k40_mkM _ _ _ _) (fun _ hk => hk.elim) (fun _ _ => trivial) HP8.out HB8.out HB8.out.size (by omega) ?_; intro v9 w9 ho9 hb9 hg9 _; have HP9 := Aside0.mk ho9; have HB9 := Aside0.mk hb9; have HE9 := Aside0.mk (blk_grown HE8.out hg9 (Kd.R_ne HP8.out HE8.out (by decide))); have HT9 := Aside0.mk (blk_grown HT8.out hg9 (Kd.R_ne HP8.out HT8.out (by decide))); obtain ⟨A9, c9, rfl⟩ := Kd.R_slice ho9; have HG9 := Aside0.mk hg9; clear ho9 hb9 hg9; have t0 := blk_cell HT9.out 0; have t1 := blk_cell HT9.out 1; have tf := blk_frozen HT9.out 1; have hsl : (l1 ++ [(⟨at_, s⟩ : S40)]).length = l1.length + 1 := (by simp); rw [hsl] at HP9; clear hsl; have hlt5 := blk_lt HE5.out; have HE10 := Aside0.mk (blk_far HE9.out (p := ⟨w5.heap.size, 1, none⟩) (by show w.heap.size + 1 ≠ w5.heap.size; omega) (.slice A9 (l1.length + 1) c9)); have HT10 := Aside0.mk (blk_set HT9.out 1 (.slice A9 (l1.length + 1) c9)); have e0 := blk_cell HE10.out 0; have e1 := blk_cell HE10.out 1; have f0 := blk_frozen HE10.out 0; have f1 := blk_frozen HE10.out 1))
  obtain ⟨go, cells, hA5, hgo⟩ := row_block (Kd.own_of_R HO8.out) (by omega)
  have HO9 : Kd.R Kd.string 9 w9 w.heap.size (fun _ => True) (.slice A5 l0.length c5) l0 := Kd.R_of_own ((Kd.own_of_R HO8.out).kept HG9.out (.inr (by rw [hA5]; exact Kd.R_ne HP8.out hgo (by decide)))) (fun _ _ => trivial)
  have HE11 := blk_set HE10.out 0 (.slice A5 l0.length c5)
  have HE12 := blk_set HE11 1 (.slice A9 (l1.length + 1) c9)
  have qs : ∀ q, q ∈ 9 :: Kd.string.E → q ≠ 25 := by intro q hq; simp [Kd.string, Kd.scalar] at hq; subst hq; decide
  have qw : ∀ q, q ∈ 40 :: k40.E → q ≠ 25 := by intro q hq; simp [k40, Kd.iso, Kd.pair, Kd.int, Kd.string, Kd.scalar] at hq; subst hq; decide
  have g0 := blk_cell HE12 0
  have g1 := blk_cell HE12 1
  have hs5 : w.heap.size ≤ w5.heap.size := HB5.out.size
  refine bodyPost_ret (v := .tuple #[.agg #[.slice A5 l0.length c5, .slice A9 (l1.length + 1) c9], .int .i64 0]) ?_ rfl ⟨_, _, rfl, Kd.R_set (Kd.R_set (Kd.R_set HO9 HT9.out qs 1 _) HE10.out qs 0 _) HE11 qs 1 _, Kd.R_set (Kd.R_set (Kd.R_set HP9.out HT9.out qw 1 _) HE10.out qw 0 _) HE11 qw 1 _, ((HB9.out.setCell (p := ⟨w5.heap.size, 1, none⟩) hs5 _).setCell (p := ⟨w.heap.size + 1, 0, none⟩) (by simp) _).setCell (p := ⟨w.heap.size + 1, 1, none⟩) (by simp) _⟩
  simp [results, Try.results13, go_sem, g0, g1]

set_option maxHeartbeats 4000000 in
set_option maxRecDepth 100000 in
theorem disk_Write_open (er : Int) (hop : disk_open.f l0 l1 at_ = some er) (hne : er ≠ 0) :
    Calls Try.prog 13 #[.agg #[.slice A0 l0.length c0, .slice A1 l1.length c1], .int .i64 at_, .string s] w fun e w' => e = .returned (.tuple #[.agg #[.slice none 0 0, .slice none 0 0], .int .i64 er]) ∧ Below w.heap.size w w' := by
  have HR0 := Aside0.mk hr0
  obtain ⟨D, hD⟩ : ∃ D, D = Obj.cells #[.slice A0 l0.length c0, .slice A1 l1.length c1] 25 := ⟨_, rfl⟩
  have hB2 : Below w.heap.size w ((w.alloc D).alloc (.cells #[.slice none 0 0, .slice none 0 0] 25)) := ((Below.refl _ _).alloc (Nat.le_refl _) _).alloc (by simp) _
  have HB2 := Aside0.mk hB2
  have HC := Aside0.mk (disk_open.calls A0 c0 l0 A1 c1 l1 at_ er _ (Kd.C_below hr0 hB2) hc0 (Kd.C_below hr1 hB2) hc1 hop)
  have hE := blk_new (w.alloc D) (.cells #[.slice none 0 0, .slice none 0 0] 25)
  rw [World.size_alloc] at hE
  have HE := Aside0.mk hE
  have HD := Aside0.mk (blk_alloc (blk_new w D) (.cells #[.slice none 0 0, .slice none 0 0] 25))
  subst hD
  clear hB2 hE hr0 hr1 hop
  have e2 : (er != 0) = true := by simpa using hne
  clear hne
  go_enter Try.func13, Try.ntmps13
  go_wp2_with (go_at_call 41; refine HC.out.mono ?_; rintro e w3 ⟨rfl, hb3⟩; have HE3 := Aside0.mk (blk_below HE.out hb3); have HD3 := Aside0.mk (blk_below HD.out hb3); have HB3 := Aside0.mk (HB2.out.trans (hb3.mono HB2.out.size)); clear hb3; have e0 := blk_cell HE3.out 0; have e1 := blk_cell HE3.out 1; have f0 := blk_frozen HE3.out 0; have f1 := blk_frozen HE3.out 1)
  have g0 := blk_cell (blk_set (blk_set HE3.out 0 (.slice none 0 0)) 1 (.slice none 0 0)) 0
  have g1 := blk_cell (blk_set (blk_set HE3.out 0 (.slice none 0 0)) 1 (.slice none 0 0)) 1
  refine bodyPost_ret (v := .tuple #[.agg #[.slice none 0 0, .slice none 0 0], .int .i64 er]) ?_ rfl ⟨rfl, (HB3.out.setCell (p := ⟨w.heap.size + 1, 0, none⟩) (by simp) _).setCell (p := ⟨w.heap.size + 1, 1, none⟩) (by simp) _⟩
  simp [results, Try.results13, go_sem, g0, g1]

set_option maxHeartbeats 4000000 in
set_option maxRecDepth 100000 in
theorem disk_Write_long (hop : disk_open.f l0 l1 at_ = some 0) (hs : longS s = true) :
    Calls Try.prog 13 #[.agg #[.slice A0 l0.length c0, .slice A1 l1.length c1], .int .i64 at_, .string s] w fun e w' => e = .returned (.tuple #[.agg #[.slice none 0 0, .slice none 0 0], .int .i64 1]) ∧ Below w.heap.size w w' := by
  have HR0 := Aside0.mk hr0
  obtain ⟨D, hD⟩ : ∃ D, D = Obj.cells #[.slice A0 l0.length c0, .slice A1 l1.length c1] 25 := ⟨_, rfl⟩
  have hB2 : Below w.heap.size w ((w.alloc D).alloc (.cells #[.slice none 0 0, .slice none 0 0] 25)) := ((Below.refl _ _).alloc (Nat.le_refl _) _).alloc (by simp) _
  have HB2 := Aside0.mk hB2
  have HC := Aside0.mk (disk_open.calls A0 c0 l0 A1 c1 l1 at_ 0 _ (Kd.C_below hr0 hB2) hc0 (Kd.C_below hr1 hB2) hc1 hop)
  have hE := blk_new (w.alloc D) (.cells #[.slice none 0 0, .slice none 0 0] 25)
  rw [World.size_alloc] at hE
  have HE := Aside0.mk hE
  have HD := Aside0.mk (blk_alloc (blk_new w D) (.cells #[.slice none 0 0, .slice none 0 0] 25))
  subst hD
  clear hB2 hE hr0 hr1 hop
  have HS := Aside0.mk hs
  clear hs
  go_enter Try.func13, Try.ntmps13
  go_wp2_with (first | (go_at_call 41; refine HC.out.mono ?_; rintro e w3 ⟨rfl, hb3⟩; have HE3 := Aside0.mk (blk_below HE.out hb3); have HD3 := Aside0.mk (blk_below HD.out hb3); have HB3 := Aside0.mk (HB2.out.trans (hb3.mono HB2.out.size)); clear hb3) | (go_at_call 42; refine (disk_short_new _ _).mono ?_; rintro e w4 ⟨rfl, hb4⟩; have HE4 := Aside0.mk (blk_below HE3.out hb4); have HD4 := Aside0.mk (blk_below HD3.out hb4); have HB4 := Aside0.mk (HB3.out.trans (hb4.mono HB3.out.size)); clear hb4; have d0 := blk_cell HD4.out 0; have d1 := blk_cell HD4.out 1; rw [HS.out]; have e0 := blk_cell HE4.out 0; have e1 := blk_cell HE4.out 1; have f0 := blk_frozen HE4.out 0; have f1 := blk_frozen HE4.out 1))
  have g0 := blk_cell (blk_set (blk_set HE4.out 0 (.slice none 0 0)) 1 (.slice none 0 0)) 0
  have g1 := blk_cell (blk_set (blk_set HE4.out 0 (.slice none 0 0)) 1 (.slice none 0 0)) 1
  refine bodyPost_ret (v := .tuple #[.agg #[.slice none 0 0, .slice none 0 0], .int .i64 1]) ?_ rfl ⟨rfl, (HB4.out.setCell (p := ⟨w.heap.size + 1, 0, none⟩) (by simp) _).setCell (p := ⟨w.heap.size + 1, 1, none⟩) (by simp) _⟩
  simp [results, Try.results13, go_sem, g0, g1]

set_option maxHeartbeats 4000000 in
set_option maxRecDepth 100000 in
theorem disk_Write_full (hop : disk_open.f l0 l1 at_ = some 0) (hs : longS s = false) (hl : l1.length = 100) :
    Calls Try.prog 13 #[.agg #[.slice A0 l0.length c0, .slice A1 l1.length c1], .int .i64 at_, .string s] w fun e w' => e = .returned (.tuple #[.agg #[.slice none 0 0, .slice none 0 0], .int .i64 41]) ∧ Below w.heap.size w w' := by
  have HR0 := Aside0.mk hr0
  obtain ⟨D, hD⟩ : ∃ D, D = Obj.cells #[.slice A0 l0.length c0, .slice A1 l1.length c1] 25 := ⟨_, rfl⟩
  have hB2 : Below w.heap.size w ((w.alloc D).alloc (.cells #[.slice none 0 0, .slice none 0 0] 25)) := ((Below.refl _ _).alloc (Nat.le_refl _) _).alloc (by simp) _
  have HB2 := Aside0.mk hB2
  have HC := Aside0.mk (disk_open.calls A0 c0 l0 A1 c1 l1 at_ 0 _ (Kd.C_below hr0 hB2) hc0 (Kd.C_below hr1 hB2) hc1 hop)
  have hE := blk_new (w.alloc D) (.cells #[.slice none 0 0, .slice none 0 0] 25)
  rw [World.size_alloc] at hE
  have HE := Aside0.mk hE
  have HD := Aside0.mk (blk_alloc (blk_new w D) (.cells #[.slice none 0 0, .slice none 0 0] 25))
  subst hD
  clear hB2 hE hr0 hr1 hop
  have HS := Aside0.mk hs
  have e100 : ((l1.length : Int) == 100) = true := by simp; omega
  have e100n : (l1.length == 100) = true := by simpa using hl
  clear hs hl
  go_enter Try.func13, Try.ntmps13
  go_wp2_with (first | (go_at_call 41; refine HC.out.mono ?_; rintro e w3 ⟨rfl, hb3⟩; have HE3 := Aside0.mk (blk_below HE.out hb3); have HD3 := Aside0.mk (blk_below HD.out hb3); have HB3 := Aside0.mk (HB2.out.trans (hb3.mono HB2.out.size)); clear hb3) | (go_at_call 42; refine (disk_short_new _ _).mono ?_; rintro e w4 ⟨rfl, hb4⟩; have HE4 := Aside0.mk (blk_below HE3.out hb4); have HD4 := Aside0.mk (blk_below HD3.out hb4); have HB4 := Aside0.mk (HB3.out.trans (hb4.mono HB3.out.size)); clear hb4; have d0 := blk_cell HD4.out 0; have d1 := blk_cell HD4.out 1; rw [HS.out]; have e0 := blk_cell HE4.out 0; have e1 := blk_cell HE4.out 1; have f0 := blk_frozen HE4.out 0; have f1 := blk_frozen HE4.out 1))
  have g0 := blk_cell (blk_set (blk_set HE4.out 0 (.slice none 0 0)) 1 (.slice none 0 0)) 0
  have g1 := blk_cell (blk_set (blk_set HE4.out 0 (.slice none 0 0)) 1 (.slice none 0 0)) 1
  refine bodyPost_ret (v := .tuple #[.agg #[.slice none 0 0, .slice none 0 0], .int .i64 41]) ?_ rfl ⟨rfl, (HB4.out.setCell (p := ⟨w.heap.size + 1, 0, none⟩) (by simp) _).setCell (p := ⟨w.heap.size + 1, 1, none⟩) (by simp) _⟩
  simp [results, Try.results13, go_sem, g0, g1]
end

theorem disk_Write.calls (A0_0 : Option Addr) (c0_0 : Nat) (l0_0 : List ByteArray) (A0_1 : Option Addr) (c0_1 : Nat) (l0_1 : List S40) (a1 : Int) (a2 : ByteArray) (r1 : List ByteArray) (r2 : List S40) (r3 : Int) (w : World) (hr0_0 : Kd.C Kd.string w A0_0 l0_0.length l0_0) (hc0_0 : l0_0.length ≤ c0_0) (hr0_1 : Kd.C k40 w A0_1 l0_1.length l0_1) (hc0_1 : l0_1.length ≤ c0_1) (h : disk_Write.f l0_0 l0_1 a1 a2 = some (r1, r2, r3)) :
    Calls Try.prog 13 #[.agg #[.slice A0_0 l0_0.length c0_0, .slice A0_1 l0_1.length c0_1], .int .i64 a1, .string a2] w fun e w' => ∃ v0_ v1_ : Value, e = .returned (.tuple #[.agg #[v0_, v1_], .int .i64 r3]) ∧ Kd.R Kd.string 9 w' w.heap.size (fun _ => True) v0_ r1 ∧ Kd.R k40 40 w' w.heap.size (fun _ => True) v1_ r2 ∧ Below w.heap.size w w' := by
  have hv : writeV l0_0 l0_1 a1 a2 = (r1, r2, r3) := by simpa [disk_Write.f] using h
  have hop := open_f l0_0 l0_1 a1
  unfold writeV at hv
  by_cases h1 : checkB l0_0 l0_1 = false
  · rw [if_pos h1] at hv hop
    simp only [Prod.mk.injEq] at hv
    obtain ⟨rfl, rfl, rfl⟩ := hv
    refine (disk_Write_open A0_0 c0_0 l0_0 A0_1 c0_1 l0_1 a1 a2 w hr0_0 hc0_0 hr0_1 hc0_1 1 hop (by decide)).mono ?_
    rintro e w' ⟨rfl, hb⟩
    exact ⟨_, _, rfl, Kd.R_nil _ _ _ _ _, Kd.R_nil _ _ _ _ _, hb⟩
  · rw [if_neg h1] at hv hop
    by_cases h2 : a1 < 0 ∨ a1 ≥ (l0_0.length : Int)
    · rw [if_pos h2] at hv hop
      simp only [Prod.mk.injEq] at hv
      obtain ⟨rfl, rfl, rfl⟩ := hv
      refine (disk_Write_open A0_0 c0_0 l0_0 A0_1 c0_1 l0_1 a1 a2 w hr0_0 hc0_0 hr0_1 hc0_1 40 hop (by decide)).mono ?_
      rintro e w' ⟨rfl, hb⟩
      exact ⟨_, _, rfl, Kd.R_nil _ _ _ _ _, Kd.R_nil _ _ _ _ _, hb⟩
    · rw [if_neg h2] at hv hop
      by_cases h3 : longS a2 = true
      · rw [if_pos h3] at hv
        simp only [Prod.mk.injEq] at hv
        obtain ⟨rfl, rfl, rfl⟩ := hv
        refine (disk_Write_long A0_0 c0_0 l0_0 A0_1 c0_1 l0_1 a1 a2 w hr0_0 hc0_0 hr0_1 hc0_1 hop h3).mono ?_
        rintro e w' ⟨rfl, hb⟩
        exact ⟨_, _, rfl, Kd.R_nil _ _ _ _ _, Kd.R_nil _ _ _ _ _, hb⟩
      · rw [if_neg h3] at hv
        have h3' : longS a2 = false := by simpa using h3
        by_cases h4 : l0_1.length = 100
        · rw [if_pos h4] at hv
          simp only [Prod.mk.injEq] at hv
          obtain ⟨rfl, rfl, rfl⟩ := hv
          refine (disk_Write_full A0_0 c0_0 l0_0 A0_1 c0_1 l0_1 a1 a2 w hr0_0 hc0_0 hr0_1 hc0_1 hop h3' h4).mono ?_
          rintro e w' ⟨rfl, hb⟩
          exact ⟨_, _, rfl, Kd.R_nil _ _ _ _ _, Kd.R_nil _ _ _ _ _, hb⟩
        · rw [if_neg h4] at hv
          simp only [Prod.mk.injEq] at hv
          obtain ⟨rfl, rfl, rfl⟩ := hv
          exact disk_Write_yes A0_0 c0_0 l0_0 A0_1 c0_1 l0_1 a1 a2 w hr0_0 hc0_0 hr0_1 hc0_1 (by simpa using h1) h2 h3' h4
end Go.Proofs.Ytoibofhmlokglaa.P
