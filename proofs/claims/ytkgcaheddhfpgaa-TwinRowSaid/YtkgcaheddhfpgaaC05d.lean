/-
  Texts that the claims of this chapter share, joined.
-/
import Derived.OwnWalk
import Derived.StillTactics
import Derived.LoopTactic
import Derived.Test.YtkgcaheddhfpgaaC05c
import Derived.Test.YtkgcaheddhfpgaaC05b
import Derived.Test.YtkgcaheddhfpgaaPx0
set_option linter.unusedVariables false
set_option linter.unusedSimpArgs false
/-
  twin.Stop, by hand: the deeds.
-/
namespace Go.Proofs.Ytkgcaheddhfpgaa.P
open Go.RowKit Go.Proofs.CodecPlain Go.Proofs.YtkgcaheddhfpgaaW.PrintWords Go.Proofs.YtkgcaheddhfpgaaW.PrintLast

attribute [local go_sem] zero_twin
set_option maxHeartbeats 16000000 in
set_option maxRecDepth 100000 in
theorem twin_Stop_D2 (k : Nat) (A0 : Option Addr) (c0 : Nat) (l0 : List ByteArray) (A1 : Option Addr) (c1 : Nat) (l1 : List S73) (a : Int) (s : ByteArray) (deeds : Int) (n0 : Int) (t0 : ByteArray) (k0 : Bool) (n1 : Int) (t1 : ByteArray) (k1 : Bool) (er : Int) (q xn : Int) (xt : ByteArray) (xk : Bool) (hq : newV n0 k0 n1 k1 = q) (hqx : q = 0 ∧ xn = n0 ∧ xt = t0 ∧ xk = k0 ∨ q = 1 ∧ xn = n1 ∧ xt = t1 ∧ xk = k1) (w : World) (hr0 : Kd.C Kd.string w A0 l0.length l0) (hc0 : l0.length ≤ c0) (hr1 : Kd.C k73 w A1 l1.length l1) (hc1 : l1.length ≤ c1) (hpair : twin_pair.f k l0 l1 a = some (n0, t0, k0, n1, t1, k1, er)) (he : er = 0) (hs : s.size ≤ 200) (hx0 : 0 ≤ xn) (hx1 : xn < 1000000000) (f : ByteArray) (hf : f = frameOf (numStr (xn + 1) ++ s)) (ha0 : 0 ≤ a) (ha1 : a ≤ 1000) (b1 : List ByteArray) (u1 : List S73) (hwr : writeV l0 l1 (a + 1 - q) f = (b1, u1, 0)) (hl0 : l0.length ≤ 200) (hl1 : l1.length ≤ 100) (b2 : List ByteArray) (hsy : doneV (fun _ => true) b1 u1 = (b2, [], 0)) (hd : deeds < 0 ∨ deeds = 2 ∨ 2 < deeds) :
    Calls Try.prog 15 #[.agg #[.slice A0 l0.length c0, .slice A1 l1.length c1], .int .i64 a, .string s, .int .i64 deeds] w (StopPost w b2 [] true 0) := by
  subst he
  have HDD := Aside0.mk hd
  clear hd
  have HD_0 : Aside0 ((((w.alloc (.cells #[.slice A0 l0.length c0, .slice A1 l1.length c1] 25)).alloc (.cells #[.int .i64 a] 3)).alloc (.cells #[.slice none 0 0, .slice none 0 0] 25)).heap[w.heap.size]? = some (.cells #[.slice A0 l0.length c0, .slice A1 l1.length c1] 25 (0, 0))) := ⟨blk_alloc (blk_alloc (blk_new w (.cells #[.slice A0 l0.length c0, .slice A1 l1.length c1] 25)) (.cells #[.int .i64 a] 3)) (.cells #[.slice none 0 0, .slice none 0 0] 25)⟩
  have hi_ := blk_alloc (blk_new (w.alloc (.cells #[.slice A0 l0.length c0, .slice A1 l1.length c1] 25)) (.cells #[.int .i64 a] 3)) (.cells #[.slice none 0 0, .slice none 0 0] 25)
  rw [World.size_alloc] at hi_
  have HI_0 := Aside0.mk hi_
  have hz_ := blk_new ((w.alloc (.cells #[.slice A0 l0.length c0, .slice A1 l1.length c1] 25)).alloc (.cells #[.int .i64 a] 3)) (.cells #[.slice none 0 0, .slice none 0 0] 25)
  rw [World.size_alloc, World.size_alloc] at hz_
  have HZ_0 := Aside0.mk hz_
  have B_0 := Aside0.mk ((((Below.refl w.heap.size w).alloc (Nat.le_refl _) (.cells #[.slice A0 l0.length c0, .slice A1 l1.length c1] 25)).alloc (by simp) (.cells #[.int .i64 a] 3)).alloc (by simp; omega) (.cells #[.slice none 0 0, .slice none 0 0] 25))
  clear hi_ hz_
  have HR0 := Aside0.mk hr0
  have HR1 := Aside0.mk hr1
  have HP := Aside0.mk (fun W (q0 : Kd.C Kd.string W A0 l0.length l0) (q1 : Kd.C k73 W A1 l1.length l1) => twin_pair.calls k A0 c0 l0 A1 c1 l1 a n0 t0 k0 n1 t1 k1 0 W q0 hc0 q1 hc1 hpair)
  have HN := Aside0.mk (fun W => (twin_newer_calls n0 t0 k0 n1 t1 k1 W).mono (fun e w' (h : _ ∧ _) => (⟨by rw [h.1, hq], h.2⟩ : e = .returned (.int .i64 q) ∧ Below W.heap.size W w')))
  have HQX := Aside0.mk hqx
  have hq0' : 0 ≤ q := by rcases hqx with h | h <;> omega
  have hq1' : q ≤ 1 := by rcases hqx with h | h <;> omega
  have hq0 : 0 ≤ q := by rcases hqx with h | h <;> omega
  have hq2 : q < 2 := by rcases hqx with h | h <;> omega
  clear hqx
  have HDeed := Aside0.mk (fun (W : World) (B2 B3 : Nat) (hb : Below w.heap.size w W) hA hL hF => twin_deed_calls A0 c0 l0 A1 c1 l1 a n0 t0 k0 n1 t1 k1 q f b1 u1 0 (w.heap.size + 1) B2 B3 W (Kd.C_below hr0 hb) hc0 (Kd.C_below hr1 hb) hc1 ha0 ha1 hq0' hq1' hq hwr hA hL hF)
  have HDeed2 := Aside0.mk (fun (W : World) (Av Au : Option Addr) (cv cu : Nat) (B2 B3 : Nat) (q0 : Kd.C Kd.string W Av l0.length l0) (p0 : l0.length ≤ cv) (q1 : Kd.C k73 W Au l1.length l1) (p1 : l1.length ≤ cu) hA hL hF => twin_deed_calls Av cv l0 Au cu l1 a n0 t0 k0 n1 t1 k1 q f b1 u1 0 (w.heap.size + 1) B2 B3 W q0 p0 q1 p1 ha0 ha1 hq0' hq1' hq hwr hA hL hF)
  have HSync := Aside0.mk (fun (W : World) (Av Au : Option Addr) (cv cu : Nat) (q0 : Kd.C Kd.string W Av b1.length b1) (p0 : b1.length ≤ cv) (q1 : Kd.C k73 W Au u1.length u1) (p1 : u1.length ≤ cu) => disk_Sync.calls Av cv b1 Au cu u1 b2 [] 0 W q0 p0 q1 p1 (congrArg some hsy))
  have HClone0 := Aside0.mk (fun (W : World) (hb : Below w.heap.size w W) => slices_Clone_string_string.calls A0 c0 l0 l0 W (Kd.C_below hr0 hb) hc0 (by unfold slices_Clone_string_string.f; rw [if_pos (by omega)]))
  have HClone1 := Aside0.mk (fun (W : World) (hb : Below w.heap.size w W) => slices_Clone_WN.calls A1 c1 l1 l1 W (Kd.C_below hr1 hb) hc1 (by unfold slices_Clone_WN.f; rw [if_pos (by omega)]))
  obtain ⟨ns, hns⟩ : ∃ ns, ns = numStr (xn + 1) := ⟨_, rfl⟩
  have hnz := numStr_size (xn + 1)
  rw [← hns] at hnz
  have HNum := Aside0.mk (fun W => codec_Number.calls (xn + 1) ns 0 W (by unfold codec_Number.f; rw [if_pos (by omega), hns]))
  have HPut := Aside0.mk (fun W => crc_Put.calls (ns ++ s) f 0 W (by rw [put_f, if_pos (by rw [CodecPlain.size_append]; omega), hf, hns]))
  have hcz : ns.size + s.size ≤ 9223372036854775807 := by omega
  have hcz1 := eq_true hcz
  have hcz2 : decide (ns.size + s.size ≤ 9223372036854775807) = true := decide_eq_true hcz
  have hcz3 : (9223372036854775807 < ns.size + s.size) = False := eq_false (Nat.not_lt.2 hcz)
  have hsi : decide ((200 : Int) < (s.size : Int)) = false := decide_eq_false (by omega)
  have hsc : decide (200 < s.size) = false := decide_eq_false (by omega)
  have hxb : decide (1000000000 ≤ xn) = false := decide_eq_false (by omega)
  have hmf : ∀ (fn : Fn) (first cap : Array Value) (w : World), (Instr.makeFunc fn first cap).run Try.prog w = .ok (.func fn first cap) w := fun _ _ _ _ => rfl
  clear hr0 hr1 hpair hq hs hf hns hnz hcz hwr hsy ha0 ha1
  go_enter Try.func15, Try.ntmps15
  go_wp2_with (first | (go_at_call 28; (refine (HP.out _ (Kd.C_below HR0.out B_0.out) (Kd.C_below HR1.out B_0.out)).mono ?_); rintro e w1 ⟨rfl, hb⟩; have HD_1 := Aside0.mk (blk_below HD_0.out hb); have HI_1 := Aside0.mk (blk_below HI_0.out hb); have HZ_1 := Aside0.mk (blk_below HZ_0.out hb); have B_1 := Aside0.mk (B_0.out.trans (hb.mono B_0.out.size)); clear hb) | ((with_reducible refine gate_store (t := 62) (p := 11) rfl ?_); refine store_event (t := 62) (p := 11) (w1 := (w1.alloc (.cells blk0 62)).setCells w1.heap.size 0 (blkT n0 t0 k0 n1 t1 k1).toList) rfl rfl rfl ?hr ?_; (case hr => (unfold execOp; simp only [Act.eval, Sem.run_bind, Sem.run_pure, Result.andThen_ok]; show ((Sem.run Try.prog (Instr.storeAt 62 (.pointer (some ⟨w1.heap.size, 0, none⟩)) (.agg (blkT n0 t0 k0 n1 t1 k1))) (w1.alloc (.cells blk0 62))).andThen _) = _; rw [(store_twin (blk_new w1 (.cells blk0 62)) rfl n0 t0 k0 n1 t1 k1).1]; try rfl)); intro w2 hw_; have HS := Aside0.mk (show Below w1.heap.size w1 w2 by rw [hw_]; exact below_cells ((Below.refl _ _).alloc (Nat.le_refl _) _) (Nat.le_refl _) _); have HL_2 := Aside0.mk (hw_ ▸ (store_twin (blk_new w1 (.cells blk0 62)) rfl n0 t0 k0 n1 t1 k1).2 : w2.heap[w1.heap.size]? = some (.cells (blkT n0 t0 k0 n1 t1 k1) 62 (0, 0))); have HD_2 := Aside0.mk (blk_below HD_1.out HS.out); have HI_2 := Aside0.mk (blk_below HI_1.out HS.out); have HZ_2 := Aside0.mk (blk_below HZ_1.out HS.out); have B_2 := Aside0.mk (B_1.out.trans (HS.out.mono B_1.out.size)); clear hw_ HS; have c0 := blk_cell HL_2.out 0; have c1 := blk_cell HL_2.out 1; have c2 := blk_cell HL_2.out 2; have c3 := blk_cell HL_2.out 3; have c4 := blk_cell HL_2.out 4; have c5 := blk_cell HL_2.out 5; simp only [blkT, List.getElem?_toArray, List.getElem?_cons_zero, List.getElem?_cons_succ] at c0 c1 c2 c3 c4 c5) | (go_at_call 29; (refine (HN.out _).mono ?_); rintro e w3 ⟨rfl, hb⟩; have HD_3 := Aside0.mk (blk_below HD_2.out hb); have HI_3 := Aside0.mk (blk_below HI_2.out hb); have HZ_3 := Aside0.mk (blk_below HZ_2.out hb); have HL_3 := Aside0.mk (blk_below HL_2.out hb); have B_3 := Aside0.mk (B_2.out.trans (hb.mono B_2.out.size)); clear hb; obtain ⟨d0, d1, d2⟩ := pick3 HQX.out HL_3.out; have HD_3a := Aside0.mk (blk_alloc HD_3.out (.cells #[.int .i64 xn, .string xt, .bool xk] 61)); have HI_3a := Aside0.mk (blk_alloc HI_3.out (.cells #[.int .i64 xn, .string xt, .bool xk] 61)); have HZ_3a := Aside0.mk (blk_alloc HZ_3.out (.cells #[.int .i64 xn, .string xt, .bool xk] 61)); have HL_3a := Aside0.mk (blk_alloc HL_3.out (.cells #[.int .i64 xn, .string xt, .bool xk] 61)); have B_3a := Aside0.mk (B_3.out.alloc B_3.out.size (.cells #[.int .i64 xn, .string xt, .bool xk] 61)); have HX_3a := Aside0.mk (show (w3.alloc (.cells #[.int .i64 xn, .string xt, .bool xk] 61)).heap[w3.heap.size]? = _ from blk_new (w3) (.cells #[.int .i64 xn, .string xt, .bool xk] 61)); clear c0 c1 c2 c3 c4 c5) | (go_at_call 30; (refine (HNum.out _).mono ?_); rintro e w4 ⟨rfl, hb⟩; have HD_4 := Aside0.mk (blk_below HD_3a.out hb); have HI_4 := Aside0.mk (blk_below HI_3a.out hb); have HZ_4 := Aside0.mk (blk_below HZ_3a.out hb); have HL_4 := Aside0.mk (blk_below HL_3a.out hb); have HX_4 := Aside0.mk (blk_below HX_3a.out hb); have B_4 := Aside0.mk (B_3a.out.trans (hb.mono B_3a.out.size)); clear hb) | (go_at_call 31; (refine (HPut.out _).mono ?_); rintro e w5 ⟨rfl, hb⟩; have HD_5 := Aside0.mk (blk_below HD_4.out hb); have HI_5 := Aside0.mk (blk_below HI_4.out hb); have HZ_5 := Aside0.mk (blk_below HZ_4.out hb); have HL_5 := Aside0.mk (blk_below HL_4.out hb); have HX_5 := Aside0.mk (blk_below HX_4.out hb); have B_5 := Aside0.mk (B_4.out.trans (hb.mono B_4.out.size)); have HD_5a := Aside0.mk (blk_alloc HD_5.out (.cells #[.string f] 9)); have HI_5a := Aside0.mk (blk_alloc HI_5.out (.cells #[.string f] 9)); have HZ_5a := Aside0.mk (blk_alloc HZ_5.out (.cells #[.string f] 9)); have HL_5a := Aside0.mk (blk_alloc HL_5.out (.cells #[.string f] 9)); have HX_5a := Aside0.mk (blk_alloc HX_5.out (.cells #[.string f] 9)); have B_5a := Aside0.mk (B_5.out.alloc B_5.out.size (.cells #[.string f] 9)); have HF_5a := Aside0.mk (show (w5.alloc (.cells #[.string f] 9)).heap[w5.heap.size]? = _ from blk_new (w5) (.cells #[.string f] 9)); clear hb))
  have HD_5b := Aside0.mk (blk_alloc HD_5a.out (.cells #[.func (.func 32) #[] #[.pointer (some ⟨w.heap.size + 1, 0, none⟩), .pointer (some ⟨w1.heap.size, 0, none⟩), .pointer (some ⟨w5.heap.size, 0, none⟩)], .func (.func 34) #[] #[]] 68))
  have HI_5b := Aside0.mk (blk_alloc HI_5a.out (.cells #[.func (.func 32) #[] #[.pointer (some ⟨w.heap.size + 1, 0, none⟩), .pointer (some ⟨w1.heap.size, 0, none⟩), .pointer (some ⟨w5.heap.size, 0, none⟩)], .func (.func 34) #[] #[]] 68))
  have HZ_5b := Aside0.mk (blk_alloc HZ_5a.out (.cells #[.func (.func 32) #[] #[.pointer (some ⟨w.heap.size + 1, 0, none⟩), .pointer (some ⟨w1.heap.size, 0, none⟩), .pointer (some ⟨w5.heap.size, 0, none⟩)], .func (.func 34) #[] #[]] 68))
  have HL_5b := Aside0.mk (blk_alloc HL_5a.out (.cells #[.func (.func 32) #[] #[.pointer (some ⟨w.heap.size + 1, 0, none⟩), .pointer (some ⟨w1.heap.size, 0, none⟩), .pointer (some ⟨w5.heap.size, 0, none⟩)], .func (.func 34) #[] #[]] 68))
  have HX_5b := Aside0.mk (blk_alloc HX_5a.out (.cells #[.func (.func 32) #[] #[.pointer (some ⟨w.heap.size + 1, 0, none⟩), .pointer (some ⟨w1.heap.size, 0, none⟩), .pointer (some ⟨w5.heap.size, 0, none⟩)], .func (.func 34) #[] #[]] 68))
  have HF_5b := Aside0.mk (blk_alloc HF_5a.out (.cells #[.func (.func 32) #[] #[.pointer (some ⟨w.heap.size + 1, 0, none⟩), .pointer (some ⟨w1.heap.size, 0, none⟩), .pointer (some ⟨w5.heap.size, 0, none⟩)], .func (.func 34) #[] #[]] 68))
  have B_5b := Aside0.mk (B_5a.out.alloc B_5a.out.size (.cells #[.func (.func 32) #[] #[.pointer (some ⟨w.heap.size + 1, 0, none⟩), .pointer (some ⟨w1.heap.size, 0, none⟩), .pointer (some ⟨w5.heap.size, 0, none⟩)], .func (.func 34) #[] #[]] 68))
  have HDO_5b := Aside0.mk (show ((w5.alloc (.cells #[.string f] 9)).alloc (.cells #[.func (.func 32) #[] #[.pointer (some ⟨w.heap.size + 1, 0, none⟩), .pointer (some ⟨w1.heap.size, 0, none⟩), .pointer (some ⟨w5.heap.size, 0, none⟩)], .func (.func 34) #[] #[]] 68)).heap[w5.heap.size + 1]? = some (.cells (#[.func (.func 32) #[] #[.pointer (some ⟨w.heap.size + 1, 0, none⟩), .pointer (some ⟨w1.heap.size, 0, none⟩), .pointer (some ⟨w5.heap.size, 0, none⟩)], .func (.func 34) #[] #[]]) 68 (0, 0)) by have h_ := blk_new ((w5.alloc (.cells #[.string f] 9))) (.cells #[.func (.func 32) #[] #[.pointer (some ⟨w.heap.size + 1, 0, none⟩), .pointer (some ⟨w1.heap.size, 0, none⟩), .pointer (some ⟨w5.heap.size, 0, none⟩)], .func (.func 34) #[] #[]] 68); simp only [World.size_alloc] at h_ ⊢; exact h_)
  have HD_6 := Aside0.mk (blk_drew HD_5b.out)
  have HI_6 := Aside0.mk (blk_drew HI_5b.out)
  have HZ_6 := Aside0.mk (blk_drew HZ_5b.out)
  have HL_6 := Aside0.mk (blk_drew HL_5b.out)
  have HX_6 := Aside0.mk (blk_drew HX_5b.out)
  have HF_6 := Aside0.mk (blk_drew HF_5b.out)
  have HDO_6 := Aside0.mk (blk_drew HDO_5b.out)
  have B_6 := Aside0.mk (below_drew1 B_5b.out)
  refine start_ (n := 11) (S := fun w' => w'.cell? ⟨w5.heap.size + 1, 0, none⟩ = some (.func (.func 32) #[] #[.pointer (some ⟨w.heap.size + 1, 0, none⟩), .pointer (some ⟨w1.heap.size, 0, none⟩), .pointer (some ⟨w5.heap.size, 0, none⟩)]) ∧ w'.cell? ⟨w.heap.size, 0, none⟩ = some (.slice A0 l0.length c0) ∧ w'.cell? ⟨w.heap.size, 1, none⟩ = some (.slice A1 l1.length c1)) (ds := [9]) #[false, false, false, false, false, false, false, false, false, false, false] (by kernel_rfl) rfl rfl ⟨(blk_cell HDO_6.out 0).trans rfl, (blk_cell HD_6.out 0).trans rfl, (blk_cell HD_6.out 1).trans rfl⟩ (fun hHeld => ?_)
  generalize World.drew ((w5.alloc (.cells #[.string f] 9)).alloc (.cells #[.func (.func 32) #[] #[.pointer (some ⟨w.heap.size + 1, 0, none⟩), .pointer (some ⟨w1.heap.size, 0, none⟩), .pointer (some ⟨w5.heap.size, 0, none⟩)], .func (.func 34) #[] #[]] 68)) = w6 at HD_6 HI_6 HZ_6 HL_6 HX_6 HF_6 HDO_6 B_6 hHeld ⊢
  refine pure_ (i := 0) (N := some 66) (v := ?_) (a' := ?_) #[true, false, false, false, false, false, false, false, false, false, false] rfl rfl (by kernel_rfl) (fun _ _ _ h => h) (Or.inl ⟨by rfl, ?_⟩) ?_ ?_
  rotate_left
  · intro w'
    go_simp
    with_reducible rfl
  rotate_left
  · simp only [Act.put, List.setIfInBounds_toArray, List.set_cons_zero, List.set_cons_succ, i64_w, i32_w]
    rfl
  refine pure_ (i := 1) (N := some 67) (v := ?_) (a' := ?_) #[true, true, false, false, false, false, false, false, false, false, false] rfl rfl (by kernel_rfl) (fun _ _ _ h => h) (Or.inl ⟨by rfl, ?_⟩) ?_ ?_
  rotate_left
  · intro w'
    go_simp
    with_reducible rfl
  rotate_left
  · simp only [Act.put, List.setIfInBounds_toArray, List.set_cons_zero, List.set_cons_succ, i64_w, i32_w]
    rfl
  refine take_ (i := 2) (N := some 68) (v := ?_) (a' := ?_) #[true, true, true, false, false, false, false, false, false, false, false] rfl rfl (by kernel_rfl) (fun _ _ _ h => h) (Or.inl ⟨by rfl, ?_⟩) hHeld ?_ ?_
  rotate_left
  · rintro w' ⟨s0, s1, s2⟩
    go_simp
    with_reducible rfl
  rotate_left
  · simp only [Act.put, List.setIfInBounds_toArray, List.set_cons_zero, List.set_cons_succ, i64_w, i32_w]
    rfl
  refine take_ (i := 3) (N := some 69) (v := ?_) (a' := ?_) #[true, true, true, true, false, false, false, false, false, false, false] rfl rfl (by kernel_rfl) (fun _ _ _ h => h) (Or.inl ⟨by rfl, ?_⟩) hHeld ?_ ?_
  rotate_left
  · rintro w' ⟨s0, s1, s2⟩
    go_simp
    with_reducible rfl
  rotate_left
  · simp only [Act.put, List.setIfInBounds_toArray, List.set_cons_zero, List.set_cons_succ, i64_w, i32_w]
    rfl
  refine join_ (σ := Nat × Option Addr × Nat × Option Addr × Nat) 2 #[true, true, true, true, true, true, true, true, true, false, false] (fun s => [(70, .tuple #[.agg #[.slice s.2.1 b1.length s.2.2.1, .slice s.2.2.2.1 u1.length s.2.2.2.2], .int .i64 0]), (65, .tuple #[.agg #[.slice s.2.1 b1.length s.2.2.1, .slice s.2.2.2.1 u1.length s.2.2.2.2], .int .i64 0]), (71, .agg #[.slice s.2.1 b1.length s.2.2.1, .slice s.2.2.2.1 u1.length s.2.2.2.2]), (72, .int .i64 0), (19, .pointer (some ⟨s.1, 0, none⟩))]) (fun s w' => w'.heap[w.heap.size]? = some (.cells (#[.slice A0 l0.length c0, .slice A1 l1.length c1]) 25 (0, 0)) ∧ w'.heap[w.heap.size + 1]? = some (.cells (#[.int .i64 a]) 3 (0, 0)) ∧ w'.heap[w.heap.size + 1 + 1]? = some (.cells (#[.slice none 0 0, .slice none 0 0]) 25 (0, 0)) ∧ w'.heap[w1.heap.size]? = some (.cells (blkT n0 t0 k0 n1 t1 k1) 62 (0, 0)) ∧ w'.heap[w3.heap.size]? = some (.cells (#[.int .i64 xn, .string xt, .bool xk]) 61 (0, 0)) ∧ w'.heap[w5.heap.size]? = some (.cells (#[.string f]) 9 (0, 0)) ∧ w'.heap[w5.heap.size + 1]? = some (.cells (#[.func (.func 32) #[] #[.pointer (some ⟨w.heap.size + 1, 0, none⟩), .pointer (some ⟨w1.heap.size, 0, none⟩), .pointer (some ⟨w5.heap.size, 0, none⟩)], .func (.func 34) #[] #[]]) 68 (0, 0)) ∧ Below w.heap.size w w' ∧ w'.heap[s.1]? = some (.cells #[.slice none 0 0, .slice none 0 0] 25 (0, 0)) ∧ w6.heap.size ≤ s.1) ?_ ?_
  rotate_left
  · intro hCont
    refine two_ (i := 4) (j := 8) (Ni := some 70) (Nj := some 19) #[true, true, true, true, true, false, false, false, false, false, false] #[true, true, true, true, false, false, false, false, true, false, false] rfl rfl rfl rfl (by kernel_rfl) (by decide) (by decide) (fun K hK => ?_) (fun K hK => ?_)
    · skip
      refine Go.Proofs.Ytkgcaheddhfpgaa.CallV.goesV_ (first := #[]) (cap := #[.pointer (some ⟨w.heap.size + 1, 0, none⟩), .pointer (some ⟨w1.heap.size, 0, none⟩), .pointer (some ⟨w5.heap.size, 0, none⟩)]) Try.func32 (by kernel_rfl) rfl #[.agg #[.slice A0 l0.length c0, .slice A1 l1.length c1], .pointer (some ⟨w.heap.size + 1, 0, none⟩), .pointer (some ⟨w1.heap.size, 0, none⟩), .pointer (some ⟨w5.heap.size, 0, none⟩)] (by rfl) rfl rfl rfl (by first | (simp; done) | (simp; rfl)) ?_
      refine (HDeed.out (w6) w1.heap.size w5.heap.size B_6.out HI_6.out HL_6.out HF_6.out).mono ?_
      rintro e w7 ⟨v0, v1, rfl, hR0, hR1, hb⟩
      refine ⟨_, rfl, ?_⟩
      obtain ⟨A4, c4, rfl⟩ := Kd.R_slice hR0
      obtain ⟨A5, c5, rfl⟩ := Kd.R_slice hR1
      clear hR0 hR1
      have HD_7 := Aside0.mk (blk_below HD_6.out hb)
      have HI_7 := Aside0.mk (blk_below HI_6.out hb)
      have HZ_7 := Aside0.mk (blk_below HZ_6.out hb)
      have HL_7 := Aside0.mk (blk_below HL_6.out hb)
      have HX_7 := Aside0.mk (blk_below HX_6.out hb)
      have HF_7 := Aside0.mk (blk_below HF_6.out hb)
      have HDO_7 := Aside0.mk (blk_below HDO_6.out hb)
      have B_7 := Aside0.mk (B_6.out.trans (hb.mono B_6.out.size))
      have HS7 := Aside0.mk hb.size
      clear hb
      refine hK.out _ _ ⟨(blk_cell HDO_7.out 0).trans rfl, (blk_cell HD_7.out 0).trans rfl, (blk_cell HD_7.out 1).trans rfl⟩ (fun hHeld => ?_)
      clear hK K
      refine norm_ (a' := ?_) ?_ ?_
      rotate_left
      · show Act.put _ (some 70) _ = _
        simp only [Act.put, List.setIfInBounds_toArray, List.set_cons_zero, List.set_cons_succ, i64_w, i32_w]
        rfl
      refine pure_ (i := 5) (N := some 65) (v := ?_) (a' := ?_) #[true, true, true, true, true, true, false, false, false, false, false] rfl rfl (by kernel_rfl) (fun _ _ _ h => h) (Or.inl ⟨by rfl, ?_⟩) ?_ ?_
      rotate_left
      · intro w'
        go_simp
        with_reducible rfl
      rotate_left
      · simp only [Act.put, List.setIfInBounds_toArray, List.set_cons_zero, List.set_cons_succ, i64_w, i32_w]
        rfl
      refine pure_ (i := 6) (N := some 71) (v := ?_) (a' := ?_) #[true, true, true, true, true, true, true, false, false, false, false] rfl rfl (by kernel_rfl) (fun _ _ _ h => h) (Or.inl ⟨by rfl, ?_⟩) ?_ ?_
      rotate_left
      · intro w'
        go_simp
        with_reducible rfl
      rotate_left
      · simp only [Act.put, List.setIfInBounds_toArray, List.set_cons_zero, List.set_cons_succ, i64_w, i32_w]
        rfl
      refine pure_ (i := 7) (N := some 72) (v := ?_) (a' := ?_) #[true, true, true, true, true, true, true, true, false, false, false] rfl rfl (by kernel_rfl) (fun _ _ _ h => h) (Or.inl ⟨by rfl, ?_⟩) ?_ ?_
      rotate_left
      · intro w'
        go_simp
        with_reducible rfl
      rotate_left
      · simp only [Act.put, List.setIfInBounds_toArray, List.set_cons_zero, List.set_cons_succ, i64_w, i32_w]
        rfl
      refine one_ (i := 8) (N := some 19) #[true, true, true, true, true, true, true, true, true, false, false] rfl rfl (by kernel_rfl) (by decide) (fun K hK => ?_)
      refine value_ (w1 := ?_) (v := ?_) (by rfl) rfl ?_ ?_
      rotate_left 2
      · go_simp
        constructor
        · rfl
        · rfl
      have HD_8 := Aside0.mk (blk_alloc HD_7.out (.cells #[.slice none 0 0, .slice none 0 0] 25))
      have HI_8 := Aside0.mk (blk_alloc HI_7.out (.cells #[.slice none 0 0, .slice none 0 0] 25))
      have HZ_8 := Aside0.mk (blk_alloc HZ_7.out (.cells #[.slice none 0 0, .slice none 0 0] 25))
      have HL_8 := Aside0.mk (blk_alloc HL_7.out (.cells #[.slice none 0 0, .slice none 0 0] 25))
      have HX_8 := Aside0.mk (blk_alloc HX_7.out (.cells #[.slice none 0 0, .slice none 0 0] 25))
      have HF_8 := Aside0.mk (blk_alloc HF_7.out (.cells #[.slice none 0 0, .slice none 0 0] 25))
      have HDO_8 := Aside0.mk (blk_alloc HDO_7.out (.cells #[.slice none 0 0, .slice none 0 0] 25))
      have B_8 := Aside0.mk (B_7.out.alloc B_7.out.size (.cells #[.slice none 0 0, .slice none 0 0] 25))
      refine hK.out _ _ ⟨(blk_cell HDO_8.out 0).trans rfl, (blk_cell HD_8.out 0).trans rfl, (blk_cell HD_8.out 1).trans rfl⟩ (fun hHeld => ?_)
      clear hK K
      refine norm_ (a' := ?_) ?_ ?_
      rotate_left
      · show Act.put _ (some 19) _ = _
        simp only [Act.put, List.setIfInBounds_toArray, List.set_cons_zero, List.set_cons_succ, i64_w, i32_w]
        rfl
      exact norm_ (by simp only [putAll, Act.put, List.setIfInBounds_toArray, List.set_cons_zero, List.set_cons_succ]) (hCont (w7.heap.size, A4, c4, A5, c5) _ ⟨HD_8.out, HI_8.out, HZ_8.out, HL_8.out, HX_8.out, HF_8.out, HDO_8.out, B_8.out, blk_new w7 (.cells #[.slice none 0 0, .slice none 0 0] 25), HS7.out⟩)
    · skip
      refine value_ (w1 := ?_) (v := ?_) (by rfl) rfl ?_ ?_
      rotate_left 2
      · go_simp
        constructor
        · rfl
        · rfl
      have HD_7 := Aside0.mk (blk_alloc HD_6.out (.cells #[.slice none 0 0, .slice none 0 0] 25))
      have HI_7 := Aside0.mk (blk_alloc HI_6.out (.cells #[.slice none 0 0, .slice none 0 0] 25))
      have HZ_7 := Aside0.mk (blk_alloc HZ_6.out (.cells #[.slice none 0 0, .slice none 0 0] 25))
      have HL_7 := Aside0.mk (blk_alloc HL_6.out (.cells #[.slice none 0 0, .slice none 0 0] 25))
      have HX_7 := Aside0.mk (blk_alloc HX_6.out (.cells #[.slice none 0 0, .slice none 0 0] 25))
      have HF_7 := Aside0.mk (blk_alloc HF_6.out (.cells #[.slice none 0 0, .slice none 0 0] 25))
      have HDO_7 := Aside0.mk (blk_alloc HDO_6.out (.cells #[.slice none 0 0, .slice none 0 0] 25))
      have B_7 := Aside0.mk (B_6.out.alloc B_6.out.size (.cells #[.slice none 0 0, .slice none 0 0] 25))
      refine hK.out _ _ ⟨(blk_cell HDO_7.out 0).trans rfl, (blk_cell HD_7.out 0).trans rfl, (blk_cell HD_7.out 1).trans rfl⟩ (fun hHeld => ?_)
      clear hK K
      refine norm_ (a' := ?_) ?_ ?_
      rotate_left
      · show Act.put _ (some 19) _ = _
        simp only [Act.put, List.setIfInBounds_toArray, List.set_cons_zero, List.set_cons_succ, i64_w, i32_w]
        rfl
      refine one_ (i := 4) (N := some 70) #[true, true, true, true, true, false, false, false, true, false, false] rfl rfl (by kernel_rfl) (by decide) (fun K hK => ?_)
      refine Go.Proofs.Ytkgcaheddhfpgaa.CallV.goesV_ (first := #[]) (cap := #[.pointer (some ⟨w.heap.size + 1, 0, none⟩), .pointer (some ⟨w1.heap.size, 0, none⟩), .pointer (some ⟨w5.heap.size, 0, none⟩)]) Try.func32 (by kernel_rfl) rfl #[.agg #[.slice A0 l0.length c0, .slice A1 l1.length c1], .pointer (some ⟨w.heap.size + 1, 0, none⟩), .pointer (some ⟨w1.heap.size, 0, none⟩), .pointer (some ⟨w5.heap.size, 0, none⟩)] (by rfl) rfl rfl rfl (by first | (simp; done) | (simp; rfl)) ?_
      refine (HDeed.out (w6.alloc (.cells #[.slice none 0 0, .slice none 0 0] 25)) w1.heap.size w5.heap.size B_7.out HI_7.out HL_7.out HF_7.out).mono ?_
      rintro e w8 ⟨v0, v1, rfl, hR0, hR1, hb⟩
      refine ⟨_, rfl, ?_⟩
      obtain ⟨A4, c4, rfl⟩ := Kd.R_slice hR0
      obtain ⟨A5, c5, rfl⟩ := Kd.R_slice hR1
      clear hR0 hR1
      have HD_8 := Aside0.mk (blk_below HD_7.out hb)
      have HI_8 := Aside0.mk (blk_below HI_7.out hb)
      have HZ_8 := Aside0.mk (blk_below HZ_7.out hb)
      have HL_8 := Aside0.mk (blk_below HL_7.out hb)
      have HX_8 := Aside0.mk (blk_below HX_7.out hb)
      have HF_8 := Aside0.mk (blk_below HF_7.out hb)
      have HDO_8 := Aside0.mk (blk_below HDO_7.out hb)
      have B_8 := Aside0.mk (B_7.out.trans (hb.mono B_7.out.size))
      have HG8 := Aside0.mk (blk_below (blk_new w6 (.cells #[.slice none 0 0, .slice none 0 0] 25)) hb)
      clear hb
      refine hK.out _ _ ⟨(blk_cell HDO_8.out 0).trans rfl, (blk_cell HD_8.out 0).trans rfl, (blk_cell HD_8.out 1).trans rfl⟩ (fun hHeld => ?_)
      clear hK K
      refine norm_ (a' := ?_) ?_ ?_
      rotate_left
      · show Act.put _ (some 70) _ = _
        simp only [Act.put, List.setIfInBounds_toArray, List.set_cons_zero, List.set_cons_succ, i64_w, i32_w]
        rfl
      refine pure_ (i := 5) (N := some 65) (v := ?_) (a' := ?_) #[true, true, true, true, true, true, false, false, true, false, false] rfl rfl (by kernel_rfl) (fun _ _ _ h => h) (Or.inl ⟨by rfl, ?_⟩) ?_ ?_
      rotate_left
      · intro w'
        go_simp
        with_reducible rfl
      rotate_left
      · simp only [Act.put, List.setIfInBounds_toArray, List.set_cons_zero, List.set_cons_succ, i64_w, i32_w]
        rfl
      refine pure_ (i := 6) (N := some 71) (v := ?_) (a' := ?_) #[true, true, true, true, true, true, true, false, true, false, false] rfl rfl (by kernel_rfl) (fun _ _ _ h => h) (Or.inl ⟨by rfl, ?_⟩) ?_ ?_
      rotate_left
      · intro w'
        go_simp
        with_reducible rfl
      rotate_left
      · simp only [Act.put, List.setIfInBounds_toArray, List.set_cons_zero, List.set_cons_succ, i64_w, i32_w]
        rfl
      refine pure_ (i := 7) (N := some 72) (v := ?_) (a' := ?_) #[true, true, true, true, true, true, true, true, true, false, false] rfl rfl (by kernel_rfl) (fun _ _ _ h => h) (Or.inl ⟨by rfl, ?_⟩) ?_ ?_
      rotate_left
      · intro w'
        go_simp
        with_reducible rfl
      rotate_left
      · simp only [Act.put, List.setIfInBounds_toArray, List.set_cons_zero, List.set_cons_succ, i64_w, i32_w]
        rfl
      exact norm_ (by simp only [putAll, Act.put, List.setIfInBounds_toArray, List.set_cons_zero, List.set_cons_succ]) (hCont (w6.heap.size, A4, c4, A5, c5) _ ⟨HD_8.out, HI_8.out, HZ_8.out, HL_8.out, HX_8.out, HF_8.out, HDO_8.out, B_8.out, HG8.out, Nat.le_refl _⟩)
  rintro ⟨g, A4, c4, A5, c5⟩ w8 ⟨hD8, hI8, hZ8, hL8, hX8, hF8, hDO8, hB8, hG8, hLE⟩
  have HD_8 := Aside0.mk hD8
  have HI_8 := Aside0.mk hI8
  have HZ_8 := Aside0.mk hZ8
  have HL_8 := Aside0.mk hL8
  have HX_8 := Aside0.mk hX8
  have HF_8 := Aside0.mk hF8
  have HDO_8 := Aside0.mk hDO8
  have B_8 := Aside0.mk hB8
  have HG_8 := Aside0.mk hG8
  have HLE := Aside0.mk hLE
  clear hB8 hG8 hLE hD8 hI8 hZ8 hL8 hX8 hF8 hDO8
  have hHeld : w8.cell? ⟨w5.heap.size + 1, 0, none⟩ = some (.func (.func 32) #[] #[.pointer (some ⟨w.heap.size + 1, 0, none⟩), .pointer (some ⟨w1.heap.size, 0, none⟩), .pointer (some ⟨w5.heap.size, 0, none⟩)]) ∧ w8.cell? ⟨w.heap.size, 0, none⟩ = some (.slice A0 l0.length c0) ∧ w8.cell? ⟨w.heap.size, 1, none⟩ = some (.slice A1 l1.length c1) := ⟨(blk_cell HDO_8.out 0).trans rfl, (blk_cell HD_8.out 0).trans rfl, (blk_cell HD_8.out 1).trans rfl⟩
  have y0 := blk_cell HG_8.out 0
  have y1 := blk_cell HG_8.out 1
  have fy0 := blk_frozen HG_8.out 0
  have fy1 := blk_frozen HG_8.out 1
  refine norm_ (a' := ?_) ?_ ?_
  rotate_left
  · simp only [putAll, Act.put, List.setIfInBounds_toArray, List.set_cons_zero, List.set_cons_succ]
    rfl
  refine last_ (i := 9) (N := none) #[true, true, true, true, true, true, true, true, true, true, false] rfl rfl (by kernel_rfl) (by decide) (fun K hK => ?_)
  refine skip_ (w1 := ?_) (by rfl) rfl ?_ ?_
  rotate_left
  · go_simp
    rfl
  refine hK.out _ _ ?_
  clear hK K
  refine pure_ (i := 10) (N := some 20) (v := ?_) (a' := ?_) #[true, true, true, true, true, true, true, true, true, true, true] rfl rfl (by kernel_rfl) (fun _ _ _ h => h) (Or.inl ⟨by rfl, ?_⟩) ?_ ?_
  rotate_left
  · intro w'
    go_simp
    with_reducible rfl
  rotate_left
  · simp only [Act.put, List.setIfInBounds_toArray, List.set_cons_zero, List.set_cons_succ, i64_w, i32_w]
    rfl
  refine done_ (by kernel_rfl) ?_
  obtain ⟨w9, hw_⟩ : ∃ x_, x_ = (w8.setCell ⟨g, 0, none⟩ (.slice A4 b1.length c4)).setCell ⟨g, 1, none⟩ (.slice A5 u1.length c5) := ⟨_, rfl⟩
  rw [← hw_]
  have HD_9 := Aside0.mk (show w9.heap[w.heap.size]? = some (.cells (#[.slice A0 l0.length c0, .slice A1 l1.length c1]) 25 (0, 0)) by rw [hw_]; exact blk_far (blk_far HD_8.out (p := ⟨g, 0, none⟩) (by have h1 := blk_lt HD_6.out; have h2 := HLE.out; show w.heap.size ≠ g; omega) _) (p := ⟨g, 1, none⟩) (by have h1 := blk_lt HD_6.out; have h2 := HLE.out; show w.heap.size ≠ g; omega) _)
  have HI_9 := Aside0.mk (show w9.heap[w.heap.size + 1]? = some (.cells (#[.int .i64 a]) 3 (0, 0)) by rw [hw_]; exact blk_far (blk_far HI_8.out (p := ⟨g, 0, none⟩) (by have h1 := blk_lt HI_6.out; have h2 := HLE.out; show w.heap.size + 1 ≠ g; omega) _) (p := ⟨g, 1, none⟩) (by have h1 := blk_lt HI_6.out; have h2 := HLE.out; show w.heap.size + 1 ≠ g; omega) _)
  have HZ_9 := Aside0.mk (show w9.heap[w.heap.size + 1 + 1]? = some (.cells (#[.slice none 0 0, .slice none 0 0]) 25 (0, 0)) by rw [hw_]; exact blk_far (blk_far HZ_8.out (p := ⟨g, 0, none⟩) (by have h1 := blk_lt HZ_6.out; have h2 := HLE.out; show w.heap.size + 1 + 1 ≠ g; omega) _) (p := ⟨g, 1, none⟩) (by have h1 := blk_lt HZ_6.out; have h2 := HLE.out; show w.heap.size + 1 + 1 ≠ g; omega) _)
  have HL_9 := Aside0.mk (show w9.heap[w1.heap.size]? = some (.cells (blkT n0 t0 k0 n1 t1 k1) 62 (0, 0)) by rw [hw_]; exact blk_far (blk_far HL_8.out (p := ⟨g, 0, none⟩) (by have h1 := blk_lt HL_6.out; have h2 := HLE.out; show w1.heap.size ≠ g; omega) _) (p := ⟨g, 1, none⟩) (by have h1 := blk_lt HL_6.out; have h2 := HLE.out; show w1.heap.size ≠ g; omega) _)
  have HX_9 := Aside0.mk (show w9.heap[w3.heap.size]? = some (.cells (#[.int .i64 xn, .string xt, .bool xk]) 61 (0, 0)) by rw [hw_]; exact blk_far (blk_far HX_8.out (p := ⟨g, 0, none⟩) (by have h1 := blk_lt HX_6.out; have h2 := HLE.out; show w3.heap.size ≠ g; omega) _) (p := ⟨g, 1, none⟩) (by have h1 := blk_lt HX_6.out; have h2 := HLE.out; show w3.heap.size ≠ g; omega) _)
  have HF_9 := Aside0.mk (show w9.heap[w5.heap.size]? = some (.cells (#[.string f]) 9 (0, 0)) by rw [hw_]; exact blk_far (blk_far HF_8.out (p := ⟨g, 0, none⟩) (by have h1 := blk_lt HF_6.out; have h2 := HLE.out; show w5.heap.size ≠ g; omega) _) (p := ⟨g, 1, none⟩) (by have h1 := blk_lt HF_6.out; have h2 := HLE.out; show w5.heap.size ≠ g; omega) _)
  have HDO_9 := Aside0.mk (show w9.heap[w5.heap.size + 1]? = some (.cells (#[.func (.func 32) #[] #[.pointer (some ⟨w.heap.size + 1, 0, none⟩), .pointer (some ⟨w1.heap.size, 0, none⟩), .pointer (some ⟨w5.heap.size, 0, none⟩)], .func (.func 34) #[] #[]]) 68 (0, 0)) by rw [hw_]; exact blk_far (blk_far HDO_8.out (p := ⟨g, 0, none⟩) (by have h1 := blk_lt HDO_6.out; have h2 := HLE.out; show w5.heap.size + 1 ≠ g; omega) _) (p := ⟨g, 1, none⟩) (by have h1 := blk_lt HDO_6.out; have h2 := HLE.out; show w5.heap.size + 1 ≠ g; omega) _)
  have HG_9 := Aside0.mk (show w9.heap[g]? = some (.cells (#[.slice A4 b1.length c4, .slice A5 u1.length c5]) 25 (0, 0)) by rw [hw_]; exact blk_set (blk_set HG_8.out 0 (.slice A4 b1.length c4)) 1 (.slice A5 u1.length c5))
  have B_9 := Aside0.mk (show Below w.heap.size w w9 by rw [hw_]; exact (B_8.out.setCell (p := ⟨g, 0, none⟩) (by have h1 := B_6.out.size; have h2 := HLE.out; show w.heap.size ≤ g; omega) _).setCell (p := ⟨g, 1, none⟩) (by have h1 := B_6.out.size; have h2 := HLE.out; show w.heap.size ≤ g; omega) _)
  clear hw_
  clear hHeld
  rcases HDD.out with hd | hd | hd
  case' inl => (have hdb : decide (deeds < 0) = true := decide_eq_true hd; clear hd; go_wp2)
  case' inr.inl => (subst hd; go_wp2)
  case' inr.inr => (have hdb : decide (deeds < 0) = false := decide_eq_false (by omega); have hdc : decide (2 < deeds) = true := decide_eq_true hd; clear hd; go_wp2)
  all_goals
    have HD_10 := Aside0.mk (blk_drew HD_9.out)
    have HI_10 := Aside0.mk (blk_drew HI_9.out)
    have HZ_10 := Aside0.mk (blk_drew HZ_9.out)
    have HL_10 := Aside0.mk (blk_drew HL_9.out)
    have HX_10 := Aside0.mk (blk_drew HX_9.out)
    have HF_10 := Aside0.mk (blk_drew HF_9.out)
    have HDO_10 := Aside0.mk (blk_drew HDO_9.out)
    have HG_10 := Aside0.mk (blk_drew HG_9.out)
    have B_10 := Aside0.mk (below_drew1 B_9.out)
    refine start_ (n := 9) (S := fun w' => w'.cell? ⟨w.heap.size, 0, none⟩ = some (.slice A0 l0.length c0) ∧ w'.cell? ⟨w.heap.size, 1, none⟩ = some (.slice A1 l1.length c1)) (ds := [8]) #[false, false, false, false, false, false, false, false, false] (by kernel_rfl) rfl rfl ⟨(blk_cell HD_10.out 0).trans rfl, (blk_cell HD_10.out 1).trans rfl⟩ (fun hHeld => ?_)
    generalize World.drew w9 = w10 at HD_10 HI_10 HZ_10 HL_10 HX_10 HF_10 HDO_10 HG_10 B_10 hHeld ⊢
    refine pure_ (i := 0) (N := some 87) (v := ?_) (a' := ?_) #[true, false, false, false, false, false, false, false, false] rfl rfl (by kernel_rfl) (fun _ _ _ h => h) (Or.inl ⟨by rfl, ?_⟩) ?_ ?_
    rotate_left
    · intro w'
      go_simp
      with_reducible rfl
    rotate_left
    · simp only [Act.put, List.setIfInBounds_toArray, List.set_cons_zero, List.set_cons_succ, i64_w, i32_w]
      rfl
    refine pure_ (i := 3) (N := some 90) (v := ?_) (a' := ?_) #[true, false, false, true, false, false, false, false, false] rfl rfl (by kernel_rfl) (fun _ _ _ h => h) (Or.inl ⟨by rfl, ?_⟩) ?_ ?_
    rotate_left
    · intro w'
      go_simp
      with_reducible rfl
    rotate_left
    · simp only [Act.put, List.setIfInBounds_toArray, List.set_cons_zero, List.set_cons_succ, i64_w, i32_w]
      rfl
    refine take_ (i := 1) (N := some 88) (v := ?_) (a' := ?_) #[true, true, false, true, false, false, false, false, false] rfl rfl (by kernel_rfl) (fun _ _ _ h => h) (Or.inl ⟨by rfl, ?_⟩) hHeld ?_ ?_
    rotate_left
    · rintro w' ⟨s0, s1⟩
      go_simp
      with_reducible rfl
    rotate_left
    · simp only [Act.put, List.setIfInBounds_toArray, List.set_cons_zero, List.set_cons_succ, i64_w, i32_w]
      rfl
    refine take_ (i := 4) (N := some 91) (v := ?_) (a' := ?_) #[true, true, false, true, true, false, false, false, false] rfl rfl (by kernel_rfl) (fun _ _ _ h => h) (Or.inl ⟨by rfl, ?_⟩) hHeld ?_ ?_
    rotate_left
    · rintro w' ⟨s0, s1⟩
      go_simp
      with_reducible rfl
    rotate_left
    · simp only [Act.put, List.setIfInBounds_toArray, List.set_cons_zero, List.set_cons_succ, i64_w, i32_w]
      rfl
    refine join_ (σ := Nat × Option Addr × Nat × Option Addr × Nat) 1 #[true, true, true, true, true, true, true, true, false] (fun s => [(89, .slice s.2.1 l0.length s.2.2.1), (92, .slice s.2.2.2.1 l1.length s.2.2.2.2), (93, .agg #[.slice s.2.1 l0.length s.2.2.1, .slice s.2.2.2.1 l1.length s.2.2.2.2]), (21, .pointer (some ⟨s.1, 0, none⟩))]) (fun s w' => w'.heap[w.heap.size]? = some (.cells (#[.slice A0 l0.length c0, .slice A1 l1.length c1]) 25 (0, 0)) ∧ w'.heap[w.heap.size + 1]? = some (.cells (#[.int .i64 a]) 3 (0, 0)) ∧ w'.heap[w.heap.size + 1 + 1]? = some (.cells (#[.slice none 0 0, .slice none 0 0]) 25 (0, 0)) ∧ w'.heap[w1.heap.size]? = some (.cells (blkT n0 t0 k0 n1 t1 k1) 62 (0, 0)) ∧ w'.heap[w3.heap.size]? = some (.cells (#[.int .i64 xn, .string xt, .bool xk]) 61 (0, 0)) ∧ w'.heap[w5.heap.size]? = some (.cells (#[.string f]) 9 (0, 0)) ∧ w'.heap[w5.heap.size + 1]? = some (.cells (#[.func (.func 32) #[] #[.pointer (some ⟨w.heap.size + 1, 0, none⟩), .pointer (some ⟨w1.heap.size, 0, none⟩), .pointer (some ⟨w5.heap.size, 0, none⟩)], .func (.func 34) #[] #[]]) 68 (0, 0)) ∧ w'.heap[g]? = some (.cells (#[.slice A4 b1.length c4, .slice A5 u1.length c5]) 25 (0, 0)) ∧ Below w.heap.size w w' ∧ w'.heap[s.1]? = some (.cells #[.slice none 0 0, .slice none 0 0] 25 (0, 0)) ∧ w10.heap.size ≤ s.1 ∧ Kd.R Kd.string 9 w' w.heap.size (fun _ => True) (.slice s.2.1 l0.length s.2.2.1) l0 ∧ Kd.R k73 73 w' w.heap.size (fun _ => True) (.slice s.2.2.2.1 l1.length s.2.2.2.2) l1) ?_ ?_
    rotate_left
    · intro hCont
      refine two_ (i := 2) (j := 7) (Ni := some 89) (Nj := some 21) #[true, true, true, true, true, false, false, false, false] #[true, true, false, true, true, false, false, true, false] rfl rfl rfl rfl (by kernel_rfl) (by decide) (by decide) (fun K hK => ?_) (fun K hK => ?_)
      · skip
        refine goes_ Try.func35 (by kernel_rfl) rfl #[.slice A0 l0.length c0] (by rfl) rfl rfl (by (try simp only [List.map_toArray, List.map_cons, List.map_nil]); first | done | rfl) ?_
        refine (HClone0.out (w10) B_10.out).mono ?_
        rintro e w11 ⟨xa, rfl, hR, hb⟩
        refine ⟨_, rfl, ?_⟩
        obtain ⟨Aa, ca, rfl⟩ := Kd.R_slice hR
        have hR_ := Kd.R_lower hR B_10.out.size
        clear hR
        have HD_11 := Aside0.mk (blk_below HD_10.out hb)
        have HI_11 := Aside0.mk (blk_below HI_10.out hb)
        have HZ_11 := Aside0.mk (blk_below HZ_10.out hb)
        have HL_11 := Aside0.mk (blk_below HL_10.out hb)
        have HX_11 := Aside0.mk (blk_below HX_10.out hb)
        have HF_11 := Aside0.mk (blk_below HF_10.out hb)
        have HDO_11 := Aside0.mk (blk_below HDO_10.out hb)
        have HG_11 := Aside0.mk (blk_below HG_10.out hb)
        have B_11 := Aside0.mk (B_10.out.trans (hb.mono B_10.out.size))
        have OV_11 := Aside0.mk hR_
        clear hR_
        have HS := Aside0.mk hb.size
        clear hb
        refine hK.out _ _ ⟨(blk_cell HD_11.out 0).trans rfl, (blk_cell HD_11.out 1).trans rfl⟩ (fun hHeld => ?_)
        clear hK K
        refine norm_ (a' := ?_) ?_ ?_
        rotate_left
        · show Act.put _ (some 89) _ = _
          simp only [Act.put, List.setIfInBounds_toArray, List.set_cons_zero, List.set_cons_succ, i64_w, i32_w]
          rfl
        refine two_ (i := 5) (j := 7) (Ni := some 92) (Nj := some 21) #[true, true, true, true, true, true, false, false, false] #[true, true, true, true, true, false, false, true, false] rfl rfl rfl rfl (by kernel_rfl) (by decide) (by decide) (fun K hK => ?_) (fun K hK => ?_)
        · skip
          refine goes_ Try.func36 (by kernel_rfl) rfl #[.slice A1 l1.length c1] (by rfl) rfl rfl (by (try simp only [List.map_toArray, List.map_cons, List.map_nil]); first | done | rfl) ?_
          refine (HClone1.out (w11) B_11.out).mono ?_
          rintro e w12 ⟨xb, rfl, hR, hb⟩
          refine ⟨_, rfl, ?_⟩
          obtain ⟨Ab, cb, rfl⟩ := Kd.R_slice hR
          have hR_ := Kd.R_lower hR B_11.out.size
          clear hR
          have HD_12 := Aside0.mk (blk_below HD_11.out hb)
          have HI_12 := Aside0.mk (blk_below HI_11.out hb)
          have HZ_12 := Aside0.mk (blk_below HZ_11.out hb)
          have HL_12 := Aside0.mk (blk_below HL_11.out hb)
          have HX_12 := Aside0.mk (blk_below HX_11.out hb)
          have HF_12 := Aside0.mk (blk_below HF_11.out hb)
          have HDO_12 := Aside0.mk (blk_below HDO_11.out hb)
          have HG_12 := Aside0.mk (blk_below HG_11.out hb)
          have OV_12 := Aside0.mk (Kd.R_below OV_11.out hb)
          have B_12 := Aside0.mk (B_11.out.trans (hb.mono B_11.out.size))
          have OU_12 := Aside0.mk hR_
          clear hR_
          have HS := Aside0.mk (Nat.le_trans HS.out hb.size)
          clear hb
          refine hK.out _ _ ⟨(blk_cell HD_12.out 0).trans rfl, (blk_cell HD_12.out 1).trans rfl⟩ (fun hHeld => ?_)
          clear hK K
          refine norm_ (a' := ?_) ?_ ?_
          rotate_left
          · show Act.put _ (some 92) _ = _
            simp only [Act.put, List.setIfInBounds_toArray, List.set_cons_zero, List.set_cons_succ, i64_w, i32_w]
            rfl
          refine pure_ (i := 6) (N := some 93) (v := ?_) (a' := ?_) #[true, true, true, true, true, true, true, false, false] rfl rfl (by kernel_rfl) (fun _ _ _ h => h) (Or.inl ⟨by rfl, ?_⟩) ?_ ?_
          rotate_left
          · intro w'
            go_simp
            with_reducible rfl
          rotate_left
          · simp only [Act.put, List.setIfInBounds_toArray, List.set_cons_zero, List.set_cons_succ, i64_w, i32_w]
            rfl
          refine one_ (i := 7) (N := some 21) #[true, true, true, true, true, true, true, true, false] rfl rfl (by kernel_rfl) (by decide) (fun K hK => ?_)
          refine value_ (w1 := ?_) (v := ?_) (by rfl) rfl ?_ ?_
          rotate_left 2
          · go_simp
            constructor
            · rfl
            · rfl
          have HS13 := Aside0.mk (show w10.heap.size ≤ (w12).heap.size by exact HS.out)
          have HD_13 := Aside0.mk (blk_alloc HD_12.out (.cells #[.slice none 0 0, .slice none 0 0] 25))
          have HI_13 := Aside0.mk (blk_alloc HI_12.out (.cells #[.slice none 0 0, .slice none 0 0] 25))
          have HZ_13 := Aside0.mk (blk_alloc HZ_12.out (.cells #[.slice none 0 0, .slice none 0 0] 25))
          have HL_13 := Aside0.mk (blk_alloc HL_12.out (.cells #[.slice none 0 0, .slice none 0 0] 25))
          have HX_13 := Aside0.mk (blk_alloc HX_12.out (.cells #[.slice none 0 0, .slice none 0 0] 25))
          have HF_13 := Aside0.mk (blk_alloc HF_12.out (.cells #[.slice none 0 0, .slice none 0 0] 25))
          have HDO_13 := Aside0.mk (blk_alloc HDO_12.out (.cells #[.slice none 0 0, .slice none 0 0] 25))
          have HG_13 := Aside0.mk (blk_alloc HG_12.out (.cells #[.slice none 0 0, .slice none 0 0] 25))
          have OV_13 := Aside0.mk (Kd.R_alloc OV_12.out (.cells #[.slice none 0 0, .slice none 0 0] 25))
          have OU_13 := Aside0.mk (Kd.R_alloc OU_12.out (.cells #[.slice none 0 0, .slice none 0 0] 25))
          have B_13 := Aside0.mk (B_12.out.alloc B_12.out.size (.cells #[.slice none 0 0, .slice none 0 0] 25))
          have HN_13 := Aside0.mk (show (w12.alloc (.cells #[.slice none 0 0, .slice none 0 0] 25)).heap[w12.heap.size]? = _ from blk_new (w12) (.cells #[.slice none 0 0, .slice none 0 0] 25))
          refine hK.out _ _ ⟨(blk_cell HD_13.out 0).trans rfl, (blk_cell HD_13.out 1).trans rfl⟩ (fun hHeld => ?_)
          clear hK K
          refine norm_ (a' := ?_) ?_ ?_
          rotate_left
          · show Act.put _ (some 21) _ = _
            simp only [Act.put, List.setIfInBounds_toArray, List.set_cons_zero, List.set_cons_succ, i64_w, i32_w]
            rfl
          exact norm_ (by simp only [putAll, Act.put, List.setIfInBounds_toArray, List.set_cons_zero, List.set_cons_succ]) (hCont (w12.heap.size, Aa, ca, Ab, cb) _ ⟨HD_13.out, HI_13.out, HZ_13.out, HL_13.out, HX_13.out, HF_13.out, HDO_13.out, HG_13.out, B_13.out, HN_13.out, HS13.out, OV_13.out, OU_13.out⟩)
        · skip
          refine value_ (w1 := ?_) (v := ?_) (by rfl) rfl ?_ ?_
          rotate_left 2
          · go_simp
            constructor
            · rfl
            · rfl
          have HS12 := Aside0.mk (show w10.heap.size ≤ (w11).heap.size by exact HS.out)
          have HD_12 := Aside0.mk (blk_alloc HD_11.out (.cells #[.slice none 0 0, .slice none 0 0] 25))
          have HI_12 := Aside0.mk (blk_alloc HI_11.out (.cells #[.slice none 0 0, .slice none 0 0] 25))
          have HZ_12 := Aside0.mk (blk_alloc HZ_11.out (.cells #[.slice none 0 0, .slice none 0 0] 25))
          have HL_12 := Aside0.mk (blk_alloc HL_11.out (.cells #[.slice none 0 0, .slice none 0 0] 25))
          have HX_12 := Aside0.mk (blk_alloc HX_11.out (.cells #[.slice none 0 0, .slice none 0 0] 25))
          have HF_12 := Aside0.mk (blk_alloc HF_11.out (.cells #[.slice none 0 0, .slice none 0 0] 25))
          have HDO_12 := Aside0.mk (blk_alloc HDO_11.out (.cells #[.slice none 0 0, .slice none 0 0] 25))
          have HG_12 := Aside0.mk (blk_alloc HG_11.out (.cells #[.slice none 0 0, .slice none 0 0] 25))
          have OV_12 := Aside0.mk (Kd.R_alloc OV_11.out (.cells #[.slice none 0 0, .slice none 0 0] 25))
          have B_12 := Aside0.mk (B_11.out.alloc B_11.out.size (.cells #[.slice none 0 0, .slice none 0 0] 25))
          have HN_12 := Aside0.mk (show (w11.alloc (.cells #[.slice none 0 0, .slice none 0 0] 25)).heap[w11.heap.size]? = _ from blk_new (w11) (.cells #[.slice none 0 0, .slice none 0 0] 25))
          refine hK.out _ _ ⟨(blk_cell HD_12.out 0).trans rfl, (blk_cell HD_12.out 1).trans rfl⟩ (fun hHeld => ?_)
          clear hK K
          refine norm_ (a' := ?_) ?_ ?_
          rotate_left
          · show Act.put _ (some 21) _ = _
            simp only [Act.put, List.setIfInBounds_toArray, List.set_cons_zero, List.set_cons_succ, i64_w, i32_w]
            rfl
          refine one_ (i := 5) (N := some 92) #[true, true, true, true, true, true, false, true, false] rfl rfl (by kernel_rfl) (by decide) (fun K hK => ?_)
          refine goes_ Try.func36 (by kernel_rfl) rfl #[.slice A1 l1.length c1] (by rfl) rfl rfl (by (try simp only [List.map_toArray, List.map_cons, List.map_nil]); first | done | rfl) ?_
          refine (HClone1.out ((w11.alloc (.cells #[.slice none 0 0, .slice none 0 0] 25))) B_12.out).mono ?_
          rintro e w13 ⟨xb, rfl, hR, hb⟩
          refine ⟨_, rfl, ?_⟩
          obtain ⟨Ab, cb, rfl⟩ := Kd.R_slice hR
          have hR_ := Kd.R_lower hR B_12.out.size
          clear hR
          have HD_13 := Aside0.mk (blk_below HD_12.out hb)
          have HI_13 := Aside0.mk (blk_below HI_12.out hb)
          have HZ_13 := Aside0.mk (blk_below HZ_12.out hb)
          have HL_13 := Aside0.mk (blk_below HL_12.out hb)
          have HX_13 := Aside0.mk (blk_below HX_12.out hb)
          have HF_13 := Aside0.mk (blk_below HF_12.out hb)
          have HDO_13 := Aside0.mk (blk_below HDO_12.out hb)
          have HG_13 := Aside0.mk (blk_below HG_12.out hb)
          have HN_13 := Aside0.mk (blk_below HN_12.out hb)
          have OV_13 := Aside0.mk (Kd.R_below OV_12.out hb)
          have B_13 := Aside0.mk (B_12.out.trans (hb.mono B_12.out.size))
          have OU_13 := Aside0.mk hR_
          clear hR_
          clear hb
          refine hK.out _ _ ⟨(blk_cell HD_13.out 0).trans rfl, (blk_cell HD_13.out 1).trans rfl⟩ (fun hHeld => ?_)
          clear hK K
          refine norm_ (a' := ?_) ?_ ?_
          rotate_left
          · show Act.put _ (some 92) _ = _
            simp only [Act.put, List.setIfInBounds_toArray, List.set_cons_zero, List.set_cons_succ, i64_w, i32_w]
            rfl
          refine pure_ (i := 6) (N := some 93) (v := ?_) (a' := ?_) #[true, true, true, true, true, true, true, true, false] rfl rfl (by kernel_rfl) (fun _ _ _ h => h) (Or.inl ⟨by rfl, ?_⟩) ?_ ?_
          rotate_left
          · intro w'
            go_simp
            with_reducible rfl
          rotate_left
          · simp only [Act.put, List.setIfInBounds_toArray, List.set_cons_zero, List.set_cons_succ, i64_w, i32_w]
            rfl
          exact norm_ (by simp only [putAll, Act.put, List.setIfInBounds_toArray, List.set_cons_zero, List.set_cons_succ]) (hCont (w11.heap.size, Aa, ca, Ab, cb) _ ⟨HD_13.out, HI_13.out, HZ_13.out, HL_13.out, HX_13.out, HF_13.out, HDO_13.out, HG_13.out, B_13.out, HN_13.out, HS12.out, OV_13.out, OU_13.out⟩)
      · skip
        refine value_ (w1 := ?_) (v := ?_) (by rfl) rfl ?_ ?_
        rotate_left 2
        · go_simp
          constructor
          · rfl
          · rfl
        have HS11 := Aside0.mk (show w10.heap.size ≤ (w10).heap.size by exact Nat.le_refl _)
        have HD_11 := Aside0.mk (blk_alloc HD_10.out (.cells #[.slice none 0 0, .slice none 0 0] 25))
        have HI_11 := Aside0.mk (blk_alloc HI_10.out (.cells #[.slice none 0 0, .slice none 0 0] 25))
        have HZ_11 := Aside0.mk (blk_alloc HZ_10.out (.cells #[.slice none 0 0, .slice none 0 0] 25))
        have HL_11 := Aside0.mk (blk_alloc HL_10.out (.cells #[.slice none 0 0, .slice none 0 0] 25))
        have HX_11 := Aside0.mk (blk_alloc HX_10.out (.cells #[.slice none 0 0, .slice none 0 0] 25))
        have HF_11 := Aside0.mk (blk_alloc HF_10.out (.cells #[.slice none 0 0, .slice none 0 0] 25))
        have HDO_11 := Aside0.mk (blk_alloc HDO_10.out (.cells #[.slice none 0 0, .slice none 0 0] 25))
        have HG_11 := Aside0.mk (blk_alloc HG_10.out (.cells #[.slice none 0 0, .slice none 0 0] 25))
        have B_11 := Aside0.mk (B_10.out.alloc B_10.out.size (.cells #[.slice none 0 0, .slice none 0 0] 25))
        have HN_11 := Aside0.mk (show (w10.alloc (.cells #[.slice none 0 0, .slice none 0 0] 25)).heap[w10.heap.size]? = _ from blk_new (w10) (.cells #[.slice none 0 0, .slice none 0 0] 25))
        refine hK.out _ _ ⟨(blk_cell HD_11.out 0).trans rfl, (blk_cell HD_11.out 1).trans rfl⟩ (fun hHeld => ?_)
        clear hK K
        refine norm_ (a' := ?_) ?_ ?_
        rotate_left
        · show Act.put _ (some 21) _ = _
          simp only [Act.put, List.setIfInBounds_toArray, List.set_cons_zero, List.set_cons_succ, i64_w, i32_w]
          rfl
        refine one_ (i := 2) (N := some 89) #[true, true, true, true, true, false, false, true, false] rfl rfl (by kernel_rfl) (by decide) (fun K hK => ?_)
        refine goes_ Try.func35 (by kernel_rfl) rfl #[.slice A0 l0.length c0] (by rfl) rfl rfl (by (try simp only [List.map_toArray, List.map_cons, List.map_nil]); first | done | rfl) ?_
        refine (HClone0.out ((w10.alloc (.cells #[.slice none 0 0, .slice none 0 0] 25))) B_11.out).mono ?_
        rintro e w12 ⟨xa, rfl, hR, hb⟩
        refine ⟨_, rfl, ?_⟩
        obtain ⟨Aa, ca, rfl⟩ := Kd.R_slice hR
        have hR_ := Kd.R_lower hR B_11.out.size
        clear hR
        have HD_12 := Aside0.mk (blk_below HD_11.out hb)
        have HI_12 := Aside0.mk (blk_below HI_11.out hb)
        have HZ_12 := Aside0.mk (blk_below HZ_11.out hb)
        have HL_12 := Aside0.mk (blk_below HL_11.out hb)
        have HX_12 := Aside0.mk (blk_below HX_11.out hb)
        have HF_12 := Aside0.mk (blk_below HF_11.out hb)
        have HDO_12 := Aside0.mk (blk_below HDO_11.out hb)
        have HG_12 := Aside0.mk (blk_below HG_11.out hb)
        have HN_12 := Aside0.mk (blk_below HN_11.out hb)
        have B_12 := Aside0.mk (B_11.out.trans (hb.mono B_11.out.size))
        have OV_12 := Aside0.mk hR_
        clear hR_
        clear hb
        refine hK.out _ _ ⟨(blk_cell HD_12.out 0).trans rfl, (blk_cell HD_12.out 1).trans rfl⟩ (fun hHeld => ?_)
        clear hK K
        refine norm_ (a' := ?_) ?_ ?_
        rotate_left
        · show Act.put _ (some 89) _ = _
          simp only [Act.put, List.setIfInBounds_toArray, List.set_cons_zero, List.set_cons_succ, i64_w, i32_w]
          rfl
        refine one_ (i := 5) (N := some 92) #[true, true, true, true, true, true, false, true, false] rfl rfl (by kernel_rfl) (by decide) (fun K hK => ?_)
        refine goes_ Try.func36 (by kernel_rfl) rfl #[.slice A1 l1.length c1] (by rfl) rfl rfl (by (try simp only [List.map_toArray, List.map_cons, List.map_nil]); first | done | rfl) ?_
        refine (HClone1.out (w12) B_12.out).mono ?_
        rintro e w13 ⟨xb, rfl, hR, hb⟩
        refine ⟨_, rfl, ?_⟩
        obtain ⟨Ab, cb, rfl⟩ := Kd.R_slice hR
        have hR_ := Kd.R_lower hR B_12.out.size
        clear hR
        have HD_13 := Aside0.mk (blk_below HD_12.out hb)
        have HI_13 := Aside0.mk (blk_below HI_12.out hb)
        have HZ_13 := Aside0.mk (blk_below HZ_12.out hb)
        have HL_13 := Aside0.mk (blk_below HL_12.out hb)
        have HX_13 := Aside0.mk (blk_below HX_12.out hb)
        have HF_13 := Aside0.mk (blk_below HF_12.out hb)
        have HDO_13 := Aside0.mk (blk_below HDO_12.out hb)
        have HG_13 := Aside0.mk (blk_below HG_12.out hb)
        have HN_13 := Aside0.mk (blk_below HN_12.out hb)
        have OV_13 := Aside0.mk (Kd.R_below OV_12.out hb)
        have B_13 := Aside0.mk (B_12.out.trans (hb.mono B_12.out.size))
        have OU_13 := Aside0.mk hR_
        clear hR_
        clear hb
        refine hK.out _ _ ⟨(blk_cell HD_13.out 0).trans rfl, (blk_cell HD_13.out 1).trans rfl⟩ (fun hHeld => ?_)
        clear hK K
        refine norm_ (a' := ?_) ?_ ?_
        rotate_left
        · show Act.put _ (some 92) _ = _
          simp only [Act.put, List.setIfInBounds_toArray, List.set_cons_zero, List.set_cons_succ, i64_w, i32_w]
          rfl
        refine pure_ (i := 6) (N := some 93) (v := ?_) (a' := ?_) #[true, true, true, true, true, true, true, true, false] rfl rfl (by kernel_rfl) (fun _ _ _ h => h) (Or.inl ⟨by rfl, ?_⟩) ?_ ?_
        rotate_left
        · intro w'
          go_simp
          with_reducible rfl
        rotate_left
        · simp only [Act.put, List.setIfInBounds_toArray, List.set_cons_zero, List.set_cons_succ, i64_w, i32_w]
          rfl
        exact norm_ (by simp only [putAll, Act.put, List.setIfInBounds_toArray, List.set_cons_zero, List.set_cons_succ]) (hCont (w10.heap.size, Aa, ca, Ab, cb) _ ⟨HD_13.out, HI_13.out, HZ_13.out, HL_13.out, HX_13.out, HF_13.out, HDO_13.out, HG_13.out, B_13.out, HN_13.out, HS11.out, OV_13.out, OU_13.out⟩)
    rintro ⟨gn, Aa, ca, Ab, cb⟩ w14 ⟨hD14, hI14, hZ14, hL14, hX14, hF14, hDO14, hG14, hB14, hN14, hLE2, hV14, hU14⟩
    have HD_14 := Aside0.mk hD14
    have HI_14 := Aside0.mk hI14
    have HZ_14 := Aside0.mk hZ14
    have HL_14 := Aside0.mk hL14
    have HX_14 := Aside0.mk hX14
    have HF_14 := Aside0.mk hF14
    have HDO_14 := Aside0.mk hDO14
    have HG_14 := Aside0.mk hG14
    have B_14 := Aside0.mk hB14
    have HN_14 := Aside0.mk hN14
    have HLE2 := Aside0.mk hLE2
    have OV_14 := Aside0.mk hV14
    have OU_14 := Aside0.mk hU14
    clear hB14 hN14 hLE2 hV14 hU14 hD14 hI14 hZ14 hL14 hX14 hF14 hDO14 hG14
    have hHeld : w14.cell? ⟨w.heap.size, 0, none⟩ = some (.slice A0 l0.length c0) ∧ w14.cell? ⟨w.heap.size, 1, none⟩ = some (.slice A1 l1.length c1) := ⟨(blk_cell HD_14.out 0).trans rfl, (blk_cell HD_14.out 1).trans rfl⟩
    have y0 := blk_cell HN_14.out 0
    have y1 := blk_cell HN_14.out 1
    have fy0 := blk_frozen HN_14.out 0
    have fy1 := blk_frozen HN_14.out 1
    refine norm_ (a' := ?_) ?_ ?_
    rotate_left
    · simp only [putAll, Act.put, List.setIfInBounds_toArray, List.set_cons_zero, List.set_cons_succ]
      rfl
    refine last_ (i := 8) (N := none) #[true, true, true, true, true, true, true, true, true] rfl rfl (by kernel_rfl) (by decide) (fun K hK => ?_)
    refine skip_ (w1 := ?_) (by rfl) rfl ?_ ?_
    rotate_left
    · go_simp
      rfl
    refine hK.out _ _ ?_
    clear hK K
    refine done_ (by kernel_rfl) ?_
    obtain ⟨w15, hw_⟩ : ∃ x_, x_ = (w14.setCell ⟨gn, 0, none⟩ (.slice Aa l0.length ca)).setCell ⟨gn, 1, none⟩ (.slice Ab l1.length cb) := ⟨_, rfl⟩
    rw [← hw_]
    have HD_15 := Aside0.mk (show w15.heap[w.heap.size]? = some (.cells (#[.slice A0 l0.length c0, .slice A1 l1.length c1]) 25 (0, 0)) by rw [hw_]; exact blk_far (blk_far HD_14.out (p := ⟨gn, 0, none⟩) (by have h1 := blk_lt HD_10.out; have h2 := HLE2.out; show w.heap.size ≠ gn; omega) _) (p := ⟨gn, 1, none⟩) (by have h1 := blk_lt HD_10.out; have h2 := HLE2.out; show w.heap.size ≠ gn; omega) _)
    have HI_15 := Aside0.mk (show w15.heap[w.heap.size + 1]? = some (.cells (#[.int .i64 a]) 3 (0, 0)) by rw [hw_]; exact blk_far (blk_far HI_14.out (p := ⟨gn, 0, none⟩) (by have h1 := blk_lt HI_10.out; have h2 := HLE2.out; show w.heap.size + 1 ≠ gn; omega) _) (p := ⟨gn, 1, none⟩) (by have h1 := blk_lt HI_10.out; have h2 := HLE2.out; show w.heap.size + 1 ≠ gn; omega) _)
    have HZ_15 := Aside0.mk (show w15.heap[w.heap.size + 1 + 1]? = some (.cells (#[.slice none 0 0, .slice none 0 0]) 25 (0, 0)) by rw [hw_]; exact blk_far (blk_far HZ_14.out (p := ⟨gn, 0, none⟩) (by have h1 := blk_lt HZ_10.out; have h2 := HLE2.out; show w.heap.size + 1 + 1 ≠ gn; omega) _) (p := ⟨gn, 1, none⟩) (by have h1 := blk_lt HZ_10.out; have h2 := HLE2.out; show w.heap.size + 1 + 1 ≠ gn; omega) _)
    have HL_15 := Aside0.mk (show w15.heap[w1.heap.size]? = some (.cells (blkT n0 t0 k0 n1 t1 k1) 62 (0, 0)) by rw [hw_]; exact blk_far (blk_far HL_14.out (p := ⟨gn, 0, none⟩) (by have h1 := blk_lt HL_10.out; have h2 := HLE2.out; show w1.heap.size ≠ gn; omega) _) (p := ⟨gn, 1, none⟩) (by have h1 := blk_lt HL_10.out; have h2 := HLE2.out; show w1.heap.size ≠ gn; omega) _)
    have HX_15 := Aside0.mk (show w15.heap[w3.heap.size]? = some (.cells (#[.int .i64 xn, .string xt, .bool xk]) 61 (0, 0)) by rw [hw_]; exact blk_far (blk_far HX_14.out (p := ⟨gn, 0, none⟩) (by have h1 := blk_lt HX_10.out; have h2 := HLE2.out; show w3.heap.size ≠ gn; omega) _) (p := ⟨gn, 1, none⟩) (by have h1 := blk_lt HX_10.out; have h2 := HLE2.out; show w3.heap.size ≠ gn; omega) _)
    have HF_15 := Aside0.mk (show w15.heap[w5.heap.size]? = some (.cells (#[.string f]) 9 (0, 0)) by rw [hw_]; exact blk_far (blk_far HF_14.out (p := ⟨gn, 0, none⟩) (by have h1 := blk_lt HF_10.out; have h2 := HLE2.out; show w5.heap.size ≠ gn; omega) _) (p := ⟨gn, 1, none⟩) (by have h1 := blk_lt HF_10.out; have h2 := HLE2.out; show w5.heap.size ≠ gn; omega) _)
    have HDO_15 := Aside0.mk (show w15.heap[w5.heap.size + 1]? = some (.cells (#[.func (.func 32) #[] #[.pointer (some ⟨w.heap.size + 1, 0, none⟩), .pointer (some ⟨w1.heap.size, 0, none⟩), .pointer (some ⟨w5.heap.size, 0, none⟩)], .func (.func 34) #[] #[]]) 68 (0, 0)) by rw [hw_]; exact blk_far (blk_far HDO_14.out (p := ⟨gn, 0, none⟩) (by have h1 := blk_lt HDO_10.out; have h2 := HLE2.out; show w5.heap.size + 1 ≠ gn; omega) _) (p := ⟨gn, 1, none⟩) (by have h1 := blk_lt HDO_10.out; have h2 := HLE2.out; show w5.heap.size + 1 ≠ gn; omega) _)
    have HG_15 := Aside0.mk (show w15.heap[g]? = some (.cells (#[.slice A4 b1.length c4, .slice A5 u1.length c5]) 25 (0, 0)) by rw [hw_]; exact blk_far (blk_far HG_14.out (p := ⟨gn, 0, none⟩) (by have h1 := blk_lt HG_10.out; have h2 := HLE2.out; show g ≠ gn; omega) _) (p := ⟨gn, 1, none⟩) (by have h1 := blk_lt HG_10.out; have h2 := HLE2.out; show g ≠ gn; omega) _)
    have HN_15 := Aside0.mk (show w15.heap[gn]? = some (.cells (#[.slice Aa l0.length ca, .slice Ab l1.length cb]) 25 (0, 0)) by rw [hw_]; exact blk_set (blk_set HN_14.out 0 (.slice Aa l0.length ca)) 1 (.slice Ab l1.length cb))
    have OV_15 := Aside0.mk (show Kd.R Kd.string 9 w15 w.heap.size (fun _ => True) (.slice Aa l0.length ca) (l0) by rw [hw_]; exact Kd.R_set (Kd.R_set OV_14.out HN_14.out (by intro q hq; simp [Kd.iso, Kd.pair, Kd.int, Kd.string, Kd.scalar] at hq; subst hq; decide) 0 (.slice Aa l0.length ca)) (blk_set HN_14.out 0 (.slice Aa l0.length ca)) (by intro q hq; simp [Kd.iso, Kd.pair, Kd.int, Kd.string, Kd.scalar] at hq; subst hq; decide) 1 (.slice Ab l1.length cb))
    have OU_15 := Aside0.mk (show Kd.R k73 73 w15 w.heap.size (fun _ => True) (.slice Ab l1.length cb) (l1) by rw [hw_]; exact Kd.R_set (Kd.R_set OU_14.out HN_14.out (by intro q hq; simp [k73, Kd.iso, Kd.pair, Kd.int, Kd.string, Kd.scalar] at hq; subst hq; decide) 0 (.slice Aa l0.length ca)) (blk_set HN_14.out 0 (.slice Aa l0.length ca)) (by intro q hq; simp [k73, Kd.iso, Kd.pair, Kd.int, Kd.string, Kd.scalar] at hq; subst hq; decide) 1 (.slice Ab l1.length cb))
    have B_15 := Aside0.mk (show Below w.heap.size w w15 by rw [hw_]; exact (B_14.out.setCell (p := ⟨gn, 0, none⟩) (by have h1 := B_10.out.size; have h2 := HLE2.out; show w.heap.size ≤ gn; omega) _).setCell (p := ⟨gn, 1, none⟩) (by have h1 := B_10.out.size; have h2 := HLE2.out; show w.heap.size ≤ gn; omega) _)
    clear hw_
    clear hHeld
    have HGN := Aside0.mk (show w5.heap.size + 1 + 1 ≤ gn by have h1 := blk_lt HDO_10.out; have h2 := HLE2.out; omega)
    obtain ⟨i68, hi68⟩ : ∃ i, Try.prog.info? 68 = some i := Option.isSome_iff_exists.1 (by kernel_rfl)
    have hcut := cut_to (P := Try.prog) 69 68 .i64 Try.underlying69 hi68 (some ⟨w5.heap.size + 1, 0, none⟩) 2 2 2 (by decide) (by decide) (by decide)
    have hu_ := Try.underlying69
    clear hi68
    go_wp2
    clear hcut
    go_loopw [98] (fun i wr => ∃ (k : Nat) (Ak : Option Addr) (ck : Nat) (Uk : Option Addr) (du : Nat), k ≤ 2 ∧ i = .int .i64 k ∧ ((k = 0 ∧ Aside0 (Kd.R Kd.string 9 wr w.heap.size (fun _ => True) (.slice Ak l0.length ck) l0) ∧ Aside0 (Kd.R k73 73 wr w.heap.size (fun _ => True) (.slice Uk l1.length du) l1) ∧ Aside0 (wr.heap[gn]? = some (.cells #[.slice Ak l0.length ck, .slice Uk l1.length du] 25 (0, 0)))) ∨ (k = 1 ∧ Aside0 (Kd.R Kd.string 9 wr w.heap.size (fun _ => True) (.slice Ak b1.length ck) b1) ∧ Aside0 (Kd.R k73 73 wr w.heap.size (fun _ => True) (.slice Uk u1.length du) u1) ∧ Aside0 (wr.heap[gn]? = some (.cells #[.slice Ak b1.length ck, .slice Uk u1.length du] 25 (0, 0)))) ∨ (k = 2 ∧ Aside0 (Kd.R Kd.string 9 wr w.heap.size (fun _ => True) (.slice Ak b2.length ck) b2) ∧ Aside0 (Kd.R k73 73 wr w.heap.size (fun _ => True) (.slice Uk 0 du) ([] : List S73)) ∧ Aside0 (wr.heap[gn]? = some (.cells #[.slice Ak b2.length ck, .slice Uk 0 du] 25 (0, 0))))) ∧ Aside0 (wr.heap[w.heap.size + 1]? = some (.cells (#[.int .i64 a]) 3 (0, 0))) ∧ Aside0 (wr.heap[w.heap.size + 1 + 1]? = some (.cells (#[.slice none 0 0, .slice none 0 0]) 25 (0, 0))) ∧ Aside0 (wr.heap[w1.heap.size]? = some (.cells (blkT n0 t0 k0 n1 t1 k1) 62 (0, 0))) ∧ Aside0 (wr.heap[w5.heap.size]? = some (.cells (#[.string f]) 9 (0, 0))) ∧ Aside0 (wr.heap[w5.heap.size + 1]? = some (.cells (#[.func (.func 32) #[] #[.pointer (some ⟨w.heap.size + 1, 0, none⟩), .pointer (some ⟨w1.heap.size, 0, none⟩), .pointer (some ⟨w5.heap.size, 0, none⟩)], .func (.func 34) #[] #[]]) 68 (0, 0))) ∧ Aside0 (Below w.heap.size w wr))
      (fun i _ => 2 - (intOf i).toNat)
    case atStart => exact ⟨0, Aa, ca, Ab, cb, Nat.zero_le _, rfl, Or.inl ⟨rfl, OV_15, OU_15, HN_15⟩, HI_15, HZ_15, HL_15, HF_15, HDO_15, B_15⟩
    case round =>
      clear HN_15 OV_15 OU_15 B_15 HI_15 HZ_15 HL_15 HF_15 HDO_15
      obtain ⟨k, Ak, ck, Uk, du, hk, rfl, hcase, HI_r, HZ_r, HL_r, HF_r, HDO_r, B_r⟩ := hrel
      rcases hcase with ⟨rfl, OV_r, OU_r, HN_r⟩ | ⟨rfl, OV_r, OU_r, HN_r⟩ | ⟨rfl, OV_r, OU_r, HN_r⟩
      · have n0 := blk_cell HN_r.out 0
        have n1 := blk_cell HN_r.out 1
        simp only [List.getElem?_toArray, List.getElem?_cons_zero, List.getElem?_cons_succ] at n0 n1
        have o0 := blk_cell HDO_r.out 0
        simp only [List.getElem?_toArray, List.getElem?_cons_zero, List.getElem?_cons_succ] at o0
        go_wp2_with (first | (go_at_call 32; (refine (HDeed2.out _ Ak Uk ck du w1.heap.size w5.heap.size (Kd.R_reads' OV_r.out).2.2 (Kd.R_reads' OV_r.out).2.1 (Kd.R_reads' OU_r.out).2.2 (Kd.R_reads' OU_r.out).2.1 HI_r.out HL_r.out HF_r.out).mono ?_); rintro e w20 ⟨v0, v1, rfl, hR0, hR1, hb⟩; obtain ⟨A20, c20, rfl⟩ := Kd.R_slice hR0; obtain ⟨A21, c21, rfl⟩ := Kd.R_slice hR1; have hV_ := Kd.R_lower hR0 B_r.out.size; have hU_ := Kd.R_lower hR1 B_r.out.size; clear hR0 hR1; have HI_20 := Aside0.mk (blk_below HI_r.out hb); have HZ_20 := Aside0.mk (blk_below HZ_r.out hb); have HL_20 := Aside0.mk (blk_below HL_r.out hb); have HF_20 := Aside0.mk (blk_below HF_r.out hb); have HDO_20 := Aside0.mk (blk_below HDO_r.out hb); have HN_20 := Aside0.mk (blk_below HN_r.out hb); have OV_20 := Aside0.mk (Kd.R_below OV_r.out hb); have OU_20 := Aside0.mk (Kd.R_below OU_r.out hb); have B_20 := Aside0.mk (B_r.out.trans (hb.mono B_r.out.size)); clear hb; have OV_20 := Aside0.mk hV_; have OU_20 := Aside0.mk hU_; clear hV_ hU_; have m0 := blk_cell HN_20.out 0; have m1 := blk_cell HN_20.out 1; have fm0 := blk_frozen HN_20.out 0; have fm1 := blk_frozen HN_20.out 1; simp only [List.getElem?_toArray, List.getElem?_cons_zero, List.getElem?_cons_succ] at m0 m1))
        have HI_21 := Aside0.mk (blk_far (blk_far HI_20.out (p := ⟨gn, 0, none⟩) (by have h1 := blk_lt HI_10.out; have h2 := HLE2.out; show w.heap.size + 1 ≠ gn; omega) (.slice A20 b1.length c20)) (p := ⟨gn, 1, none⟩) (by have h1 := blk_lt HI_10.out; have h2 := HLE2.out; show w.heap.size + 1 ≠ gn; omega) (.slice A21 u1.length c21))
        have HZ_21 := Aside0.mk (blk_far (blk_far HZ_20.out (p := ⟨gn, 0, none⟩) (by have h1 := blk_lt HZ_10.out; have h2 := HLE2.out; show w.heap.size + 1 + 1 ≠ gn; omega) (.slice A20 b1.length c20)) (p := ⟨gn, 1, none⟩) (by have h1 := blk_lt HZ_10.out; have h2 := HLE2.out; show w.heap.size + 1 + 1 ≠ gn; omega) (.slice A21 u1.length c21))
        have HL_21 := Aside0.mk (blk_far (blk_far HL_20.out (p := ⟨gn, 0, none⟩) (by have h1 := blk_lt HL_10.out; have h2 := HLE2.out; show w1.heap.size ≠ gn; omega) (.slice A20 b1.length c20)) (p := ⟨gn, 1, none⟩) (by have h1 := blk_lt HL_10.out; have h2 := HLE2.out; show w1.heap.size ≠ gn; omega) (.slice A21 u1.length c21))
        have HF_21 := Aside0.mk (blk_far (blk_far HF_20.out (p := ⟨gn, 0, none⟩) (by have h1 := blk_lt HF_10.out; have h2 := HLE2.out; show w5.heap.size ≠ gn; omega) (.slice A20 b1.length c20)) (p := ⟨gn, 1, none⟩) (by have h1 := blk_lt HF_10.out; have h2 := HLE2.out; show w5.heap.size ≠ gn; omega) (.slice A21 u1.length c21))
        have HDO_21 := Aside0.mk (blk_far (blk_far HDO_20.out (p := ⟨gn, 0, none⟩) (by have h1 := blk_lt HDO_10.out; have h2 := HLE2.out; show w5.heap.size + 1 ≠ gn; omega) (.slice A20 b1.length c20)) (p := ⟨gn, 1, none⟩) (by have h1 := blk_lt HDO_10.out; have h2 := HLE2.out; show w5.heap.size + 1 ≠ gn; omega) (.slice A21 u1.length c21))
        have HN_21 := Aside0.mk (blk_set (blk_set HN_20.out 0 (.slice A20 b1.length c20)) 1 (.slice A21 u1.length c21))
        have OV_21 := Aside0.mk (Kd.R_set (Kd.R_set OV_20.out HN_20.out (by intro q hq; simp [Kd.iso, Kd.pair, Kd.int, Kd.string, Kd.scalar] at hq; subst hq; decide) 0 (.slice A20 b1.length c20)) (blk_set HN_20.out 0 (.slice A20 b1.length c20)) (by intro q hq; simp [Kd.iso, Kd.pair, Kd.int, Kd.string, Kd.scalar] at hq; subst hq; decide) 1 (.slice A21 u1.length c21))
        have OU_21 := Aside0.mk (Kd.R_set (Kd.R_set OU_20.out HN_20.out (by intro q hq; simp [k73, Kd.iso, Kd.pair, Kd.int, Kd.string, Kd.scalar] at hq; subst hq; decide) 0 (.slice A20 b1.length c20)) (blk_set HN_20.out 0 (.slice A20 b1.length c20)) (by intro q hq; simp [k73, Kd.iso, Kd.pair, Kd.int, Kd.string, Kd.scalar] at hq; subst hq; decide) 1 (.slice A21 u1.length c21))
        have B_21 := Aside0.mk ((B_20.out.setCell (p := ⟨gn, 0, none⟩) (by have h1 := B_10.out.size; have h2 := HLE2.out; show w.heap.size ≤ gn; omega) (.slice A20 b1.length c20)).setCell (p := ⟨gn, 1, none⟩) (by have h1 := B_10.out.size; have h2 := HLE2.out; show w.heap.size ≤ gn; omega) (.slice A21 u1.length c21))
        go_roundw
        case measure => simp [intOf]
        case rel => exact ⟨1, A20, c20, A21, c21, by decide, by go_num, Or.inr <| Or.inl ⟨rfl, OV_21, OU_21, HN_21⟩, HI_21, HZ_21, HL_21, HF_21, HDO_21, B_21⟩
      · have n0 := blk_cell HN_r.out 0
        have n1 := blk_cell HN_r.out 1
        simp only [List.getElem?_toArray, List.getElem?_cons_zero, List.getElem?_cons_succ] at n0 n1
        have o1 := blk_cell HDO_r.out 1
        simp only [List.getElem?_toArray, List.getElem?_cons_zero, List.getElem?_cons_succ] at o1
        go_wp2_with (first | (go_at_call 34; (refine (HSync.out _ Ak Uk ck du (Kd.R_reads' OV_r.out).2.2 (Kd.R_reads' OV_r.out).2.1 (Kd.R_reads' OU_r.out).2.2 (Kd.R_reads' OU_r.out).2.1).mono ?_); rintro e w20 ⟨v0, v1, rfl, hR0, hR1, hb⟩; obtain ⟨A20, c20, rfl⟩ := Kd.R_slice hR0; obtain ⟨A21, c21, rfl⟩ : ∃ A_ c_, v1 = .slice A_ 0 c_ := (by obtain ⟨A_, c_, h_⟩ := Kd.R_slice hR1; exact ⟨A_, c_, h_⟩); have hV_ := Kd.R_lower hR0 B_r.out.size; have hU_ := Kd.R_lower hR1 B_r.out.size; clear hR0 hR1; have HI_20 := Aside0.mk (blk_below HI_r.out hb); have HZ_20 := Aside0.mk (blk_below HZ_r.out hb); have HL_20 := Aside0.mk (blk_below HL_r.out hb); have HF_20 := Aside0.mk (blk_below HF_r.out hb); have HDO_20 := Aside0.mk (blk_below HDO_r.out hb); have HN_20 := Aside0.mk (blk_below HN_r.out hb); have OV_20 := Aside0.mk (Kd.R_below OV_r.out hb); have OU_20 := Aside0.mk (Kd.R_below OU_r.out hb); have B_20 := Aside0.mk (B_r.out.trans (hb.mono B_r.out.size)); clear hb; have OV_20 := Aside0.mk hV_; have OU_20 := Aside0.mk hU_; clear hV_ hU_; have m0 := blk_cell HN_20.out 0; have m1 := blk_cell HN_20.out 1; have fm0 := blk_frozen HN_20.out 0; have fm1 := blk_frozen HN_20.out 1; simp only [List.getElem?_toArray, List.getElem?_cons_zero, List.getElem?_cons_succ] at m0 m1))
        have HI_21 := Aside0.mk (blk_far (blk_far HI_20.out (p := ⟨gn, 0, none⟩) (by have h1 := blk_lt HI_10.out; have h2 := HLE2.out; show w.heap.size + 1 ≠ gn; omega) (.slice A20 b2.length c20)) (p := ⟨gn, 1, none⟩) (by have h1 := blk_lt HI_10.out; have h2 := HLE2.out; show w.heap.size + 1 ≠ gn; omega) (.slice A21 0 c21))
        have HZ_21 := Aside0.mk (blk_far (blk_far HZ_20.out (p := ⟨gn, 0, none⟩) (by have h1 := blk_lt HZ_10.out; have h2 := HLE2.out; show w.heap.size + 1 + 1 ≠ gn; omega) (.slice A20 b2.length c20)) (p := ⟨gn, 1, none⟩) (by have h1 := blk_lt HZ_10.out; have h2 := HLE2.out; show w.heap.size + 1 + 1 ≠ gn; omega) (.slice A21 0 c21))
        have HL_21 := Aside0.mk (blk_far (blk_far HL_20.out (p := ⟨gn, 0, none⟩) (by have h1 := blk_lt HL_10.out; have h2 := HLE2.out; show w1.heap.size ≠ gn; omega) (.slice A20 b2.length c20)) (p := ⟨gn, 1, none⟩) (by have h1 := blk_lt HL_10.out; have h2 := HLE2.out; show w1.heap.size ≠ gn; omega) (.slice A21 0 c21))
        have HF_21 := Aside0.mk (blk_far (blk_far HF_20.out (p := ⟨gn, 0, none⟩) (by have h1 := blk_lt HF_10.out; have h2 := HLE2.out; show w5.heap.size ≠ gn; omega) (.slice A20 b2.length c20)) (p := ⟨gn, 1, none⟩) (by have h1 := blk_lt HF_10.out; have h2 := HLE2.out; show w5.heap.size ≠ gn; omega) (.slice A21 0 c21))
        have HDO_21 := Aside0.mk (blk_far (blk_far HDO_20.out (p := ⟨gn, 0, none⟩) (by have h1 := blk_lt HDO_10.out; have h2 := HLE2.out; show w5.heap.size + 1 ≠ gn; omega) (.slice A20 b2.length c20)) (p := ⟨gn, 1, none⟩) (by have h1 := blk_lt HDO_10.out; have h2 := HLE2.out; show w5.heap.size + 1 ≠ gn; omega) (.slice A21 0 c21))
        have HN_21 := Aside0.mk (blk_set (blk_set HN_20.out 0 (.slice A20 b2.length c20)) 1 (.slice A21 0 c21))
        have OV_21 := Aside0.mk (Kd.R_set (Kd.R_set OV_20.out HN_20.out (by intro q hq; simp [Kd.iso, Kd.pair, Kd.int, Kd.string, Kd.scalar] at hq; subst hq; decide) 0 (.slice A20 b2.length c20)) (blk_set HN_20.out 0 (.slice A20 b2.length c20)) (by intro q hq; simp [Kd.iso, Kd.pair, Kd.int, Kd.string, Kd.scalar] at hq; subst hq; decide) 1 (.slice A21 0 c21))
        have OU_21 := Aside0.mk (Kd.R_set (Kd.R_set OU_20.out HN_20.out (by intro q hq; simp [k73, Kd.iso, Kd.pair, Kd.int, Kd.string, Kd.scalar] at hq; subst hq; decide) 0 (.slice A20 b2.length c20)) (blk_set HN_20.out 0 (.slice A20 b2.length c20)) (by intro q hq; simp [k73, Kd.iso, Kd.pair, Kd.int, Kd.string, Kd.scalar] at hq; subst hq; decide) 1 (.slice A21 0 c21))
        have B_21 := Aside0.mk ((B_20.out.setCell (p := ⟨gn, 0, none⟩) (by have h1 := B_10.out.size; have h2 := HLE2.out; show w.heap.size ≤ gn; omega) (.slice A20 b2.length c20)).setCell (p := ⟨gn, 1, none⟩) (by have h1 := B_10.out.size; have h2 := HLE2.out; show w.heap.size ≤ gn; omega) (.slice A21 0 c21))
        go_roundw
        case measure => simp [intOf]
        case rel => exact ⟨2, A20, c20, A21, c21, by decide, by go_num, Or.inr <| Or.inr ⟨rfl, OV_21, OU_21, HN_21⟩, HI_21, HZ_21, HL_21, HF_21, HDO_21, B_21⟩
      · have n0 := blk_cell HN_r.out 0
        have n1 := blk_cell HN_r.out 1
        simp only [List.getElem?_toArray, List.getElem?_cons_zero, List.getElem?_cons_succ] at n0 n1
        have z0 := blk_cell HZ_r.out 0
        have z1 := blk_cell HZ_r.out 1
        have fz0 := blk_frozen HZ_r.out 0
        have fz1 := blk_frozen HZ_r.out 1
        simp only [List.getElem?_toArray, List.getElem?_cons_zero, List.getElem?_cons_succ] at z0 z1
        go_wp2
        have HZ_e := Aside0.mk (blk_set (blk_set HZ_r.out 0 (.slice Ak b2.length ck)) 1 (.slice Uk 0 du))
        have x0 := blk_cell HZ_e.out 0
        have x1 := blk_cell HZ_e.out 1
        have OV_e := Aside0.mk (Kd.R_set (Kd.R_set OV_r.out HZ_r.out (by intro q hq; simp [Kd.iso, Kd.pair, Kd.int, Kd.string, Kd.scalar] at hq; subst hq; decide) 0 (.slice Ak b2.length ck)) (blk_set HZ_r.out 0 (.slice Ak b2.length ck)) (by intro q hq; simp [Kd.iso, Kd.pair, Kd.int, Kd.string, Kd.scalar] at hq; subst hq; decide) 1 (.slice Uk 0 du))
        have OU_e := Aside0.mk (Kd.R_set (Kd.R_set OU_r.out HZ_r.out (by intro q hq; simp [k73, Kd.iso, Kd.pair, Kd.int, Kd.string, Kd.scalar] at hq; subst hq; decide) 0 (.slice Ak b2.length ck)) (blk_set HZ_r.out 0 (.slice Ak b2.length ck)) (by intro q hq; simp [k73, Kd.iso, Kd.pair, Kd.int, Kd.string, Kd.scalar] at hq; subst hq; decide) 1 (.slice Uk 0 du))
        refine bodyPost_ret (v := .tuple #[.agg #[.slice Ak b2.length ck, .slice Uk 0 du], .bool true, .int .i64 0]) ?_ rfl ⟨_, _, rfl, OV_e.out, OU_e.out, (B_r.out.setCell (p := ⟨w.heap.size + 1 + 1, 0, none⟩) (by show w.heap.size ≤ w.heap.size + 1 + 1; omega) _).setCell (p := ⟨w.heap.size + 1 + 1, 1, none⟩) (by show w.heap.size ≤ w.heap.size + 1 + 1; omega) _⟩
        simp [results, Try.results15, go_sem, x0, x1]
end Go.Proofs.Ytkgcaheddhfpgaa.P
/-
  twin.Get and twin.Stop: what they tell, without rounds.
-/
namespace Go.Proofs.Ytkgcaheddhfpgaa.P
open Go.RowKit Go.Proofs Go.Proofs.CodecPlain Go.Proofs.YtkgcaheddhfpgaaW.PrintWords Go.Proofs.YtkgcaheddhfpgaaW.PrintLast Go.Proofs.Plain

def twin_Get.f (l0 : List ByteArray) (l1 : List S73) (a : Int) : Option (ByteArray × Int × Int) := some (getT l0 l1 a)
theorem twin_Get.calls (A0_0 : Option Addr) (c0_0 : Nat) (l0_0 : List ByteArray) (A0_1 : Option Addr) (c0_1 : Nat) (l0_1 : List S73) (a1 : Int) (r1 : ByteArray) (r2 : Int) (r3 : Int) (w : World) (hr0_0 : Kd.C Kd.string w A0_0 l0_0.length l0_0) (hc0_0 : l0_0.length ≤ c0_0) (hr0_1 : Kd.C k73 w A0_1 l0_1.length l0_1) (hc0_1 : l0_1.length ≤ c0_1) (h : twin_Get.f l0_0 l0_1 a1 = some (r1, r2, r3)) :
    Calls Try.prog 12 #[.agg #[.slice A0_0 l0_0.length c0_0, .slice A0_1 l0_1.length c0_1], .int .i64 a1] w fun e w' => e = .returned (.tuple #[.string r1, .int .i64 r2, .int .i64 r3]) ∧ Below w.heap.size w w' := by
  obtain ⟨K, e⟩ := pair_ev l0_0 l0_1 a1
  refine twin_GetK.calls K A0_0 c0_0 l0_0 A0_1 c0_1 l0_1 a1 r1 r2 r3 w hr0_0 hc0_0 hr0_1 hc0_1 ?_
  unfold twin_GetK.f
  have e' := e K (Nat.le_refl _)
  simp only at e'
  rw [e', Option.bind_some]
  have hg : getT l0_0 l0_1 a1 = (r1, r2, r3) := Option.some.inj h
  rw [← hg]
  unfold getT
  obtain ⟨⟨n0, t0, k0, n1, t1, k1, er⟩, hp⟩ : ∃ p, p = pairV l0_0 l0_1 a1 := ⟨_, rfl⟩
  rw [← hp]
  simp only
  split
  · split <;> rfl
  · rfl
/-- What a Stop makes, with a write at a block. -/
def stopW (l0 : List ByteArray) (l1 : List S73) (at_ : Int) (f : ByteArray) (deeds : Int) : List ByteArray × List S73 × Bool × Int :=
  if (writeV l0 l1 at_ f).2.2 = 0 then
    (if deeds = 0 then (l0, l1, false, 0) else if deeds = 1 then ((writeV l0 l1 at_ f).1, (writeV l0 l1 at_ f).2.1, false, 0) else ((doneV (fun _ => true) (writeV l0 l1 at_ f).1 (writeV l0 l1 at_ f).2.1).1, [], true, 0))
  else ([], [], false, (writeV l0 l1 at_ f).2.2)
/-- What twin.Stop makes. -/
def stopV (l0 : List ByteArray) (l1 : List S73) (a : Int) (s : ByteArray) (deeds : Int) : List ByteArray × List S73 × Bool × Int :=
  match pairV l0 l1 a with
  | (n0, _, k0, n1, _, k1, er) => if er = 0 then (if 200 < s.size ∨ 1000000000 ≤ (if newB n0 k0 n1 k1 = true then n0 else n1) then ([], [], false, 2) else stopW l0 l1 (a + 1 - newV n0 k0 n1 k1) (frameOf (numStr ((if newB n0 k0 n1 k1 = true then n0 else n1) + 1) ++ s)) deeds) else ([], [], false, er)
def twin_Stop.f (l0 : List ByteArray) (l1 : List S73) (a : Int) (s : ByteArray) (deeds : Int) : Option (List ByteArray × List S73 × Bool × Int) := if -9223372036854775808 ≤ a ∧ a ≤ 9223372036854775807 then some (stopV l0 l1 a s deeds) else none
theorem ver_bd (s : ByteArray) : 0 ≤ (verV s).1 := by
  unfold verV
  split
  · exact (getNum_bd _).1
  · exact Int.le_refl _
/-- What a pair without an error tells of the disk. -/
theorem pair_ok {l0 : List ByteArray} {l1 : List S73} {a : Int} {n0 : Int} {t0 : ByteArray} {k0 : Bool} {n1 : Int} {t1 : ByteArray} {k1 : Bool} (hp : pairV l0 l1 a = (n0, t0, k0, n1, t1, k1, 0)) :
    (readV l0 l1 (wrap64 a)).2 = 0 ∧ (readV l0 l1 (wrap64 (a + 1))).2 = 0 ∧ (n0, t0, k0) = verV (readV l0 l1 (wrap64 a)).1 ∧ (n1, t1, k1) = verV (readV l0 l1 (wrap64 (a + 1))).1 ∧ ¬ (k0 = true ∧ k1 = true ∧ n0 = n1) := by
  unfold pairV at hp
  by_cases h1 : (readV l0 l1 (wrap64 a)).2 = 0
  · rw [if_pos h1] at hp
    by_cases h2 : (readV l0 l1 (wrap64 (a + 1))).2 = 0
    · rw [if_pos h2] at hp
      simp only [Prod.mk.injEq] at hp
      obtain ⟨rfl, rfl, rfl, rfl, rfl, rfl, he⟩ := hp
      refine ⟨h1, h2, rfl, rfl, fun hq => ?_⟩
      rw [if_pos hq] at he
      cases he
    · rw [if_neg h2] at hp
      simp only [Prod.mk.injEq] at hp
      exact absurd hp.2.2.2.2.2.2 h2
  · rw [if_neg h1] at hp
    simp only [Prod.mk.injEq] at hp
    exact absurd hp.2.2.2.2.2.2 h1
theorem readV_ok {l0 : List ByteArray} {l1 : List S73} {a : Int} (h : (readV l0 l1 a).2 = 0) : checkB l0 l1 = true ∧ 0 ≤ a ∧ a < (l0.length : Int) ∧ (readV l0 l1 a).1 = rdOf ByteArray.empty (applyW (fun _ => true) 0 l1 l0) a := by
  unfold readV at h ⊢
  by_cases h1 : checkB l0 l1 = false
  · rw [if_pos h1] at h; cases h
  · rw [if_neg h1] at h ⊢
    by_cases h2 : a < 0 ∨ a ≥ (l0.length : Int)
    · rw [if_pos h2] at h; cases h
    · rw [if_neg h2]
      exact ⟨by simpa using h1, by omega, by omega, rfl⟩
theorem twin_Stop.calls (A0_0 : Option Addr) (c0_0 : Nat) (l0_0 : List ByteArray) (A0_1 : Option Addr) (c0_1 : Nat) (l0_1 : List S73) (a1 : Int) (a2 : ByteArray) (a3 : Int) (r1 : List ByteArray) (r2 : List S73) (r3 : Bool) (r4 : Int) (w : World) (hr0_0 : Kd.C Kd.string w A0_0 l0_0.length l0_0) (hc0_0 : l0_0.length ≤ c0_0) (hr0_1 : Kd.C k73 w A0_1 l0_1.length l0_1) (hc0_1 : l0_1.length ≤ c0_1) (h : twin_Stop.f l0_0 l0_1 a1 a2 a3 = some (r1, r2, r3, r4)) :
    Calls Try.prog 15 #[.agg #[.slice A0_0 l0_0.length c0_0, .slice A0_1 l0_1.length c0_1], .int .i64 a1, .string a2, .int .i64 a3] w fun e w' => ∃ v0_ v1_ : Value, e = .returned (.tuple #[.agg #[v0_, v1_], .bool r3, .int .i64 r4]) ∧ Kd.R Kd.string 9 w' w.heap.size (fun _ => True) v0_ r1 ∧ Kd.R k73 73 w' w.heap.size (fun _ => True) v1_ r2 ∧ Below w.heap.size w w' := by
  unfold twin_Stop.f at h
  by_cases hbd : -9223372036854775808 ≤ a1 ∧ a1 ≤ 9223372036854775807
  rotate_left
  · rw [if_neg hbd] at h; cases h
  rw [if_pos hbd] at h
  have hs := Option.some.inj h
  obtain ⟨K, e⟩ := pair_ev l0_0 l0_1 a1
  have hp := e K (Nat.le_refl _)
  simp only at hp
  obtain ⟨⟨n0, t0, k0, n1, t1, k1, er⟩, hpv⟩ : ∃ p, pairV l0_0 l0_1 a1 = p := ⟨_, rfl⟩
  rw [hpv] at hp
  unfold stopV at hs
  rw [hpv] at hs
  simp only at hs
  obtain ⟨q, xn, xt, xk, hq, hqx, hxn⟩ : ∃ q xn xt xk, newV n0 k0 n1 k1 = q ∧ (q = 0 ∧ xn = n0 ∧ xt = t0 ∧ xk = k0 ∨ q = 1 ∧ xn = n1 ∧ xt = t1 ∧ xk = k1) ∧ xn = (if newB n0 k0 n1 k1 = true then n0 else n1) := by
    unfold newV
    by_cases hb : newB n0 k0 n1 k1 = true
    · exact ⟨0, n0, t0, k0, by rw [if_pos hb], Or.inl ⟨rfl, rfl, rfl, rfl⟩, by rw [if_pos hb]⟩
    · exact ⟨1, n1, t1, k1, by rw [if_neg hb], Or.inr ⟨rfl, rfl, rfl, rfl⟩, by rw [if_neg hb]⟩
  rw [← hxn, hq] at hs
  by_cases he : er = 0
  rotate_left
  · rw [if_neg he] at hs
    simp only [Prod.mk.injEq] at hs
    obtain ⟨rfl, rfl, rfl, rfl⟩ := hs
    exact twin_Stop_A K A0_0 c0_0 l0_0 A0_1 c0_1 l0_1 a1 a2 a3 n0 t0 k0 n1 t1 k1 er q xn xt xk hq hqx w hr0_0 hc0_0 hr0_1 hc0_1 hp he
  rw [if_pos he] at hs
  subst he
  by_cases hlim : 200 < a2.size ∨ 1000000000 ≤ xn
  · rw [if_pos hlim] at hs
    simp only [Prod.mk.injEq] at hs
    obtain ⟨rfl, rfl, rfl, rfl⟩ := hs
    by_cases h200 : 200 < a2.size
    · exact twin_Stop_Bs K A0_0 c0_0 l0_0 A0_1 c0_1 l0_1 a1 a2 a3 n0 t0 k0 n1 t1 k1 0 q xn xt xk hq hqx w hr0_0 hc0_0 hr0_1 hc0_1 hp rfl h200
    · exact twin_Stop_Bx K A0_0 c0_0 l0_0 A0_1 c0_1 l0_1 a1 a2 a3 n0 t0 k0 n1 t1 k1 0 q xn xt xk hq hqx w hr0_0 hc0_0 hr0_1 hc0_1 hp rfl (by omega) (by omega)
  rw [if_neg hlim] at hs
  obtain ⟨g1, g2, g3, g4, _⟩ := pair_ok hpv
  obtain ⟨o1, o2, o3, _⟩ := readV_ok g1
  have hw : wrap64 a1 = a1 := wrap_at hbd.1 hbd.2
  rw [hw] at o2 o3
  obtain ⟨b1, b2, b3, _⟩ := check_len o1
  have hx0 : 0 ≤ xn := by
    have v0 := ver_bd (readV l0_0 l0_1 (wrap64 a1)).1
    have v1 := ver_bd (readV l0_0 l0_1 (wrap64 (a1 + 1))).1
    rw [← g3] at v0
    rw [← g4] at v1
    simp only at v0 v1
    rcases hqx with h | h <;> omega
  obtain ⟨⟨wb, wu, we⟩, hwv⟩ : ∃ x, writeV l0_0 l0_1 (a1 + 1 - q) (frameOf (numStr (xn + 1) ++ a2)) = x := ⟨_, rfl⟩
  unfold stopW at hs
  rw [hwv] at hs
  simp only at hs
  by_cases hwe : we = 0
  rotate_left
  · rw [if_neg hwe] at hs
    simp only [Prod.mk.injEq] at hs
    obtain ⟨rfl, rfl, rfl, rfl⟩ := hs
    exact twin_Stop_C K A0_0 c0_0 l0_0 A0_1 c0_1 l0_1 a1 a2 a3 n0 t0 k0 n1 t1 k1 0 q xn xt xk hq hqx w hr0_0 hc0_0 hr0_1 hc0_1 hp rfl (by omega) hx0 (by omega) _ rfl (by omega) (by omega) wb wu we hwv hwe
  rw [if_pos hwe] at hs
  subst hwe
  have hck : checkB wb wu = true := by
    unfold writeV at hwv
    rw [if_neg (by rw [o1]; decide)] at hwv
    by_cases ha : a1 + 1 - q < 0 ∨ a1 + 1 - q ≥ (l0_0.length : Int)
    · rw [if_pos ha] at hwv; simp only [Prod.mk.injEq] at hwv; omega
    · rw [if_neg ha] at hwv
      by_cases hl : longS (frameOf (numStr (xn + 1) ++ a2)) = true
      · rw [if_pos hl] at hwv; simp only [Prod.mk.injEq] at hwv; omega
      · rw [if_neg hl] at hwv
        by_cases hf : l0_1.length = 100
        · rw [if_pos hf] at hwv; simp only [Prod.mk.injEq] at hwv; omega
        · rw [if_neg hf] at hwv
          simp only [Prod.mk.injEq] at hwv
          obtain ⟨rfl, rfl, _⟩ := hwv
          exact check_write o1 ha (by simpa using hl) hf
  have hsy : doneV (fun _ => true) wb wu = ((doneV (fun _ => true) wb wu).1, [], 0) := by
    unfold doneV
    rw [if_pos hck]
  by_cases h0 : a3 = 0
  · rw [if_pos h0] at hs
    simp only [Prod.mk.injEq] at hs
    obtain ⟨rfl, rfl, rfl, rfl⟩ := hs
    exact twin_Stop_D0 K A0_0 c0_0 l0_0 A0_1 c0_1 l0_1 a1 a2 a3 n0 t0 k0 n1 t1 k1 0 q xn xt xk hq hqx w hr0_0 hc0_0 hr0_1 hc0_1 hp rfl (by omega) hx0 (by omega) _ rfl (by omega) (by omega) wb wu hwv b2 b3 _ hsy h0
  rw [if_neg h0] at hs
  by_cases h1 : a3 = 1
  · rw [if_pos h1] at hs
    simp only [Prod.mk.injEq] at hs
    obtain ⟨rfl, rfl, rfl, rfl⟩ := hs
    exact twin_Stop_D1 K A0_0 c0_0 l0_0 A0_1 c0_1 l0_1 a1 a2 a3 n0 t0 k0 n1 t1 k1 0 q xn xt xk hq hqx w hr0_0 hc0_0 hr0_1 hc0_1 hp rfl (by omega) hx0 (by omega) _ rfl (by omega) (by omega) wb wu hwv b2 b3 _ hsy h1
  rw [if_neg h1] at hs
  simp only [Prod.mk.injEq] at hs
  obtain ⟨rfl, rfl, rfl, rfl⟩ := hs
  exact twin_Stop_D2 K A0_0 c0_0 l0_0 A0_1 c0_1 l0_1 a1 a2 a3 n0 t0 k0 n1 t1 k1 0 q xn xt xk hq hqx w hr0_0 hc0_0 hr0_1 hc0_1 hp rfl (by omega) hx0 (by omega) _ rfl (by omega) (by omega) wb wu hwv b2 b3 _ hsy (by omega)
end Go.Proofs.Ytkgcaheddhfpgaa.P
-- Written by a program of this session (xprint.py) over the kit's print.py.
namespace Go.Proofs.Ytkgcaheddhfpgaa.P
open Go.RowKit Go.Proofs.YtkgcaheddhfpgaaW.PrintWords Go.Proofs.YtkgcaheddhfpgaaW.PrintLast Go.Proofs.YtkgcaheddhfpgaaW.PrintMore
attribute [local go_sem] max2_int min2_int max_two min_two max_three min_three max_four min_four   -- for this text's walks alone
set_option linter.unusedVariables false
set_option linter.unusedSimpArgs false

/-! ### twin_Put: function 13 -/
def twin_Put.f (l0_0 : List ByteArray) (l0_1 : List (S73)) (a1 : Int) (a2 : ByteArray) : Option (List ByteArray × (List (S73)) × Int) := (twin_Stop.f l0_0 l0_1 a1 a2 (-1)).bind fun bt143 => (some (bt143.1, bt143.2.1, bt143.2.2.2))
set_option maxHeartbeats 8000000 in
set_option maxRecDepth 100000 in
theorem twin_Put.calls (A0_0 : Option Addr) (c0_0 : Nat) (l0_0 : List ByteArray) (A0_1 : Option Addr) (c0_1 : Nat) (l0_1 : List (S73)) (a1 : Int) (a2 : ByteArray) (r1 : List ByteArray) (r2 : List (S73)) (r3 : Int) (w : World) (hr0_0 : Kd.C Kd.string w A0_0 l0_0.length l0_0) (hc0_0 : l0_0.length ≤ c0_0) (hr0_1 : Kd.C k73 w A0_1 l0_1.length l0_1) (hc0_1 : l0_1.length ≤ c0_1) (h : twin_Put.f l0_0 l0_1 a1 a2 = some (r1, r2, r3)) :
    Calls Try.prog 13 #[.agg #[.slice A0_0 l0_0.length c0_0, .slice A0_1 l0_1.length c0_1], .int .i64 a1, .string a2] w fun e w' => ∃ v0_ v1_ : Value, e = .returned (.tuple #[.agg #[v0_, v1_], .int .i64 r3]) ∧ Kd.R Kd.string 9 w' w.heap.size (fun _ => True) v0_ r1 ∧ Kd.R k73 73 w' w.heap.size (fun _ => True) v1_ r2 ∧ Below w.heap.size w w' := by
  have hu25 := Try.underlying25
  have HR0_0 := Aside0.mk hr0_0
  have HC0_0 := Aside0.mk hc0_0
  clear hr0_0 hc0_0
  have HR0_1 := Aside0.mk hr0_1
  have HC0_1 := Aside0.mk hc0_1
  clear hr0_1 hc0_1
  have HB := Aside0.mk (Below.refl w.heap.size w)
  have H : ((twin_Stop.f l0_0 l0_1 a1 a2 (-1)).bind fun bt143 => (some (bt143.1, bt143.2.1, bt143.2.2.2))) = some (r1, r2, r3) := h
  clear h
  replace H := Option.bind_eq_some_iff.mp H
  obtain ⟨⟨t143, t146, t149, t150⟩, A40, H⟩ := H
  replace H : (some (t143, t146, t150)) = some (r1, r2, r3) := H
  have A4 := Aside0.mk A40
  clear A40
  simp only [Option.some.injEq, Prod.mk.injEq] at H
  obtain ⟨rfl, rfl, rfl⟩ := H
  go_enter Try.func13, Try.ntmps13
  go_wp2_with (first | ((with_reducible refine gate_dst (N := 3) rfl ?_); refine box_event ?hg (N := 3) ?hd (cs := #[.slice A0_0 l0_0.length c0_0, .slice A0_1 l0_1.length c0_1]) (t := 25) ?hr ?_; (case hd => rfl); (case hg => rfl); (case hr => first | (go_simp; done) | (go_simp; rfl)); intro gb141 hg w5 hbox hb; have n0_ := Aside0.mk (below_step (by repeat (first | (with_reducible first | exact HB.out | apply below_alloc | apply pw_below_drewN | apply below_drew1) | exact HB.out)) hb); have n1_ := Aside0.mk (hbox); have n2_ := Aside0.mk ((by rw [hg]; exact (below_size (by repeat (first | (with_reducible first | exact HB.out | apply below_alloc | apply pw_below_drewN | apply below_drew1) | exact HB.out))) : w.heap.size ≤ gb141)); have n3_ := Aside0.mk ((by rw [hg]; exact (below_size (by repeat (first | (with_reducible first | exact HB.out | apply below_alloc | apply pw_below_drewN | apply below_drew1) | exact HB.out))) : w.heap.size ≤ gb141)); clear HB; have HB := n0_; have BK141 := n1_; have GW141 := n2_; have GE141 := n3_; clear n0_ n1_ n2_ n3_; clear hb hbox hg) | ((with_reducible refine gate_dst (N := 6) rfl ?_); refine box_event ?hg (N := 6) ?hd (cs := #[.slice none 0 0, .slice none 0 0]) (t := 25) ?hr ?_; (case hd => rfl); (case hg => rfl); (case hr => first | (go_simp; done) | (go_simp; rfl)); intro gb142 hg w6 hbox hb; have n0_ := Aside0.mk (blk_below (g := gb141) (o := .cells #[.slice A0_0 l0_0.length c0_0, .slice A0_1 l0_1.length c0_1] 25 (0, 0)) (by (with_reducible repeat (first | refine blk_drewN ?_ _ | refine blk_drew ?_ | refine blk_alloc ?_ _)); exact BK141.out) hb); have n1_ := Aside0.mk (below_step (by repeat (first | (with_reducible first | exact HB.out | apply below_alloc | apply pw_below_drewN | apply below_drew1 | refine below_set ?_ GE141.out) | exact HB.out)) hb); have n2_ := Aside0.mk (hbox); have n3_ := Aside0.mk ((by rw [hg]; exact (below_size (by repeat (first | (with_reducible first | exact HB.out | apply below_alloc | apply pw_below_drewN | apply below_drew1 | refine below_set ?_ GE141.out) | exact HB.out))) : w.heap.size ≤ gb142)); have n4_ := Aside0.mk ((by rw [hg]; exact (below_size (by repeat (first | (with_reducible first | exact HB.out | apply below_alloc | apply pw_below_drewN | apply below_drew1 | refine below_set ?_ GE141.out) | exact HB.out))) : w.heap.size ≤ gb142)); have n5_ := Aside0.mk ((by rw [hg]; exact Nat.ne_of_lt (blk_lt (g := gb141) (o := .cells #[.slice A0_0 l0_0.length c0_0, .slice A0_1 l0_1.length c0_1] 25 (0, 0)) (by (with_reducible repeat (first | refine blk_drewN ?_ _ | refine blk_drew ?_ | refine blk_alloc ?_ _)); exact BK141.out)) : gb141 ≠ gb142)); have n6_ := Aside0.mk ((by rw [hg]; exact Nat.ne_of_gt (blk_lt (g := gb141) (o := .cells #[.slice A0_0 l0_0.length c0_0, .slice A0_1 l0_1.length c0_1] 25 (0, 0)) (by (with_reducible repeat (first | refine blk_drewN ?_ _ | refine blk_drew ?_ | refine blk_alloc ?_ _)); exact BK141.out)) : gb142 ≠ gb141)); clear BK141; clear HB; have BK141 := n0_; have HB := n1_; have BK142 := n2_; have GW142 := n3_; have GE142 := n4_; have NB141_142 := n5_; have NB142_141 := n6_; clear n0_ n1_ n2_ n3_ n4_ n5_ n6_; clear hb hbox hg; have hnb7 := NB141_142.out; have hnc7 := NB142_141.out; have hcz8_0 : w6.cell? ⟨gb141, 0, none⟩ = some (.slice A0_0 l0_0.length c0_0) := (blk_cell BK141.out 0).trans rfl; have hcz8_1 : w6.cell? ⟨gb141, 1, none⟩ = some (.slice A0_1 l0_1.length c0_1) := (blk_cell BK141.out 1).trans rfl; have hfz8_0 := blk_frozen BK141.out 0; have hfz8_1 := blk_frozen BK141.out 1) | ((with_reducible refine gate_callee (f := 15) rfl ?_); refine goesL_ (some 15) rfl rfl Try.func15 (by kernel_rfl) rfl #[.agg #[.slice A0_0 l0_0.length c0_0, .slice A0_1 l0_1.length c0_1], .int .i64 a1, .string a2, .int .i64 (-1)] rfl (by (try simp only [List.map_toArray, List.map_cons, List.map_nil]); first | done | rfl | (simp only [List.length_drop, List.length_take]; rfl)) ?_; (with_reducible refine (twin_Stop.calls _ _ l0_0 _ _ l0_1 a1 a2 (-1) t143 t146 t149 t150 _ ?side1 ?side2 ?side3 ?side4 A4.out).mono ?_); (case side1 => repeat (first | exact (Kd.C_below HR0_0.out HB.out) | (with_reducible refine Kd.C_alloc ?_ _) | (with_reducible refine Kd.C_drewN ?_ _) | (with_reducible refine Kd.C_drew ?_))); (case side2 => exact HC0_0.out); (case side3 => repeat (first | exact (Kd.C_below HR0_1.out HB.out) | (with_reducible refine Kd.C_alloc ?_ _) | (with_reducible refine Kd.C_drewN ?_ _) | (with_reducible refine Kd.C_drew ?_))); (case side4 => exact HC0_1.out); rintro e w9 ⟨v144, v147, rfl, ho0, ho1, hb⟩; refine ⟨_, rfl, ?_⟩; have n0_ := Aside0.mk (Kd.R_lower ho0 (below_size (by repeat (first | (with_reducible first | exact HB.out | apply below_alloc | apply pw_below_drewN | apply below_drew1 | refine below_set ?_ GE141.out | refine below_set ?_ GE142.out) | exact HB.out)))); have n1_ := Aside0.mk (Kd.R_lower ho1 (below_size (by repeat (first | (with_reducible first | exact HB.out | apply below_alloc | apply pw_below_drewN | apply below_drew1 | refine below_set ?_ GE141.out | refine below_set ?_ GE142.out) | exact HB.out)))); have n2_ := Aside0.mk (blk_below (g := gb141) (o := .cells #[.slice A0_0 l0_0.length c0_0, .slice A0_1 l0_1.length c0_1] 25 (0, 0)) (by (with_reducible repeat (first | refine blk_drewN ?_ _ | refine blk_drew ?_ | refine blk_alloc ?_ _)); exact BK141.out) hb); have n3_ := Aside0.mk (blk_below (g := gb142) (o := .cells #[.slice none 0 0, .slice none 0 0] 25 (0, 0)) (by (with_reducible repeat (first | refine blk_drewN ?_ _ | refine blk_drew ?_ | refine blk_alloc ?_ _)); exact BK142.out) hb); have n4_ := Aside0.mk (below_step (by repeat (first | (with_reducible first | exact HB.out | apply below_alloc | apply pw_below_drewN | apply below_drew1 | refine below_set ?_ GE141.out | refine below_set ?_ GE142.out) | exact HB.out)) hb); clear BK141; clear BK142; clear HB; have HO145 := n0_; have HO148 := n1_; have BK141 := n2_; have BK142 := n3_; have HB := n4_; clear n0_ n1_ n2_ n3_ n4_; (try clear hb); (try clear hb2); (try clear hk); (try clear hi); (try clear ho0); (try clear ho1)) | ((with_reducible refine gate_dst (N := 8) rfl ?_); refine box_event ?hg (N := 8) ?hd (cs := #[.slice none 0 0, .slice none 0 0]) (t := 25) ?hr ?_; (case hd => rfl); (case hg => rfl); (case hr => first | (go_simp; done) | (go_simp; rfl)); intro gb151 hg w10 hbox hb; have n0_ := Aside0.mk (Kd.R_below (by (with_reducible repeat (first | apply Kd.R_alloc | apply Kd.R_drewN | apply Kd.R_drew)); exact HO145.out) hb); have n1_ := Aside0.mk (Kd.R_below (by (with_reducible repeat (first | apply Kd.R_alloc | apply Kd.R_drewN | apply Kd.R_drew)); exact HO148.out) hb); have n2_ := Aside0.mk (blk_below (g := gb141) (o := .cells #[.slice A0_0 l0_0.length c0_0, .slice A0_1 l0_1.length c0_1] 25 (0, 0)) (by (with_reducible repeat (first | refine blk_drewN ?_ _ | refine blk_drew ?_ | refine blk_alloc ?_ _)); exact BK141.out) hb); have n3_ := Aside0.mk (blk_below (g := gb142) (o := .cells #[.slice none 0 0, .slice none 0 0] 25 (0, 0)) (by (with_reducible repeat (first | refine blk_drewN ?_ _ | refine blk_drew ?_ | refine blk_alloc ?_ _)); exact BK142.out) hb); have n4_ := Aside0.mk (below_step (by repeat (first | (with_reducible first | exact HB.out | apply below_alloc | apply pw_below_drewN | apply below_drew1 | refine below_set ?_ GE141.out | refine below_set ?_ GE142.out) | exact HB.out)) hb); have n5_ := Aside0.mk (hbox); have n6_ := Aside0.mk ((by rw [hg]; exact (below_size (by repeat (first | (with_reducible first | exact HB.out | apply below_alloc | apply pw_below_drewN | apply below_drew1 | refine below_set ?_ GE141.out | refine below_set ?_ GE142.out) | exact HB.out))) : w.heap.size ≤ gb151)); have n7_ := Aside0.mk ((by rw [hg]; exact (below_size (by repeat (first | (with_reducible first | exact HB.out | apply below_alloc | apply pw_below_drewN | apply below_drew1 | refine below_set ?_ GE141.out | refine below_set ?_ GE142.out) | exact HB.out))) : w.heap.size ≤ gb151)); have n8_ := Aside0.mk ((by rw [hg]; exact Nat.ne_of_lt (blk_lt (g := gb141) (o := .cells #[.slice A0_0 l0_0.length c0_0, .slice A0_1 l0_1.length c0_1] 25 (0, 0)) (by (with_reducible repeat (first | refine blk_drewN ?_ _ | refine blk_drew ?_ | refine blk_alloc ?_ _)); exact BK141.out)) : gb141 ≠ gb151)); have n9_ := Aside0.mk ((by rw [hg]; exact Nat.ne_of_gt (blk_lt (g := gb141) (o := .cells #[.slice A0_0 l0_0.length c0_0, .slice A0_1 l0_1.length c0_1] 25 (0, 0)) (by (with_reducible repeat (first | refine blk_drewN ?_ _ | refine blk_drew ?_ | refine blk_alloc ?_ _)); exact BK141.out)) : gb151 ≠ gb141)); have n10_ := Aside0.mk ((by rw [hg]; exact Nat.ne_of_lt (blk_lt (g := gb142) (o := .cells #[.slice none 0 0, .slice none 0 0] 25 (0, 0)) (by (with_reducible repeat (first | refine blk_drewN ?_ _ | refine blk_drew ?_ | refine blk_alloc ?_ _)); exact BK142.out)) : gb142 ≠ gb151)); have n11_ := Aside0.mk ((by rw [hg]; exact Nat.ne_of_gt (blk_lt (g := gb142) (o := .cells #[.slice none 0 0, .slice none 0 0] 25 (0, 0)) (by (with_reducible repeat (first | refine blk_drewN ?_ _ | refine blk_drew ?_ | refine blk_alloc ?_ _)); exact BK142.out)) : gb151 ≠ gb142)); clear HO145; clear HO148; clear BK141; clear BK142; clear HB; have HO145 := n0_; have HO148 := n1_; have BK141 := n2_; have BK142 := n3_; have HB := n4_; have BK151 := n5_; have GW151 := n6_; have GE151 := n7_; have NB141_151 := n8_; have NB151_141 := n9_; have NB142_151 := n10_; have NB151_142 := n11_; clear n0_ n1_ n2_ n3_ n4_ n5_ n6_ n7_ n8_ n9_ n10_ n11_; clear hb hbox hg; obtain ⟨Ao11, co11, eo11⟩ := Kd.R_slice HO145.out; subst eo11; have hnb12 := NB151_141.out; have hnc12 := NB141_151.out; have hnb13 := NB151_142.out; have hnc13 := NB142_151.out; have hcz14_0 : w10.cell? ⟨gb151, 0, none⟩ = some (.slice none 0 0) := (blk_cell BK151.out 0).trans rfl; have hcz14_1 : w10.cell? ⟨gb151, 1, none⟩ = some (.slice none 0 0) := (blk_cell BK151.out 1).trans rfl; have hfz14_0 := blk_frozen BK151.out 0; have hfz14_1 := blk_frozen BK151.out 1; obtain ⟨Ao15, co15, eo15⟩ := Kd.R_slice HO148.out; subst eo15; have hcz16_0 : w10.cell? ⟨gb142, 0, none⟩ = some (.slice none 0 0) := (blk_cell BK142.out 0).trans rfl; have hcz16_1 : w10.cell? ⟨gb142, 1, none⟩ = some (.slice none 0 0) := (blk_cell BK142.out 1).trans rfl; have hfz16_0 := blk_frozen BK142.out 0; have hfz16_1 := blk_frozen BK142.out 1))
  refine bodyPost_ret (results_ct rfl _ _ gb142 25 #[.slice Ao11 t143.length co11, .slice Ao15 t146.length co15] (0, 0) _ rfl (by (with_reducible repeat (first | refine blk_drewN ?_ _ | refine blk_drew ?_ | refine blk_alloc ?_ _)); refine blk_put (cs := #[.slice Ao11 t143.length co11, .slice none 0 0]) ?_ 1 _ rfl; (with_reducible repeat (first | refine blk_drewN ?_ _ | refine blk_drew ?_ | refine blk_alloc ?_ _)); refine blk_put (cs := #[.slice none 0 0, .slice none 0 0]) ?_ 0 _ rfl; (with_reducible repeat (first | refine blk_drewN ?_ _ | refine blk_drew ?_ | refine blk_alloc ?_ _)); refine blk_far ?_ NB142_151.out _; (with_reducible repeat (first | refine blk_drewN ?_ _ | refine blk_drew ?_ | refine blk_alloc ?_ _)); refine blk_far ?_ NB142_151.out _; (with_reducible repeat (first | refine blk_drewN ?_ _ | refine blk_drew ?_ | refine blk_alloc ?_ _)); exact BK142.out) Try.underlying25 rfl (by kernel_rfl)) rfl ?_
  exact ⟨_, _, by first | rfl | (simp [errW_none, errW_some] <;> rfl) | (simp [*, errW_none, errW_some] <;> rfl), by (with_reducible repeat (first | apply Kd.R_alloc | apply Kd.R_drewN | apply Kd.R_drew)); exact Kd.R_mono (Kd.R_far (p := ⟨gb142, 1, none⟩) (Kd.R_far (p := ⟨gb142, 0, none⟩) (Kd.R_far (p := ⟨gb151, 1, none⟩) (Kd.R_far (p := ⟨gb151, 0, none⟩) (Kd.R_types (Kd.R_types HO145.out BK151.out (by decide)) BK142.out (by decide)) (fun _ hk => hk.1.2) (.slice Ao11 t143.length co11)) (fun _ hk => hk.1.2) (.slice Ao15 t146.length co15)) (fun _ hk => hk.2) (.slice Ao11 t143.length co11)) (fun _ hk => hk.2) (.slice Ao15 t146.length co15)) (fun _ hk => trivial), by (with_reducible repeat (first | apply Kd.R_alloc | apply Kd.R_drewN | apply Kd.R_drew)); exact Kd.R_mono (Kd.R_far (p := ⟨gb142, 1, none⟩) (Kd.R_far (p := ⟨gb142, 0, none⟩) (Kd.R_far (p := ⟨gb151, 1, none⟩) (Kd.R_far (p := ⟨gb151, 0, none⟩) (Kd.R_types (Kd.R_types HO148.out BK151.out (by decide)) BK142.out (by decide)) (fun _ hk => hk.1.2) (.slice Ao11 t143.length co11)) (fun _ hk => hk.1.2) (.slice Ao15 t146.length co15)) (fun _ hk => hk.2) (.slice Ao11 t143.length co11)) (fun _ hk => hk.2) (.slice Ao15 t146.length co15)) (fun _ hk => trivial), by repeat (first | (with_reducible first | exact HB.out | apply below_alloc | apply pw_below_drewN | apply below_drew1 | refine below_set ?_ GE141.out | refine below_set ?_ GE142.out | refine below_set ?_ GE151.out) | exact HB.out)⟩

end Go.Proofs.Ytkgcaheddhfpgaa.P
-- Written by a program of this session (xprint.py) over the kit's print.py.
namespace Go.Proofs.Ytkgcaheddhfpgaa.P
open Go.RowKit Go.Proofs.YtkgcaheddhfpgaaW.PrintWords Go.Proofs.YtkgcaheddhfpgaaW.PrintLast Go.Proofs.YtkgcaheddhfpgaaW.PrintMore
attribute [local go_sem] max2_int min2_int max_two min_two max_three min_three max_four min_four   -- for this text's walks alone
set_option linter.unusedVariables false
set_option linter.unusedSimpArgs false

/-! ### disk_New: function 17 -/
def disk_New.f (a0 : Int) : Option (List ByteArray × (List (S73)) × Int) := if a0 < 1 then (some (([] : List ByteArray), ([] : List (S73)), 1)) else (if a0 > 200 then (some (([] : List ByteArray), ([] : List (S73)), 1)) else (if 0 ≤ a0 then (if (a0 : Int).toNat ≤ 17592186044416 then (some ((List.replicate (a0 : Int).toNat (⟨#[]⟩ : ByteArray)), ([] : List (S73)), 0)) else (none)) else (none)))
set_option maxHeartbeats 8000000 in
set_option maxRecDepth 100000 in
theorem disk_New.calls (a0 : Int) (r1 : List ByteArray) (r2 : List (S73)) (r3 : Int) (w : World) (h : disk_New.f a0 = some (r1, r2, r3)) :
    Calls Try.prog 17 #[.int .i64 a0] w fun e w' => ∃ v0_ v1_ : Value, e = .returned (.tuple #[.agg #[v0_, v1_], .int .i64 r3]) ∧ Kd.R Kd.string 9 w' w.heap.size (fun _ => True) v0_ r1 ∧ Kd.R k73 73 w' w.heap.size (fun _ => True) v1_ r2 ∧ Below w.heap.size w w' := by
  have hu25 := Try.underlying25
  have HB := Aside0.mk (Below.refl w.heap.size w)
  have H : (if a0 < 1 then (some (([] : List ByteArray), ([] : List (S73)), 1)) else (if a0 > 200 then (some (([] : List ByteArray), ([] : List (S73)), 1)) else (if 0 ≤ a0 then (if (a0 : Int).toNat ≤ 17592186044416 then (some ((List.replicate (a0 : Int).toNat (⟨#[]⟩ : ByteArray)), ([] : List (S73)), 0)) else (none)) else (none)))) = some (r1, r2, r3) := h
  clear h
  by_cases c2 : a0 < 1
  · rw [if_pos c2] at H
    have c2b0 : decide (a0 < 1) = true := decide_eq_true c2
    clear c2
    simp only [Option.some.injEq, Prod.mk.injEq] at H
    obtain ⟨rfl, rfl, rfl⟩ := H
    go_enter Try.func17, Try.ntmps17
    go_wp2_with (first | ((with_reducible refine gate_dst (N := 2) rfl ?_); refine box_event ?hg (N := 2) ?hd (cs := #[.slice none 0 0, .slice none 0 0]) (t := 25) ?hr ?_; (case hd => rfl); (case hg => rfl); (case hr => first | (go_simp; done) | (go_simp; rfl)); intro gb152 hg w3 hbox hb; have n0_ := Aside0.mk (below_step (by repeat (first | (with_reducible first | exact HB.out | apply below_alloc | apply pw_below_drewN | apply below_drew1) | exact HB.out)) hb); have n1_ := Aside0.mk (hbox); have n2_ := Aside0.mk ((by rw [hg]; exact (below_size (by repeat (first | (with_reducible first | exact HB.out | apply below_alloc | apply pw_below_drewN | apply below_drew1) | exact HB.out))) : w.heap.size ≤ gb152)); have n3_ := Aside0.mk ((by rw [hg]; exact (below_size (by repeat (first | (with_reducible first | exact HB.out | apply below_alloc | apply pw_below_drewN | apply below_drew1) | exact HB.out))) : w.heap.size ≤ gb152)); clear HB; have HB := n0_; have BK152 := n1_; have GW152 := n2_; have GE152 := n3_; clear n0_ n1_ n2_ n3_; clear hb hbox hg; have hcz4_0 : w3.cell? ⟨gb152, 0, none⟩ = some (.slice none 0 0) := (blk_cell BK152.out 0).trans rfl; have hcz4_1 : w3.cell? ⟨gb152, 1, none⟩ = some (.slice none 0 0) := (blk_cell BK152.out 1).trans rfl; have hfz4_0 := blk_frozen BK152.out 0; have hfz4_1 := blk_frozen BK152.out 1))
    refine bodyPost_ret (results_ct rfl _ _ gb152 25 #[.slice none 0 0, .slice none 0 0] (0, 0) _ rfl (by (with_reducible repeat (first | refine blk_drewN ?_ _ | refine blk_drew ?_ | refine blk_alloc ?_ _)); refine blk_put (cs := #[.slice none 0 0, .slice none 0 0]) ?_ 1 _ rfl; (with_reducible repeat (first | refine blk_drewN ?_ _ | refine blk_drew ?_ | refine blk_alloc ?_ _)); refine blk_put (cs := #[.slice none 0 0, .slice none 0 0]) ?_ 0 _ rfl; (with_reducible repeat (first | refine blk_drewN ?_ _ | refine blk_drew ?_ | refine blk_alloc ?_ _)); exact BK152.out) Try.underlying25 rfl (by kernel_rfl)) rfl ?_
    exact ⟨_, _, by first | rfl | (simp [errW_none, errW_some] <;> rfl) | (simp [*, errW_none, errW_some] <;> rfl), by first | exact Kd.R_nil _ _ _ _ _ | exact Kd.N_nil _ _ _ _ _ | exact Kd.V_nil _ _ _ _ _ | exact Kd.Q_nil _ _ _ _ _ | exact Kd.S_nil _ _ _ _ _, by first | exact Kd.R_nil _ _ _ _ _ | exact Kd.N_nil _ _ _ _ _ | exact Kd.V_nil _ _ _ _ _ | exact Kd.Q_nil _ _ _ _ _ | exact Kd.S_nil _ _ _ _ _, by repeat (first | (with_reducible first | exact HB.out | apply below_alloc | apply pw_below_drewN | apply below_drew1 | refine below_set ?_ GE152.out) | exact HB.out)⟩
  · rw [if_neg c2] at H
    have c2b0 : decide (a0 < 1) = false := decide_eq_false c2
    clear c2
    by_cases c5 : a0 > 200
    · rw [if_pos c5] at H
      have c5b0 : decide (200 < a0) = true := decide_eq_true c5
      clear c5
      simp only [Option.some.injEq, Prod.mk.injEq] at H
      obtain ⟨rfl, rfl, rfl⟩ := H
      go_enter Try.func17, Try.ntmps17
      go_wp2_with (first | ((with_reducible refine gate_dst (N := 2) rfl ?_); refine box_event ?hg (N := 2) ?hd (cs := #[.slice none 0 0, .slice none 0 0]) (t := 25) ?hr ?_; (case hd => rfl); (case hg => rfl); (case hr => first | (go_simp; done) | (go_simp; rfl)); intro gb152 hg w6 hbox hb; have n0_ := Aside0.mk (below_step (by repeat (first | (with_reducible first | exact HB.out | apply below_alloc | apply pw_below_drewN | apply below_drew1) | exact HB.out)) hb); have n1_ := Aside0.mk (hbox); have n2_ := Aside0.mk ((by rw [hg]; exact (below_size (by repeat (first | (with_reducible first | exact HB.out | apply below_alloc | apply pw_below_drewN | apply below_drew1) | exact HB.out))) : w.heap.size ≤ gb152)); have n3_ := Aside0.mk ((by rw [hg]; exact (below_size (by repeat (first | (with_reducible first | exact HB.out | apply below_alloc | apply pw_below_drewN | apply below_drew1) | exact HB.out))) : w.heap.size ≤ gb152)); clear HB; have HB := n0_; have BK152 := n1_; have GW152 := n2_; have GE152 := n3_; clear n0_ n1_ n2_ n3_; clear hb hbox hg; have hcz7_0 : w6.cell? ⟨gb152, 0, none⟩ = some (.slice none 0 0) := (blk_cell BK152.out 0).trans rfl; have hcz7_1 : w6.cell? ⟨gb152, 1, none⟩ = some (.slice none 0 0) := (blk_cell BK152.out 1).trans rfl; have hfz7_0 := blk_frozen BK152.out 0; have hfz7_1 := blk_frozen BK152.out 1))
      refine bodyPost_ret (results_ct rfl _ _ gb152 25 #[.slice none 0 0, .slice none 0 0] (0, 0) _ rfl (by (with_reducible repeat (first | refine blk_drewN ?_ _ | refine blk_drew ?_ | refine blk_alloc ?_ _)); refine blk_put (cs := #[.slice none 0 0, .slice none 0 0]) ?_ 1 _ rfl; (with_reducible repeat (first | refine blk_drewN ?_ _ | refine blk_drew ?_ | refine blk_alloc ?_ _)); refine blk_put (cs := #[.slice none 0 0, .slice none 0 0]) ?_ 0 _ rfl; (with_reducible repeat (first | refine blk_drewN ?_ _ | refine blk_drew ?_ | refine blk_alloc ?_ _)); exact BK152.out) Try.underlying25 rfl (by kernel_rfl)) rfl ?_
      exact ⟨_, _, by first | rfl | (simp [errW_none, errW_some] <;> rfl) | (simp [*, errW_none, errW_some] <;> rfl), by first | exact Kd.R_nil _ _ _ _ _ | exact Kd.N_nil _ _ _ _ _ | exact Kd.V_nil _ _ _ _ _ | exact Kd.Q_nil _ _ _ _ _ | exact Kd.S_nil _ _ _ _ _, by first | exact Kd.R_nil _ _ _ _ _ | exact Kd.N_nil _ _ _ _ _ | exact Kd.V_nil _ _ _ _ _ | exact Kd.Q_nil _ _ _ _ _ | exact Kd.S_nil _ _ _ _ _, by repeat (first | (with_reducible first | exact HB.out | apply below_alloc | apply pw_below_drewN | apply below_drew1 | refine below_set ?_ GE152.out) | exact HB.out)⟩
    · rw [if_neg c5] at H
      have c5b0 : decide (200 < a0) = false := decide_eq_false c5
      clear c5
      by_cases c8 : 0 ≤ a0
      · rw [if_pos c8] at H
        have c8b0 := eq_true c8
        have c8b1 : decide (0 ≤ a0) = true := decide_eq_true c8
        clear c8
        by_cases c9 : (a0 : Int).toNat ≤ 17592186044416
        · rw [if_pos c9] at H
          have c9b0 := eq_true c9
          have c9b1 : decide ((a0 : Int).toNat ≤ 17592186044416) = true := decide_eq_true c9
          clear c9
          obtain ⟨y153, hy153⟩ : ∃ y_ : List ByteArray, y_ = (List.replicate (a0 : Int).toNat (⟨#[]⟩ : ByteArray)) := ⟨_, rfl⟩
          replace H : (some (y153, ([] : List (S73)), 0)) = some (r1, r2, r3) := by first | (rw [hy153]; with_reducible exact H) | (have H2_ := (Option.bind_some _ _).symm.trans H; rw [hy153]; with_reducible exact H2_) | (have H2_ := (Option.bind_some _ _).symm.trans H; with_reducible exact H2_) | with_reducible exact H | (rw [hy153]; exact H) | exact H
          have Ny153 := Aside0.mk hy153
          clear hy153
          simp only [Option.some.injEq, Prod.mk.injEq] at H
          obtain ⟨rfl, rfl, rfl⟩ := H
          go_enter Try.func17, Try.ntmps17
          go_wp2_with (first | ((with_reducible refine gate_dst (N := 2) rfl ?_); refine box_event ?hg (N := 2) ?hd (cs := #[.slice none 0 0, .slice none 0 0]) (t := 25) ?hr ?_; (case hd => rfl); (case hg => rfl); (case hr => first | (go_simp; done) | (go_simp; rfl)); intro gb152 hg w10 hbox hb; have n0_ := Aside0.mk (below_step (by repeat (first | (with_reducible first | exact HB.out | apply below_alloc | apply pw_below_drewN | apply below_drew1) | exact HB.out)) hb); have n1_ := Aside0.mk (hbox); have n2_ := Aside0.mk ((by rw [hg]; exact (below_size (by repeat (first | (with_reducible first | exact HB.out | apply below_alloc | apply pw_below_drewN | apply below_drew1) | exact HB.out))) : w.heap.size ≤ gb152)); have n3_ := Aside0.mk ((by rw [hg]; exact (below_size (by repeat (first | (with_reducible first | exact HB.out | apply below_alloc | apply pw_below_drewN | apply below_drew1) | exact HB.out))) : w.heap.size ≤ gb152)); clear HB; have HB := n0_; have BK152 := n1_; have GW152 := n2_; have GE152 := n3_; clear n0_ n1_ n2_ n3_; clear hb hbox hg) | ((with_reducible refine gate_dst (N := 12) rfl ?_); refine Kd.R_make Kd.string _ 9 rfl (N := 12) rfl 22 _ _ rfl a0 rfl rfl Try.underlying22 (.string ⟨#[]⟩) 16 info9 rfl (by decide) (by omega) (⟨#[]⟩ : ByteArray) (ok := fun _ => True) (okp := fun _ => True) rfl (fun _ hk => hk) trivial (of_decide_eq_true (by first | (with_reducible assumption) | assumption)) (Nat.le_trans (Nat.mul_le_mul_right _ (of_decide_eq_true (by first | (with_reducible assumption) | assumption) : a0.toNat ≤ 17592186044416)) (by omega)) (Below.refl _ _) (Nat.le_refl _) ?_; intro v154 w11 ho12 hb hg_ hnew_; clear hg_ hnew_; (first | rw [← Ny153.out] at ho12 | (simp only [Int.reduceToNat] at ho12; rw [← Ny153.out] at ho12)); have n0_ := Aside0.mk (Kd.R_lower ho12 (below_size (by repeat (first | (with_reducible first | exact HB.out | apply below_alloc | apply pw_below_drewN | apply below_drew1 | refine below_set ?_ GE152.out) | exact HB.out)))); have n1_ := Aside0.mk (blk_below (g := gb152) (o := .cells #[.slice none 0 0, .slice none 0 0] 25 (0, 0)) (by (with_reducible repeat (first | refine blk_drewN ?_ _ | refine blk_drew ?_ | refine blk_alloc ?_ _)); exact BK152.out) hb); have n2_ := Aside0.mk (below_step (by repeat (first | (with_reducible first | exact HB.out | apply below_alloc | apply pw_below_drewN | apply below_drew1 | refine below_set ?_ GE152.out) | exact HB.out)) hb); clear BK152; clear HB; have HO155 := n0_; have BK152 := n1_; have HB := n2_; clear n0_ n1_ n2_; clear hb ho12; obtain ⟨Ao13, co13, eo13⟩ := Kd.R_slice HO155.out; subst eo13; have hcz14_0 : w11.cell? ⟨gb152, 0, none⟩ = some (.slice none 0 0) := (blk_cell BK152.out 0).trans rfl; have hcz14_1 : w11.cell? ⟨gb152, 1, none⟩ = some (.slice none 0 0) := (blk_cell BK152.out 1).trans rfl; have hfz14_0 := blk_frozen BK152.out 0; have hfz14_1 := blk_frozen BK152.out 1))
          refine bodyPost_ret (results_ct rfl _ _ gb152 25 #[.slice Ao13 y153.length co13, .slice none 0 0] (0, 0) _ rfl (by (with_reducible repeat (first | refine blk_drewN ?_ _ | refine blk_drew ?_ | refine blk_alloc ?_ _)); refine blk_put (cs := #[.slice Ao13 y153.length co13, .slice none 0 0]) ?_ 1 _ rfl; (with_reducible repeat (first | refine blk_drewN ?_ _ | refine blk_drew ?_ | refine blk_alloc ?_ _)); refine blk_put (cs := #[.slice none 0 0, .slice none 0 0]) ?_ 0 _ rfl; (with_reducible repeat (first | refine blk_drewN ?_ _ | refine blk_drew ?_ | refine blk_alloc ?_ _)); exact BK152.out) Try.underlying25 rfl (by kernel_rfl)) rfl ?_
          exact ⟨_, _, by first | rfl | (simp [errW_none, errW_some] <;> rfl) | (simp [*, errW_none, errW_some] <;> rfl), by (with_reducible repeat (first | apply Kd.R_alloc | apply Kd.R_drewN | apply Kd.R_drew)); exact Kd.R_mono (Kd.R_far (p := ⟨gb152, 1, none⟩) (Kd.R_far (p := ⟨gb152, 0, none⟩) (Kd.R_types HO155.out BK152.out (by decide)) (fun _ hk => hk.2) (.slice Ao13 y153.length co13)) (fun _ hk => hk.2) (.slice none 0 0)) (fun _ hk => trivial), by first | exact Kd.R_nil _ _ _ _ _ | exact Kd.N_nil _ _ _ _ _ | exact Kd.V_nil _ _ _ _ _ | exact Kd.Q_nil _ _ _ _ _ | exact Kd.S_nil _ _ _ _ _, by repeat (first | (with_reducible first | exact HB.out | apply below_alloc | apply pw_below_drewN | apply below_drew1 | refine below_set ?_ GE152.out) | exact HB.out)⟩
        · rw [if_neg c9] at H
          exact absurd H (by simp)
      · rw [if_neg c8] at H
        exact absurd H (by simp)

end Go.Proofs.Ytkgcaheddhfpgaa.P
