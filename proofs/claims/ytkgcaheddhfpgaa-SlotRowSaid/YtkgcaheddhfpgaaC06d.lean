/-
  Texts that the claims of this chapter share, joined.
-/
import Derived.OwnWalk
import Derived.StillTactics
import Derived.LoopTactic
import Derived.Test.YtkgcaheddhfpgaaC06c
import Derived.Test.YtkgcaheddhfpgaaC06b
set_option linter.unusedVariables false
set_option linter.unusedSimpArgs false
/-
  twin.Stop, by hand: the deeds.
-/
namespace Go.Proofs.Ytkgcaheddhfpgaa.P
open Go.RowKit Go.Proofs.CodecPlain Go.Proofs.YtkgcaheddhfpgaaW.PrintWords Go.Proofs.YtkgcaheddhfpgaaW.PrintLast

attribute [local go_sem] zero_twin
set_option maxHeartbeats 16000000 in
set_option maxRecDepth 100000 in
theorem twin_Stop_D0 (k : Nat) (A0 : Option Addr) (c0 : Nat) (l0 : List ByteArray) (A1 : Option Addr) (c1 : Nat) (l1 : List S73) (a : Int) (s : ByteArray) (deeds : Int) (n0 : Int) (t0 : ByteArray) (k0 : Bool) (n1 : Int) (t1 : ByteArray) (k1 : Bool) (er : Int) (q xn : Int) (xt : ByteArray) (xk : Bool) (hq : newV n0 k0 n1 k1 = q) (hqx : q = 0 ∧ xn = n0 ∧ xt = t0 ∧ xk = k0 ∨ q = 1 ∧ xn = n1 ∧ xt = t1 ∧ xk = k1) (w : World) (hr0 : Kd.C Kd.string w A0 l0.length l0) (hc0 : l0.length ≤ c0) (hr1 : Kd.C k73 w A1 l1.length l1) (hc1 : l1.length ≤ c1) (hpair : twin_pair.f k l0 l1 a = some (n0, t0, k0, n1, t1, k1, er)) (he : er = 0) (hs : s.size ≤ 200) (hx0 : 0 ≤ xn) (hx1 : xn < 1000000000) (f : ByteArray) (hf : f = frameOf (numStr (xn + 1) ++ s)) (ha0 : 0 ≤ a) (ha1 : a ≤ 1000) (b1 : List ByteArray) (u1 : List S73) (hwr : writeV l0 l1 (a + 1 - q) f = (b1, u1, 0)) (hl0 : l0.length ≤ 200) (hl1 : l1.length ≤ 100) (b2 : List ByteArray) (hsy : doneV (fun _ => true) b1 u1 = (b2, [], 0)) (hd : deeds = 0) :
    Calls Try.prog 15 #[.agg #[.slice A0 l0.length c0, .slice A1 l1.length c1], .int .i64 a, .string s, .int .i64 deeds] w (StopPost w l0 l1 false 0) := by
  subst he
  subst hd
  have HD_0 : Aside0 ((((w.alloc (.cells #[.slice A0 l0.length c0, .slice A1 l1.length c1] 25)).alloc (.cells #[.int .i64 a] 3)).alloc (.cells #[.slice none 0 0, .slice none 0 0] 25)).heap[w.heap.size]? = some (.cells #[.slice A0 l0.length c0, .slice A1 l1.length c1] 25 (0, 0))) := ⟨blk_alloc (blk_alloc (blk_new w (.cells #[.slice A0 l0.length c0, .slice A1 l1.length c1] 25)) (.cells #[.int .i64 a] 3)) (.cells #[.slice none 0 0, .slice none 0 0] 25)⟩
  have hi_ := blk_alloc (blk_new (w.alloc (.cells #[.slice A0 l0.length c0, .slice A1 l1.length c1] 25)) (.cells #[.int .i64 a] 3)) (.cells #[.slice none 0 0, .slice none 0 0] 25)
  rw [World.size_alloc] at hi_
  have HI_0 := Aside0.mk hi_
  have hz_ := blk_new ((w.alloc (.cells #[.slice A0 l0.length c0, .slice A1 l1.length c1] 25)).alloc (.cells #[.int .i64 a] 3)) (.cells #[.slice none 0 0, .slice none 0 0] 25)
  rw [World.size_alloc, World.size_alloc] at hz_
  have HZ_0 := Aside0.mk hz_
  have B_0 := Aside0.mk ((((Below.refl w.heap.size w).alloc (Nat.le_refl _) (.cells #[.slice A0 l0.length c0, .slice A1 l1.length c1] 25)).alloc (by simp) (.cells #[.int .i64 a] 3)).alloc (by simp; omega) (.cells #[.slice none 0 0, .slice none 0 0] 25))
  clear hi_ hz_
  have HR0 := Aside0.mk hr0
  have HR1 := Aside0.mk hr1
  have HP := Aside0.mk (fun W (q0 : Kd.C Kd.string W A0 l0.length l0) (q1 : Kd.C k73 W A1 l1.length l1) => twin_pair.calls k A0 c0 l0 A1 c1 l1 a n0 t0 k0 n1 t1 k1 0 W q0 hc0 q1 hc1 hpair)
  have HN := Aside0.mk (fun W => (twin_newer_calls n0 t0 k0 n1 t1 k1 W).mono (fun e w' (h : _ ∧ _) => (⟨by rw [h.1, hq], h.2⟩ : e = .returned (.int .i64 q) ∧ Below W.heap.size W w')))
  have HQX := Aside0.mk hqx
  have hq0' : 0 ≤ q := by rcases hqx with h | h <;> omega
  have hq1' : q ≤ 1 := by rcases hqx with h | h <;> omega
  have hq0 : 0 ≤ q := by rcases hqx with h | h <;> omega
  have hq2 : q < 2 := by rcases hqx with h | h <;> omega
  clear hqx
  have HDeed := Aside0.mk (fun (W : World) (B2 B3 : Nat) (hb : Below w.heap.size w W) hA hL hF => twin_deed_calls A0 c0 l0 A1 c1 l1 a n0 t0 k0 n1 t1 k1 q f b1 u1 0 (w.heap.size + 1) B2 B3 W (Kd.C_below hr0 hb) hc0 (Kd.C_below hr1 hb) hc1 ha0 ha1 hq0' hq1' hq hwr hA hL hF)
  have HDeed2 := Aside0.mk (fun (W : World) (Av Au : Option Addr) (cv cu : Nat) (B2 B3 : Nat) (q0 : Kd.C Kd.string W Av l0.length l0) (p0 : l0.length ≤ cv) (q1 : Kd.C k73 W Au l1.length l1) (p1 : l1.length ≤ cu) hA hL hF => twin_deed_calls Av cv l0 Au cu l1 a n0 t0 k0 n1 t1 k1 q f b1 u1 0 (w.heap.size + 1) B2 B3 W q0 p0 q1 p1 ha0 ha1 hq0' hq1' hq hwr hA hL hF)
  have HSync := Aside0.mk (fun (W : World) (Av Au : Option Addr) (cv cu : Nat) (q0 : Kd.C Kd.string W Av b1.length b1) (p0 : b1.length ≤ cv) (q1 : Kd.C k73 W Au u1.length u1) (p1 : u1.length ≤ cu) => disk_Sync.calls Av cv b1 Au cu u1 b2 [] 0 W q0 p0 q1 p1 (congrArg some hsy))
  have HClone0 := Aside0.mk (fun (W : World) (hb : Below w.heap.size w W) => slices_Clone_string_string.calls A0 c0 l0 l0 W (Kd.C_below hr0 hb) hc0 (by unfold slices_Clone_string_string.f; rw [if_pos (by omega)]))
  have HClone1 := Aside0.mk (fun (W : World) (hb : Below w.heap.size w W) => slices_Clone_WN.calls A1 c1 l1 l1 W (Kd.C_below hr1 hb) hc1 (by unfold slices_Clone_WN.f; rw [if_pos (by omega)]))
  obtain ⟨ns, hns⟩ : ∃ ns, ns = numStr (xn + 1) := ⟨_, rfl⟩
  have hnz := numStr_size (xn + 1)
  rw [← hns] at hnz
  have HNum := Aside0.mk (fun W => codec_Number.calls (xn + 1) ns 0 W (by unfold codec_Number.f; rw [if_pos (by omega), hns]))
  have HPut := Aside0.mk (fun W => crc_Put.calls (ns ++ s) f 0 W (by rw [put_f, if_pos (by rw [CodecPlain.size_append]; omega), hf, hns]))
  have hcz : ns.size + s.size ≤ 9223372036854775807 := by omega
  have hcz1 := eq_true hcz
  have hcz2 : decide (ns.size + s.size ≤ 9223372036854775807) = true := decide_eq_true hcz
  have hcz3 : (9223372036854775807 < ns.size + s.size) = False := eq_false (Nat.not_lt.2 hcz)
  have hsi : decide ((200 : Int) < (s.size : Int)) = false := decide_eq_false (by omega)
  have hsc : decide (200 < s.size) = false := decide_eq_false (by omega)
  have hxb : decide (1000000000 ≤ xn) = false := decide_eq_false (by omega)
  have hmf : ∀ (fn : Fn) (first cap : Array Value) (w : World), (Instr.makeFunc fn first cap).run Try.prog w = .ok (.func fn first cap) w := fun _ _ _ _ => rfl
  clear hr0 hr1 hpair hq hs hf hns hnz hcz hwr hsy ha0 ha1
  go_enter Try.func15, Try.ntmps15
  go_wp2_with (first | (go_at_call 28; (refine (HP.out _ (Kd.C_below HR0.out B_0.out) (Kd.C_below HR1.out B_0.out)).mono ?_); rintro e w1 ⟨rfl, hb⟩; have HD_1 := Aside0.mk (blk_below HD_0.out hb); have HI_1 := Aside0.mk (blk_below HI_0.out hb); have HZ_1 := Aside0.mk (blk_below HZ_0.out hb); have B_1 := Aside0.mk (B_0.out.trans (hb.mono B_0.out.size)); clear hb) | ((with_reducible refine gate_store (t := 62) (p := 11) rfl ?_); refine store_event (t := 62) (p := 11) (w1 := (w1.alloc (.cells blk0 62)).setCells w1.heap.size 0 (blkT n0 t0 k0 n1 t1 k1).toList) rfl rfl rfl ?hr ?_; (case hr => (unfold execOp; simp only [Act.eval, Sem.run_bind, Sem.run_pure, Result.andThen_ok]; show ((Sem.run Try.prog (Instr.storeAt 62 (.pointer (some ⟨w1.heap.size, 0, none⟩)) (.agg (blkT n0 t0 k0 n1 t1 k1))) (w1.alloc (.cells blk0 62))).andThen _) = _; rw [(store_twin (blk_new w1 (.cells blk0 62)) rfl n0 t0 k0 n1 t1 k1).1]; try rfl)); intro w2 hw_; have HS := Aside0.mk (show Below w1.heap.size w1 w2 by rw [hw_]; exact below_cells ((Below.refl _ _).alloc (Nat.le_refl _) _) (Nat.le_refl _) _); have HL_2 := Aside0.mk (hw_ ▸ (store_twin (blk_new w1 (.cells blk0 62)) rfl n0 t0 k0 n1 t1 k1).2 : w2.heap[w1.heap.size]? = some (.cells (blkT n0 t0 k0 n1 t1 k1) 62 (0, 0))); have HD_2 := Aside0.mk (blk_below HD_1.out HS.out); have HI_2 := Aside0.mk (blk_below HI_1.out HS.out); have HZ_2 := Aside0.mk (blk_below HZ_1.out HS.out); have B_2 := Aside0.mk (B_1.out.trans (HS.out.mono B_1.out.size)); clear hw_ HS; have c0 := blk_cell HL_2.out 0; have c1 := blk_cell HL_2.out 1; have c2 := blk_cell HL_2.out 2; have c3 := blk_cell HL_2.out 3; have c4 := blk_cell HL_2.out 4; have c5 := blk_cell HL_2.out 5; simp only [blkT, List.getElem?_toArray, List.getElem?_cons_zero, List.getElem?_cons_succ] at c0 c1 c2 c3 c4 c5) | (go_at_call 29; (refine (HN.out _).mono ?_); rintro e w3 ⟨rfl, hb⟩; have HD_3 := Aside0.mk (blk_below HD_2.out hb); have HI_3 := Aside0.mk (blk_below HI_2.out hb); have HZ_3 := Aside0.mk (blk_below HZ_2.out hb); have HL_3 := Aside0.mk (blk_below HL_2.out hb); have B_3 := Aside0.mk (B_2.out.trans (hb.mono B_2.out.size)); clear hb; obtain ⟨d0, d1, d2⟩ := pick3 HQX.out HL_3.out; have HD_3a := Aside0.mk (blk_alloc HD_3.out (.cells #[.int .i64 xn, .string xt, .bool xk] 61)); have HI_3a := Aside0.mk (blk_alloc HI_3.out (.cells #[.int .i64 xn, .string xt, .bool xk] 61)); have HZ_3a := Aside0.mk (blk_alloc HZ_3.out (.cells #[.int .i64 xn, .string xt, .bool xk] 61)); have HL_3a := Aside0.mk (blk_alloc HL_3.out (.cells #[.int .i64 xn, .string xt, .bool xk] 61)); have B_3a := Aside0.mk (B_3.out.alloc B_3.out.size (.cells #[.int .i64 xn, .string xt, .bool xk] 61)); have HX_3a := Aside0.mk (show (w3.alloc (.cells #[.int .i64 xn, .string xt, .bool xk] 61)).heap[w3.heap.size]? = _ from blk_new (w3) (.cells #[.int .i64 xn, .string xt, .bool xk] 61)); clear c0 c1 c2 c3 c4 c5) | (go_at_call 30; (refine (HNum.out _).mono ?_); rintro e w4 ⟨rfl, hb⟩; have HD_4 := Aside0.mk (blk_below HD_3a.out hb); have HI_4 := Aside0.mk (blk_below HI_3a.out hb); have HZ_4 := Aside0.mk (blk_below HZ_3a.out hb); have HL_4 := Aside0.mk (blk_below HL_3a.out hb); have HX_4 := Aside0.mk (blk_below HX_3a.out hb); have B_4 := Aside0.mk (B_3a.out.trans (hb.mono B_3a.out.size)); clear hb) | (go_at_call 31; (refine (HPut.out _).mono ?_); rintro e w5 ⟨rfl, hb⟩; have HD_5 := Aside0.mk (blk_below HD_4.out hb); have HI_5 := Aside0.mk (blk_below HI_4.out hb); have HZ_5 := Aside0.mk (blk_below HZ_4.out hb); have HL_5 := Aside0.mk (blk_below HL_4.out hb); have HX_5 := Aside0.mk (blk_below HX_4.out hb); have B_5 := Aside0.mk (B_4.out.trans (hb.mono B_4.out.size)); have HD_5a := Aside0.mk (blk_alloc HD_5.out (.cells #[.string f] 9)); have HI_5a := Aside0.mk (blk_alloc HI_5.out (.cells #[.string f] 9)); have HZ_5a := Aside0.mk (blk_alloc HZ_5.out (.cells #[.string f] 9)); have HL_5a := Aside0.mk (blk_alloc HL_5.out (.cells #[.string f] 9)); have HX_5a := Aside0.mk (blk_alloc HX_5.out (.cells #[.string f] 9)); have B_5a := Aside0.mk (B_5.out.alloc B_5.out.size (.cells #[.string f] 9)); have HF_5a := Aside0.mk (show (w5.alloc (.cells #[.string f] 9)).heap[w5.heap.size]? = _ from blk_new (w5) (.cells #[.string f] 9)); clear hb))
  have HD_5b := Aside0.mk (blk_alloc HD_5a.out (.cells #[.func (.func 32) #[] #[.pointer (some ⟨w.heap.size + 1, 0, none⟩), .pointer (some ⟨w1.heap.size, 0, none⟩), .pointer (some ⟨w5.heap.size, 0, none⟩)], .func (.func 34) #[] #[]] 68))
  have HI_5b := Aside0.mk (blk_alloc HI_5a.out (.cells #[.func (.func 32) #[] #[.pointer (some ⟨w.heap.size + 1, 0, none⟩), .pointer (some ⟨w1.heap.size, 0, none⟩), .pointer (some ⟨w5.heap.size, 0, none⟩)], .func (.func 34) #[] #[]] 68))
  have HZ_5b := Aside0.mk (blk_alloc HZ_5a.out (.cells #[.func (.func 32) #[] #[.pointer (some ⟨w.heap.size + 1, 0, none⟩), .pointer (some ⟨w1.heap.size, 0, none⟩), .pointer (some ⟨w5.heap.size, 0, none⟩)], .func (.func 34) #[] #[]] 68))
  have HL_5b := Aside0.mk (blk_alloc HL_5a.out (.cells #[.func (.func 32) #[] #[.pointer (some ⟨w.heap.size + 1, 0, none⟩), .pointer (some ⟨w1.heap.size, 0, none⟩), .pointer (some ⟨w5.heap.size, 0, none⟩)], .func (.func 34) #[] #[]] 68))
  have HX_5b := Aside0.mk (blk_alloc HX_5a.out (.cells #[.func (.func 32) #[] #[.pointer (some ⟨w.heap.size + 1, 0, none⟩), .pointer (some ⟨w1.heap.size, 0, none⟩), .pointer (some ⟨w5.heap.size, 0, none⟩)], .func (.func 34) #[] #[]] 68))
  have HF_5b := Aside0.mk (blk_alloc HF_5a.out (.cells #[.func (.func 32) #[] #[.pointer (some ⟨w.heap.size + 1, 0, none⟩), .pointer (some ⟨w1.heap.size, 0, none⟩), .pointer (some ⟨w5.heap.size, 0, none⟩)], .func (.func 34) #[] #[]] 68))
  have B_5b := Aside0.mk (B_5a.out.alloc B_5a.out.size (.cells #[.func (.func 32) #[] #[.pointer (some ⟨w.heap.size + 1, 0, none⟩), .pointer (some ⟨w1.heap.size, 0, none⟩), .pointer (some ⟨w5.heap.size, 0, none⟩)], .func (.func 34) #[] #[]] 68))
  have HDO_5b := Aside0.mk (show ((w5.alloc (.cells #[.string f] 9)).alloc (.cells #[.func (.func 32) #[] #[.pointer (some ⟨w.heap.size + 1, 0, none⟩), .pointer (some ⟨w1.heap.size, 0, none⟩), .pointer (some ⟨w5.heap.size, 0, none⟩)], .func (.func 34) #[] #[]] 68)).heap[w5.heap.size + 1]? = some (.cells (#[.func (.func 32) #[] #[.pointer (some ⟨w.heap.size + 1, 0, none⟩), .pointer (some ⟨w1.heap.size, 0, none⟩), .pointer (some ⟨w5.heap.size, 0, none⟩)], .func (.func 34) #[] #[]]) 68 (0, 0)) by have h_ := blk_new ((w5.alloc (.cells #[.string f] 9))) (.cells #[.func (.func 32) #[] #[.pointer (some ⟨w.heap.size + 1, 0, none⟩), .pointer (some ⟨w1.heap.size, 0, none⟩), .pointer (some ⟨w5.heap.size, 0, none⟩)], .func (.func 34) #[] #[]] 68); simp only [World.size_alloc] at h_ ⊢; exact h_)
  have HD_6 := Aside0.mk (blk_drew HD_5b.out)
  have HI_6 := Aside0.mk (blk_drew HI_5b.out)
  have HZ_6 := Aside0.mk (blk_drew HZ_5b.out)
  have HL_6 := Aside0.mk (blk_drew HL_5b.out)
  have HX_6 := Aside0.mk (blk_drew HX_5b.out)
  have HF_6 := Aside0.mk (blk_drew HF_5b.out)
  have HDO_6 := Aside0.mk (blk_drew HDO_5b.out)
  have B_6 := Aside0.mk (below_drew1 B_5b.out)
  refine start_ (n := 11) (S := fun w' => w'.cell? ⟨w5.heap.size + 1, 0, none⟩ = some (.func (.func 32) #[] #[.pointer (some ⟨w.heap.size + 1, 0, none⟩), .pointer (some ⟨w1.heap.size, 0, none⟩), .pointer (some ⟨w5.heap.size, 0, none⟩)]) ∧ w'.cell? ⟨w.heap.size, 0, none⟩ = some (.slice A0 l0.length c0) ∧ w'.cell? ⟨w.heap.size, 1, none⟩ = some (.slice A1 l1.length c1)) (ds := [9]) #[false, false, false, false, false, false, false, false, false, false, false] (by kernel_rfl) rfl rfl ⟨(blk_cell HDO_6.out 0).trans rfl, (blk_cell HD_6.out 0).trans rfl, (blk_cell HD_6.out 1).trans rfl⟩ (fun hHeld => ?_)
  generalize World.drew ((w5.alloc (.cells #[.string f] 9)).alloc (.cells #[.func (.func 32) #[] #[.pointer (some ⟨w.heap.size + 1, 0, none⟩), .pointer (some ⟨w1.heap.size, 0, none⟩), .pointer (some ⟨w5.heap.size, 0, none⟩)], .func (.func 34) #[] #[]] 68)) = w6 at HD_6 HI_6 HZ_6 HL_6 HX_6 HF_6 HDO_6 B_6 hHeld ⊢
  refine pure_ (i := 0) (N := some 66) (v := ?_) (a' := ?_) #[true, false, false, false, false, false, false, false, false, false, false] rfl rfl (by kernel_rfl) (fun _ _ _ h => h) (Or.inl ⟨by rfl, ?_⟩) ?_ ?_
  rotate_left
  · intro w'
    go_simp
    with_reducible rfl
  rotate_left
  · simp only [Act.put, List.setIfInBounds_toArray, List.set_cons_zero, List.set_cons_succ, i64_w, i32_w]
    rfl
  refine pure_ (i := 1) (N := some 67) (v := ?_) (a' := ?_) #[true, true, false, false, false, false, false, false, false, false, false] rfl rfl (by kernel_rfl) (fun _ _ _ h => h) (Or.inl ⟨by rfl, ?_⟩) ?_ ?_
  rotate_left
  · intro w'
    go_simp
    with_reducible rfl
  rotate_left
  · simp only [Act.put, List.setIfInBounds_toArray, List.set_cons_zero, List.set_cons_succ, i64_w, i32_w]
    rfl
  refine take_ (i := 2) (N := some 68) (v := ?_) (a' := ?_) #[true, true, true, false, false, false, false, false, false, false, false] rfl rfl (by kernel_rfl) (fun _ _ _ h => h) (Or.inl ⟨by rfl, ?_⟩) hHeld ?_ ?_
  rotate_left
  · rintro w' ⟨s0, s1, s2⟩
    go_simp
    with_reducible rfl
  rotate_left
  · simp only [Act.put, List.setIfInBounds_toArray, List.set_cons_zero, List.set_cons_succ, i64_w, i32_w]
    rfl
  refine take_ (i := 3) (N := some 69) (v := ?_) (a' := ?_) #[true, true, true, true, false, false, false, false, false, false, false] rfl rfl (by kernel_rfl) (fun _ _ _ h => h) (Or.inl ⟨by rfl, ?_⟩) hHeld ?_ ?_
  rotate_left
  · rintro w' ⟨s0, s1, s2⟩
    go_simp
    with_reducible rfl
  rotate_left
  · simp only [Act.put, List.setIfInBounds_toArray, List.set_cons_zero, List.set_cons_succ, i64_w, i32_w]
    rfl
  refine join_ (σ := Nat × Option Addr × Nat × Option Addr × Nat) 2 #[true, true, true, true, true, true, true, true, true, false, false] (fun s => [(70, .tuple #[.agg #[.slice s.2.1 b1.length s.2.2.1, .slice s.2.2.2.1 u1.length s.2.2.2.2], .int .i64 0]), (65, .tuple #[.agg #[.slice s.2.1 b1.length s.2.2.1, .slice s.2.2.2.1 u1.length s.2.2.2.2], .int .i64 0]), (71, .agg #[.slice s.2.1 b1.length s.2.2.1, .slice s.2.2.2.1 u1.length s.2.2.2.2]), (72, .int .i64 0), (19, .pointer (some ⟨s.1, 0, none⟩))]) (fun s w' => w'.heap[w.heap.size]? = some (.cells (#[.slice A0 l0.length c0, .slice A1 l1.length c1]) 25 (0, 0)) ∧ w'.heap[w.heap.size + 1]? = some (.cells (#[.int .i64 a]) 3 (0, 0)) ∧ w'.heap[w.heap.size + 1 + 1]? = some (.cells (#[.slice none 0 0, .slice none 0 0]) 25 (0, 0)) ∧ w'.heap[w1.heap.size]? = some (.cells (blkT n0 t0 k0 n1 t1 k1) 62 (0, 0)) ∧ w'.heap[w3.heap.size]? = some (.cells (#[.int .i64 xn, .string xt, .bool xk]) 61 (0, 0)) ∧ w'.heap[w5.heap.size]? = some (.cells (#[.string f]) 9 (0, 0)) ∧ w'.heap[w5.heap.size + 1]? = some (.cells (#[.func (.func 32) #[] #[.pointer (some ⟨w.heap.size + 1, 0, none⟩), .pointer (some ⟨w1.heap.size, 0, none⟩), .pointer (some ⟨w5.heap.size, 0, none⟩)], .func (.func 34) #[] #[]]) 68 (0, 0)) ∧ Below w.heap.size w w' ∧ w'.heap[s.1]? = some (.cells #[.slice none 0 0, .slice none 0 0] 25 (0, 0)) ∧ w6.heap.size ≤ s.1) ?_ ?_
  rotate_left
  · intro hCont
    refine two_ (i := 4) (j := 8) (Ni := some 70) (Nj := some 19) #[true, true, true, true, true, false, false, false, false, false, false] #[true, true, true, true, false, false, false, false, true, false, false] rfl rfl rfl rfl (by kernel_rfl) (by decide) (by decide) (fun K hK => ?_) (fun K hK => ?_)
    · skip
      refine Go.Proofs.Ytkgcaheddhfpgaa.CallV.goesV_ (first := #[]) (cap := #[.pointer (some ⟨w.heap.size + 1, 0, none⟩), .pointer (some ⟨w1.heap.size, 0, none⟩), .pointer (some ⟨w5.heap.size, 0, none⟩)]) Try.func32 (by kernel_rfl) rfl #[.agg #[.slice A0 l0.length c0, .slice A1 l1.length c1], .pointer (some ⟨w.heap.size + 1, 0, none⟩), .pointer (some ⟨w1.heap.size, 0, none⟩), .pointer (some ⟨w5.heap.size, 0, none⟩)] (by rfl) rfl rfl rfl (by first | (simp; done) | (simp; rfl)) ?_
      refine (HDeed.out (w6) w1.heap.size w5.heap.size B_6.out HI_6.out HL_6.out HF_6.out).mono ?_
      rintro e w7 ⟨v0, v1, rfl, hR0, hR1, hb⟩
      refine ⟨_, rfl, ?_⟩
      obtain ⟨A4, c4, rfl⟩ := Kd.R_slice hR0
      obtain ⟨A5, c5, rfl⟩ := Kd.R_slice hR1
      clear hR0 hR1
      have HD_7 := Aside0.mk (blk_below HD_6.out hb)
      have HI_7 := Aside0.mk (blk_below HI_6.out hb)
      have HZ_7 := Aside0.mk (blk_below HZ_6.out hb)
      have HL_7 := Aside0.mk (blk_below HL_6.out hb)
      have HX_7 := Aside0.mk (blk_below HX_6.out hb)
      have HF_7 := Aside0.mk (blk_below HF_6.out hb)
      have HDO_7 := Aside0.mk (blk_below HDO_6.out hb)
      have B_7 := Aside0.mk (B_6.out.trans (hb.mono B_6.out.size))
      have HS7 := Aside0.mk hb.size
      clear hb
      refine hK.out _ _ ⟨(blk_cell HDO_7.out 0).trans rfl, (blk_cell HD_7.out 0).trans rfl, (blk_cell HD_7.out 1).trans rfl⟩ (fun hHeld => ?_)
      clear hK K
      refine norm_ (a' := ?_) ?_ ?_
      rotate_left
      · show Act.put _ (some 70) _ = _
        simp only [Act.put, List.setIfInBounds_toArray, List.set_cons_zero, List.set_cons_succ, i64_w, i32_w]
        rfl
      refine pure_ (i := 5) (N := some 65) (v := ?_) (a' := ?_) #[true, true, true, true, true, true, false, false, false, false, false] rfl rfl (by kernel_rfl) (fun _ _ _ h => h) (Or.inl ⟨by rfl, ?_⟩) ?_ ?_
      rotate_left
      · intro w'
        go_simp
        with_reducible rfl
      rotate_left
      · simp only [Act.put, List.setIfInBounds_toArray, List.set_cons_zero, List.set_cons_succ, i64_w, i32_w]
        rfl
      refine pure_ (i := 6) (N := some 71) (v := ?_) (a' := ?_) #[true, true, true, true, true, true, true, false, false, false, false] rfl rfl (by kernel_rfl) (fun _ _ _ h => h) (Or.inl ⟨by rfl, ?_⟩) ?_ ?_
      rotate_left
      · intro w'
        go_simp
        with_reducible rfl
      rotate_left
      · simp only [Act.put, List.setIfInBounds_toArray, List.set_cons_zero, List.set_cons_succ, i64_w, i32_w]
        rfl
      refine pure_ (i := 7) (N := some 72) (v := ?_) (a' := ?_) #[true, true, true, true, true, true, true, true, false, false, false] rfl rfl (by kernel_rfl) (fun _ _ _ h => h) (Or.inl ⟨by rfl, ?_⟩) ?_ ?_
      rotate_left
      · intro w'
        go_simp
        with_reducible rfl
      rotate_left
      · simp only [Act.put, List.setIfInBounds_toArray, List.set_cons_zero, List.set_cons_succ, i64_w, i32_w]
        rfl
      refine one_ (i := 8) (N := some 19) #[true, true, true, true, true, true, true, true, true, false, false] rfl rfl (by kernel_rfl) (by decide) (fun K hK => ?_)
      refine value_ (w1 := ?_) (v := ?_) (by rfl) rfl ?_ ?_
      rotate_left 2
      · go_simp
        constructor
        · rfl
        · rfl
      have HD_8 := Aside0.mk (blk_alloc HD_7.out (.cells #[.slice none 0 0, .slice none 0 0] 25))
      have HI_8 := Aside0.mk (blk_alloc HI_7.out (.cells #[.slice none 0 0, .slice none 0 0] 25))
      have HZ_8 := Aside0.mk (blk_alloc HZ_7.out (.cells #[.slice none 0 0, .slice none 0 0] 25))
      have HL_8 := Aside0.mk (blk_alloc HL_7.out (.cells #[.slice none 0 0, .slice none 0 0] 25))
      have HX_8 := Aside0.mk (blk_alloc HX_7.out (.cells #[.slice none 0 0, .slice none 0 0] 25))
      have HF_8 := Aside0.mk (blk_alloc HF_7.out (.cells #[.slice none 0 0, .slice none 0 0] 25))
      have HDO_8 := Aside0.mk (blk_alloc HDO_7.out (.cells #[.slice none 0 0, .slice none 0 0] 25))
      have B_8 := Aside0.mk (B_7.out.alloc B_7.out.size (.cells #[.slice none 0 0, .slice none 0 0] 25))
      refine hK.out _ _ ⟨(blk_cell HDO_8.out 0).trans rfl, (blk_cell HD_8.out 0).trans rfl, (blk_cell HD_8.out 1).trans rfl⟩ (fun hHeld => ?_)
      clear hK K
      refine norm_ (a' := ?_) ?_ ?_
      rotate_left
      · show Act.put _ (some 19) _ = _
        simp only [Act.put, List.setIfInBounds_toArray, List.set_cons_zero, List.set_cons_succ, i64_w, i32_w]
        rfl
      exact norm_ (by simp only [putAll, Act.put, List.setIfInBounds_toArray, List.set_cons_zero, List.set_cons_succ]) (hCont (w7.heap.size, A4, c4, A5, c5) _ ⟨HD_8.out, HI_8.out, HZ_8.out, HL_8.out, HX_8.out, HF_8.out, HDO_8.out, B_8.out, blk_new w7 (.cells #[.slice none 0 0, .slice none 0 0] 25), HS7.out⟩)
    · skip
      refine value_ (w1 := ?_) (v := ?_) (by rfl) rfl ?_ ?_
      rotate_left 2
      · go_simp
        constructor
        · rfl
        · rfl
      have HD_7 := Aside0.mk (blk_alloc HD_6.out (.cells #[.slice none 0 0, .slice none 0 0] 25))
      have HI_7 := Aside0.mk (blk_alloc HI_6.out (.cells #[.slice none 0 0, .slice none 0 0] 25))
      have HZ_7 := Aside0.mk (blk_alloc HZ_6.out (.cells #[.slice none 0 0, .slice none 0 0] 25))
      have HL_7 := Aside0.mk (blk_alloc HL_6.out (.cells #[.slice none 0 0, .slice none 0 0] 25))
      have HX_7 := Aside0.mk (blk_alloc HX_6.out (.cells #[.slice none 0 0, .slice none 0 0] 25))
      have HF_7 := Aside0.mk (blk_alloc HF_6.out (.cells #[.slice none 0 0, .slice none 0 0] 25))
      have HDO_7 := Aside0.mk (blk_alloc HDO_6.out (.cells #[.slice none 0 0, .slice none 0 0] 25))
      have B_7 := Aside0.mk (B_6.out.alloc B_6.out.size (.cells #[.slice none 0 0, .slice none 0 0] 25))
      refine hK.out _ _ ⟨(blk_cell HDO_7.out 0).trans rfl, (blk_cell HD_7.out 0).trans rfl, (blk_cell HD_7.out 1).trans rfl⟩ (fun hHeld => ?_)
      clear hK K
      refine norm_ (a' := ?_) ?_ ?_
      rotate_left
      · show Act.put _ (some 19) _ = _
        simp only [Act.put, List.setIfInBounds_toArray, List.set_cons_zero, List.set_cons_succ, i64_w, i32_w]
        rfl
      refine one_ (i := 4) (N := some 70) #[true, true, true, true, true, false, false, false, true, false, false] rfl rfl (by kernel_rfl) (by decide) (fun K hK => ?_)
      refine Go.Proofs.Ytkgcaheddhfpgaa.CallV.goesV_ (first := #[]) (cap := #[.pointer (some ⟨w.heap.size + 1, 0, none⟩), .pointer (some ⟨w1.heap.size, 0, none⟩), .pointer (some ⟨w5.heap.size, 0, none⟩)]) Try.func32 (by kernel_rfl) rfl #[.agg #[.slice A0 l0.length c0, .slice A1 l1.length c1], .pointer (some ⟨w.heap.size + 1, 0, none⟩), .pointer (some ⟨w1.heap.size, 0, none⟩), .pointer (some ⟨w5.heap.size, 0, none⟩)] (by rfl) rfl rfl rfl (by first | (simp; done) | (simp; rfl)) ?_
      refine (HDeed.out (w6.alloc (.cells #[.slice none 0 0, .slice none 0 0] 25)) w1.heap.size w5.heap.size B_7.out HI_7.out HL_7.out HF_7.out).mono ?_
      rintro e w8 ⟨v0, v1, rfl, hR0, hR1, hb⟩
      refine ⟨_, rfl, ?_⟩
      obtain ⟨A4, c4, rfl⟩ := Kd.R_slice hR0
      obtain ⟨A5, c5, rfl⟩ := Kd.R_slice hR1
      clear hR0 hR1
      have HD_8 := Aside0.mk (blk_below HD_7.out hb)
      have HI_8 := Aside0.mk (blk_below HI_7.out hb)
      have HZ_8 := Aside0.mk (blk_below HZ_7.out hb)
      have HL_8 := Aside0.mk (blk_below HL_7.out hb)
      have HX_8 := Aside0.mk (blk_below HX_7.out hb)
      have HF_8 := Aside0.mk (blk_below HF_7.out hb)
      have HDO_8 := Aside0.mk (blk_below HDO_7.out hb)
      have B_8 := Aside0.mk (B_7.out.trans (hb.mono B_7.out.size))
      have HG8 := Aside0.mk (blk_below (blk_new w6 (.cells #[.slice none 0 0, .slice none 0 0] 25)) hb)
      clear hb
      refine hK.out _ _ ⟨(blk_cell HDO_8.out 0).trans rfl, (blk_cell HD_8.out 0).trans rfl, (blk_cell HD_8.out 1).trans rfl⟩ (fun hHeld => ?_)
      clear hK K
      refine norm_ (a' := ?_) ?_ ?_
      rotate_left
      · show Act.put _ (some 70) _ = _
        simp only [Act.put, List.setIfInBounds_toArray, List.set_cons_zero, List.set_cons_succ, i64_w, i32_w]
        rfl
      refine pure_ (i := 5) (N := some 65) (v := ?_) (a' := ?_) #[true, true, true, true, true, true, false, false, true, false, false] rfl rfl (by kernel_rfl) (fun _ _ _ h => h) (Or.inl ⟨by rfl, ?_⟩) ?_ ?_
      rotate_left
      · intro w'
        go_simp
        with_reducible rfl
      rotate_left
      · simp only [Act.put, List.setIfInBounds_toArray, List.set_cons_zero, List.set_cons_succ, i64_w, i32_w]
        rfl
      refine pure_ (i := 6) (N := some 71) (v := ?_) (a' := ?_) #[true, true, true, true, true, true, true, false, true, false, false] rfl rfl (by kernel_rfl) (fun _ _ _ h => h) (Or.inl ⟨by rfl, ?_⟩) ?_ ?_
      rotate_left
      · intro w'
        go_simp
        with_reducible rfl
      rotate_left
      · simp only [Act.put, List.setIfInBounds_toArray, List.set_cons_zero, List.set_cons_succ, i64_w, i32_w]
        rfl
      refine pure_ (i := 7) (N := some 72) (v := ?_) (a' := ?_) #[true, true, true, true, true, true, true, true, true, false, false] rfl rfl (by kernel_rfl) (fun _ _ _ h => h) (Or.inl ⟨by rfl, ?_⟩) ?_ ?_
      rotate_left
      · intro w'
        go_simp
        with_reducible rfl
      rotate_left
      · simp only [Act.put, List.setIfInBounds_toArray, List.set_cons_zero, List.set_cons_succ, i64_w, i32_w]
        rfl
      exact norm_ (by simp only [putAll, Act.put, List.setIfInBounds_toArray, List.set_cons_zero, List.set_cons_succ]) (hCont (w6.heap.size, A4, c4, A5, c5) _ ⟨HD_8.out, HI_8.out, HZ_8.out, HL_8.out, HX_8.out, HF_8.out, HDO_8.out, B_8.out, HG8.out, Nat.le_refl _⟩)
  rintro ⟨g, A4, c4, A5, c5⟩ w8 ⟨hD8, hI8, hZ8, hL8, hX8, hF8, hDO8, hB8, hG8, hLE⟩
  have HD_8 := Aside0.mk hD8
  have HI_8 := Aside0.mk hI8
  have HZ_8 := Aside0.mk hZ8
  have HL_8 := Aside0.mk hL8
  have HX_8 := Aside0.mk hX8
  have HF_8 := Aside0.mk hF8
  have HDO_8 := Aside0.mk hDO8
  have B_8 := Aside0.mk hB8
  have HG_8 := Aside0.mk hG8
  have HLE := Aside0.mk hLE
  clear hB8 hG8 hLE hD8 hI8 hZ8 hL8 hX8 hF8 hDO8
  have hHeld : w8.cell? ⟨w5.heap.size + 1, 0, none⟩ = some (.func (.func 32) #[] #[.pointer (some ⟨w.heap.size + 1, 0, none⟩), .pointer (some ⟨w1.heap.size, 0, none⟩), .pointer (some ⟨w5.heap.size, 0, none⟩)]) ∧ w8.cell? ⟨w.heap.size, 0, none⟩ = some (.slice A0 l0.length c0) ∧ w8.cell? ⟨w.heap.size, 1, none⟩ = some (.slice A1 l1.length c1) := ⟨(blk_cell HDO_8.out 0).trans rfl, (blk_cell HD_8.out 0).trans rfl, (blk_cell HD_8.out 1).trans rfl⟩
  have y0 := blk_cell HG_8.out 0
  have y1 := blk_cell HG_8.out 1
  have fy0 := blk_frozen HG_8.out 0
  have fy1 := blk_frozen HG_8.out 1
  refine norm_ (a' := ?_) ?_ ?_
  rotate_left
  · simp only [putAll, Act.put, List.setIfInBounds_toArray, List.set_cons_zero, List.set_cons_succ]
    rfl
  refine last_ (i := 9) (N := none) #[true, true, true, true, true, true, true, true, true, true, false] rfl rfl (by kernel_rfl) (by decide) (fun K hK => ?_)
  refine skip_ (w1 := ?_) (by rfl) rfl ?_ ?_
  rotate_left
  · go_simp
    rfl
  refine hK.out _ _ ?_
  clear hK K
  refine pure_ (i := 10) (N := some 20) (v := ?_) (a' := ?_) #[true, true, true, true, true, true, true, true, true, true, true] rfl rfl (by kernel_rfl) (fun _ _ _ h => h) (Or.inl ⟨by rfl, ?_⟩) ?_ ?_
  rotate_left
  · intro w'
    go_simp
    with_reducible rfl
  rotate_left
  · simp only [Act.put, List.setIfInBounds_toArray, List.set_cons_zero, List.set_cons_succ, i64_w, i32_w]
    rfl
  refine done_ (by kernel_rfl) ?_
  obtain ⟨w9, hw_⟩ : ∃ x_, x_ = (w8.setCell ⟨g, 0, none⟩ (.slice A4 b1.length c4)).setCell ⟨g, 1, none⟩ (.slice A5 u1.length c5) := ⟨_, rfl⟩
  rw [← hw_]
  have HD_9 := Aside0.mk (show w9.heap[w.heap.size]? = some (.cells (#[.slice A0 l0.length c0, .slice A1 l1.length c1]) 25 (0, 0)) by rw [hw_]; exact blk_far (blk_far HD_8.out (p := ⟨g, 0, none⟩) (by have h1 := blk_lt HD_6.out; have h2 := HLE.out; show w.heap.size ≠ g; omega) _) (p := ⟨g, 1, none⟩) (by have h1 := blk_lt HD_6.out; have h2 := HLE.out; show w.heap.size ≠ g; omega) _)
  have HI_9 := Aside0.mk (show w9.heap[w.heap.size + 1]? = some (.cells (#[.int .i64 a]) 3 (0, 0)) by rw [hw_]; exact blk_far (blk_far HI_8.out (p := ⟨g, 0, none⟩) (by have h1 := blk_lt HI_6.out; have h2 := HLE.out; show w.heap.size + 1 ≠ g; omega) _) (p := ⟨g, 1, none⟩) (by have h1 := blk_lt HI_6.out; have h2 := HLE.out; show w.heap.size + 1 ≠ g; omega) _)
  have HZ_9 := Aside0.mk (show w9.heap[w.heap.size + 1 + 1]? = some (.cells (#[.slice none 0 0, .slice none 0 0]) 25 (0, 0)) by rw [hw_]; exact blk_far (blk_far HZ_8.out (p := ⟨g, 0, none⟩) (by have h1 := blk_lt HZ_6.out; have h2 := HLE.out; show w.heap.size + 1 + 1 ≠ g; omega) _) (p := ⟨g, 1, none⟩) (by have h1 := blk_lt HZ_6.out; have h2 := HLE.out; show w.heap.size + 1 + 1 ≠ g; omega) _)
  have HL_9 := Aside0.mk (show w9.heap[w1.heap.size]? = some (.cells (blkT n0 t0 k0 n1 t1 k1) 62 (0, 0)) by rw [hw_]; exact blk_far (blk_far HL_8.out (p := ⟨g, 0, none⟩) (by have h1 := blk_lt HL_6.out; have h2 := HLE.out; show w1.heap.size ≠ g; omega) _) (p := ⟨g, 1, none⟩) (by have h1 := blk_lt HL_6.out; have h2 := HLE.out; show w1.heap.size ≠ g; omega) _)
  have HX_9 := Aside0.mk (show w9.heap[w3.heap.size]? = some (.cells (#[.int .i64 xn, .string xt, .bool xk]) 61 (0, 0)) by rw [hw_]; exact blk_far (blk_far HX_8.out (p := ⟨g, 0, none⟩) (by have h1 := blk_lt HX_6.out; have h2 := HLE.out; show w3.heap.size ≠ g; omega) _) (p := ⟨g, 1, none⟩) (by have h1 := blk_lt HX_6.out; have h2 := HLE.out; show w3.heap.size ≠ g; omega) _)
  have HF_9 := Aside0.mk (show w9.heap[w5.heap.size]? = some (.cells (#[.string f]) 9 (0, 0)) by rw [hw_]; exact blk_far (blk_far HF_8.out (p := ⟨g, 0, none⟩) (by have h1 := blk_lt HF_6.out; have h2 := HLE.out; show w5.heap.size ≠ g; omega) _) (p := ⟨g, 1, none⟩) (by have h1 := blk_lt HF_6.out; have h2 := HLE.out; show w5.heap.size ≠ g; omega) _)
  have HDO_9 := Aside0.mk (show w9.heap[w5.heap.size + 1]? = some (.cells (#[.func (.func 32) #[] #[.pointer (some ⟨w.heap.size + 1, 0, none⟩), .pointer (some ⟨w1.heap.size, 0, none⟩), .pointer (some ⟨w5.heap.size, 0, none⟩)], .func (.func 34) #[] #[]]) 68 (0, 0)) by rw [hw_]; exact blk_far (blk_far HDO_8.out (p := ⟨g, 0, none⟩) (by have h1 := blk_lt HDO_6.out; have h2 := HLE.out; show w5.heap.size + 1 ≠ g; omega) _) (p := ⟨g, 1, none⟩) (by have h1 := blk_lt HDO_6.out; have h2 := HLE.out; show w5.heap.size + 1 ≠ g; omega) _)
  have HG_9 := Aside0.mk (show w9.heap[g]? = some (.cells (#[.slice A4 b1.length c4, .slice A5 u1.length c5]) 25 (0, 0)) by rw [hw_]; exact blk_set (blk_set HG_8.out 0 (.slice A4 b1.length c4)) 1 (.slice A5 u1.length c5))
  have B_9 := Aside0.mk (show Below w.heap.size w w9 by rw [hw_]; exact (B_8.out.setCell (p := ⟨g, 0, none⟩) (by have h1 := B_6.out.size; have h2 := HLE.out; show w.heap.size ≤ g; omega) _).setCell (p := ⟨g, 1, none⟩) (by have h1 := B_6.out.size; have h2 := HLE.out; show w.heap.size ≤ g; omega) _)
  clear hw_
  clear hHeld
  go_wp2
  have HD_10 := Aside0.mk (blk_drew HD_9.out)
  have HI_10 := Aside0.mk (blk_drew HI_9.out)
  have HZ_10 := Aside0.mk (blk_drew HZ_9.out)
  have HL_10 := Aside0.mk (blk_drew HL_9.out)
  have HX_10 := Aside0.mk (blk_drew HX_9.out)
  have HF_10 := Aside0.mk (blk_drew HF_9.out)
  have HDO_10 := Aside0.mk (blk_drew HDO_9.out)
  have HG_10 := Aside0.mk (blk_drew HG_9.out)
  have B_10 := Aside0.mk (below_drew1 B_9.out)
  refine start_ (n := 9) (S := fun w' => w'.cell? ⟨w.heap.size, 0, none⟩ = some (.slice A0 l0.length c0) ∧ w'.cell? ⟨w.heap.size, 1, none⟩ = some (.slice A1 l1.length c1)) (ds := [8]) #[false, false, false, false, false, false, false, false, false] (by kernel_rfl) rfl rfl ⟨(blk_cell HD_10.out 0).trans rfl, (blk_cell HD_10.out 1).trans rfl⟩ (fun hHeld => ?_)
  generalize World.drew w9 = w10 at HD_10 HI_10 HZ_10 HL_10 HX_10 HF_10 HDO_10 HG_10 B_10 hHeld ⊢
  refine pure_ (i := 0) (N := some 87) (v := ?_) (a' := ?_) #[true, false, false, false, false, false, false, false, false] rfl rfl (by kernel_rfl) (fun _ _ _ h => h) (Or.inl ⟨by rfl, ?_⟩) ?_ ?_
  rotate_left
  · intro w'
    go_simp
    with_reducible rfl
  rotate_left
  · simp only [Act.put, List.setIfInBounds_toArray, List.set_cons_zero, List.set_cons_succ, i64_w, i32_w]
    rfl
  refine pure_ (i := 3) (N := some 90) (v := ?_) (a' := ?_) #[true, false, false, true, false, false, false, false, false] rfl rfl (by kernel_rfl) (fun _ _ _ h => h) (Or.inl ⟨by rfl, ?_⟩) ?_ ?_
  rotate_left
  · intro w'
    go_simp
    with_reducible rfl
  rotate_left
  · simp only [Act.put, List.setIfInBounds_toArray, List.set_cons_zero, List.set_cons_succ, i64_w, i32_w]
    rfl
  refine take_ (i := 1) (N := some 88) (v := ?_) (a' := ?_) #[true, true, false, true, false, false, false, false, false] rfl rfl (by kernel_rfl) (fun _ _ _ h => h) (Or.inl ⟨by rfl, ?_⟩) hHeld ?_ ?_
  rotate_left
  · rintro w' ⟨s0, s1⟩
    go_simp
    with_reducible rfl
  rotate_left
  · simp only [Act.put, List.setIfInBounds_toArray, List.set_cons_zero, List.set_cons_succ, i64_w, i32_w]
    rfl
  refine take_ (i := 4) (N := some 91) (v := ?_) (a' := ?_) #[true, true, false, true, true, false, false, false, false] rfl rfl (by kernel_rfl) (fun _ _ _ h => h) (Or.inl ⟨by rfl, ?_⟩) hHeld ?_ ?_
  rotate_left
  · rintro w' ⟨s0, s1⟩
    go_simp
    with_reducible rfl
  rotate_left
  · simp only [Act.put, List.setIfInBounds_toArray, List.set_cons_zero, List.set_cons_succ, i64_w, i32_w]
    rfl
  refine join_ (σ := Nat × Option Addr × Nat × Option Addr × Nat) 1 #[true, true, true, true, true, true, true, true, false] (fun s => [(89, .slice s.2.1 l0.length s.2.2.1), (92, .slice s.2.2.2.1 l1.length s.2.2.2.2), (93, .agg #[.slice s.2.1 l0.length s.2.2.1, .slice s.2.2.2.1 l1.length s.2.2.2.2]), (21, .pointer (some ⟨s.1, 0, none⟩))]) (fun s w' => w'.heap[w.heap.size]? = some (.cells (#[.slice A0 l0.length c0, .slice A1 l1.length c1]) 25 (0, 0)) ∧ w'.heap[w.heap.size + 1]? = some (.cells (#[.int .i64 a]) 3 (0, 0)) ∧ w'.heap[w.heap.size + 1 + 1]? = some (.cells (#[.slice none 0 0, .slice none 0 0]) 25 (0, 0)) ∧ w'.heap[w1.heap.size]? = some (.cells (blkT n0 t0 k0 n1 t1 k1) 62 (0, 0)) ∧ w'.heap[w3.heap.size]? = some (.cells (#[.int .i64 xn, .string xt, .bool xk]) 61 (0, 0)) ∧ w'.heap[w5.heap.size]? = some (.cells (#[.string f]) 9 (0, 0)) ∧ w'.heap[w5.heap.size + 1]? = some (.cells (#[.func (.func 32) #[] #[.pointer (some ⟨w.heap.size + 1, 0, none⟩), .pointer (some ⟨w1.heap.size, 0, none⟩), .pointer (some ⟨w5.heap.size, 0, none⟩)], .func (.func 34) #[] #[]]) 68 (0, 0)) ∧ w'.heap[g]? = some (.cells (#[.slice A4 b1.length c4, .slice A5 u1.length c5]) 25 (0, 0)) ∧ Below w.heap.size w w' ∧ w'.heap[s.1]? = some (.cells #[.slice none 0 0, .slice none 0 0] 25 (0, 0)) ∧ w10.heap.size ≤ s.1 ∧ Kd.R Kd.string 9 w' w.heap.size (fun _ => True) (.slice s.2.1 l0.length s.2.2.1) l0 ∧ Kd.R k73 73 w' w.heap.size (fun _ => True) (.slice s.2.2.2.1 l1.length s.2.2.2.2) l1) ?_ ?_
  rotate_left
  · intro hCont
    refine two_ (i := 2) (j := 7) (Ni := some 89) (Nj := some 21) #[true, true, true, true, true, false, false, false, false] #[true, true, false, true, true, false, false, true, false] rfl rfl rfl rfl (by kernel_rfl) (by decide) (by decide) (fun K hK => ?_) (fun K hK => ?_)
    · skip
      refine goes_ Try.func35 (by kernel_rfl) rfl #[.slice A0 l0.length c0] (by rfl) rfl rfl (by (try simp only [List.map_toArray, List.map_cons, List.map_nil]); first | done | rfl) ?_
      refine (HClone0.out (w10) B_10.out).mono ?_
      rintro e w11 ⟨xa, rfl, hR, hb⟩
      refine ⟨_, rfl, ?_⟩
      obtain ⟨Aa, ca, rfl⟩ := Kd.R_slice hR
      have hR_ := Kd.R_lower hR B_10.out.size
      clear hR
      have HD_11 := Aside0.mk (blk_below HD_10.out hb)
      have HI_11 := Aside0.mk (blk_below HI_10.out hb)
      have HZ_11 := Aside0.mk (blk_below HZ_10.out hb)
      have HL_11 := Aside0.mk (blk_below HL_10.out hb)
      have HX_11 := Aside0.mk (blk_below HX_10.out hb)
      have HF_11 := Aside0.mk (blk_below HF_10.out hb)
      have HDO_11 := Aside0.mk (blk_below HDO_10.out hb)
      have HG_11 := Aside0.mk (blk_below HG_10.out hb)
      have B_11 := Aside0.mk (B_10.out.trans (hb.mono B_10.out.size))
      have OV_11 := Aside0.mk hR_
      clear hR_
      have HS := Aside0.mk hb.size
      clear hb
      refine hK.out _ _ ⟨(blk_cell HD_11.out 0).trans rfl, (blk_cell HD_11.out 1).trans rfl⟩ (fun hHeld => ?_)
      clear hK K
      refine norm_ (a' := ?_) ?_ ?_
      rotate_left
      · show Act.put _ (some 89) _ = _
        simp only [Act.put, List.setIfInBounds_toArray, List.set_cons_zero, List.set_cons_succ, i64_w, i32_w]
        rfl
      refine two_ (i := 5) (j := 7) (Ni := some 92) (Nj := some 21) #[true, true, true, true, true, true, false, false, false] #[true, true, true, true, true, false, false, true, false] rfl rfl rfl rfl (by kernel_rfl) (by decide) (by decide) (fun K hK => ?_) (fun K hK => ?_)
      · skip
        refine goes_ Try.func36 (by kernel_rfl) rfl #[.slice A1 l1.length c1] (by rfl) rfl rfl (by (try simp only [List.map_toArray, List.map_cons, List.map_nil]); first | done | rfl) ?_
        refine (HClone1.out (w11) B_11.out).mono ?_
        rintro e w12 ⟨xb, rfl, hR, hb⟩
        refine ⟨_, rfl, ?_⟩
        obtain ⟨Ab, cb, rfl⟩ := Kd.R_slice hR
        have hR_ := Kd.R_lower hR B_11.out.size
        clear hR
        have HD_12 := Aside0.mk (blk_below HD_11.out hb)
        have HI_12 := Aside0.mk (blk_below HI_11.out hb)
        have HZ_12 := Aside0.mk (blk_below HZ_11.out hb)
        have HL_12 := Aside0.mk (blk_below HL_11.out hb)
        have HX_12 := Aside0.mk (blk_below HX_11.out hb)
        have HF_12 := Aside0.mk (blk_below HF_11.out hb)
        have HDO_12 := Aside0.mk (blk_below HDO_11.out hb)
        have HG_12 := Aside0.mk (blk_below HG_11.out hb)
        have OV_12 := Aside0.mk (Kd.R_below OV_11.out hb)
        have B_12 := Aside0.mk (B_11.out.trans (hb.mono B_11.out.size))
        have OU_12 := Aside0.mk hR_
        clear hR_
        have HS := Aside0.mk (Nat.le_trans HS.out hb.size)
        clear hb
        refine hK.out _ _ ⟨(blk_cell HD_12.out 0).trans rfl, (blk_cell HD_12.out 1).trans rfl⟩ (fun hHeld => ?_)
        clear hK K
        refine norm_ (a' := ?_) ?_ ?_
        rotate_left
        · show Act.put _ (some 92) _ = _
          simp only [Act.put, List.setIfInBounds_toArray, List.set_cons_zero, List.set_cons_succ, i64_w, i32_w]
          rfl
        refine pure_ (i := 6) (N := some 93) (v := ?_) (a' := ?_) #[true, true, true, true, true, true, true, false, false] rfl rfl (by kernel_rfl) (fun _ _ _ h => h) (Or.inl ⟨by rfl, ?_⟩) ?_ ?_
        rotate_left
        · intro w'
          go_simp
          with_reducible rfl
        rotate_left
        · simp only [Act.put, List.setIfInBounds_toArray, List.set_cons_zero, List.set_cons_succ, i64_w, i32_w]
          rfl
        refine one_ (i := 7) (N := some 21) #[true, true, true, true, true, true, true, true, false] rfl rfl (by kernel_rfl) (by decide) (fun K hK => ?_)
        refine value_ (w1 := ?_) (v := ?_) (by rfl) rfl ?_ ?_
        rotate_left 2
        · go_simp
          constructor
          · rfl
          · rfl
        have HS13 := Aside0.mk (show w10.heap.size ≤ (w12).heap.size by exact HS.out)
        have HD_13 := Aside0.mk (blk_alloc HD_12.out (.cells #[.slice none 0 0, .slice none 0 0] 25))
        have HI_13 := Aside0.mk (blk_alloc HI_12.out (.cells #[.slice none 0 0, .slice none 0 0] 25))
        have HZ_13 := Aside0.mk (blk_alloc HZ_12.out (.cells #[.slice none 0 0, .slice none 0 0] 25))
        have HL_13 := Aside0.mk (blk_alloc HL_12.out (.cells #[.slice none 0 0, .slice none 0 0] 25))
        have HX_13 := Aside0.mk (blk_alloc HX_12.out (.cells #[.slice none 0 0, .slice none 0 0] 25))
        have HF_13 := Aside0.mk (blk_alloc HF_12.out (.cells #[.slice none 0 0, .slice none 0 0] 25))
        have HDO_13 := Aside0.mk (blk_alloc HDO_12.out (.cells #[.slice none 0 0, .slice none 0 0] 25))
        have HG_13 := Aside0.mk (blk_alloc HG_12.out (.cells #[.slice none 0 0, .slice none 0 0] 25))
        have OV_13 := Aside0.mk (Kd.R_alloc OV_12.out (.cells #[.slice none 0 0, .slice none 0 0] 25))
        have OU_13 := Aside0.mk (Kd.R_alloc OU_12.out (.cells #[.slice none 0 0, .slice none 0 0] 25))
        have B_13 := Aside0.mk (B_12.out.alloc B_12.out.size (.cells #[.slice none 0 0, .slice none 0 0] 25))
        have HN_13 := Aside0.mk (show (w12.alloc (.cells #[.slice none 0 0, .slice none 0 0] 25)).heap[w12.heap.size]? = _ from blk_new (w12) (.cells #[.slice none 0 0, .slice none 0 0] 25))
        refine hK.out _ _ ⟨(blk_cell HD_13.out 0).trans rfl, (blk_cell HD_13.out 1).trans rfl⟩ (fun hHeld => ?_)
        clear hK K
        refine norm_ (a' := ?_) ?_ ?_
        rotate_left
        · show Act.put _ (some 21) _ = _
          simp only [Act.put, List.setIfInBounds_toArray, List.set_cons_zero, List.set_cons_succ, i64_w, i32_w]
          rfl
        exact norm_ (by simp only [putAll, Act.put, List.setIfInBounds_toArray, List.set_cons_zero, List.set_cons_succ]) (hCont (w12.heap.size, Aa, ca, Ab, cb) _ ⟨HD_13.out, HI_13.out, HZ_13.out, HL_13.out, HX_13.out, HF_13.out, HDO_13.out, HG_13.out, B_13.out, HN_13.out, HS13.out, OV_13.out, OU_13.out⟩)
      · skip
        refine value_ (w1 := ?_) (v := ?_) (by rfl) rfl ?_ ?_
        rotate_left 2
        · go_simp
          constructor
          · rfl
          · rfl
        have HS12 := Aside0.mk (show w10.heap.size ≤ (w11).heap.size by exact HS.out)
        have HD_12 := Aside0.mk (blk_alloc HD_11.out (.cells #[.slice none 0 0, .slice none 0 0] 25))
        have HI_12 := Aside0.mk (blk_alloc HI_11.out (.cells #[.slice none 0 0, .slice none 0 0] 25))
        have HZ_12 := Aside0.mk (blk_alloc HZ_11.out (.cells #[.slice none 0 0, .slice none 0 0] 25))
        have HL_12 := Aside0.mk (blk_alloc HL_11.out (.cells #[.slice none 0 0, .slice none 0 0] 25))
        have HX_12 := Aside0.mk (blk_alloc HX_11.out (.cells #[.slice none 0 0, .slice none 0 0] 25))
        have HF_12 := Aside0.mk (blk_alloc HF_11.out (.cells #[.slice none 0 0, .slice none 0 0] 25))
        have HDO_12 := Aside0.mk (blk_alloc HDO_11.out (.cells #[.slice none 0 0, .slice none 0 0] 25))
        have HG_12 := Aside0.mk (blk_alloc HG_11.out (.cells #[.slice none 0 0, .slice none 0 0] 25))
        have OV_12 := Aside0.mk (Kd.R_alloc OV_11.out (.cells #[.slice none 0 0, .slice none 0 0] 25))
        have B_12 := Aside0.mk (B_11.out.alloc B_11.out.size (.cells #[.slice none 0 0, .slice none 0 0] 25))
        have HN_12 := Aside0.mk (show (w11.alloc (.cells #[.slice none 0 0, .slice none 0 0] 25)).heap[w11.heap.size]? = _ from blk_new (w11) (.cells #[.slice none 0 0, .slice none 0 0] 25))
        refine hK.out _ _ ⟨(blk_cell HD_12.out 0).trans rfl, (blk_cell HD_12.out 1).trans rfl⟩ (fun hHeld => ?_)
        clear hK K
        refine norm_ (a' := ?_) ?_ ?_
        rotate_left
        · show Act.put _ (some 21) _ = _
          simp only [Act.put, List.setIfInBounds_toArray, List.set_cons_zero, List.set_cons_succ, i64_w, i32_w]
          rfl
        refine one_ (i := 5) (N := some 92) #[true, true, true, true, true, true, false, true, false] rfl rfl (by kernel_rfl) (by decide) (fun K hK => ?_)
        refine goes_ Try.func36 (by kernel_rfl) rfl #[.slice A1 l1.length c1] (by rfl) rfl rfl (by (try simp only [List.map_toArray, List.map_cons, List.map_nil]); first | done | rfl) ?_
        refine (HClone1.out ((w11.alloc (.cells #[.slice none 0 0, .slice none 0 0] 25))) B_12.out).mono ?_
        rintro e w13 ⟨xb, rfl, hR, hb⟩
        refine ⟨_, rfl, ?_⟩
        obtain ⟨Ab, cb, rfl⟩ := Kd.R_slice hR
        have hR_ := Kd.R_lower hR B_12.out.size
        clear hR
        have HD_13 := Aside0.mk (blk_below HD_12.out hb)
        have HI_13 := Aside0.mk (blk_below HI_12.out hb)
        have HZ_13 := Aside0.mk (blk_below HZ_12.out hb)
        have HL_13 := Aside0.mk (blk_below HL_12.out hb)
        have HX_13 := Aside0.mk (blk_below HX_12.out hb)
        have HF_13 := Aside0.mk (blk_below HF_12.out hb)
        have HDO_13 := Aside0.mk (blk_below HDO_12.out hb)
        have HG_13 := Aside0.mk (blk_below HG_12.out hb)
        have HN_13 := Aside0.mk (blk_below HN_12.out hb)
        have OV_13 := Aside0.mk (Kd.R_below OV_12.out hb)
        have B_13 := Aside0.mk (B_12.out.trans (hb.mono B_12.out.size))
        have OU_13 := Aside0.mk hR_
        clear hR_
        clear hb
        refine hK.out _ _ ⟨(blk_cell HD_13.out 0).trans rfl, (blk_cell HD_13.out 1).trans rfl⟩ (fun hHeld => ?_)
        clear hK K
        refine norm_ (a' := ?_) ?_ ?_
        rotate_left
        · show Act.put _ (some 92) _ = _
          simp only [Act.put, List.setIfInBounds_toArray, List.set_cons_zero, List.set_cons_succ, i64_w, i32_w]
          rfl
        refine pure_ (i := 6) (N := some 93) (v := ?_) (a' := ?_) #[true, true, true, true, true, true, true, true, false] rfl rfl (by kernel_rfl) (fun _ _ _ h => h) (Or.inl ⟨by rfl, ?_⟩) ?_ ?_
        rotate_left
        · intro w'
          go_simp
          with_reducible rfl
        rotate_left
        · simp only [Act.put, List.setIfInBounds_toArray, List.set_cons_zero, List.set_cons_succ, i64_w, i32_w]
          rfl
        exact norm_ (by simp only [putAll, Act.put, List.setIfInBounds_toArray, List.set_cons_zero, List.set_cons_succ]) (hCont (w11.heap.size, Aa, ca, Ab, cb) _ ⟨HD_13.out, HI_13.out, HZ_13.out, HL_13.out, HX_13.out, HF_13.out, HDO_13.out, HG_13.out, B_13.out, HN_13.out, HS12.out, OV_13.out, OU_13.out⟩)
    · skip
      refine value_ (w1 := ?_) (v := ?_) (by rfl) rfl ?_ ?_
      rotate_left 2
      · go_simp
        constructor
        · rfl
        · rfl
      have HS11 := Aside0.mk (show w10.heap.size ≤ (w10).heap.size by exact Nat.le_refl _)
      have HD_11 := Aside0.mk (blk_alloc HD_10.out (.cells #[.slice none 0 0, .slice none 0 0] 25))
      have HI_11 := Aside0.mk (blk_alloc HI_10.out (.cells #[.slice none 0 0, .slice none 0 0] 25))
      have HZ_11 := Aside0.mk (blk_alloc HZ_10.out (.cells #[.slice none 0 0, .slice none 0 0] 25))
      have HL_11 := Aside0.mk (blk_alloc HL_10.out (.cells #[.slice none 0 0, .slice none 0 0] 25))
      have HX_11 := Aside0.mk (blk_alloc HX_10.out (.cells #[.slice none 0 0, .slice none 0 0] 25))
      have HF_11 := Aside0.mk (blk_alloc HF_10.out (.cells #[.slice none 0 0, .slice none 0 0] 25))
      have HDO_11 := Aside0.mk (blk_alloc HDO_10.out (.cells #[.slice none 0 0, .slice none 0 0] 25))
      have HG_11 := Aside0.mk (blk_alloc HG_10.out (.cells #[.slice none 0 0, .slice none 0 0] 25))
      have B_11 := Aside0.mk (B_10.out.alloc B_10.out.size (.cells #[.slice none 0 0, .slice none 0 0] 25))
      have HN_11 := Aside0.mk (show (w10.alloc (.cells #[.slice none 0 0, .slice none 0 0] 25)).heap[w10.heap.size]? = _ from blk_new (w10) (.cells #[.slice none 0 0, .slice none 0 0] 25))
      refine hK.out _ _ ⟨(blk_cell HD_11.out 0).trans rfl, (blk_cell HD_11.out 1).trans rfl⟩ (fun hHeld => ?_)
      clear hK K
      refine norm_ (a' := ?_) ?_ ?_
      rotate_left
      · show Act.put _ (some 21) _ = _
        simp only [Act.put, List.setIfInBounds_toArray, List.set_cons_zero, List.set_cons_succ, i64_w, i32_w]
        rfl
      refine one_ (i := 2) (N := some 89) #[true, true, true, true, true, false, false, true, false] rfl rfl (by kernel_rfl) (by decide) (fun K hK => ?_)
      refine goes_ Try.func35 (by kernel_rfl) rfl #[.slice A0 l0.length c0] (by rfl) rfl rfl (by (try simp only [List.map_toArray, List.map_cons, List.map_nil]); first | done | rfl) ?_
      refine (HClone0.out ((w10.alloc (.cells #[.slice none 0 0, .slice none 0 0] 25))) B_11.out).mono ?_
      rintro e w12 ⟨xa, rfl, hR, hb⟩
      refine ⟨_, rfl, ?_⟩
      obtain ⟨Aa, ca, rfl⟩ := Kd.R_slice hR
      have hR_ := Kd.R_lower hR B_11.out.size
      clear hR
      have HD_12 := Aside0.mk (blk_below HD_11.out hb)
      have HI_12 := Aside0.mk (blk_below HI_11.out hb)
      have HZ_12 := Aside0.mk (blk_below HZ_11.out hb)
      have HL_12 := Aside0.mk (blk_below HL_11.out hb)
      have HX_12 := Aside0.mk (blk_below HX_11.out hb)
      have HF_12 := Aside0.mk (blk_below HF_11.out hb)
      have HDO_12 := Aside0.mk (blk_below HDO_11.out hb)
      have HG_12 := Aside0.mk (blk_below HG_11.out hb)
      have HN_12 := Aside0.mk (blk_below HN_11.out hb)
      have B_12 := Aside0.mk (B_11.out.trans (hb.mono B_11.out.size))
      have OV_12 := Aside0.mk hR_
      clear hR_
      clear hb
      refine hK.out _ _ ⟨(blk_cell HD_12.out 0).trans rfl, (blk_cell HD_12.out 1).trans rfl⟩ (fun hHeld => ?_)
      clear hK K
      refine norm_ (a' := ?_) ?_ ?_
      rotate_left
      · show Act.put _ (some 89) _ = _
        simp only [Act.put, List.setIfInBounds_toArray, List.set_cons_zero, List.set_cons_succ, i64_w, i32_w]
        rfl
      refine one_ (i := 5) (N := some 92) #[true, true, true, true, true, true, false, true, false] rfl rfl (by kernel_rfl) (by decide) (fun K hK => ?_)
      refine goes_ Try.func36 (by kernel_rfl) rfl #[.slice A1 l1.length c1] (by rfl) rfl rfl (by (try simp only [List.map_toArray, List.map_cons, List.map_nil]); first | done | rfl) ?_
      refine (HClone1.out (w12) B_12.out).mono ?_
      rintro e w13 ⟨xb, rfl, hR, hb⟩
      refine ⟨_, rfl, ?_⟩
      obtain ⟨Ab, cb, rfl⟩ := Kd.R_slice hR
      have hR_ := Kd.R_lower hR B_12.out.size
      clear hR
      have HD_13 := Aside0.mk (blk_below HD_12.out hb)
      have HI_13 := Aside0.mk (blk_below HI_12.out hb)
      have HZ_13 := Aside0.mk (blk_below HZ_12.out hb)
      have HL_13 := Aside0.mk (blk_below HL_12.out hb)
      have HX_13 := Aside0.mk (blk_below HX_12.out hb)
      have HF_13 := Aside0.mk (blk_below HF_12.out hb)
      have HDO_13 := Aside0.mk (blk_below HDO_12.out hb)
      have HG_13 := Aside0.mk (blk_below HG_12.out hb)
      have HN_13 := Aside0.mk (blk_below HN_12.out hb)
      have OV_13 := Aside0.mk (Kd.R_below OV_12.out hb)
      have B_13 := Aside0.mk (B_12.out.trans (hb.mono B_12.out.size))
      have OU_13 := Aside0.mk hR_
      clear hR_
      clear hb
      refine hK.out _ _ ⟨(blk_cell HD_13.out 0).trans rfl, (blk_cell HD_13.out 1).trans rfl⟩ (fun hHeld => ?_)
      clear hK K
      refine norm_ (a' := ?_) ?_ ?_
      rotate_left
      · show Act.put _ (some 92) _ = _
        simp only [Act.put, List.setIfInBounds_toArray, List.set_cons_zero, List.set_cons_succ, i64_w, i32_w]
        rfl
      refine pure_ (i := 6) (N := some 93) (v := ?_) (a' := ?_) #[true, true, true, true, true, true, true, true, false] rfl rfl (by kernel_rfl) (fun _ _ _ h => h) (Or.inl ⟨by rfl, ?_⟩) ?_ ?_
      rotate_left
      · intro w'
        go_simp
        with_reducible rfl
      rotate_left
      · simp only [Act.put, List.setIfInBounds_toArray, List.set_cons_zero, List.set_cons_succ, i64_w, i32_w]
        rfl
      exact norm_ (by simp only [putAll, Act.put, List.setIfInBounds_toArray, List.set_cons_zero, List.set_cons_succ]) (hCont (w10.heap.size, Aa, ca, Ab, cb) _ ⟨HD_13.out, HI_13.out, HZ_13.out, HL_13.out, HX_13.out, HF_13.out, HDO_13.out, HG_13.out, B_13.out, HN_13.out, HS11.out, OV_13.out, OU_13.out⟩)
  rintro ⟨gn, Aa, ca, Ab, cb⟩ w14 ⟨hD14, hI14, hZ14, hL14, hX14, hF14, hDO14, hG14, hB14, hN14, hLE2, hV14, hU14⟩
  have HD_14 := Aside0.mk hD14
  have HI_14 := Aside0.mk hI14
  have HZ_14 := Aside0.mk hZ14
  have HL_14 := Aside0.mk hL14
  have HX_14 := Aside0.mk hX14
  have HF_14 := Aside0.mk hF14
  have HDO_14 := Aside0.mk hDO14
  have HG_14 := Aside0.mk hG14
  have B_14 := Aside0.mk hB14
  have HN_14 := Aside0.mk hN14
  have HLE2 := Aside0.mk hLE2
  have OV_14 := Aside0.mk hV14
  have OU_14 := Aside0.mk hU14
  clear hB14 hN14 hLE2 hV14 hU14 hD14 hI14 hZ14 hL14 hX14 hF14 hDO14 hG14
  have hHeld : w14.cell? ⟨w.heap.size, 0, none⟩ = some (.slice A0 l0.length c0) ∧ w14.cell? ⟨w.heap.size, 1, none⟩ = some (.slice A1 l1.length c1) := ⟨(blk_cell HD_14.out 0).trans rfl, (blk_cell HD_14.out 1).trans rfl⟩
  have y0 := blk_cell HN_14.out 0
  have y1 := blk_cell HN_14.out 1
  have fy0 := blk_frozen HN_14.out 0
  have fy1 := blk_frozen HN_14.out 1
  refine norm_ (a' := ?_) ?_ ?_
  rotate_left
  · simp only [putAll, Act.put, List.setIfInBounds_toArray, List.set_cons_zero, List.set_cons_succ]
    rfl
  refine last_ (i := 8) (N := none) #[true, true, true, true, true, true, true, true, true] rfl rfl (by kernel_rfl) (by decide) (fun K hK => ?_)
  refine skip_ (w1 := ?_) (by rfl) rfl ?_ ?_
  rotate_left
  · go_simp
    rfl
  refine hK.out _ _ ?_
  clear hK K
  refine done_ (by kernel_rfl) ?_
  obtain ⟨w15, hw_⟩ : ∃ x_, x_ = (w14.setCell ⟨gn, 0, none⟩ (.slice Aa l0.length ca)).setCell ⟨gn, 1, none⟩ (.slice Ab l1.length cb) := ⟨_, rfl⟩
  rw [← hw_]
  have HD_15 := Aside0.mk (show w15.heap[w.heap.size]? = some (.cells (#[.slice A0 l0.length c0, .slice A1 l1.length c1]) 25 (0, 0)) by rw [hw_]; exact blk_far (blk_far HD_14.out (p := ⟨gn, 0, none⟩) (by have h1 := blk_lt HD_10.out; have h2 := HLE2.out; show w.heap.size ≠ gn; omega) _) (p := ⟨gn, 1, none⟩) (by have h1 := blk_lt HD_10.out; have h2 := HLE2.out; show w.heap.size ≠ gn; omega) _)
  have HI_15 := Aside0.mk (show w15.heap[w.heap.size + 1]? = some (.cells (#[.int .i64 a]) 3 (0, 0)) by rw [hw_]; exact blk_far (blk_far HI_14.out (p := ⟨gn, 0, none⟩) (by have h1 := blk_lt HI_10.out; have h2 := HLE2.out; show w.heap.size + 1 ≠ gn; omega) _) (p := ⟨gn, 1, none⟩) (by have h1 := blk_lt HI_10.out; have h2 := HLE2.out; show w.heap.size + 1 ≠ gn; omega) _)
  have HZ_15 := Aside0.mk (show w15.heap[w.heap.size + 1 + 1]? = some (.cells (#[.slice none 0 0, .slice none 0 0]) 25 (0, 0)) by rw [hw_]; exact blk_far (blk_far HZ_14.out (p := ⟨gn, 0, none⟩) (by have h1 := blk_lt HZ_10.out; have h2 := HLE2.out; show w.heap.size + 1 + 1 ≠ gn; omega) _) (p := ⟨gn, 1, none⟩) (by have h1 := blk_lt HZ_10.out; have h2 := HLE2.out; show w.heap.size + 1 + 1 ≠ gn; omega) _)
  have HL_15 := Aside0.mk (show w15.heap[w1.heap.size]? = some (.cells (blkT n0 t0 k0 n1 t1 k1) 62 (0, 0)) by rw [hw_]; exact blk_far (blk_far HL_14.out (p := ⟨gn, 0, none⟩) (by have h1 := blk_lt HL_10.out; have h2 := HLE2.out; show w1.heap.size ≠ gn; omega) _) (p := ⟨gn, 1, none⟩) (by have h1 := blk_lt HL_10.out; have h2 := HLE2.out; show w1.heap.size ≠ gn; omega) _)
  have HX_15 := Aside0.mk (show w15.heap[w3.heap.size]? = some (.cells (#[.int .i64 xn, .string xt, .bool xk]) 61 (0, 0)) by rw [hw_]; exact blk_far (blk_far HX_14.out (p := ⟨gn, 0, none⟩) (by have h1 := blk_lt HX_10.out; have h2 := HLE2.out; show w3.heap.size ≠ gn; omega) _) (p := ⟨gn, 1, none⟩) (by have h1 := blk_lt HX_10.out; have h2 := HLE2.out; show w3.heap.size ≠ gn; omega) _)
  have HF_15 := Aside0.mk (show w15.heap[w5.heap.size]? = some (.cells (#[.string f]) 9 (0, 0)) by rw [hw_]; exact blk_far (blk_far HF_14.out (p := ⟨gn, 0, none⟩) (by have h1 := blk_lt HF_10.out; have h2 := HLE2.out; show w5.heap.size ≠ gn; omega) _) (p := ⟨gn, 1, none⟩) (by have h1 := blk_lt HF_10.out; have h2 := HLE2.out; show w5.heap.size ≠ gn; omega) _)
  have HDO_15 := Aside0.mk (show w15.heap[w5.heap.size + 1]? = some (.cells (#[.func (.func 32) #[] #[.pointer (some ⟨w.heap.size + 1, 0, none⟩), .pointer (some ⟨w1.heap.size, 0, none⟩), .pointer (some ⟨w5.heap.size, 0, none⟩)], .func (.func 34) #[] #[]]) 68 (0, 0)) by rw [hw_]; exact blk_far (blk_far HDO_14.out (p := ⟨gn, 0, none⟩) (by have h1 := blk_lt HDO_10.out; have h2 := HLE2.out; show w5.heap.size + 1 ≠ gn; omega) _) (p := ⟨gn, 1, none⟩) (by have h1 := blk_lt HDO_10.out; have h2 := HLE2.out; show w5.heap.size + 1 ≠ gn; omega) _)
  have HG_15 := Aside0.mk (show w15.heap[g]? = some (.cells (#[.slice A4 b1.length c4, .slice A5 u1.length c5]) 25 (0, 0)) by rw [hw_]; exact blk_far (blk_far HG_14.out (p := ⟨gn, 0, none⟩) (by have h1 := blk_lt HG_10.out; have h2 := HLE2.out; show g ≠ gn; omega) _) (p := ⟨gn, 1, none⟩) (by have h1 := blk_lt HG_10.out; have h2 := HLE2.out; show g ≠ gn; omega) _)
  have HN_15 := Aside0.mk (show w15.heap[gn]? = some (.cells (#[.slice Aa l0.length ca, .slice Ab l1.length cb]) 25 (0, 0)) by rw [hw_]; exact blk_set (blk_set HN_14.out 0 (.slice Aa l0.length ca)) 1 (.slice Ab l1.length cb))
  have OV_15 := Aside0.mk (show Kd.R Kd.string 9 w15 w.heap.size (fun _ => True) (.slice Aa l0.length ca) (l0) by rw [hw_]; exact Kd.R_set (Kd.R_set OV_14.out HN_14.out (by intro q hq; simp [Kd.iso, Kd.pair, Kd.int, Kd.string, Kd.scalar] at hq; subst hq; decide) 0 (.slice Aa l0.length ca)) (blk_set HN_14.out 0 (.slice Aa l0.length ca)) (by intro q hq; simp [Kd.iso, Kd.pair, Kd.int, Kd.string, Kd.scalar] at hq; subst hq; decide) 1 (.slice Ab l1.length cb))
  have OU_15 := Aside0.mk (show Kd.R k73 73 w15 w.heap.size (fun _ => True) (.slice Ab l1.length cb) (l1) by rw [hw_]; exact Kd.R_set (Kd.R_set OU_14.out HN_14.out (by intro q hq; simp [k73, Kd.iso, Kd.pair, Kd.int, Kd.string, Kd.scalar] at hq; subst hq; decide) 0 (.slice Aa l0.length ca)) (blk_set HN_14.out 0 (.slice Aa l0.length ca)) (by intro q hq; simp [k73, Kd.iso, Kd.pair, Kd.int, Kd.string, Kd.scalar] at hq; subst hq; decide) 1 (.slice Ab l1.length cb))
  have B_15 := Aside0.mk (show Below w.heap.size w w15 by rw [hw_]; exact (B_14.out.setCell (p := ⟨gn, 0, none⟩) (by have h1 := B_10.out.size; have h2 := HLE2.out; show w.heap.size ≤ gn; omega) _).setCell (p := ⟨gn, 1, none⟩) (by have h1 := B_10.out.size; have h2 := HLE2.out; show w.heap.size ≤ gn; omega) _)
  clear hw_
  clear hHeld
  have HGN := Aside0.mk (show w5.heap.size + 1 + 1 ≤ gn by have h1 := blk_lt HDO_10.out; have h2 := HLE2.out; omega)
  obtain ⟨i68, hi68⟩ : ∃ i, Try.prog.info? 68 = some i := Option.isSome_iff_exists.1 (by kernel_rfl)
  have hcut := cut_to (P := Try.prog) 69 68 .i64 Try.underlying69 hi68 (some ⟨w5.heap.size + 1, 0, none⟩) 2 2 0 (by decide) (by decide) (by decide)
  have hu_ := Try.underlying69
  clear hi68
  go_wp2
  clear hcut
  go_loopw [98] (fun i wr => ∃ (k : Nat) (Ak : Option Addr) (ck : Nat) (Uk : Option Addr) (du : Nat), k ≤ 0 ∧ i = .int .i64 k ∧ ((k = 0 ∧ Aside0 (Kd.R Kd.string 9 wr w.heap.size (fun _ => True) (.slice Ak l0.length ck) l0) ∧ Aside0 (Kd.R k73 73 wr w.heap.size (fun _ => True) (.slice Uk l1.length du) l1) ∧ Aside0 (wr.heap[gn]? = some (.cells #[.slice Ak l0.length ck, .slice Uk l1.length du] 25 (0, 0))))) ∧ Aside0 (wr.heap[w.heap.size + 1]? = some (.cells (#[.int .i64 a]) 3 (0, 0))) ∧ Aside0 (wr.heap[w.heap.size + 1 + 1]? = some (.cells (#[.slice none 0 0, .slice none 0 0]) 25 (0, 0))) ∧ Aside0 (wr.heap[w1.heap.size]? = some (.cells (blkT n0 t0 k0 n1 t1 k1) 62 (0, 0))) ∧ Aside0 (wr.heap[w5.heap.size]? = some (.cells (#[.string f]) 9 (0, 0))) ∧ Aside0 (wr.heap[w5.heap.size + 1]? = some (.cells (#[.func (.func 32) #[] #[.pointer (some ⟨w.heap.size + 1, 0, none⟩), .pointer (some ⟨w1.heap.size, 0, none⟩), .pointer (some ⟨w5.heap.size, 0, none⟩)], .func (.func 34) #[] #[]]) 68 (0, 0))) ∧ Aside0 (Below w.heap.size w wr))
    (fun i _ => 0 - (intOf i).toNat)
  case atStart => exact ⟨0, Aa, ca, Ab, cb, Nat.zero_le _, rfl, ⟨rfl, OV_15, OU_15, HN_15⟩, HI_15, HZ_15, HL_15, HF_15, HDO_15, B_15⟩
  case round =>
    clear HN_15 OV_15 OU_15 B_15 HI_15 HZ_15 HL_15 HF_15 HDO_15
    obtain ⟨k, Ak, ck, Uk, du, hk, rfl, hcase, HI_r, HZ_r, HL_r, HF_r, HDO_r, B_r⟩ := hrel
    obtain ⟨rfl, OV_r, OU_r, HN_r⟩ := hcase
    have n0 := blk_cell HN_r.out 0
    have n1 := blk_cell HN_r.out 1
    simp only [List.getElem?_toArray, List.getElem?_cons_zero, List.getElem?_cons_succ] at n0 n1
    have z0 := blk_cell HZ_r.out 0
    have z1 := blk_cell HZ_r.out 1
    have fz0 := blk_frozen HZ_r.out 0
    have fz1 := blk_frozen HZ_r.out 1
    simp only [List.getElem?_toArray, List.getElem?_cons_zero, List.getElem?_cons_succ] at z0 z1
    go_wp2
    have HZ_e := Aside0.mk (blk_set (blk_set HZ_r.out 0 (.slice Ak l0.length ck)) 1 (.slice Uk l1.length du))
    have x0 := blk_cell HZ_e.out 0
    have x1 := blk_cell HZ_e.out 1
    have OV_e := Aside0.mk (Kd.R_set (Kd.R_set OV_r.out HZ_r.out (by intro q hq; simp [Kd.iso, Kd.pair, Kd.int, Kd.string, Kd.scalar] at hq; subst hq; decide) 0 (.slice Ak l0.length ck)) (blk_set HZ_r.out 0 (.slice Ak l0.length ck)) (by intro q hq; simp [Kd.iso, Kd.pair, Kd.int, Kd.string, Kd.scalar] at hq; subst hq; decide) 1 (.slice Uk l1.length du))
    have OU_e := Aside0.mk (Kd.R_set (Kd.R_set OU_r.out HZ_r.out (by intro q hq; simp [k73, Kd.iso, Kd.pair, Kd.int, Kd.string, Kd.scalar] at hq; subst hq; decide) 0 (.slice Ak l0.length ck)) (blk_set HZ_r.out 0 (.slice Ak l0.length ck)) (by intro q hq; simp [k73, Kd.iso, Kd.pair, Kd.int, Kd.string, Kd.scalar] at hq; subst hq; decide) 1 (.slice Uk l1.length du))
    refine bodyPost_ret (v := .tuple #[.agg #[.slice Ak l0.length ck, .slice Uk l1.length du], .bool false, .int .i64 0]) ?_ rfl ⟨_, _, rfl, OV_e.out, OU_e.out, (B_r.out.setCell (p := ⟨w.heap.size + 1 + 1, 0, none⟩) (by show w.heap.size ≤ w.heap.size + 1 + 1; omega) _).setCell (p := ⟨w.heap.size + 1 + 1, 1, none⟩) (by show w.heap.size ≤ w.heap.size + 1 + 1; omega) _⟩
    simp [results, Try.results15, go_sem, x0, x1]
end Go.Proofs.Ytkgcaheddhfpgaa.P
/-
  twin.Stop, by hand: the deeds.
-/
namespace Go.Proofs.Ytkgcaheddhfpgaa.P
open Go.RowKit Go.Proofs.CodecPlain Go.Proofs.YtkgcaheddhfpgaaW.PrintWords Go.Proofs.YtkgcaheddhfpgaaW.PrintLast

attribute [local go_sem] zero_twin
set_option maxHeartbeats 16000000 in
set_option maxRecDepth 100000 in
theorem twin_Stop_D1 (k : Nat) (A0 : Option Addr) (c0 : Nat) (l0 : List ByteArray) (A1 : Option Addr) (c1 : Nat) (l1 : List S73) (a : Int) (s : ByteArray) (deeds : Int) (n0 : Int) (t0 : ByteArray) (k0 : Bool) (n1 : Int) (t1 : ByteArray) (k1 : Bool) (er : Int) (q xn : Int) (xt : ByteArray) (xk : Bool) (hq : newV n0 k0 n1 k1 = q) (hqx : q = 0 ∧ xn = n0 ∧ xt = t0 ∧ xk = k0 ∨ q = 1 ∧ xn = n1 ∧ xt = t1 ∧ xk = k1) (w : World) (hr0 : Kd.C Kd.string w A0 l0.length l0) (hc0 : l0.length ≤ c0) (hr1 : Kd.C k73 w A1 l1.length l1) (hc1 : l1.length ≤ c1) (hpair : twin_pair.f k l0 l1 a = some (n0, t0, k0, n1, t1, k1, er)) (he : er = 0) (hs : s.size ≤ 200) (hx0 : 0 ≤ xn) (hx1 : xn < 1000000000) (f : ByteArray) (hf : f = frameOf (numStr (xn + 1) ++ s)) (ha0 : 0 ≤ a) (ha1 : a ≤ 1000) (b1 : List ByteArray) (u1 : List S73) (hwr : writeV l0 l1 (a + 1 - q) f = (b1, u1, 0)) (hl0 : l0.length ≤ 200) (hl1 : l1.length ≤ 100) (b2 : List ByteArray) (hsy : doneV (fun _ => true) b1 u1 = (b2, [], 0)) (hd : deeds = 1) :
    Calls Try.prog 15 #[.agg #[.slice A0 l0.length c0, .slice A1 l1.length c1], .int .i64 a, .string s, .int .i64 deeds] w (StopPost w b1 u1 false 0) := by
  subst he
  subst hd
  have HD_0 : Aside0 ((((w.alloc (.cells #[.slice A0 l0.length c0, .slice A1 l1.length c1] 25)).alloc (.cells #[.int .i64 a] 3)).alloc (.cells #[.slice none 0 0, .slice none 0 0] 25)).heap[w.heap.size]? = some (.cells #[.slice A0 l0.length c0, .slice A1 l1.length c1] 25 (0, 0))) := ⟨blk_alloc (blk_alloc (blk_new w (.cells #[.slice A0 l0.length c0, .slice A1 l1.length c1] 25)) (.cells #[.int .i64 a] 3)) (.cells #[.slice none 0 0, .slice none 0 0] 25)⟩
  have hi_ := blk_alloc (blk_new (w.alloc (.cells #[.slice A0 l0.length c0, .slice A1 l1.length c1] 25)) (.cells #[.int .i64 a] 3)) (.cells #[.slice none 0 0, .slice none 0 0] 25)
  rw [World.size_alloc] at hi_
  have HI_0 := Aside0.mk hi_
  have hz_ := blk_new ((w.alloc (.cells #[.slice A0 l0.length c0, .slice A1 l1.length c1] 25)).alloc (.cells #[.int .i64 a] 3)) (.cells #[.slice none 0 0, .slice none 0 0] 25)
  rw [World.size_alloc, World.size_alloc] at hz_
  have HZ_0 := Aside0.mk hz_
  have B_0 := Aside0.mk ((((Below.refl w.heap.size w).alloc (Nat.le_refl _) (.cells #[.slice A0 l0.length c0, .slice A1 l1.length c1] 25)).alloc (by simp) (.cells #[.int .i64 a] 3)).alloc (by simp; omega) (.cells #[.slice none 0 0, .slice none 0 0] 25))
  clear hi_ hz_
  have HR0 := Aside0.mk hr0
  have HR1 := Aside0.mk hr1
  have HP := Aside0.mk (fun W (q0 : Kd.C Kd.string W A0 l0.length l0) (q1 : Kd.C k73 W A1 l1.length l1) => twin_pair.calls k A0 c0 l0 A1 c1 l1 a n0 t0 k0 n1 t1 k1 0 W q0 hc0 q1 hc1 hpair)
  have HN := Aside0.mk (fun W => (twin_newer_calls n0 t0 k0 n1 t1 k1 W).mono (fun e w' (h : _ ∧ _) => (⟨by rw [h.1, hq], h.2⟩ : e = .returned (.int .i64 q) ∧ Below W.heap.size W w')))
  have HQX := Aside0.mk hqx
  have hq0' : 0 ≤ q := by rcases hqx with h | h <;> omega
  have hq1' : q ≤ 1 := by rcases hqx with h | h <;> omega
  have hq0 : 0 ≤ q := by rcases hqx with h | h <;> omega
  have hq2 : q < 2 := by rcases hqx with h | h <;> omega
  clear hqx
  have HDeed := Aside0.mk (fun (W : World) (B2 B3 : Nat) (hb : Below w.heap.size w W) hA hL hF => twin_deed_calls A0 c0 l0 A1 c1 l1 a n0 t0 k0 n1 t1 k1 q f b1 u1 0 (w.heap.size + 1) B2 B3 W (Kd.C_below hr0 hb) hc0 (Kd.C_below hr1 hb) hc1 ha0 ha1 hq0' hq1' hq hwr hA hL hF)
  have HDeed2 := Aside0.mk (fun (W : World) (Av Au : Option Addr) (cv cu : Nat) (B2 B3 : Nat) (q0 : Kd.C Kd.string W Av l0.length l0) (p0 : l0.length ≤ cv) (q1 : Kd.C k73 W Au l1.length l1) (p1 : l1.length ≤ cu) hA hL hF => twin_deed_calls Av cv l0 Au cu l1 a n0 t0 k0 n1 t1 k1 q f b1 u1 0 (w.heap.size + 1) B2 B3 W q0 p0 q1 p1 ha0 ha1 hq0' hq1' hq hwr hA hL hF)
  have HSync := Aside0.mk (fun (W : World) (Av Au : Option Addr) (cv cu : Nat) (q0 : Kd.C Kd.string W Av b1.length b1) (p0 : b1.length ≤ cv) (q1 : Kd.C k73 W Au u1.length u1) (p1 : u1.length ≤ cu) => disk_Sync.calls Av cv b1 Au cu u1 b2 [] 0 W q0 p0 q1 p1 (congrArg some hsy))
  have HClone0 := Aside0.mk (fun (W : World) (hb : Below w.heap.size w W) => slices_Clone_string_string.calls A0 c0 l0 l0 W (Kd.C_below hr0 hb) hc0 (by unfold slices_Clone_string_string.f; rw [if_pos (by omega)]))
  have HClone1 := Aside0.mk (fun (W : World) (hb : Below w.heap.size w W) => slices_Clone_WN.calls A1 c1 l1 l1 W (Kd.C_below hr1 hb) hc1 (by unfold slices_Clone_WN.f; rw [if_pos (by omega)]))
  obtain ⟨ns, hns⟩ : ∃ ns, ns = numStr (xn + 1) := ⟨_, rfl⟩
  have hnz := numStr_size (xn + 1)
  rw [← hns] at hnz
  have HNum := Aside0.mk (fun W => codec_Number.calls (xn + 1) ns 0 W (by unfold codec_Number.f; rw [if_pos (by omega), hns]))
  have HPut := Aside0.mk (fun W => crc_Put.calls (ns ++ s) f 0 W (by rw [put_f, if_pos (by rw [CodecPlain.size_append]; omega), hf, hns]))
  have hcz : ns.size + s.size ≤ 9223372036854775807 := by omega
  have hcz1 := eq_true hcz
  have hcz2 : decide (ns.size + s.size ≤ 9223372036854775807) = true := decide_eq_true hcz
  have hcz3 : (9223372036854775807 < ns.size + s.size) = False := eq_false (Nat.not_lt.2 hcz)
  have hsi : decide ((200 : Int) < (s.size : Int)) = false := decide_eq_false (by omega)
  have hsc : decide (200 < s.size) = false := decide_eq_false (by omega)
  have hxb : decide (1000000000 ≤ xn) = false := decide_eq_false (by omega)
  have hmf : ∀ (fn : Fn) (first cap : Array Value) (w : World), (Instr.makeFunc fn first cap).run Try.prog w = .ok (.func fn first cap) w := fun _ _ _ _ => rfl
  clear hr0 hr1 hpair hq hs hf hns hnz hcz hwr hsy ha0 ha1
  go_enter Try.func15, Try.ntmps15
  go_wp2_with (first | (go_at_call 28; (refine (HP.out _ (Kd.C_below HR0.out B_0.out) (Kd.C_below HR1.out B_0.out)).mono ?_); rintro e w1 ⟨rfl, hb⟩; have HD_1 := Aside0.mk (blk_below HD_0.out hb); have HI_1 := Aside0.mk (blk_below HI_0.out hb); have HZ_1 := Aside0.mk (blk_below HZ_0.out hb); have B_1 := Aside0.mk (B_0.out.trans (hb.mono B_0.out.size)); clear hb) | ((with_reducible refine gate_store (t := 62) (p := 11) rfl ?_); refine store_event (t := 62) (p := 11) (w1 := (w1.alloc (.cells blk0 62)).setCells w1.heap.size 0 (blkT n0 t0 k0 n1 t1 k1).toList) rfl rfl rfl ?hr ?_; (case hr => (unfold execOp; simp only [Act.eval, Sem.run_bind, Sem.run_pure, Result.andThen_ok]; show ((Sem.run Try.prog (Instr.storeAt 62 (.pointer (some ⟨w1.heap.size, 0, none⟩)) (.agg (blkT n0 t0 k0 n1 t1 k1))) (w1.alloc (.cells blk0 62))).andThen _) = _; rw [(store_twin (blk_new w1 (.cells blk0 62)) rfl n0 t0 k0 n1 t1 k1).1]; try rfl)); intro w2 hw_; have HS := Aside0.mk (show Below w1.heap.size w1 w2 by rw [hw_]; exact below_cells ((Below.refl _ _).alloc (Nat.le_refl _) _) (Nat.le_refl _) _); have HL_2 := Aside0.mk (hw_ ▸ (store_twin (blk_new w1 (.cells blk0 62)) rfl n0 t0 k0 n1 t1 k1).2 : w2.heap[w1.heap.size]? = some (.cells (blkT n0 t0 k0 n1 t1 k1) 62 (0, 0))); have HD_2 := Aside0.mk (blk_below HD_1.out HS.out); have HI_2 := Aside0.mk (blk_below HI_1.out HS.out); have HZ_2 := Aside0.mk (blk_below HZ_1.out HS.out); have B_2 := Aside0.mk (B_1.out.trans (HS.out.mono B_1.out.size)); clear hw_ HS; have c0 := blk_cell HL_2.out 0; have c1 := blk_cell HL_2.out 1; have c2 := blk_cell HL_2.out 2; have c3 := blk_cell HL_2.out 3; have c4 := blk_cell HL_2.out 4; have c5 := blk_cell HL_2.out 5; simp only [blkT, List.getElem?_toArray, List.getElem?_cons_zero, List.getElem?_cons_succ] at c0 c1 c2 c3 c4 c5) | (go_at_call 29; (refine (HN.out _).mono ?_); rintro e w3 ⟨rfl, hb⟩; have HD_3 := Aside0.mk (blk_below HD_2.out hb); have HI_3 := Aside0.mk (blk_below HI_2.out hb); have HZ_3 := Aside0.mk (blk_below HZ_2.out hb); have HL_3 := Aside0.mk (blk_below HL_2.out hb); have B_3 := Aside0.mk (B_2.out.trans (hb.mono B_2.out.size)); clear hb; obtain ⟨d0, d1, d2⟩ := pick3 HQX.out HL_3.out; have HD_3a := Aside0.mk (blk_alloc HD_3.out (.cells #[.int .i64 xn, .string xt, .bool xk] 61)); have HI_3a := Aside0.mk (blk_alloc HI_3.out (.cells #[.int .i64 xn, .string xt, .bool xk] 61)); have HZ_3a := Aside0.mk (blk_alloc HZ_3.out (.cells #[.int .i64 xn, .string xt, .bool xk] 61)); have HL_3a := Aside0.mk (blk_alloc HL_3.out (.cells #[.int .i64 xn, .string xt, .bool xk] 61)); have B_3a := Aside0.mk (B_3.out.alloc B_3.out.size (.cells #[.int .i64 xn, .string xt, .bool xk] 61)); have HX_3a := Aside0.mk (show (w3.alloc (.cells #[.int .i64 xn, .string xt, .bool xk] 61)).heap[w3.heap.size]? = _ from blk_new (w3) (.cells #[.int .i64 xn, .string xt, .bool xk] 61)); clear c0 c1 c2 c3 c4 c5) | (go_at_call 30; (refine (HNum.out _).mono ?_); rintro e w4 ⟨rfl, hb⟩; have HD_4 := Aside0.mk (blk_below HD_3a.out hb); have HI_4 := Aside0.mk (blk_below HI_3a.out hb); have HZ_4 := Aside0.mk (blk_below HZ_3a.out hb); have HL_4 := Aside0.mk (blk_below HL_3a.out hb); have HX_4 := Aside0.mk (blk_below HX_3a.out hb); have B_4 := Aside0.mk (B_3a.out.trans (hb.mono B_3a.out.size)); clear hb) | (go_at_call 31; (refine (HPut.out _).mono ?_); rintro e w5 ⟨rfl, hb⟩; have HD_5 := Aside0.mk (blk_below HD_4.out hb); have HI_5 := Aside0.mk (blk_below HI_4.out hb); have HZ_5 := Aside0.mk (blk_below HZ_4.out hb); have HL_5 := Aside0.mk (blk_below HL_4.out hb); have HX_5 := Aside0.mk (blk_below HX_4.out hb); have B_5 := Aside0.mk (B_4.out.trans (hb.mono B_4.out.size)); have HD_5a := Aside0.mk (blk_alloc HD_5.out (.cells #[.string f] 9)); have HI_5a := Aside0.mk (blk_alloc HI_5.out (.cells #[.string f] 9)); have HZ_5a := Aside0.mk (blk_alloc HZ_5.out (.cells #[.string f] 9)); have HL_5a := Aside0.mk (blk_alloc HL_5.out (.cells #[.string f] 9)); have HX_5a := Aside0.mk (blk_alloc HX_5.out (.cells #[.string f] 9)); have B_5a := Aside0.mk (B_5.out.alloc B_5.out.size (.cells #[.string f] 9)); have HF_5a := Aside0.mk (show (w5.alloc (.cells #[.string f] 9)).heap[w5.heap.size]? = _ from blk_new (w5) (.cells #[.string f] 9)); clear hb))
  have HD_5b := Aside0.mk (blk_alloc HD_5a.out (.cells #[.func (.func 32) #[] #[.pointer (some ⟨w.heap.size + 1, 0, none⟩), .pointer (some ⟨w1.heap.size, 0, none⟩), .pointer (some ⟨w5.heap.size, 0, none⟩)], .func (.func 34) #[] #[]] 68))
  have HI_5b := Aside0.mk (blk_alloc HI_5a.out (.cells #[.func (.func 32) #[] #[.pointer (some ⟨w.heap.size + 1, 0, none⟩), .pointer (some ⟨w1.heap.size, 0, none⟩), .pointer (some ⟨w5.heap.size, 0, none⟩)], .func (.func 34) #[] #[]] 68))
  have HZ_5b := Aside0.mk (blk_alloc HZ_5a.out (.cells #[.func (.func 32) #[] #[.pointer (some ⟨w.heap.size + 1, 0, none⟩), .pointer (some ⟨w1.heap.size, 0, none⟩), .pointer (some ⟨w5.heap.size, 0, none⟩)], .func (.func 34) #[] #[]] 68))
  have HL_5b := Aside0.mk (blk_alloc HL_5a.out (.cells #[.func (.func 32) #[] #[.pointer (some ⟨w.heap.size + 1, 0, none⟩), .pointer (some ⟨w1.heap.size, 0, none⟩), .pointer (some ⟨w5.heap.size, 0, none⟩)], .func (.func 34) #[] #[]] 68))
  have HX_5b := Aside0.mk (blk_alloc HX_5a.out (.cells #[.func (.func 32) #[] #[.pointer (some ⟨w.heap.size + 1, 0, none⟩), .pointer (some ⟨w1.heap.size, 0, none⟩), .pointer (some ⟨w5.heap.size, 0, none⟩)], .func (.func 34) #[] #[]] 68))
  have HF_5b := Aside0.mk (blk_alloc HF_5a.out (.cells #[.func (.func 32) #[] #[.pointer (some ⟨w.heap.size + 1, 0, none⟩), .pointer (some ⟨w1.heap.size, 0, none⟩), .pointer (some ⟨w5.heap.size, 0, none⟩)], .func (.func 34) #[] #[]] 68))
  have B_5b := Aside0.mk (B_5a.out.alloc B_5a.out.size (.cells #[.func (.func 32) #[] #[.pointer (some ⟨w.heap.size + 1, 0, none⟩), .pointer (some ⟨w1.heap.size, 0, none⟩), .pointer (some ⟨w5.heap.size, 0, none⟩)], .func (.func 34) #[] #[]] 68))
  have HDO_5b := Aside0.mk (show ((w5.alloc (.cells #[.string f] 9)).alloc (.cells #[.func (.func 32) #[] #[.pointer (some ⟨w.heap.size + 1, 0, none⟩), .pointer (some ⟨w1.heap.size, 0, none⟩), .pointer (some ⟨w5.heap.size, 0, none⟩)], .func (.func 34) #[] #[]] 68)).heap[w5.heap.size + 1]? = some (.cells (#[.func (.func 32) #[] #[.pointer (some ⟨w.heap.size + 1, 0, none⟩), .pointer (some ⟨w1.heap.size, 0, none⟩), .pointer (some ⟨w5.heap.size, 0, none⟩)], .func (.func 34) #[] #[]]) 68 (0, 0)) by have h_ := blk_new ((w5.alloc (.cells #[.string f] 9))) (.cells #[.func (.func 32) #[] #[.pointer (some ⟨w.heap.size + 1, 0, none⟩), .pointer (some ⟨w1.heap.size, 0, none⟩), .pointer (some ⟨w5.heap.size, 0, none⟩)], .func (.func 34) #[] #[]] 68); simp only [World.size_alloc] at h_ ⊢; exact h_)
  have HD_6 := Aside0.mk (blk_drew HD_5b.out)
  have HI_6 := Aside0.mk (blk_drew HI_5b.out)
  have HZ_6 := Aside0.mk (blk_drew HZ_5b.out)
  have HL_6 := Aside0.mk (blk_drew HL_5b.out)
  have HX_6 := Aside0.mk (blk_drew HX_5b.out)
  have HF_6 := Aside0.mk (blk_drew HF_5b.out)
  have HDO_6 := Aside0.mk (blk_drew HDO_5b.out)
  have B_6 := Aside0.mk (below_drew1 B_5b.out)
  refine start_ (n := 11) (S := fun w' => w'.cell? ⟨w5.heap.size + 1, 0, none⟩ = some (.func (.func 32) #[] #[.pointer (some ⟨w.heap.size + 1, 0, none⟩), .pointer (some ⟨w1.heap.size, 0, none⟩), .pointer (some ⟨w5.heap.size, 0, none⟩)]) ∧ w'.cell? ⟨w.heap.size, 0, none⟩ = some (.slice A0 l0.length c0) ∧ w'.cell? ⟨w.heap.size, 1, none⟩ = some (.slice A1 l1.length c1)) (ds := [9]) #[false, false, false, false, false, false, false, false, false, false, false] (by kernel_rfl) rfl rfl ⟨(blk_cell HDO_6.out 0).trans rfl, (blk_cell HD_6.out 0).trans rfl, (blk_cell HD_6.out 1).trans rfl⟩ (fun hHeld => ?_)
  generalize World.drew ((w5.alloc (.cells #[.string f] 9)).alloc (.cells #[.func (.func 32) #[] #[.pointer (some ⟨w.heap.size + 1, 0, none⟩), .pointer (some ⟨w1.heap.size, 0, none⟩), .pointer (some ⟨w5.heap.size, 0, none⟩)], .func (.func 34) #[] #[]] 68)) = w6 at HD_6 HI_6 HZ_6 HL_6 HX_6 HF_6 HDO_6 B_6 hHeld ⊢
  refine pure_ (i := 0) (N := some 66) (v := ?_) (a' := ?_) #[true, false, false, false, false, false, false, false, false, false, false] rfl rfl (by kernel_rfl) (fun _ _ _ h => h) (Or.inl ⟨by rfl, ?_⟩) ?_ ?_
  rotate_left
  · intro w'
    go_simp
    with_reducible rfl
  rotate_left
  · simp only [Act.put, List.setIfInBounds_toArray, List.set_cons_zero, List.set_cons_succ, i64_w, i32_w]
    rfl
  refine pure_ (i := 1) (N := some 67) (v := ?_) (a' := ?_) #[true, true, false, false, false, false, false, false, false, false, false] rfl rfl (by kernel_rfl) (fun _ _ _ h => h) (Or.inl ⟨by rfl, ?_⟩) ?_ ?_
  rotate_left
  · intro w'
    go_simp
    with_reducible rfl
  rotate_left
  · simp only [Act.put, List.setIfInBounds_toArray, List.set_cons_zero, List.set_cons_succ, i64_w, i32_w]
    rfl
  refine take_ (i := 2) (N := some 68) (v := ?_) (a' := ?_) #[true, true, true, false, false, false, false, false, false, false, false] rfl rfl (by kernel_rfl) (fun _ _ _ h => h) (Or.inl ⟨by rfl, ?_⟩) hHeld ?_ ?_
  rotate_left
  · rintro w' ⟨s0, s1, s2⟩
    go_simp
    with_reducible rfl
  rotate_left
  · simp only [Act.put, List.setIfInBounds_toArray, List.set_cons_zero, List.set_cons_succ, i64_w, i32_w]
    rfl
  refine take_ (i := 3) (N := some 69) (v := ?_) (a' := ?_) #[true, true, true, true, false, false, false, false, false, false, false] rfl rfl (by kernel_rfl) (fun _ _ _ h => h) (Or.inl ⟨by rfl, ?_⟩) hHeld ?_ ?_
  rotate_left
  · rintro w' ⟨s0, s1, s2⟩
    go_simp
    with_reducible rfl
  rotate_left
  · simp only [Act.put, List.setIfInBounds_toArray, List.set_cons_zero, List.set_cons_succ, i64_w, i32_w]
    rfl
  refine join_ (σ := Nat × Option Addr × Nat × Option Addr × Nat) 2 #[true, true, true, true, true, true, true, true, true, false, false] (fun s => [(70, .tuple #[.agg #[.slice s.2.1 b1.length s.2.2.1, .slice s.2.2.2.1 u1.length s.2.2.2.2], .int .i64 0]), (65, .tuple #[.agg #[.slice s.2.1 b1.length s.2.2.1, .slice s.2.2.2.1 u1.length s.2.2.2.2], .int .i64 0]), (71, .agg #[.slice s.2.1 b1.length s.2.2.1, .slice s.2.2.2.1 u1.length s.2.2.2.2]), (72, .int .i64 0), (19, .pointer (some ⟨s.1, 0, none⟩))]) (fun s w' => w'.heap[w.heap.size]? = some (.cells (#[.slice A0 l0.length c0, .slice A1 l1.length c1]) 25 (0, 0)) ∧ w'.heap[w.heap.size + 1]? = some (.cells (#[.int .i64 a]) 3 (0, 0)) ∧ w'.heap[w.heap.size + 1 + 1]? = some (.cells (#[.slice none 0 0, .slice none 0 0]) 25 (0, 0)) ∧ w'.heap[w1.heap.size]? = some (.cells (blkT n0 t0 k0 n1 t1 k1) 62 (0, 0)) ∧ w'.heap[w3.heap.size]? = some (.cells (#[.int .i64 xn, .string xt, .bool xk]) 61 (0, 0)) ∧ w'.heap[w5.heap.size]? = some (.cells (#[.string f]) 9 (0, 0)) ∧ w'.heap[w5.heap.size + 1]? = some (.cells (#[.func (.func 32) #[] #[.pointer (some ⟨w.heap.size + 1, 0, none⟩), .pointer (some ⟨w1.heap.size, 0, none⟩), .pointer (some ⟨w5.heap.size, 0, none⟩)], .func (.func 34) #[] #[]]) 68 (0, 0)) ∧ Below w.heap.size w w' ∧ w'.heap[s.1]? = some (.cells #[.slice none 0 0, .slice none 0 0] 25 (0, 0)) ∧ w6.heap.size ≤ s.1) ?_ ?_
  rotate_left
  · intro hCont
    refine two_ (i := 4) (j := 8) (Ni := some 70) (Nj := some 19) #[true, true, true, true, true, false, false, false, false, false, false] #[true, true, true, true, false, false, false, false, true, false, false] rfl rfl rfl rfl (by kernel_rfl) (by decide) (by decide) (fun K hK => ?_) (fun K hK => ?_)
    · skip
      refine Go.Proofs.Ytkgcaheddhfpgaa.CallV.goesV_ (first := #[]) (cap := #[.pointer (some ⟨w.heap.size + 1, 0, none⟩), .pointer (some ⟨w1.heap.size, 0, none⟩), .pointer (some ⟨w5.heap.size, 0, none⟩)]) Try.func32 (by kernel_rfl) rfl #[.agg #[.slice A0 l0.length c0, .slice A1 l1.length c1], .pointer (some ⟨w.heap.size + 1, 0, none⟩), .pointer (some ⟨w1.heap.size, 0, none⟩), .pointer (some ⟨w5.heap.size, 0, none⟩)] (by rfl) rfl rfl rfl (by first | (simp; done) | (simp; rfl)) ?_
      refine (HDeed.out (w6) w1.heap.size w5.heap.size B_6.out HI_6.out HL_6.out HF_6.out).mono ?_
      rintro e w7 ⟨v0, v1, rfl, hR0, hR1, hb⟩
      refine ⟨_, rfl, ?_⟩
      obtain ⟨A4, c4, rfl⟩ := Kd.R_slice hR0
      obtain ⟨A5, c5, rfl⟩ := Kd.R_slice hR1
      clear hR0 hR1
      have HD_7 := Aside0.mk (blk_below HD_6.out hb)
      have HI_7 := Aside0.mk (blk_below HI_6.out hb)
      have HZ_7 := Aside0.mk (blk_below HZ_6.out hb)
      have HL_7 := Aside0.mk (blk_below HL_6.out hb)
      have HX_7 := Aside0.mk (blk_below HX_6.out hb)
      have HF_7 := Aside0.mk (blk_below HF_6.out hb)
      have HDO_7 := Aside0.mk (blk_below HDO_6.out hb)
      have B_7 := Aside0.mk (B_6.out.trans (hb.mono B_6.out.size))
      have HS7 := Aside0.mk hb.size
      clear hb
      refine hK.out _ _ ⟨(blk_cell HDO_7.out 0).trans rfl, (blk_cell HD_7.out 0).trans rfl, (blk_cell HD_7.out 1).trans rfl⟩ (fun hHeld => ?_)
      clear hK K
      refine norm_ (a' := ?_) ?_ ?_
      rotate_left
      · show Act.put _ (some 70) _ = _
        simp only [Act.put, List.setIfInBounds_toArray, List.set_cons_zero, List.set_cons_succ, i64_w, i32_w]
        rfl
      refine pure_ (i := 5) (N := some 65) (v := ?_) (a' := ?_) #[true, true, true, true, true, true, false, false, false, false, false] rfl rfl (by kernel_rfl) (fun _ _ _ h => h) (Or.inl ⟨by rfl, ?_⟩) ?_ ?_
      rotate_left
      · intro w'
        go_simp
        with_reducible rfl
      rotate_left
      · simp only [Act.put, List.setIfInBounds_toArray, List.set_cons_zero, List.set_cons_succ, i64_w, i32_w]
        rfl
      refine pure_ (i := 6) (N := some 71) (v := ?_) (a' := ?_) #[true, true, true, true, true, true, true, false, false, false, false] rfl rfl (by kernel_rfl) (fun _ _ _ h => h) (Or.inl ⟨by rfl, ?_⟩) ?_ ?_
      rotate_left
      · intro w'
        go_simp
        with_reducible rfl
      rotate_left
      · simp only [Act.put, List.setIfInBounds_toArray, List.set_cons_zero, List.set_cons_succ, i64_w, i32_w]
        rfl
      refine pure_ (i := 7) (N := some 72) (v := ?_) (a' := ?_) #[true, true, true, true, true, true, true, true, false, false, false] rfl rfl (by kernel_rfl) (fun _ _ _ h => h) (Or.inl ⟨by rfl, ?_⟩) ?_ ?_
      rotate_left
      · intro w'
        go_simp
        with_reducible rfl
      rotate_left
      · simp only [Act.put, List.setIfInBounds_toArray, List.set_cons_zero, List.set_cons_succ, i64_w, i32_w]
        rfl
      refine one_ (i := 8) (N := some 19) #[true, true, true, true, true, true, true, true, true, false, false] rfl rfl (by kernel_rfl) (by decide) (fun K hK => ?_)
      refine value_ (w1 := ?_) (v := ?_) (by rfl) rfl ?_ ?_
      rotate_left 2
      · go_simp
        constructor
        · rfl
        · rfl
      have HD_8 := Aside0.mk (blk_alloc HD_7.out (.cells #[.slice none 0 0, .slice none 0 0] 25))
      have HI_8 := Aside0.mk (blk_alloc HI_7.out (.cells #[.slice none 0 0, .slice none 0 0] 25))
      have HZ_8 := Aside0.mk (blk_alloc HZ_7.out (.cells #[.slice none 0 0, .slice none 0 0] 25))
      have HL_8 := Aside0.mk (blk_alloc HL_7.out (.cells #[.slice none 0 0, .slice none 0 0] 25))
      have HX_8 := Aside0.mk (blk_alloc HX_7.out (.cells #[.slice none 0 0, .slice none 0 0] 25))
      have HF_8 := Aside0.mk (blk_alloc HF_7.out (.cells #[.slice none 0 0, .slice none 0 0] 25))
      have HDO_8 := Aside0.mk (blk_alloc HDO_7.out (.cells #[.slice none 0 0, .slice none 0 0] 25))
      have B_8 := Aside0.mk (B_7.out.alloc B_7.out.size (.cells #[.slice none 0 0, .slice none 0 0] 25))
      refine hK.out _ _ ⟨(blk_cell HDO_8.out 0).trans rfl, (blk_cell HD_8.out 0).trans rfl, (blk_cell HD_8.out 1).trans rfl⟩ (fun hHeld => ?_)
      clear hK K
      refine norm_ (a' := ?_) ?_ ?_
      rotate_left
      · show Act.put _ (some 19) _ = _
        simp only [Act.put, List.setIfInBounds_toArray, List.set_cons_zero, List.set_cons_succ, i64_w, i32_w]
        rfl
      exact norm_ (by simp only [putAll, Act.put, List.setIfInBounds_toArray, List.set_cons_zero, List.set_cons_succ]) (hCont (w7.heap.size, A4, c4, A5, c5) _ ⟨HD_8.out, HI_8.out, HZ_8.out, HL_8.out, HX_8.out, HF_8.out, HDO_8.out, B_8.out, blk_new w7 (.cells #[.slice none 0 0, .slice none 0 0] 25), HS7.out⟩)
    · skip
      refine value_ (w1 := ?_) (v := ?_) (by rfl) rfl ?_ ?_
      rotate_left 2
      · go_simp
        constructor
        · rfl
        · rfl
      have HD_7 := Aside0.mk (blk_alloc HD_6.out (.cells #[.slice none 0 0, .slice none 0 0] 25))
      have HI_7 := Aside0.mk (blk_alloc HI_6.out (.cells #[.slice none 0 0, .slice none 0 0] 25))
      have HZ_7 := Aside0.mk (blk_alloc HZ_6.out (.cells #[.slice none 0 0, .slice none 0 0] 25))
      have HL_7 := Aside0.mk (blk_alloc HL_6.out (.cells #[.slice none 0 0, .slice none 0 0] 25))
      have HX_7 := Aside0.mk (blk_alloc HX_6.out (.cells #[.slice none 0 0, .slice none 0 0] 25))
      have HF_7 := Aside0.mk (blk_alloc HF_6.out (.cells #[.slice none 0 0, .slice none 0 0] 25))
      have HDO_7 := Aside0.mk (blk_alloc HDO_6.out (.cells #[.slice none 0 0, .slice none 0 0] 25))
      have B_7 := Aside0.mk (B_6.out.alloc B_6.out.size (.cells #[.slice none 0 0, .slice none 0 0] 25))
      refine hK.out _ _ ⟨(blk_cell HDO_7.out 0).trans rfl, (blk_cell HD_7.out 0).trans rfl, (blk_cell HD_7.out 1).trans rfl⟩ (fun hHeld => ?_)
      clear hK K
      refine norm_ (a' := ?_) ?_ ?_
      rotate_left
      · show Act.put _ (some 19) _ = _
        simp only [Act.put, List.setIfInBounds_toArray, List.set_cons_zero, List.set_cons_succ, i64_w, i32_w]
        rfl
      refine one_ (i := 4) (N := some 70) #[true, true, true, true, true, false, false, false, true, false, false] rfl rfl (by kernel_rfl) (by decide) (fun K hK => ?_)
      refine Go.Proofs.Ytkgcaheddhfpgaa.CallV.goesV_ (first := #[]) (cap := #[.pointer (some ⟨w.heap.size + 1, 0, none⟩), .pointer (some ⟨w1.heap.size, 0, none⟩), .pointer (some ⟨w5.heap.size, 0, none⟩)]) Try.func32 (by kernel_rfl) rfl #[.agg #[.slice A0 l0.length c0, .slice A1 l1.length c1], .pointer (some ⟨w.heap.size + 1, 0, none⟩), .pointer (some ⟨w1.heap.size, 0, none⟩), .pointer (some ⟨w5.heap.size, 0, none⟩)] (by rfl) rfl rfl rfl (by first | (simp; done) | (simp; rfl)) ?_
      refine (HDeed.out (w6.alloc (.cells #[.slice none 0 0, .slice none 0 0] 25)) w1.heap.size w5.heap.size B_7.out HI_7.out HL_7.out HF_7.out).mono ?_
      rintro e w8 ⟨v0, v1, rfl, hR0, hR1, hb⟩
      refine ⟨_, rfl, ?_⟩
      obtain ⟨A4, c4, rfl⟩ := Kd.R_slice hR0
      obtain ⟨A5, c5, rfl⟩ := Kd.R_slice hR1
      clear hR0 hR1
      have HD_8 := Aside0.mk (blk_below HD_7.out hb)
      have HI_8 := Aside0.mk (blk_below HI_7.out hb)
      have HZ_8 := Aside0.mk (blk_below HZ_7.out hb)
      have HL_8 := Aside0.mk (blk_below HL_7.out hb)
      have HX_8 := Aside0.mk (blk_below HX_7.out hb)
      have HF_8 := Aside0.mk (blk_below HF_7.out hb)
      have HDO_8 := Aside0.mk (blk_below HDO_7.out hb)
      have B_8 := Aside0.mk (B_7.out.trans (hb.mono B_7.out.size))
      have HG8 := Aside0.mk (blk_below (blk_new w6 (.cells #[.slice none 0 0, .slice none 0 0] 25)) hb)
      clear hb
      refine hK.out _ _ ⟨(blk_cell HDO_8.out 0).trans rfl, (blk_cell HD_8.out 0).trans rfl, (blk_cell HD_8.out 1).trans rfl⟩ (fun hHeld => ?_)
      clear hK K
      refine norm_ (a' := ?_) ?_ ?_
      rotate_left
      · show Act.put _ (some 70) _ = _
        simp only [Act.put, List.setIfInBounds_toArray, List.set_cons_zero, List.set_cons_succ, i64_w, i32_w]
        rfl
      refine pure_ (i := 5) (N := some 65) (v := ?_) (a' := ?_) #[true, true, true, true, true, true, false, false, true, false, false] rfl rfl (by kernel_rfl) (fun _ _ _ h => h) (Or.inl ⟨by rfl, ?_⟩) ?_ ?_
      rotate_left
      · intro w'
        go_simp
        with_reducible rfl
      rotate_left
      · simp only [Act.put, List.setIfInBounds_toArray, List.set_cons_zero, List.set_cons_succ, i64_w, i32_w]
        rfl
      refine pure_ (i := 6) (N := some 71) (v := ?_) (a' := ?_) #[true, true, true, true, true, true, true, false, true, false, false] rfl rfl (by kernel_rfl) (fun _ _ _ h => h) (Or.inl ⟨by rfl, ?_⟩) ?_ ?_
      rotate_left
      · intro w'
        go_simp
        with_reducible rfl
      rotate_left
      · simp only [Act.put, List.setIfInBounds_toArray, List.set_cons_zero, List.set_cons_succ, i64_w, i32_w]
        rfl
      refine pure_ (i := 7) (N := some 72) (v := ?_) (a' := ?_) #[true, true, true, true, true, true, true, true, true, false, false] rfl rfl (by kernel_rfl) (fun _ _ _ h => h) (Or.inl ⟨by rfl, ?_⟩) ?_ ?_
      rotate_left
      · intro w'
        go_simp
        with_reducible rfl
      rotate_left
      · simp only [Act.put, List.setIfInBounds_toArray, List.set_cons_zero, List.set_cons_succ, i64_w, i32_w]
        rfl
      exact norm_ (by simp only [putAll, Act.put, List.setIfInBounds_toArray, List.set_cons_zero, List.set_cons_succ]) (hCont (w6.heap.size, A4, c4, A5, c5) _ ⟨HD_8.out, HI_8.out, HZ_8.out, HL_8.out, HX_8.out, HF_8.out, HDO_8.out, B_8.out, HG8.out, Nat.le_refl _⟩)
  rintro ⟨g, A4, c4, A5, c5⟩ w8 ⟨hD8, hI8, hZ8, hL8, hX8, hF8, hDO8, hB8, hG8, hLE⟩
  have HD_8 := Aside0.mk hD8
  have HI_8 := Aside0.mk hI8
  have HZ_8 := Aside0.mk hZ8
  have HL_8 := Aside0.mk hL8
  have HX_8 := Aside0.mk hX8
  have HF_8 := Aside0.mk hF8
  have HDO_8 := Aside0.mk hDO8
  have B_8 := Aside0.mk hB8
  have HG_8 := Aside0.mk hG8
  have HLE := Aside0.mk hLE
  clear hB8 hG8 hLE hD8 hI8 hZ8 hL8 hX8 hF8 hDO8
  have hHeld : w8.cell? ⟨w5.heap.size + 1, 0, none⟩ = some (.func (.func 32) #[] #[.pointer (some ⟨w.heap.size + 1, 0, none⟩), .pointer (some ⟨w1.heap.size, 0, none⟩), .pointer (some ⟨w5.heap.size, 0, none⟩)]) ∧ w8.cell? ⟨w.heap.size, 0, none⟩ = some (.slice A0 l0.length c0) ∧ w8.cell? ⟨w.heap.size, 1, none⟩ = some (.slice A1 l1.length c1) := ⟨(blk_cell HDO_8.out 0).trans rfl, (blk_cell HD_8.out 0).trans rfl, (blk_cell HD_8.out 1).trans rfl⟩
  have y0 := blk_cell HG_8.out 0
  have y1 := blk_cell HG_8.out 1
  have fy0 := blk_frozen HG_8.out 0
  have fy1 := blk_frozen HG_8.out 1
  refine norm_ (a' := ?_) ?_ ?_
  rotate_left
  · simp only [putAll, Act.put, List.setIfInBounds_toArray, List.set_cons_zero, List.set_cons_succ]
    rfl
  refine last_ (i := 9) (N := none) #[true, true, true, true, true, true, true, true, true, true, false] rfl rfl (by kernel_rfl) (by decide) (fun K hK => ?_)
  refine skip_ (w1 := ?_) (by rfl) rfl ?_ ?_
  rotate_left
  · go_simp
    rfl
  refine hK.out _ _ ?_
  clear hK K
  refine pure_ (i := 10) (N := some 20) (v := ?_) (a' := ?_) #[true, true, true, true, true, true, true, true, true, true, true] rfl rfl (by kernel_rfl) (fun _ _ _ h => h) (Or.inl ⟨by rfl, ?_⟩) ?_ ?_
  rotate_left
  · intro w'
    go_simp
    with_reducible rfl
  rotate_left
  · simp only [Act.put, List.setIfInBounds_toArray, List.set_cons_zero, List.set_cons_succ, i64_w, i32_w]
    rfl
  refine done_ (by kernel_rfl) ?_
  obtain ⟨w9, hw_⟩ : ∃ x_, x_ = (w8.setCell ⟨g, 0, none⟩ (.slice A4 b1.length c4)).setCell ⟨g, 1, none⟩ (.slice A5 u1.length c5) := ⟨_, rfl⟩
  rw [← hw_]
  have HD_9 := Aside0.mk (show w9.heap[w.heap.size]? = some (.cells (#[.slice A0 l0.length c0, .slice A1 l1.length c1]) 25 (0, 0)) by rw [hw_]; exact blk_far (blk_far HD_8.out (p := ⟨g, 0, none⟩) (by have h1 := blk_lt HD_6.out; have h2 := HLE.out; show w.heap.size ≠ g; omega) _) (p := ⟨g, 1, none⟩) (by have h1 := blk_lt HD_6.out; have h2 := HLE.out; show w.heap.size ≠ g; omega) _)
  have HI_9 := Aside0.mk (show w9.heap[w.heap.size + 1]? = some (.cells (#[.int .i64 a]) 3 (0, 0)) by rw [hw_]; exact blk_far (blk_far HI_8.out (p := ⟨g, 0, none⟩) (by have h1 := blk_lt HI_6.out; have h2 := HLE.out; show w.heap.size + 1 ≠ g; omega) _) (p := ⟨g, 1, none⟩) (by have h1 := blk_lt HI_6.out; have h2 := HLE.out; show w.heap.size + 1 ≠ g; omega) _)
  have HZ_9 := Aside0.mk (show w9.heap[w.heap.size + 1 + 1]? = some (.cells (#[.slice none 0 0, .slice none 0 0]) 25 (0, 0)) by rw [hw_]; exact blk_far (blk_far HZ_8.out (p := ⟨g, 0, none⟩) (by have h1 := blk_lt HZ_6.out; have h2 := HLE.out; show w.heap.size + 1 + 1 ≠ g; omega) _) (p := ⟨g, 1, none⟩) (by have h1 := blk_lt HZ_6.out; have h2 := HLE.out; show w.heap.size + 1 + 1 ≠ g; omega) _)
  have HL_9 := Aside0.mk (show w9.heap[w1.heap.size]? = some (.cells (blkT n0 t0 k0 n1 t1 k1) 62 (0, 0)) by rw [hw_]; exact blk_far (blk_far HL_8.out (p := ⟨g, 0, none⟩) (by have h1 := blk_lt HL_6.out; have h2 := HLE.out; show w1.heap.size ≠ g; omega) _) (p := ⟨g, 1, none⟩) (by have h1 := blk_lt HL_6.out; have h2 := HLE.out; show w1.heap.size ≠ g; omega) _)
  have HX_9 := Aside0.mk (show w9.heap[w3.heap.size]? = some (.cells (#[.int .i64 xn, .string xt, .bool xk]) 61 (0, 0)) by rw [hw_]; exact blk_far (blk_far HX_8.out (p := ⟨g, 0, none⟩) (by have h1 := blk_lt HX_6.out; have h2 := HLE.out; show w3.heap.size ≠ g; omega) _) (p := ⟨g, 1, none⟩) (by have h1 := blk_lt HX_6.out; have h2 := HLE.out; show w3.heap.size ≠ g; omega) _)
  have HF_9 := Aside0.mk (show w9.heap[w5.heap.size]? = some (.cells (#[.string f]) 9 (0, 0)) by rw [hw_]; exact blk_far (blk_far HF_8.out (p := ⟨g, 0, none⟩) (by have h1 := blk_lt HF_6.out; have h2 := HLE.out; show w5.heap.size ≠ g; omega) _) (p := ⟨g, 1, none⟩) (by have h1 := blk_lt HF_6.out; have h2 := HLE.out; show w5.heap.size ≠ g; omega) _)
  have HDO_9 := Aside0.mk (show w9.heap[w5.heap.size + 1]? = some (.cells (#[.func (.func 32) #[] #[.pointer (some ⟨w.heap.size + 1, 0, none⟩), .pointer (some ⟨w1.heap.size, 0, none⟩), .pointer (some ⟨w5.heap.size, 0, none⟩)], .func (.func 34) #[] #[]]) 68 (0, 0)) by rw [hw_]; exact blk_far (blk_far HDO_8.out (p := ⟨g, 0, none⟩) (by have h1 := blk_lt HDO_6.out; have h2 := HLE.out; show w5.heap.size + 1 ≠ g; omega) _) (p := ⟨g, 1, none⟩) (by have h1 := blk_lt HDO_6.out; have h2 := HLE.out; show w5.heap.size + 1 ≠ g; omega) _)
  have HG_9 := Aside0.mk (show w9.heap[g]? = some (.cells (#[.slice A4 b1.length c4, .slice A5 u1.length c5]) 25 (0, 0)) by rw [hw_]; exact blk_set (blk_set HG_8.out 0 (.slice A4 b1.length c4)) 1 (.slice A5 u1.length c5))
  have B_9 := Aside0.mk (show Below w.heap.size w w9 by rw [hw_]; exact (B_8.out.setCell (p := ⟨g, 0, none⟩) (by have h1 := B_6.out.size; have h2 := HLE.out; show w.heap.size ≤ g; omega) _).setCell (p := ⟨g, 1, none⟩) (by have h1 := B_6.out.size; have h2 := HLE.out; show w.heap.size ≤ g; omega) _)
  clear hw_
  clear hHeld
  go_wp2
  have HD_10 := Aside0.mk (blk_drew HD_9.out)
  have HI_10 := Aside0.mk (blk_drew HI_9.out)
  have HZ_10 := Aside0.mk (blk_drew HZ_9.out)
  have HL_10 := Aside0.mk (blk_drew HL_9.out)
  have HX_10 := Aside0.mk (blk_drew HX_9.out)
  have HF_10 := Aside0.mk (blk_drew HF_9.out)
  have HDO_10 := Aside0.mk (blk_drew HDO_9.out)
  have HG_10 := Aside0.mk (blk_drew HG_9.out)
  have B_10 := Aside0.mk (below_drew1 B_9.out)
  refine start_ (n := 9) (S := fun w' => w'.cell? ⟨w.heap.size, 0, none⟩ = some (.slice A0 l0.length c0) ∧ w'.cell? ⟨w.heap.size, 1, none⟩ = some (.slice A1 l1.length c1)) (ds := [8]) #[false, false, false, false, false, false, false, false, false] (by kernel_rfl) rfl rfl ⟨(blk_cell HD_10.out 0).trans rfl, (blk_cell HD_10.out 1).trans rfl⟩ (fun hHeld => ?_)
  generalize World.drew w9 = w10 at HD_10 HI_10 HZ_10 HL_10 HX_10 HF_10 HDO_10 HG_10 B_10 hHeld ⊢
  refine pure_ (i := 0) (N := some 87) (v := ?_) (a' := ?_) #[true, false, false, false, false, false, false, false, false] rfl rfl (by kernel_rfl) (fun _ _ _ h => h) (Or.inl ⟨by rfl, ?_⟩) ?_ ?_
  rotate_left
  · intro w'
    go_simp
    with_reducible rfl
  rotate_left
  · simp only [Act.put, List.setIfInBounds_toArray, List.set_cons_zero, List.set_cons_succ, i64_w, i32_w]
    rfl
  refine pure_ (i := 3) (N := some 90) (v := ?_) (a' := ?_) #[true, false, false, true, false, false, false, false, false] rfl rfl (by kernel_rfl) (fun _ _ _ h => h) (Or.inl ⟨by rfl, ?_⟩) ?_ ?_
  rotate_left
  · intro w'
    go_simp
    with_reducible rfl
  rotate_left
  · simp only [Act.put, List.setIfInBounds_toArray, List.set_cons_zero, List.set_cons_succ, i64_w, i32_w]
    rfl
  refine take_ (i := 1) (N := some 88) (v := ?_) (a' := ?_) #[true, true, false, true, false, false, false, false, false] rfl rfl (by kernel_rfl) (fun _ _ _ h => h) (Or.inl ⟨by rfl, ?_⟩) hHeld ?_ ?_
  rotate_left
  · rintro w' ⟨s0, s1⟩
    go_simp
    with_reducible rfl
  rotate_left
  · simp only [Act.put, List.setIfInBounds_toArray, List.set_cons_zero, List.set_cons_succ, i64_w, i32_w]
    rfl
  refine take_ (i := 4) (N := some 91) (v := ?_) (a' := ?_) #[true, true, false, true, true, false, false, false, false] rfl rfl (by kernel_rfl) (fun _ _ _ h => h) (Or.inl ⟨by rfl, ?_⟩) hHeld ?_ ?_
  rotate_left
  · rintro w' ⟨s0, s1⟩
    go_simp
    with_reducible rfl
  rotate_left
  · simp only [Act.put, List.setIfInBounds_toArray, List.set_cons_zero, List.set_cons_succ, i64_w, i32_w]
    rfl
  refine join_ (σ := Nat × Option Addr × Nat × Option Addr × Nat) 1 #[true, true, true, true, true, true, true, true, false] (fun s => [(89, .slice s.2.1 l0.length s.2.2.1), (92, .slice s.2.2.2.1 l1.length s.2.2.2.2), (93, .agg #[.slice s.2.1 l0.length s.2.2.1, .slice s.2.2.2.1 l1.length s.2.2.2.2]), (21, .pointer (some ⟨s.1, 0, none⟩))]) (fun s w' => w'.heap[w.heap.size]? = some (.cells (#[.slice A0 l0.length c0, .slice A1 l1.length c1]) 25 (0, 0)) ∧ w'.heap[w.heap.size + 1]? = some (.cells (#[.int .i64 a]) 3 (0, 0)) ∧ w'.heap[w.heap.size + 1 + 1]? = some (.cells (#[.slice none 0 0, .slice none 0 0]) 25 (0, 0)) ∧ w'.heap[w1.heap.size]? = some (.cells (blkT n0 t0 k0 n1 t1 k1) 62 (0, 0)) ∧ w'.heap[w3.heap.size]? = some (.cells (#[.int .i64 xn, .string xt, .bool xk]) 61 (0, 0)) ∧ w'.heap[w5.heap.size]? = some (.cells (#[.string f]) 9 (0, 0)) ∧ w'.heap[w5.heap.size + 1]? = some (.cells (#[.func (.func 32) #[] #[.pointer (some ⟨w.heap.size + 1, 0, none⟩), .pointer (some ⟨w1.heap.size, 0, none⟩), .pointer (some ⟨w5.heap.size, 0, none⟩)], .func (.func 34) #[] #[]]) 68 (0, 0)) ∧ w'.heap[g]? = some (.cells (#[.slice A4 b1.length c4, .slice A5 u1.length c5]) 25 (0, 0)) ∧ Below w.heap.size w w' ∧ w'.heap[s.1]? = some (.cells #[.slice none 0 0, .slice none 0 0] 25 (0, 0)) ∧ w10.heap.size ≤ s.1 ∧ Kd.R Kd.string 9 w' w.heap.size (fun _ => True) (.slice s.2.1 l0.length s.2.2.1) l0 ∧ Kd.R k73 73 w' w.heap.size (fun _ => True) (.slice s.2.2.2.1 l1.length s.2.2.2.2) l1) ?_ ?_
  rotate_left
  · intro hCont
    refine two_ (i := 2) (j := 7) (Ni := some 89) (Nj := some 21) #[true, true, true, true, true, false, false, false, false] #[true, true, false, true, true, false, false, true, false] rfl rfl rfl rfl (by kernel_rfl) (by decide) (by decide) (fun K hK => ?_) (fun K hK => ?_)
    · skip
      refine goes_ Try.func35 (by kernel_rfl) rfl #[.slice A0 l0.length c0] (by rfl) rfl rfl (by (try simp only [List.map_toArray, List.map_cons, List.map_nil]); first | done | rfl) ?_
      refine (HClone0.out (w10) B_10.out).mono ?_
      rintro e w11 ⟨xa, rfl, hR, hb⟩
      refine ⟨_, rfl, ?_⟩
      obtain ⟨Aa, ca, rfl⟩ := Kd.R_slice hR
      have hR_ := Kd.R_lower hR B_10.out.size
      clear hR
      have HD_11 := Aside0.mk (blk_below HD_10.out hb)
      have HI_11 := Aside0.mk (blk_below HI_10.out hb)
      have HZ_11 := Aside0.mk (blk_below HZ_10.out hb)
      have HL_11 := Aside0.mk (blk_below HL_10.out hb)
      have HX_11 := Aside0.mk (blk_below HX_10.out hb)
      have HF_11 := Aside0.mk (blk_below HF_10.out hb)
      have HDO_11 := Aside0.mk (blk_below HDO_10.out hb)
      have HG_11 := Aside0.mk (blk_below HG_10.out hb)
      have B_11 := Aside0.mk (B_10.out.trans (hb.mono B_10.out.size))
      have OV_11 := Aside0.mk hR_
      clear hR_
      have HS := Aside0.mk hb.size
      clear hb
      refine hK.out _ _ ⟨(blk_cell HD_11.out 0).trans rfl, (blk_cell HD_11.out 1).trans rfl⟩ (fun hHeld => ?_)
      clear hK K
      refine norm_ (a' := ?_) ?_ ?_
      rotate_left
      · show Act.put _ (some 89) _ = _
        simp only [Act.put, List.setIfInBounds_toArray, List.set_cons_zero, List.set_cons_succ, i64_w, i32_w]
        rfl
      refine two_ (i := 5) (j := 7) (Ni := some 92) (Nj := some 21) #[true, true, true, true, true, true, false, false, false] #[true, true, true, true, true, false, false, true, false] rfl rfl rfl rfl (by kernel_rfl) (by decide) (by decide) (fun K hK => ?_) (fun K hK => ?_)
      · skip
        refine goes_ Try.func36 (by kernel_rfl) rfl #[.slice A1 l1.length c1] (by rfl) rfl rfl (by (try simp only [List.map_toArray, List.map_cons, List.map_nil]); first | done | rfl) ?_
        refine (HClone1.out (w11) B_11.out).mono ?_
        rintro e w12 ⟨xb, rfl, hR, hb⟩
        refine ⟨_, rfl, ?_⟩
        obtain ⟨Ab, cb, rfl⟩ := Kd.R_slice hR
        have hR_ := Kd.R_lower hR B_11.out.size
        clear hR
        have HD_12 := Aside0.mk (blk_below HD_11.out hb)
        have HI_12 := Aside0.mk (blk_below HI_11.out hb)
        have HZ_12 := Aside0.mk (blk_below HZ_11.out hb)
        have HL_12 := Aside0.mk (blk_below HL_11.out hb)
        have HX_12 := Aside0.mk (blk_below HX_11.out hb)
        have HF_12 := Aside0.mk (blk_below HF_11.out hb)
        have HDO_12 := Aside0.mk (blk_below HDO_11.out hb)
        have HG_12 := Aside0.mk (blk_below HG_11.out hb)
        have OV_12 := Aside0.mk (Kd.R_below OV_11.out hb)
        have B_12 := Aside0.mk (B_11.out.trans (hb.mono B_11.out.size))
        have OU_12 := Aside0.mk hR_
        clear hR_
        have HS := Aside0.mk (Nat.le_trans HS.out hb.size)
        clear hb
        refine hK.out _ _ ⟨(blk_cell HD_12.out 0).trans rfl, (blk_cell HD_12.out 1).trans rfl⟩ (fun hHeld => ?_)
        clear hK K
        refine norm_ (a' := ?_) ?_ ?_
        rotate_left
        · show Act.put _ (some 92) _ = _
          simp only [Act.put, List.setIfInBounds_toArray, List.set_cons_zero, List.set_cons_succ, i64_w, i32_w]
          rfl
        refine pure_ (i := 6) (N := some 93) (v := ?_) (a' := ?_) #[true, true, true, true, true, true, true, false, false] rfl rfl (by kernel_rfl) (fun _ _ _ h => h) (Or.inl ⟨by rfl, ?_⟩) ?_ ?_
        rotate_left
        · intro w'
          go_simp
          with_reducible rfl
        rotate_left
        · simp only [Act.put, List.setIfInBounds_toArray, List.set_cons_zero, List.set_cons_succ, i64_w, i32_w]
          rfl
        refine one_ (i := 7) (N := some 21) #[true, true, true, true, true, true, true, true, false] rfl rfl (by kernel_rfl) (by decide) (fun K hK => ?_)
        refine value_ (w1 := ?_) (v := ?_) (by rfl) rfl ?_ ?_
        rotate_left 2
        · go_simp
          constructor
          · rfl
          · rfl
        have HS13 := Aside0.mk (show w10.heap.size ≤ (w12).heap.size by exact HS.out)
        have HD_13 := Aside0.mk (blk_alloc HD_12.out (.cells #[.slice none 0 0, .slice none 0 0] 25))
        have HI_13 := Aside0.mk (blk_alloc HI_12.out (.cells #[.slice none 0 0, .slice none 0 0] 25))
        have HZ_13 := Aside0.mk (blk_alloc HZ_12.out (.cells #[.slice none 0 0, .slice none 0 0] 25))
        have HL_13 := Aside0.mk (blk_alloc HL_12.out (.cells #[.slice none 0 0, .slice none 0 0] 25))
        have HX_13 := Aside0.mk (blk_alloc HX_12.out (.cells #[.slice none 0 0, .slice none 0 0] 25))
        have HF_13 := Aside0.mk (blk_alloc HF_12.out (.cells #[.slice none 0 0, .slice none 0 0] 25))
        have HDO_13 := Aside0.mk (blk_alloc HDO_12.out (.cells #[.slice none 0 0, .slice none 0 0] 25))
        have HG_13 := Aside0.mk (blk_alloc HG_12.out (.cells #[.slice none 0 0, .slice none 0 0] 25))
        have OV_13 := Aside0.mk (Kd.R_alloc OV_12.out (.cells #[.slice none 0 0, .slice none 0 0] 25))
        have OU_13 := Aside0.mk (Kd.R_alloc OU_12.out (.cells #[.slice none 0 0, .slice none 0 0] 25))
        have B_13 := Aside0.mk (B_12.out.alloc B_12.out.size (.cells #[.slice none 0 0, .slice none 0 0] 25))
        have HN_13 := Aside0.mk (show (w12.alloc (.cells #[.slice none 0 0, .slice none 0 0] 25)).heap[w12.heap.size]? = _ from blk_new (w12) (.cells #[.slice none 0 0, .slice none 0 0] 25))
        refine hK.out _ _ ⟨(blk_cell HD_13.out 0).trans rfl, (blk_cell HD_13.out 1).trans rfl⟩ (fun hHeld => ?_)
        clear hK K
        refine norm_ (a' := ?_) ?_ ?_
        rotate_left
        · show Act.put _ (some 21) _ = _
          simp only [Act.put, List.setIfInBounds_toArray, List.set_cons_zero, List.set_cons_succ, i64_w, i32_w]
          rfl
        exact norm_ (by simp only [putAll, Act.put, List.setIfInBounds_toArray, List.set_cons_zero, List.set_cons_succ]) (hCont (w12.heap.size, Aa, ca, Ab, cb) _ ⟨HD_13.out, HI_13.out, HZ_13.out, HL_13.out, HX_13.out, HF_13.out, HDO_13.out, HG_13.out, B_13.out, HN_13.out, HS13.out, OV_13.out, OU_13.out⟩)
      · skip
        refine value_ (w1 := ?_) (v := ?_) (by rfl) rfl ?_ ?_
        rotate_left 2
        · go_simp
          constructor
          · rfl
          · rfl
        have HS12 := Aside0.mk (show w10.heap.size ≤ (w11).heap.size by exact HS.out)
        have HD_12 := Aside0.mk (blk_alloc HD_11.out (.cells #[.slice none 0 0, .slice none 0 0] 25))
        have HI_12 := Aside0.mk (blk_alloc HI_11.out (.cells #[.slice none 0 0, .slice none 0 0] 25))
        have HZ_12 := Aside0.mk (blk_alloc HZ_11.out (.cells #[.slice none 0 0, .slice none 0 0] 25))
        have HL_12 := Aside0.mk (blk_alloc HL_11.out (.cells #[.slice none 0 0, .slice none 0 0] 25))
        have HX_12 := Aside0.mk (blk_alloc HX_11.out (.cells #[.slice none 0 0, .slice none 0 0] 25))
        have HF_12 := Aside0.mk (blk_alloc HF_11.out (.cells #[.slice none 0 0, .slice none 0 0] 25))
        have HDO_12 := Aside0.mk (blk_alloc HDO_11.out (.cells #[.slice none 0 0, .slice none 0 0] 25))
        have HG_12 := Aside0.mk (blk_alloc HG_11.out (.cells #[.slice none 0 0, .slice none 0 0] 25))
        have OV_12 := Aside0.mk (Kd.R_alloc OV_11.out (.cells #[.slice none 0 0, .slice none 0 0] 25))
        have B_12 := Aside0.mk (B_11.out.alloc B_11.out.size (.cells #[.slice none 0 0, .slice none 0 0] 25))
        have HN_12 := Aside0.mk (show (w11.alloc (.cells #[.slice none 0 0, .slice none 0 0] 25)).heap[w11.heap.size]? = _ from blk_new (w11) (.cells #[.slice none 0 0, .slice none 0 0] 25))
        refine hK.out _ _ ⟨(blk_cell HD_12.out 0).trans rfl, (blk_cell HD_12.out 1).trans rfl⟩ (fun hHeld => ?_)
        clear hK K
        refine norm_ (a' := ?_) ?_ ?_
        rotate_left
        · show Act.put _ (some 21) _ = _
          simp only [Act.put, List.setIfInBounds_toArray, List.set_cons_zero, List.set_cons_succ, i64_w, i32_w]
          rfl
        refine one_ (i := 5) (N := some 92) #[true, true, true, true, true, true, false, true, false] rfl rfl (by kernel_rfl) (by decide) (fun K hK => ?_)
        refine goes_ Try.func36 (by kernel_rfl) rfl #[.slice A1 l1.length c1] (by rfl) rfl rfl (by (try simp only [List.map_toArray, List.map_cons, List.map_nil]); first | done | rfl) ?_
        refine (HClone1.out ((w11.alloc (.cells #[.slice none 0 0, .slice none 0 0] 25))) B_12.out).mono ?_
        rintro e w13 ⟨xb, rfl, hR, hb⟩
        refine ⟨_, rfl, ?_⟩
        obtain ⟨Ab, cb, rfl⟩ := Kd.R_slice hR
        have hR_ := Kd.R_lower hR B_12.out.size
        clear hR
        have HD_13 := Aside0.mk (blk_below HD_12.out hb)
        have HI_13 := Aside0.mk (blk_below HI_12.out hb)
        have HZ_13 := Aside0.mk (blk_below HZ_12.out hb)
        have HL_13 := Aside0.mk (blk_below HL_12.out hb)
        have HX_13 := Aside0.mk (blk_below HX_12.out hb)
        have HF_13 := Aside0.mk (blk_below HF_12.out hb)
        have HDO_13 := Aside0.mk (blk_below HDO_12.out hb)
        have HG_13 := Aside0.mk (blk_below HG_12.out hb)
        have HN_13 := Aside0.mk (blk_below HN_12.out hb)
        have OV_13 := Aside0.mk (Kd.R_below OV_12.out hb)
        have B_13 := Aside0.mk (B_12.out.trans (hb.mono B_12.out.size))
        have OU_13 := Aside0.mk hR_
        clear hR_
        clear hb
        refine hK.out _ _ ⟨(blk_cell HD_13.out 0).trans rfl, (blk_cell HD_13.out 1).trans rfl⟩ (fun hHeld => ?_)
        clear hK K
        refine norm_ (a' := ?_) ?_ ?_
        rotate_left
        · show Act.put _ (some 92) _ = _
          simp only [Act.put, List.setIfInBounds_toArray, List.set_cons_zero, List.set_cons_succ, i64_w, i32_w]
          rfl
        refine pure_ (i := 6) (N := some 93) (v := ?_) (a' := ?_) #[true, true, true, true, true, true, true, true, false] rfl rfl (by kernel_rfl) (fun _ _ _ h => h) (Or.inl ⟨by rfl, ?_⟩) ?_ ?_
        rotate_left
        · intro w'
          go_simp
          with_reducible rfl
        rotate_left
        · simp only [Act.put, List.setIfInBounds_toArray, List.set_cons_zero, List.set_cons_succ, i64_w, i32_w]
          rfl
        exact norm_ (by simp only [putAll, Act.put, List.setIfInBounds_toArray, List.set_cons_zero, List.set_cons_succ]) (hCont (w11.heap.size, Aa, ca, Ab, cb) _ ⟨HD_13.out, HI_13.out, HZ_13.out, HL_13.out, HX_13.out, HF_13.out, HDO_13.out, HG_13.out, B_13.out, HN_13.out, HS12.out, OV_13.out, OU_13.out⟩)
    · skip
      refine value_ (w1 := ?_) (v := ?_) (by rfl) rfl ?_ ?_
      rotate_left 2
      · go_simp
        constructor
        · rfl
        · rfl
      have HS11 := Aside0.mk (show w10.heap.size ≤ (w10).heap.size by exact Nat.le_refl _)
      have HD_11 := Aside0.mk (blk_alloc HD_10.out (.cells #[.slice none 0 0, .slice none 0 0] 25))
      have HI_11 := Aside0.mk (blk_alloc HI_10.out (.cells #[.slice none 0 0, .slice none 0 0] 25))
      have HZ_11 := Aside0.mk (blk_alloc HZ_10.out (.cells #[.slice none 0 0, .slice none 0 0] 25))
      have HL_11 := Aside0.mk (blk_alloc HL_10.out (.cells #[.slice none 0 0, .slice none 0 0] 25))
      have HX_11 := Aside0.mk (blk_alloc HX_10.out (.cells #[.slice none 0 0, .slice none 0 0] 25))
      have HF_11 := Aside0.mk (blk_alloc HF_10.out (.cells #[.slice none 0 0, .slice none 0 0] 25))
      have HDO_11 := Aside0.mk (blk_alloc HDO_10.out (.cells #[.slice none 0 0, .slice none 0 0] 25))
      have HG_11 := Aside0.mk (blk_alloc HG_10.out (.cells #[.slice none 0 0, .slice none 0 0] 25))
      have B_11 := Aside0.mk (B_10.out.alloc B_10.out.size (.cells #[.slice none 0 0, .slice none 0 0] 25))
      have HN_11 := Aside0.mk (show (w10.alloc (.cells #[.slice none 0 0, .slice none 0 0] 25)).heap[w10.heap.size]? = _ from blk_new (w10) (.cells #[.slice none 0 0, .slice none 0 0] 25))
      refine hK.out _ _ ⟨(blk_cell HD_11.out 0).trans rfl, (blk_cell HD_11.out 1).trans rfl⟩ (fun hHeld => ?_)
      clear hK K
      refine norm_ (a' := ?_) ?_ ?_
      rotate_left
      · show Act.put _ (some 21) _ = _
        simp only [Act.put, List.setIfInBounds_toArray, List.set_cons_zero, List.set_cons_succ, i64_w, i32_w]
        rfl
      refine one_ (i := 2) (N := some 89) #[true, true, true, true, true, false, false, true, false] rfl rfl (by kernel_rfl) (by decide) (fun K hK => ?_)
      refine goes_ Try.func35 (by kernel_rfl) rfl #[.slice A0 l0.length c0] (by rfl) rfl rfl (by (try simp only [List.map_toArray, List.map_cons, List.map_nil]); first | done | rfl) ?_
      refine (HClone0.out ((w10.alloc (.cells #[.slice none 0 0, .slice none 0 0] 25))) B_11.out).mono ?_
      rintro e w12 ⟨xa, rfl, hR, hb⟩
      refine ⟨_, rfl, ?_⟩
      obtain ⟨Aa, ca, rfl⟩ := Kd.R_slice hR
      have hR_ := Kd.R_lower hR B_11.out.size
      clear hR
      have HD_12 := Aside0.mk (blk_below HD_11.out hb)
      have HI_12 := Aside0.mk (blk_below HI_11.out hb)
      have HZ_12 := Aside0.mk (blk_below HZ_11.out hb)
      have HL_12 := Aside0.mk (blk_below HL_11.out hb)
      have HX_12 := Aside0.mk (blk_below HX_11.out hb)
      have HF_12 := Aside0.mk (blk_below HF_11.out hb)
      have HDO_12 := Aside0.mk (blk_below HDO_11.out hb)
      have HG_12 := Aside0.mk (blk_below HG_11.out hb)
      have HN_12 := Aside0.mk (blk_below HN_11.out hb)
      have B_12 := Aside0.mk (B_11.out.trans (hb.mono B_11.out.size))
      have OV_12 := Aside0.mk hR_
      clear hR_
      clear hb
      refine hK.out _ _ ⟨(blk_cell HD_12.out 0).trans rfl, (blk_cell HD_12.out 1).trans rfl⟩ (fun hHeld => ?_)
      clear hK K
      refine norm_ (a' := ?_) ?_ ?_
      rotate_left
      · show Act.put _ (some 89) _ = _
        simp only [Act.put, List.setIfInBounds_toArray, List.set_cons_zero, List.set_cons_succ, i64_w, i32_w]
        rfl
      refine one_ (i := 5) (N := some 92) #[true, true, true, true, true, true, false, true, false] rfl rfl (by kernel_rfl) (by decide) (fun K hK => ?_)
      refine goes_ Try.func36 (by kernel_rfl) rfl #[.slice A1 l1.length c1] (by rfl) rfl rfl (by (try simp only [List.map_toArray, List.map_cons, List.map_nil]); first | done | rfl) ?_
      refine (HClone1.out (w12) B_12.out).mono ?_
      rintro e w13 ⟨xb, rfl, hR, hb⟩
      refine ⟨_, rfl, ?_⟩
      obtain ⟨Ab, cb, rfl⟩ := Kd.R_slice hR
      have hR_ := Kd.R_lower hR B_12.out.size
      clear hR
      have HD_13 := Aside0.mk (blk_below HD_12.out hb)
      have HI_13 := Aside0.mk (blk_below HI_12.out hb)
      have HZ_13 := Aside0.mk (blk_below HZ_12.out hb)
      have HL_13 := Aside0.mk (blk_below HL_12.out hb)
      have HX_13 := Aside0.mk (blk_below HX_12.out hb)
      have HF_13 := Aside0.mk (blk_below HF_12.out hb)
      have HDO_13 := Aside0.mk (blk_below HDO_12.out hb)
      have HG_13 := Aside0.mk (blk_below HG_12.out hb)
      have HN_13 := Aside0.mk (blk_below HN_12.out hb)
      have OV_13 := Aside0.mk (Kd.R_below OV_12.out hb)
      have B_13 := Aside0.mk (B_12.out.trans (hb.mono B_12.out.size))
      have OU_13 := Aside0.mk hR_
      clear hR_
      clear hb
      refine hK.out _ _ ⟨(blk_cell HD_13.out 0).trans rfl, (blk_cell HD_13.out 1).trans rfl⟩ (fun hHeld => ?_)
      clear hK K
      refine norm_ (a' := ?_) ?_ ?_
      rotate_left
      · show Act.put _ (some 92) _ = _
        simp only [Act.put, List.setIfInBounds_toArray, List.set_cons_zero, List.set_cons_succ, i64_w, i32_w]
        rfl
      refine pure_ (i := 6) (N := some 93) (v := ?_) (a' := ?_) #[true, true, true, true, true, true, true, true, false] rfl rfl (by kernel_rfl) (fun _ _ _ h => h) (Or.inl ⟨by rfl, ?_⟩) ?_ ?_
      rotate_left
      · intro w'
        go_simp
        with_reducible rfl
      rotate_left
      · simp only [Act.put, List.setIfInBounds_toArray, List.set_cons_zero, List.set_cons_succ, i64_w, i32_w]
        rfl
      exact norm_ (by simp only [putAll, Act.put, List.setIfInBounds_toArray, List.set_cons_zero, List.set_cons_succ]) (hCont (w10.heap.size, Aa, ca, Ab, cb) _ ⟨HD_13.out, HI_13.out, HZ_13.out, HL_13.out, HX_13.out, HF_13.out, HDO_13.out, HG_13.out, B_13.out, HN_13.out, HS11.out, OV_13.out, OU_13.out⟩)
  rintro ⟨gn, Aa, ca, Ab, cb⟩ w14 ⟨hD14, hI14, hZ14, hL14, hX14, hF14, hDO14, hG14, hB14, hN14, hLE2, hV14, hU14⟩
  have HD_14 := Aside0.mk hD14
  have HI_14 := Aside0.mk hI14
  have HZ_14 := Aside0.mk hZ14
  have HL_14 := Aside0.mk hL14
  have HX_14 := Aside0.mk hX14
  have HF_14 := Aside0.mk hF14
  have HDO_14 := Aside0.mk hDO14
  have HG_14 := Aside0.mk hG14
  have B_14 := Aside0.mk hB14
  have HN_14 := Aside0.mk hN14
  have HLE2 := Aside0.mk hLE2
  have OV_14 := Aside0.mk hV14
  have OU_14 := Aside0.mk hU14
  clear hB14 hN14 hLE2 hV14 hU14 hD14 hI14 hZ14 hL14 hX14 hF14 hDO14 hG14
  have hHeld : w14.cell? ⟨w.heap.size, 0, none⟩ = some (.slice A0 l0.length c0) ∧ w14.cell? ⟨w.heap.size, 1, none⟩ = some (.slice A1 l1.length c1) := ⟨(blk_cell HD_14.out 0).trans rfl, (blk_cell HD_14.out 1).trans rfl⟩
  have y0 := blk_cell HN_14.out 0
  have y1 := blk_cell HN_14.out 1
  have fy0 := blk_frozen HN_14.out 0
  have fy1 := blk_frozen HN_14.out 1
  refine norm_ (a' := ?_) ?_ ?_
  rotate_left
  · simp only [putAll, Act.put, List.setIfInBounds_toArray, List.set_cons_zero, List.set_cons_succ]
    rfl
  refine last_ (i := 8) (N := none) #[true, true, true, true, true, true, true, true, true] rfl rfl (by kernel_rfl) (by decide) (fun K hK => ?_)
  refine skip_ (w1 := ?_) (by rfl) rfl ?_ ?_
  rotate_left
  · go_simp
    rfl
  refine hK.out _ _ ?_
  clear hK K
  refine done_ (by kernel_rfl) ?_
  obtain ⟨w15, hw_⟩ : ∃ x_, x_ = (w14.setCell ⟨gn, 0, none⟩ (.slice Aa l0.length ca)).setCell ⟨gn, 1, none⟩ (.slice Ab l1.length cb) := ⟨_, rfl⟩
  rw [← hw_]
  have HD_15 := Aside0.mk (show w15.heap[w.heap.size]? = some (.cells (#[.slice A0 l0.length c0, .slice A1 l1.length c1]) 25 (0, 0)) by rw [hw_]; exact blk_far (blk_far HD_14.out (p := ⟨gn, 0, none⟩) (by have h1 := blk_lt HD_10.out; have h2 := HLE2.out; show w.heap.size ≠ gn; omega) _) (p := ⟨gn, 1, none⟩) (by have h1 := blk_lt HD_10.out; have h2 := HLE2.out; show w.heap.size ≠ gn; omega) _)
  have HI_15 := Aside0.mk (show w15.heap[w.heap.size + 1]? = some (.cells (#[.int .i64 a]) 3 (0, 0)) by rw [hw_]; exact blk_far (blk_far HI_14.out (p := ⟨gn, 0, none⟩) (by have h1 := blk_lt HI_10.out; have h2 := HLE2.out; show w.heap.size + 1 ≠ gn; omega) _) (p := ⟨gn, 1, none⟩) (by have h1 := blk_lt HI_10.out; have h2 := HLE2.out; show w.heap.size + 1 ≠ gn; omega) _)
  have HZ_15 := Aside0.mk (show w15.heap[w.heap.size + 1 + 1]? = some (.cells (#[.slice none 0 0, .slice none 0 0]) 25 (0, 0)) by rw [hw_]; exact blk_far (blk_far HZ_14.out (p := ⟨gn, 0, none⟩) (by have h1 := blk_lt HZ_10.out; have h2 := HLE2.out; show w.heap.size + 1 + 1 ≠ gn; omega) _) (p := ⟨gn, 1, none⟩) (by have h1 := blk_lt HZ_10.out; have h2 := HLE2.out; show w.heap.size + 1 + 1 ≠ gn; omega) _)
  have HL_15 := Aside0.mk (show w15.heap[w1.heap.size]? = some (.cells (blkT n0 t0 k0 n1 t1 k1) 62 (0, 0)) by rw [hw_]; exact blk_far (blk_far HL_14.out (p := ⟨gn, 0, none⟩) (by have h1 := blk_lt HL_10.out; have h2 := HLE2.out; show w1.heap.size ≠ gn; omega) _) (p := ⟨gn, 1, none⟩) (by have h1 := blk_lt HL_10.out; have h2 := HLE2.out; show w1.heap.size ≠ gn; omega) _)
  have HX_15 := Aside0.mk (show w15.heap[w3.heap.size]? = some (.cells (#[.int .i64 xn, .string xt, .bool xk]) 61 (0, 0)) by rw [hw_]; exact blk_far (blk_far HX_14.out (p := ⟨gn, 0, none⟩) (by have h1 := blk_lt HX_10.out; have h2 := HLE2.out; show w3.heap.size ≠ gn; omega) _) (p := ⟨gn, 1, none⟩) (by have h1 := blk_lt HX_10.out; have h2 := HLE2.out; show w3.heap.size ≠ gn; omega) _)
  have HF_15 := Aside0.mk (show w15.heap[w5.heap.size]? = some (.cells (#[.string f]) 9 (0, 0)) by rw [hw_]; exact blk_far (blk_far HF_14.out (p := ⟨gn, 0, none⟩) (by have h1 := blk_lt HF_10.out; have h2 := HLE2.out; show w5.heap.size ≠ gn; omega) _) (p := ⟨gn, 1, none⟩) (by have h1 := blk_lt HF_10.out; have h2 := HLE2.out; show w5.heap.size ≠ gn; omega) _)
  have HDO_15 := Aside0.mk (show w15.heap[w5.heap.size + 1]? = some (.cells (#[.func (.func 32) #[] #[.pointer (some ⟨w.heap.size + 1, 0, none⟩), .pointer (some ⟨w1.heap.size, 0, none⟩), .pointer (some ⟨w5.heap.size, 0, none⟩)], .func (.func 34) #[] #[]]) 68 (0, 0)) by rw [hw_]; exact blk_far (blk_far HDO_14.out (p := ⟨gn, 0, none⟩) (by have h1 := blk_lt HDO_10.out; have h2 := HLE2.out; show w5.heap.size + 1 ≠ gn; omega) _) (p := ⟨gn, 1, none⟩) (by have h1 := blk_lt HDO_10.out; have h2 := HLE2.out; show w5.heap.size + 1 ≠ gn; omega) _)
  have HG_15 := Aside0.mk (show w15.heap[g]? = some (.cells (#[.slice A4 b1.length c4, .slice A5 u1.length c5]) 25 (0, 0)) by rw [hw_]; exact blk_far (blk_far HG_14.out (p := ⟨gn, 0, none⟩) (by have h1 := blk_lt HG_10.out; have h2 := HLE2.out; show g ≠ gn; omega) _) (p := ⟨gn, 1, none⟩) (by have h1 := blk_lt HG_10.out; have h2 := HLE2.out; show g ≠ gn; omega) _)
  have HN_15 := Aside0.mk (show w15.heap[gn]? = some (.cells (#[.slice Aa l0.length ca, .slice Ab l1.length cb]) 25 (0, 0)) by rw [hw_]; exact blk_set (blk_set HN_14.out 0 (.slice Aa l0.length ca)) 1 (.slice Ab l1.length cb))
  have OV_15 := Aside0.mk (show Kd.R Kd.string 9 w15 w.heap.size (fun _ => True) (.slice Aa l0.length ca) (l0) by rw [hw_]; exact Kd.R_set (Kd.R_set OV_14.out HN_14.out (by intro q hq; simp [Kd.iso, Kd.pair, Kd.int, Kd.string, Kd.scalar] at hq; subst hq; decide) 0 (.slice Aa l0.length ca)) (blk_set HN_14.out 0 (.slice Aa l0.length ca)) (by intro q hq; simp [Kd.iso, Kd.pair, Kd.int, Kd.string, Kd.scalar] at hq; subst hq; decide) 1 (.slice Ab l1.length cb))
  have OU_15 := Aside0.mk (show Kd.R k73 73 w15 w.heap.size (fun _ => True) (.slice Ab l1.length cb) (l1) by rw [hw_]; exact Kd.R_set (Kd.R_set OU_14.out HN_14.out (by intro q hq; simp [k73, Kd.iso, Kd.pair, Kd.int, Kd.string, Kd.scalar] at hq; subst hq; decide) 0 (.slice Aa l0.length ca)) (blk_set HN_14.out 0 (.slice Aa l0.length ca)) (by intro q hq; simp [k73, Kd.iso, Kd.pair, Kd.int, Kd.string, Kd.scalar] at hq; subst hq; decide) 1 (.slice Ab l1.length cb))
  have B_15 := Aside0.mk (show Below w.heap.size w w15 by rw [hw_]; exact (B_14.out.setCell (p := ⟨gn, 0, none⟩) (by have h1 := B_10.out.size; have h2 := HLE2.out; show w.heap.size ≤ gn; omega) _).setCell (p := ⟨gn, 1, none⟩) (by have h1 := B_10.out.size; have h2 := HLE2.out; show w.heap.size ≤ gn; omega) _)
  clear hw_
  clear hHeld
  have HGN := Aside0.mk (show w5.heap.size + 1 + 1 ≤ gn by have h1 := blk_lt HDO_10.out; have h2 := HLE2.out; omega)
  obtain ⟨i68, hi68⟩ : ∃ i, Try.prog.info? 68 = some i := Option.isSome_iff_exists.1 (by kernel_rfl)
  have hcut := cut_to (P := Try.prog) 69 68 .i64 Try.underlying69 hi68 (some ⟨w5.heap.size + 1, 0, none⟩) 2 2 1 (by decide) (by decide) (by decide)
  have hu_ := Try.underlying69
  clear hi68
  go_wp2
  clear hcut
  go_loopw [98] (fun i wr => ∃ (k : Nat) (Ak : Option Addr) (ck : Nat) (Uk : Option Addr) (du : Nat), k ≤ 1 ∧ i = .int .i64 k ∧ ((k = 0 ∧ Aside0 (Kd.R Kd.string 9 wr w.heap.size (fun _ => True) (.slice Ak l0.length ck) l0) ∧ Aside0 (Kd.R k73 73 wr w.heap.size (fun _ => True) (.slice Uk l1.length du) l1) ∧ Aside0 (wr.heap[gn]? = some (.cells #[.slice Ak l0.length ck, .slice Uk l1.length du] 25 (0, 0)))) ∨ (k = 1 ∧ Aside0 (Kd.R Kd.string 9 wr w.heap.size (fun _ => True) (.slice Ak b1.length ck) b1) ∧ Aside0 (Kd.R k73 73 wr w.heap.size (fun _ => True) (.slice Uk u1.length du) u1) ∧ Aside0 (wr.heap[gn]? = some (.cells #[.slice Ak b1.length ck, .slice Uk u1.length du] 25 (0, 0))))) ∧ Aside0 (wr.heap[w.heap.size + 1]? = some (.cells (#[.int .i64 a]) 3 (0, 0))) ∧ Aside0 (wr.heap[w.heap.size + 1 + 1]? = some (.cells (#[.slice none 0 0, .slice none 0 0]) 25 (0, 0))) ∧ Aside0 (wr.heap[w1.heap.size]? = some (.cells (blkT n0 t0 k0 n1 t1 k1) 62 (0, 0))) ∧ Aside0 (wr.heap[w5.heap.size]? = some (.cells (#[.string f]) 9 (0, 0))) ∧ Aside0 (wr.heap[w5.heap.size + 1]? = some (.cells (#[.func (.func 32) #[] #[.pointer (some ⟨w.heap.size + 1, 0, none⟩), .pointer (some ⟨w1.heap.size, 0, none⟩), .pointer (some ⟨w5.heap.size, 0, none⟩)], .func (.func 34) #[] #[]]) 68 (0, 0))) ∧ Aside0 (Below w.heap.size w wr))
    (fun i _ => 1 - (intOf i).toNat)
  case atStart => exact ⟨0, Aa, ca, Ab, cb, Nat.zero_le _, rfl, Or.inl ⟨rfl, OV_15, OU_15, HN_15⟩, HI_15, HZ_15, HL_15, HF_15, HDO_15, B_15⟩
  case round =>
    clear HN_15 OV_15 OU_15 B_15 HI_15 HZ_15 HL_15 HF_15 HDO_15
    obtain ⟨k, Ak, ck, Uk, du, hk, rfl, hcase, HI_r, HZ_r, HL_r, HF_r, HDO_r, B_r⟩ := hrel
    rcases hcase with ⟨rfl, OV_r, OU_r, HN_r⟩ | ⟨rfl, OV_r, OU_r, HN_r⟩
    · have n0 := blk_cell HN_r.out 0
      have n1 := blk_cell HN_r.out 1
      simp only [List.getElem?_toArray, List.getElem?_cons_zero, List.getElem?_cons_succ] at n0 n1
      have o0 := blk_cell HDO_r.out 0
      simp only [List.getElem?_toArray, List.getElem?_cons_zero, List.getElem?_cons_succ] at o0
      go_wp2_with (first | (go_at_call 32; (refine (HDeed2.out _ Ak Uk ck du w1.heap.size w5.heap.size (Kd.R_reads' OV_r.out).2.2 (Kd.R_reads' OV_r.out).2.1 (Kd.R_reads' OU_r.out).2.2 (Kd.R_reads' OU_r.out).2.1 HI_r.out HL_r.out HF_r.out).mono ?_); rintro e w20 ⟨v0, v1, rfl, hR0, hR1, hb⟩; obtain ⟨A20, c20, rfl⟩ := Kd.R_slice hR0; obtain ⟨A21, c21, rfl⟩ := Kd.R_slice hR1; have hV_ := Kd.R_lower hR0 B_r.out.size; have hU_ := Kd.R_lower hR1 B_r.out.size; clear hR0 hR1; have HI_20 := Aside0.mk (blk_below HI_r.out hb); have HZ_20 := Aside0.mk (blk_below HZ_r.out hb); have HL_20 := Aside0.mk (blk_below HL_r.out hb); have HF_20 := Aside0.mk (blk_below HF_r.out hb); have HDO_20 := Aside0.mk (blk_below HDO_r.out hb); have HN_20 := Aside0.mk (blk_below HN_r.out hb); have OV_20 := Aside0.mk (Kd.R_below OV_r.out hb); have OU_20 := Aside0.mk (Kd.R_below OU_r.out hb); have B_20 := Aside0.mk (B_r.out.trans (hb.mono B_r.out.size)); clear hb; have OV_20 := Aside0.mk hV_; have OU_20 := Aside0.mk hU_; clear hV_ hU_; have m0 := blk_cell HN_20.out 0; have m1 := blk_cell HN_20.out 1; have fm0 := blk_frozen HN_20.out 0; have fm1 := blk_frozen HN_20.out 1; simp only [List.getElem?_toArray, List.getElem?_cons_zero, List.getElem?_cons_succ] at m0 m1))
      have HI_21 := Aside0.mk (blk_far (blk_far HI_20.out (p := ⟨gn, 0, none⟩) (by have h1 := blk_lt HI_10.out; have h2 := HLE2.out; show w.heap.size + 1 ≠ gn; omega) (.slice A20 b1.length c20)) (p := ⟨gn, 1, none⟩) (by have h1 := blk_lt HI_10.out; have h2 := HLE2.out; show w.heap.size + 1 ≠ gn; omega) (.slice A21 u1.length c21))
      have HZ_21 := Aside0.mk (blk_far (blk_far HZ_20.out (p := ⟨gn, 0, none⟩) (by have h1 := blk_lt HZ_10.out; have h2 := HLE2.out; show w.heap.size + 1 + 1 ≠ gn; omega) (.slice A20 b1.length c20)) (p := ⟨gn, 1, none⟩) (by have h1 := blk_lt HZ_10.out; have h2 := HLE2.out; show w.heap.size + 1 + 1 ≠ gn; omega) (.slice A21 u1.length c21))
      have HL_21 := Aside0.mk (blk_far (blk_far HL_20.out (p := ⟨gn, 0, none⟩) (by have h1 := blk_lt HL_10.out; have h2 := HLE2.out; show w1.heap.size ≠ gn; omega) (.slice A20 b1.length c20)) (p := ⟨gn, 1, none⟩) (by have h1 := blk_lt HL_10.out; have h2 := HLE2.out; show w1.heap.size ≠ gn; omega) (.slice A21 u1.length c21))
      have HF_21 := Aside0.mk (blk_far (blk_far HF_20.out (p := ⟨gn, 0, none⟩) (by have h1 := blk_lt HF_10.out; have h2 := HLE2.out; show w5.heap.size ≠ gn; omega) (.slice A20 b1.length c20)) (p := ⟨gn, 1, none⟩) (by have h1 := blk_lt HF_10.out; have h2 := HLE2.out; show w5.heap.size ≠ gn; omega) (.slice A21 u1.length c21))
      have HDO_21 := Aside0.mk (blk_far (blk_far HDO_20.out (p := ⟨gn, 0, none⟩) (by have h1 := blk_lt HDO_10.out; have h2 := HLE2.out; show w5.heap.size + 1 ≠ gn; omega) (.slice A20 b1.length c20)) (p := ⟨gn, 1, none⟩) (by have h1 := blk_lt HDO_10.out; have h2 := HLE2.out; show w5.heap.size + 1 ≠ gn; omega) (.slice A21 u1.length c21))
      have HN_21 := Aside0.mk (blk_set (blk_set HN_20.out 0 (.slice A20 b1.length c20)) 1 (.slice A21 u1.length c21))
      have OV_21 := Aside0.mk (Kd.R_set (Kd.R_set OV_20.out HN_20.out (by intro q hq; simp [Kd.iso, Kd.pair, Kd.int, Kd.string, Kd.scalar] at hq; subst hq; decide) 0 (.slice A20 b1.length c20)) (blk_set HN_20.out 0 (.slice A20 b1.length c20)) (by intro q hq; simp [Kd.iso, Kd.pair, Kd.int, Kd.string, Kd.scalar] at hq; subst hq; decide) 1 (.slice A21 u1.length c21))
      have OU_21 := Aside0.mk (Kd.R_set (Kd.R_set OU_20.out HN_20.out (by intro q hq; simp [k73, Kd.iso, Kd.pair, Kd.int, Kd.string, Kd.scalar] at hq; subst hq; decide) 0 (.slice A20 b1.length c20)) (blk_set HN_20.out 0 (.slice A20 b1.length c20)) (by intro q hq; simp [k73, Kd.iso, Kd.pair, Kd.int, Kd.string, Kd.scalar] at hq; subst hq; decide) 1 (.slice A21 u1.length c21))
      have B_21 := Aside0.mk ((B_20.out.setCell (p := ⟨gn, 0, none⟩) (by have h1 := B_10.out.size; have h2 := HLE2.out; show w.heap.size ≤ gn; omega) (.slice A20 b1.length c20)).setCell (p := ⟨gn, 1, none⟩) (by have h1 := B_10.out.size; have h2 := HLE2.out; show w.heap.size ≤ gn; omega) (.slice A21 u1.length c21))
      go_roundw
      case measure => simp [intOf]
      case rel => exact ⟨1, A20, c20, A21, c21, by decide, by go_num, Or.inr ⟨rfl, OV_21, OU_21, HN_21⟩, HI_21, HZ_21, HL_21, HF_21, HDO_21, B_21⟩
    · have n0 := blk_cell HN_r.out 0
      have n1 := blk_cell HN_r.out 1
      simp only [List.getElem?_toArray, List.getElem?_cons_zero, List.getElem?_cons_succ] at n0 n1
      have z0 := blk_cell HZ_r.out 0
      have z1 := blk_cell HZ_r.out 1
      have fz0 := blk_frozen HZ_r.out 0
      have fz1 := blk_frozen HZ_r.out 1
      simp only [List.getElem?_toArray, List.getElem?_cons_zero, List.getElem?_cons_succ] at z0 z1
      go_wp2
      have HZ_e := Aside0.mk (blk_set (blk_set HZ_r.out 0 (.slice Ak b1.length ck)) 1 (.slice Uk u1.length du))
      have x0 := blk_cell HZ_e.out 0
      have x1 := blk_cell HZ_e.out 1
      have OV_e := Aside0.mk (Kd.R_set (Kd.R_set OV_r.out HZ_r.out (by intro q hq; simp [Kd.iso, Kd.pair, Kd.int, Kd.string, Kd.scalar] at hq; subst hq; decide) 0 (.slice Ak b1.length ck)) (blk_set HZ_r.out 0 (.slice Ak b1.length ck)) (by intro q hq; simp [Kd.iso, Kd.pair, Kd.int, Kd.string, Kd.scalar] at hq; subst hq; decide) 1 (.slice Uk u1.length du))
      have OU_e := Aside0.mk (Kd.R_set (Kd.R_set OU_r.out HZ_r.out (by intro q hq; simp [k73, Kd.iso, Kd.pair, Kd.int, Kd.string, Kd.scalar] at hq; subst hq; decide) 0 (.slice Ak b1.length ck)) (blk_set HZ_r.out 0 (.slice Ak b1.length ck)) (by intro q hq; simp [k73, Kd.iso, Kd.pair, Kd.int, Kd.string, Kd.scalar] at hq; subst hq; decide) 1 (.slice Uk u1.length du))
      refine bodyPost_ret (v := .tuple #[.agg #[.slice Ak b1.length ck, .slice Uk u1.length du], .bool false, .int .i64 0]) ?_ rfl ⟨_, _, rfl, OV_e.out, OU_e.out, (B_r.out.setCell (p := ⟨w.heap.size + 1 + 1, 0, none⟩) (by show w.heap.size ≤ w.heap.size + 1 + 1; omega) _).setCell (p := ⟨w.heap.size + 1 + 1, 1, none⟩) (by show w.heap.size ≤ w.heap.size + 1 + 1; omega) _⟩
      simp [results, Try.results15, go_sem, x0, x1]
end Go.Proofs.Ytkgcaheddhfpgaa.P
