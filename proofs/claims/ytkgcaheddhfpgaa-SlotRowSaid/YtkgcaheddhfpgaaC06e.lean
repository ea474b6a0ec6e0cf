/-
  Texts that the claims of this chapter share, joined.
-/
import Derived.OwnWalk
import Derived.StillTactics
import Derived.LoopTactic
import Derived.Test.YtkgcaheddhfpgaaC06c
import Derived.Test.YtkgcaheddhfpgaaC06b
import Derived.Test.YtkgcaheddhfpgaaC06d
import Derived.Test.YtkgcaheddhfpgaaC06a
import Derived.Shelf.RegionOpen
import Derived.RangeFuncWrites
import Derived.RangeFuncNested
import Derived.RangeFuncBound
import Derived.RangeFuncCalls
import Derived.RangeFuncLeaves
import Derived.RangeFuncBox
import Derived.Shelf.Abstract
import Derived.WalkKit
import Derived.OwnWalkIn
import Derived.TacticsInMore
import Derived.LoopNIn
import Derived.LoopIn
import Derived.Outline
set_option linter.unusedVariables false
set_option linter.unusedSimpArgs false
/-
  twin.Stop, by hand: the deeds.
-/
namespace Go.Proofs.Ytkgcaheddhfpgaa.P
open Go.RowKit Go.Proofs.CodecPlain Go.Proofs.YtkgcaheddhfpgaaW.PrintWords Go.Proofs.YtkgcaheddhfpgaaW.PrintLast

attribute [local go_sem] zero_twin
set_option maxHeartbeats 16000000 in
set_option maxRecDepth 100000 in
theorem twin_Stop_D2 (k : Nat) (A0 : Option Addr) (c0 : Nat) (l0 : List ByteArray) (A1 : Option Addr) (c1 : Nat) (l1 : List S73) (a : Int) (s : ByteArray) (deeds : Int) (n0 : Int) (t0 : ByteArray) (k0 : Bool) (n1 : Int) (t1 : ByteArray) (k1 : Bool) (er : Int) (q xn : Int) (xt : ByteArray) (xk : Bool) (hq : newV n0 k0 n1 k1 = q) (hqx : q = 0 ∧ xn = n0 ∧ xt = t0 ∧ xk = k0 ∨ q = 1 ∧ xn = n1 ∧ xt = t1 ∧ xk = k1) (w : World) (hr0 : Kd.C Kd.string w A0 l0.length l0) (hc0 : l0.length ≤ c0) (hr1 : Kd.C k73 w A1 l1.length l1) (hc1 : l1.length ≤ c1) (hpair : twin_pair.f k l0 l1 a = some (n0, t0, k0, n1, t1, k1, er)) (he : er = 0) (hs : s.size ≤ 200) (hx0 : 0 ≤ xn) (hx1 : xn < 1000000000) (f : ByteArray) (hf : f = frameOf (numStr (xn + 1) ++ s)) (ha0 : 0 ≤ a) (ha1 : a ≤ 1000) (b1 : List ByteArray) (u1 : List S73) (hwr : writeV l0 l1 (a + 1 - q) f = (b1, u1, 0)) (hl0 : l0.length ≤ 200) (hl1 : l1.length ≤ 100) (b2 : List ByteArray) (hsy : doneV (fun _ => true) b1 u1 = (b2, [], 0)) (hd : deeds < 0 ∨ deeds = 2 ∨ 2 < deeds) :
    Calls Try.prog 15 #[.agg #[.slice A0 l0.length c0, .slice A1 l1.length c1], .int .i64 a, .string s, .int .i64 deeds] w (StopPost w b2 [] true 0) := by
  subst he
  have HDD := Aside0.mk hd
  clear hd
  have HD_0 : Aside0 ((((w.alloc (.cells #[.slice A0 l0.length c0, .slice A1 l1.length c1] 25)).alloc (.cells #[.int .i64 a] 3)).alloc (.cells #[.slice none 0 0, .slice none 0 0] 25)).heap[w.heap.size]? = some (.cells #[.slice A0 l0.length c0, .slice A1 l1.length c1] 25 (0, 0))) := ⟨blk_alloc (blk_alloc (blk_new w (.cells #[.slice A0 l0.length c0, .slice A1 l1.length c1] 25)) (.cells #[.int .i64 a] 3)) (.cells #[.slice none 0 0, .slice none 0 0] 25)⟩
  have hi_ := blk_alloc (blk_new (w.alloc (.cells #[.slice A0 l0.length c0, .slice A1 l1.length c1] 25)) (.cells #[.int .i64 a] 3)) (.cells #[.slice none 0 0, .slice none 0 0] 25)
  rw [World.size_alloc] at hi_
  have HI_0 := Aside0.mk hi_
  have hz_ := blk_new ((w.alloc (.cells #[.slice A0 l0.length c0, .slice A1 l1.length c1] 25)).alloc (.cells #[.int .i64 a] 3)) (.cells #[.slice none 0 0, .slice none 0 0] 25)
  rw [World.size_alloc, World.size_alloc] at hz_
  have HZ_0 := Aside0.mk hz_
  have B_0 := Aside0.mk ((((Below.refl w.heap.size w).alloc (Nat.le_refl _) (.cells #[.slice A0 l0.length c0, .slice A1 l1.length c1] 25)).alloc (by simp) (.cells #[.int .i64 a] 3)).alloc (by simp; omega) (.cells #[.slice none 0 0, .slice none 0 0] 25))
  clear hi_ hz_
  have HR0 := Aside0.mk hr0
  have HR1 := Aside0.mk hr1
  have HP := Aside0.mk (fun W (q0 : Kd.C Kd.string W A0 l0.length l0) (q1 : Kd.C k73 W A1 l1.length l1) => twin_pair.calls k A0 c0 l0 A1 c1 l1 a n0 t0 k0 n1 t1 k1 0 W q0 hc0 q1 hc1 hpair)
  have HN := Aside0.mk (fun W => (twin_newer_calls n0 t0 k0 n1 t1 k1 W).mono (fun e w' (h : _ ∧ _) => (⟨by rw [h.1, hq], h.2⟩ : e = .returned (.int .i64 q) ∧ Below W.heap.size W w')))
  have HQX := Aside0.mk hqx
  have hq0' : 0 ≤ q := by rcases hqx with h | h <;> omega
  have hq1' : q ≤ 1 := by rcases hqx with h | h <;> omega
  have hq0 : 0 ≤ q := by rcases hqx with h | h <;> omega
  have hq2 : q < 2 := by rcases hqx with h | h <;> omega
  clear hqx
  have HDeed := Aside0.mk (fun (W : World) (B2 B3 : Nat) (hb : Below w.heap.size w W) hA hL hF => twin_deed_calls A0 c0 l0 A1 c1 l1 a n0 t0 k0 n1 t1 k1 q f b1 u1 0 (w.heap.size + 1) B2 B3 W (Kd.C_below hr0 hb) hc0 (Kd.C_below hr1 hb) hc1 ha0 ha1 hq0' hq1' hq hwr hA hL hF)
  have HDeed2 := Aside0.mk (fun (W : World) (Av Au : Option Addr) (cv cu : Nat) (B2 B3 : Nat) (q0 : Kd.C Kd.string W Av l0.length l0) (p0 : l0.length ≤ cv) (q1 : Kd.C k73 W Au l1.length l1) (p1 : l1.length ≤ cu) hA hL hF => twin_deed_calls Av cv l0 Au cu l1 a n0 t0 k0 n1 t1 k1 q f b1 u1 0 (w.heap.size + 1) B2 B3 W q0 p0 q1 p1 ha0 ha1 hq0' hq1' hq hwr hA hL hF)
  have HSync := Aside0.mk (fun (W : World) (Av Au : Option Addr) (cv cu : Nat) (q0 : Kd.C Kd.string W Av b1.length b1) (p0 : b1.length ≤ cv) (q1 : Kd.C k73 W Au u1.length u1) (p1 : u1.length ≤ cu) => disk_Sync.calls Av cv b1 Au cu u1 b2 [] 0 W q0 p0 q1 p1 (congrArg some hsy))
  have HClone0 := Aside0.mk (fun (W : World) (hb : Below w.heap.size w W) => slices_Clone_string_string.calls A0 c0 l0 l0 W (Kd.C_below hr0 hb) hc0 (by unfold slices_Clone_string_string.f; rw [if_pos (by omega)]))
  have HClone1 := Aside0.mk (fun (W : World) (hb : Below w.heap.size w W) => slices_Clone_WN.calls A1 c1 l1 l1 W (Kd.C_below hr1 hb) hc1 (by unfold slices_Clone_WN.f; rw [if_pos (by omega)]))
  obtain ⟨ns, hns⟩ : ∃ ns, ns = numStr (xn + 1) := ⟨_, rfl⟩
  have hnz := numStr_size (xn + 1)
  rw [← hns] at hnz
  have HNum := Aside0.mk (fun W => codec_Number.calls (xn + 1) ns 0 W (by unfold codec_Number.f; rw [if_pos (by omega), hns]))
  have HPut := Aside0.mk (fun W => crc_Put.calls (ns ++ s) f 0 W (by rw [put_f, if_pos (by rw [CodecPlain.size_append]; omega), hf, hns]))
  have hcz : ns.size + s.size ≤ 9223372036854775807 := by omega
  have hcz1 := eq_true hcz
  have hcz2 : decide (ns.size + s.size ≤ 9223372036854775807) = true := decide_eq_true hcz
  have hcz3 : (9223372036854775807 < ns.size + s.size) = False := eq_false (Nat.not_lt.2 hcz)
  have hsi : decide ((200 : Int) < (s.size : Int)) = false := decide_eq_false (by omega)
  have hsc : decide (200 < s.size) = false := decide_eq_false (by omega)
  have hxb : decide (1000000000 ≤ xn) = false := decide_eq_false (by omega)
  have hmf : ∀ (fn : Fn) (first cap : Array Value) (w : World), (Instr.makeFunc fn first cap).run Try.prog w = .ok (.func fn first cap) w := fun _ _ _ _ => rfl
  clear hr0 hr1 hpair hq hs hf hns hnz hcz hwr hsy ha0 ha1
  go_enter Try.func15, Try.ntmps15
  go_wp2_with (first | (go_at_call 28; (refine (HP.out _ (Kd.C_below HR0.out B_0.out) (Kd.C_below HR1.out B_0.out)).mono ?_); rintro e w1 ⟨rfl, hb⟩; have HD_1 := Aside0.mk (blk_below HD_0.out hb); have HI_1 := Aside0.mk (blk_below HI_0.out hb); have HZ_1 := Aside0.mk (blk_below HZ_0.out hb); have B_1 := Aside0.mk (B_0.out.trans (hb.mono B_0.out.size)); clear hb) | ((with_reducible refine gate_store (t := 62) (p := 11) rfl ?_); refine store_event (t := 62) (p := 11) (w1 := (w1.alloc (.cells blk0 62)).setCells w1.heap.size 0 (blkT n0 t0 k0 n1 t1 k1).toList) rfl rfl rfl ?hr ?_; (case hr => (unfold execOp; simp only [Act.eval, Sem.run_bind, Sem.run_pure, Result.andThen_ok]; show ((Sem.run Try.prog (Instr.storeAt 62 (.pointer (some ⟨w1.heap.size, 0, none⟩)) (.agg (blkT n0 t0 k0 n1 t1 k1))) (w1.alloc (.cells blk0 62))).andThen _) = _; rw [(store_twin (blk_new w1 (.cells blk0 62)) rfl n0 t0 k0 n1 t1 k1).1]; try rfl)); intro w2 hw_; have HS := Aside0.mk (show Below w1.heap.size w1 w2 by rw [hw_]; exact below_cells ((Below.refl _ _).alloc (Nat.le_refl _) _) (Nat.le_refl _) _); have HL_2 := Aside0.mk (hw_ ▸ (store_twin (blk_new w1 (.cells blk0 62)) rfl n0 t0 k0 n1 t1 k1).2 : w2.heap[w1.heap.size]? = some (.cells (blkT n0 t0 k0 n1 t1 k1) 62 (0, 0))); have HD_2 := Aside0.mk (blk_below HD_1.out HS.out); have HI_2 := Aside0.mk (blk_below HI_1.out HS.out); have HZ_2 := Aside0.mk (blk_below HZ_1.out HS.out); have B_2 := Aside0.mk (B_1.out.trans (HS.out.mono B_1.out.size)); clear hw_ HS; have c0 := blk_cell HL_2.out 0; have c1 := blk_cell HL_2.out 1; have c2 := blk_cell HL_2.out 2; have c3 := blk_cell HL_2.out 3; have c4 := blk_cell HL_2.out 4; have c5 := blk_cell HL_2.out 5; simp only [blkT, List.getElem?_toArray, List.getElem?_cons_zero, List.getElem?_cons_succ] at c0 c1 c2 c3 c4 c5) | (go_at_call 29; (refine (HN.out _).mono ?_); rintro e w3 ⟨rfl, hb⟩; have HD_3 := Aside0.mk (blk_below HD_2.out hb); have HI_3 := Aside0.mk (blk_below HI_2.out hb); have HZ_3 := Aside0.mk (blk_below HZ_2.out hb); have HL_3 := Aside0.mk (blk_below HL_2.out hb); have B_3 := Aside0.mk (B_2.out.trans (hb.mono B_2.out.size)); clear hb; obtain ⟨d0, d1, d2⟩ := pick3 HQX.out HL_3.out; have HD_3a := Aside0.mk (blk_alloc HD_3.out (.cells #[.int .i64 xn, .string xt, .bool xk] 61)); have HI_3a := Aside0.mk (blk_alloc HI_3.out (.cells #[.int .i64 xn, .string xt, .bool xk] 61)); have HZ_3a := Aside0.mk (blk_alloc HZ_3.out (.cells #[.int .i64 xn, .string xt, .bool xk] 61)); have HL_3a := Aside0.mk (blk_alloc HL_3.out (.cells #[.int .i64 xn, .string xt, .bool xk] 61)); have B_3a := Aside0.mk (B_3.out.alloc B_3.out.size (.cells #[.int .i64 xn, .string xt, .bool xk] 61)); have HX_3a := Aside0.mk (show (w3.alloc (.cells #[.int .i64 xn, .string xt, .bool xk] 61)).heap[w3.heap.size]? = _ from blk_new (w3) (.cells #[.int .i64 xn, .string xt, .bool xk] 61)); clear c0 c1 c2 c3 c4 c5) | (go_at_call 30; (refine (HNum.out _).mono ?_); rintro e w4 ⟨rfl, hb⟩; have HD_4 := Aside0.mk (blk_below HD_3a.out hb); have HI_4 := Aside0.mk (blk_below HI_3a.out hb); have HZ_4 := Aside0.mk (blk_below HZ_3a.out hb); have HL_4 := Aside0.mk (blk_below HL_3a.out hb); have HX_4 := Aside0.mk (blk_below HX_3a.out hb); have B_4 := Aside0.mk (B_3a.out.trans (hb.mono B_3a.out.size)); clear hb) | (go_at_call 31; (refine (HPut.out _).mono ?_); rintro e w5 ⟨rfl, hb⟩; have HD_5 := Aside0.mk (blk_below HD_4.out hb); have HI_5 := Aside0.mk (blk_below HI_4.out hb); have HZ_5 := Aside0.mk (blk_below HZ_4.out hb); have HL_5 := Aside0.mk (blk_below HL_4.out hb); have HX_5 := Aside0.mk (blk_below HX_4.out hb); have B_5 := Aside0.mk (B_4.out.trans (hb.mono B_4.out.size)); have HD_5a := Aside0.mk (blk_alloc HD_5.out (.cells #[.string f] 9)); have HI_5a := Aside0.mk (blk_alloc HI_5.out (.cells #[.string f] 9)); have HZ_5a := Aside0.mk (blk_alloc HZ_5.out (.cells #[.string f] 9)); have HL_5a := Aside0.mk (blk_alloc HL_5.out (.cells #[.string f] 9)); have HX_5a := Aside0.mk (blk_alloc HX_5.out (.cells #[.string f] 9)); have B_5a := Aside0.mk (B_5.out.alloc B_5.out.size (.cells #[.string f] 9)); have HF_5a := Aside0.mk (show (w5.alloc (.cells #[.string f] 9)).heap[w5.heap.size]? = _ from blk_new (w5) (.cells #[.string f] 9)); clear hb))
  have HD_5b := Aside0.mk (blk_alloc HD_5a.out (.cells #[.func (.func 32) #[] #[.pointer (some ⟨w.heap.size + 1, 0, none⟩), .pointer (some ⟨w1.heap.size, 0, none⟩), .pointer (some ⟨w5.heap.size, 0, none⟩)], .func (.func 34) #[] #[]] 68))
  have HI_5b := Aside0.mk (blk_alloc HI_5a.out (.cells #[.func (.func 32) #[] #[.pointer (some ⟨w.heap.size + 1, 0, none⟩), .pointer (some ⟨w1.heap.size, 0, none⟩), .pointer (some ⟨w5.heap.size, 0, none⟩)], .func (.func 34) #[] #[]] 68))
  have HZ_5b := Aside0.mk (blk_alloc HZ_5a.out (.cells #[.func (.func 32) #[] #[.pointer (some ⟨w.heap.size + 1, 0, none⟩), .pointer (some ⟨w1.heap.size, 0, none⟩), .pointer (some ⟨w5.heap.size, 0, none⟩)], .func (.func 34) #[] #[]] 68))
  have HL_5b := Aside0.mk (blk_alloc HL_5a.out (.cells #[.func (.func 32) #[] #[.pointer (some ⟨w.heap.size + 1, 0, none⟩), .pointer (some ⟨w1.heap.size, 0, none⟩), .pointer (some ⟨w5.heap.size, 0, none⟩)], .func (.func 34) #[] #[]] 68))
  have HX_5b := Aside0.mk (blk_alloc HX_5a.out (.cells #[.func (.func 32) #[] #[.pointer (some ⟨w.heap.size + 1, 0, none⟩), .pointer (some ⟨w1.heap.size, 0, none⟩), .pointer (some ⟨w5.heap.size, 0, none⟩)], .func (.func 34) #[] #[]] 68))
  have HF_5b := Aside0.mk (blk_alloc HF_5a.out (.cells #[.func (.func 32) #[] #[.pointer (some ⟨w.heap.size + 1, 0, none⟩), .pointer (some ⟨w1.heap.size, 0, none⟩), .pointer (some ⟨w5.heap.size, 0, none⟩)], .func (.func 34) #[] #[]] 68))
  have B_5b := Aside0.mk (B_5a.out.alloc B_5a.out.size (.cells #[.func (.func 32) #[] #[.pointer (some ⟨w.heap.size + 1, 0, none⟩), .pointer (some ⟨w1.heap.size, 0, none⟩), .pointer (some ⟨w5.heap.size, 0, none⟩)], .func (.func 34) #[] #[]] 68))
  have HDO_5b := Aside0.mk (show ((w5.alloc (.cells #[.string f] 9)).alloc (.cells #[.func (.func 32) #[] #[.pointer (some ⟨w.heap.size + 1, 0, none⟩), .pointer (some ⟨w1.heap.size, 0, none⟩), .pointer (some ⟨w5.heap.size, 0, none⟩)], .func (.func 34) #[] #[]] 68)).heap[w5.heap.size + 1]? = some (.cells (#[.func (.func 32) #[] #[.pointer (some ⟨w.heap.size + 1, 0, none⟩), .pointer (some ⟨w1.heap.size, 0, none⟩), .pointer (some ⟨w5.heap.size, 0, none⟩)], .func (.func 34) #[] #[]]) 68 (0, 0)) by have h_ := blk_new ((w5.alloc (.cells #[.string f] 9))) (.cells #[.func (.func 32) #[] #[.pointer (some ⟨w.heap.size + 1, 0, none⟩), .pointer (some ⟨w1.heap.size, 0, none⟩), .pointer (some ⟨w5.heap.size, 0, none⟩)], .func (.func 34) #[] #[]] 68); simp only [World.size_alloc] at h_ ⊢; exact h_)
  have HD_6 := Aside0.mk (blk_drew HD_5b.out)
  have HI_6 := Aside0.mk (blk_drew HI_5b.out)
  have HZ_6 := Aside0.mk (blk_drew HZ_5b.out)
  have HL_6 := Aside0.mk (blk_drew HL_5b.out)
  have HX_6 := Aside0.mk (blk_drew HX_5b.out)
  have HF_6 := Aside0.mk (blk_drew HF_5b.out)
  have HDO_6 := Aside0.mk (blk_drew HDO_5b.out)
  have B_6 := Aside0.mk (below_drew1 B_5b.out)
  refine start_ (n := 11) (S := fun w' => w'.cell? ⟨w5.heap.size + 1, 0, none⟩ = some (.func (.func 32) #[] #[.pointer (some ⟨w.heap.size + 1, 0, none⟩), .pointer (some ⟨w1.heap.size, 0, none⟩), .pointer (some ⟨w5.heap.size, 0, none⟩)]) ∧ w'.cell? ⟨w.heap.size, 0, none⟩ = some (.slice A0 l0.length c0) ∧ w'.cell? ⟨w.heap.size, 1, none⟩ = some (.slice A1 l1.length c1)) (ds := [9]) #[false, false, false, false, false, false, false, false, false, false, false] (by kernel_rfl) rfl rfl ⟨(blk_cell HDO_6.out 0).trans rfl, (blk_cell HD_6.out 0).trans rfl, (blk_cell HD_6.out 1).trans rfl⟩ (fun hHeld => ?_)
  generalize World.drew ((w5.alloc (.cells #[.string f] 9)).alloc (.cells #[.func (.func 32) #[] #[.pointer (some ⟨w.heap.size + 1, 0, none⟩), .pointer (some ⟨w1.heap.size, 0, none⟩), .pointer (some ⟨w5.heap.size, 0, none⟩)], .func (.func 34) #[] #[]] 68)) = w6 at HD_6 HI_6 HZ_6 HL_6 HX_6 HF_6 HDO_6 B_6 hHeld ⊢
  refine pure_ (i := 0) (N := some 66) (v := ?_) (a' := ?_) #[true, false, false, false, false, false, false, false, false, false, false] rfl rfl (by kernel_rfl) (fun _ _ _ h => h) (Or.inl ⟨by rfl, ?_⟩) ?_ ?_
  rotate_left
  · intro w'
    go_simp
    with_reducible rfl
  rotate_left
  · simp only [Act.put, List.setIfInBounds_toArray, List.set_cons_zero, List.set_cons_succ, i64_w, i32_w]
    rfl
  refine pure_ (i := 1) (N := some 67) (v := ?_) (a' := ?_) #[true, true, false, false, false, false, false, false, false, false, false] rfl rfl (by kernel_rfl) (fun _ _ _ h => h) (Or.inl ⟨by rfl, ?_⟩) ?_ ?_
  rotate_left
  · intro w'
    go_simp
    with_reducible rfl
  rotate_left
  · simp only [Act.put, List.setIfInBounds_toArray, List.set_cons_zero, List.set_cons_succ, i64_w, i32_w]
    rfl
  refine take_ (i := 2) (N := some 68) (v := ?_) (a' := ?_) #[true, true, true, false, false, false, false, false, false, false, false] rfl rfl (by kernel_rfl) (fun _ _ _ h => h) (Or.inl ⟨by rfl, ?_⟩) hHeld ?_ ?_
  rotate_left
  · rintro w' ⟨s0, s1, s2⟩
    go_simp
    with_reducible rfl
  rotate_left
  · simp only [Act.put, List.setIfInBounds_toArray, List.set_cons_zero, List.set_cons_succ, i64_w, i32_w]
    rfl
  refine take_ (i := 3) (N := some 69) (v := ?_) (a' := ?_) #[true, true, true, true, false, false, false, false, false, false, false] rfl rfl (by kernel_rfl) (fun _ _ _ h => h) (Or.inl ⟨by rfl, ?_⟩) hHeld ?_ ?_
  rotate_left
  · rintro w' ⟨s0, s1, s2⟩
    go_simp
    with_reducible rfl
  rotate_left
  · simp only [Act.put, List.setIfInBounds_toArray, List.set_cons_zero, List.set_cons_succ, i64_w, i32_w]
    rfl
  refine join_ (σ := Nat × Option Addr × Nat × Option Addr × Nat) 2 #[true, true, true, true, true, true, true, true, true, false, false] (fun s => [(70, .tuple #[.agg #[.slice s.2.1 b1.length s.2.2.1, .slice s.2.2.2.1 u1.length s.2.2.2.2], .int .i64 0]), (65, .tuple #[.agg #[.slice s.2.1 b1.length s.2.2.1, .slice s.2.2.2.1 u1.length s.2.2.2.2], .int .i64 0]), (71, .agg #[.slice s.2.1 b1.length s.2.2.1, .slice s.2.2.2.1 u1.length s.2.2.2.2]), (72, .int .i64 0), (19, .pointer (some ⟨s.1, 0, none⟩))]) (fun s w' => w'.heap[w.heap.size]? = some (.cells (#[.slice A0 l0.length c0, .slice A1 l1.length c1]) 25 (0, 0)) ∧ w'.heap[w.heap.size + 1]? = some (.cells (#[.int .i64 a]) 3 (0, 0)) ∧ w'.heap[w.heap.size + 1 + 1]? = some (.cells (#[.slice none 0 0, .slice none 0 0]) 25 (0, 0)) ∧ w'.heap[w1.heap.size]? = some (.cells (blkT n0 t0 k0 n1 t1 k1) 62 (0, 0)) ∧ w'.heap[w3.heap.size]? = some (.cells (#[.int .i64 xn, .string xt, .bool xk]) 61 (0, 0)) ∧ w'.heap[w5.heap.size]? = some (.cells (#[.string f]) 9 (0, 0)) ∧ w'.heap[w5.heap.size + 1]? = some (.cells (#[.func (.func 32) #[] #[.pointer (some ⟨w.heap.size + 1, 0, none⟩), .pointer (some ⟨w1.heap.size, 0, none⟩), .pointer (some ⟨w5.heap.size, 0, none⟩)], .func (.func 34) #[] #[]]) 68 (0, 0)) ∧ Below w.heap.size w w' ∧ w'.heap[s.1]? = some (.cells #[.slice none 0 0, .slice none 0 0] 25 (0, 0)) ∧ w6.heap.size ≤ s.1) ?_ ?_
  rotate_left
  · intro hCont
    refine two_ (i := 4) (j := 8) (Ni := some 70) (Nj := some 19) #[true, true, true, true, true, false, false, false, false, false, false] #[true, true, true, true, false, false, false, false, true, false, false] rfl rfl rfl rfl (by kernel_rfl) (by decide) (by decide) (fun K hK => ?_) (fun K hK => ?_)
    · skip
      refine Go.Proofs.Ytkgcaheddhfpgaa.CallV.goesV_ (first := #[]) (cap := #[.pointer (some ⟨w.heap.size + 1, 0, none⟩), .pointer (some ⟨w1.heap.size, 0, none⟩), .pointer (some ⟨w5.heap.size, 0, none⟩)]) Try.func32 (by kernel_rfl) rfl #[.agg #[.slice A0 l0.length c0, .slice A1 l1.length c1], .pointer (some ⟨w.heap.size + 1, 0, none⟩), .pointer (some ⟨w1.heap.size, 0, none⟩), .pointer (some ⟨w5.heap.size, 0, none⟩)] (by rfl) rfl rfl rfl (by first | (simp; done) | (simp; rfl)) ?_
      refine (HDeed.out (w6) w1.heap.size w5.heap.size B_6.out HI_6.out HL_6.out HF_6.out).mono ?_
      rintro e w7 ⟨v0, v1, rfl, hR0, hR1, hb⟩
      refine ⟨_, rfl, ?_⟩
      obtain ⟨A4, c4, rfl⟩ := Kd.R_slice hR0
      obtain ⟨A5, c5, rfl⟩ := Kd.R_slice hR1
      clear hR0 hR1
      have HD_7 := Aside0.mk (blk_below HD_6.out hb)
      have HI_7 := Aside0.mk (blk_below HI_6.out hb)
      have HZ_7 := Aside0.mk (blk_below HZ_6.out hb)
      have HL_7 := Aside0.mk (blk_below HL_6.out hb)
      have HX_7 := Aside0.mk (blk_below HX_6.out hb)
      have HF_7 := Aside0.mk (blk_below HF_6.out hb)
      have HDO_7 := Aside0.mk (blk_below HDO_6.out hb)
      have B_7 := Aside0.mk (B_6.out.trans (hb.mono B_6.out.size))
      have HS7 := Aside0.mk hb.size
      clear hb
      refine hK.out _ _ ⟨(blk_cell HDO_7.out 0).trans rfl, (blk_cell HD_7.out 0).trans rfl, (blk_cell HD_7.out 1).trans rfl⟩ (fun hHeld => ?_)
      clear hK K
      refine norm_ (a' := ?_) ?_ ?_
      rotate_left
      · show Act.put _ (some 70) _ = _
        simp only [Act.put, List.setIfInBounds_toArray, List.set_cons_zero, List.set_cons_succ, i64_w, i32_w]
        rfl
      refine pure_ (i := 5) (N := some 65) (v := ?_) (a' := ?_) #[true, true, true, true, true, true, false, false, false, false, false] rfl rfl (by kernel_rfl) (fun _ _ _ h => h) (Or.inl ⟨by rfl, ?_⟩) ?_ ?_
      rotate_left
      · intro w'
        go_simp
        with_reducible rfl
      rotate_left
      · simp only [Act.put, List.setIfInBounds_toArray, List.set_cons_zero, List.set_cons_succ, i64_w, i32_w]
        rfl
      refine pure_ (i := 6) (N := some 71) (v := ?_) (a' := ?_) #[true, true, true, true, true, true, true, false, false, false, false] rfl rfl (by kernel_rfl) (fun _ _ _ h => h) (Or.inl ⟨by rfl, ?_⟩) ?_ ?_
      rotate_left
      · intro w'
        go_simp
        with_reducible rfl
      rotate_left
      · simp only [Act.put, List.setIfInBounds_toArray, List.set_cons_zero, List.set_cons_succ, i64_w, i32_w]
        rfl
      refine pure_ (i := 7) (N := some 72) (v := ?_) (a' := ?_) #[true, true, true, true, true, true, true, true, false, false, false] rfl rfl (by kernel_rfl) (fun _ _ _ h => h) (Or.inl ⟨by rfl, ?_⟩) ?_ ?_
      rotate_left
      · intro w'
        go_simp
        with_reducible rfl
      rotate_left
      · simp only [Act.put, List.setIfInBounds_toArray, List.set_cons_zero, List.set_cons_succ, i64_w, i32_w]
        rfl
      refine one_ (i := 8) (N := some 19) #[true, true, true, true, true, true, true, true, true, false, false] rfl rfl (by kernel_rfl) (by decide) (fun K hK => ?_)
      refine value_ (w1 := ?_) (v := ?_) (by rfl) rfl ?_ ?_
      rotate_left 2
      · go_simp
        constructor
        · rfl
        · rfl
      have HD_8 := Aside0.mk (blk_alloc HD_7.out (.cells #[.slice none 0 0, .slice none 0 0] 25))
      have HI_8 := Aside0.mk (blk_alloc HI_7.out (.cells #[.slice none 0 0, .slice none 0 0] 25))
      have HZ_8 := Aside0.mk (blk_alloc HZ_7.out (.cells #[.slice none 0 0, .slice none 0 0] 25))
      have HL_8 := Aside0.mk (blk_alloc HL_7.out (.cells #[.slice none 0 0, .slice none 0 0] 25))
      have HX_8 := Aside0.mk (blk_alloc HX_7.out (.cells #[.slice none 0 0, .slice none 0 0] 25))
      have HF_8 := Aside0.mk (blk_alloc HF_7.out (.cells #[.slice none 0 0, .slice none 0 0] 25))
      have HDO_8 := Aside0.mk (blk_alloc HDO_7.out (.cells #[.slice none 0 0, .slice none 0 0] 25))
      have B_8 := Aside0.mk (B_7.out.alloc B_7.out.size (.cells #[.slice none 0 0, .slice none 0 0] 25))
      refine hK.out _ _ ⟨(blk_cell HDO_8.out 0).trans rfl, (blk_cell HD_8.out 0).trans rfl, (blk_cell HD_8.out 1).trans rfl⟩ (fun hHeld => ?_)
      clear hK K
      refine norm_ (a' := ?_) ?_ ?_
      rotate_left
      · show Act.put _ (some 19) _ = _
        simp only [Act.put, List.setIfInBounds_toArray, List.set_cons_zero, List.set_cons_succ, i64_w, i32_w]
        rfl
      exact norm_ (by simp only [putAll, Act.put, List.setIfInBounds_toArray, List.set_cons_zero, List.set_cons_succ]) (hCont (w7.heap.size, A4, c4, A5, c5) _ ⟨HD_8.out, HI_8.out, HZ_8.out, HL_8.out, HX_8.out, HF_8.out, HDO_8.out, B_8.out, blk_new w7 (.cells #[.slice none 0 0, .slice none 0 0] 25), HS7.out⟩)
    · skip
      refine value_ (w1 := ?_) (v := ?_) (by rfl) rfl ?_ ?_
      rotate_left 2
      · go_simp
        constructor
        · rfl
        · rfl
      have HD_7 := Aside0.mk (blk_alloc HD_6.out (.cells #[.slice none 0 0, .slice none 0 0] 25))
      have HI_7 := Aside0.mk (blk_alloc HI_6.out (.cells #[.slice none 0 0, .slice none 0 0] 25))
      have HZ_7 := Aside0.mk (blk_alloc HZ_6.out (.cells #[.slice none 0 0, .slice none 0 0] 25))
      have HL_7 := Aside0.mk (blk_alloc HL_6.out (.cells #[.slice none 0 0, .slice none 0 0] 25))
      have HX_7 := Aside0.mk (blk_alloc HX_6.out (.cells #[.slice none 0 0, .slice none 0 0] 25))
      have HF_7 := Aside0.mk (blk_alloc HF_6.out (.cells #[.slice none 0 0, .slice none 0 0] 25))
      have HDO_7 := Aside0.mk (blk_alloc HDO_6.out (.cells #[.slice none 0 0, .slice none 0 0] 25))
      have B_7 := Aside0.mk (B_6.out.alloc B_6.out.size (.cells #[.slice none 0 0, .slice none 0 0] 25))
      refine hK.out _ _ ⟨(blk_cell HDO_7.out 0).trans rfl, (blk_cell HD_7.out 0).trans rfl, (blk_cell HD_7.out 1).trans rfl⟩ (fun hHeld => ?_)
      clear hK K
      refine norm_ (a' := ?_) ?_ ?_
      rotate_left
      · show Act.put _ (some 19) _ = _
        simp only [Act.put, List.setIfInBounds_toArray, List.set_cons_zero, List.set_cons_succ, i64_w, i32_w]
        rfl
      refine one_ (i := 4) (N := some 70) #[true, true, true, true, true, false, false, false, true, false, false] rfl rfl (by kernel_rfl) (by decide) (fun K hK => ?_)
      refine Go.Proofs.Ytkgcaheddhfpgaa.CallV.goesV_ (first := #[]) (cap := #[.pointer (some ⟨w.heap.size + 1, 0, none⟩), .pointer (some ⟨w1.heap.size, 0, none⟩), .pointer (some ⟨w5.heap.size, 0, none⟩)]) Try.func32 (by kernel_rfl) rfl #[.agg #[.slice A0 l0.length c0, .slice A1 l1.length c1], .pointer (some ⟨w.heap.size + 1, 0, none⟩), .pointer (some ⟨w1.heap.size, 0, none⟩), .pointer (some ⟨w5.heap.size, 0, none⟩)] (by rfl) rfl rfl rfl (by first | (simp; done) | (simp; rfl)) ?_
      refine (HDeed.out (w6.alloc (.cells #[.slice none 0 0, .slice none 0 0] 25)) w1.heap.size w5.heap.size B_7.out HI_7.out HL_7.out HF_7.out).mono ?_
      rintro e w8 ⟨v0, v1, rfl, hR0, hR1, hb⟩
      refine ⟨_, rfl, ?_⟩
      obtain ⟨A4, c4, rfl⟩ := Kd.R_slice hR0
      obtain ⟨A5, c5, rfl⟩ := Kd.R_slice hR1
      clear hR0 hR1
      have HD_8 := Aside0.mk (blk_below HD_7.out hb)
      have HI_8 := Aside0.mk (blk_below HI_7.out hb)
      have HZ_8 := Aside0.mk (blk_below HZ_7.out hb)
      have HL_8 := Aside0.mk (blk_below HL_7.out hb)
      have HX_8 := Aside0.mk (blk_below HX_7.out hb)
      have HF_8 := Aside0.mk (blk_below HF_7.out hb)
      have HDO_8 := Aside0.mk (blk_below HDO_7.out hb)
      have B_8 := Aside0.mk (B_7.out.trans (hb.mono B_7.out.size))
      have HG8 := Aside0.mk (blk_below (blk_new w6 (.cells #[.slice none 0 0, .slice none 0 0] 25)) hb)
      clear hb
      refine hK.out _ _ ⟨(blk_cell HDO_8.out 0).trans rfl, (blk_cell HD_8.out 0).trans rfl, (blk_cell HD_8.out 1).trans rfl⟩ (fun hHeld => ?_)
      clear hK K
      refine norm_ (a' := ?_) ?_ ?_
      rotate_left
      · show Act.put _ (some 70) _ = _
        simp only [Act.put, List.setIfInBounds_toArray, List.set_cons_zero, List.set_cons_succ, i64_w, i32_w]
        rfl
      refine pure_ (i := 5) (N := some 65) (v := ?_) (a' := ?_) #[true, true, true, true, true, true, false, false, true, false, false] rfl rfl (by kernel_rfl) (fun _ _ _ h => h) (Or.inl ⟨by rfl, ?_⟩) ?_ ?_
      rotate_left
      · intro w'
        go_simp
        with_reducible rfl
      rotate_left
      · simp only [Act.put, List.setIfInBounds_toArray, List.set_cons_zero, List.set_cons_succ, i64_w, i32_w]
        rfl
      refine pure_ (i := 6) (N := some 71) (v := ?_) (a' := ?_) #[true, true, true, true, true, true, true, false, true, false, false] rfl rfl (by kernel_rfl) (fun _ _ _ h => h) (Or.inl ⟨by rfl, ?_⟩) ?_ ?_
      rotate_left
      · intro w'
        go_simp
        with_reducible rfl
      rotate_left
      · simp only [Act.put, List.setIfInBounds_toArray, List.set_cons_zero, List.set_cons_succ, i64_w, i32_w]
        rfl
      refine pure_ (i := 7) (N := some 72) (v := ?_) (a' := ?_) #[true, true, true, true, true, true, true, true, true, false, false] rfl rfl (by kernel_rfl) (fun _ _ _ h => h) (Or.inl ⟨by rfl, ?_⟩) ?_ ?_
      rotate_left
      · intro w'
        go_simp
        with_reducible rfl
      rotate_left
      · simp only [Act.put, List.setIfInBounds_toArray, List.set_cons_zero, List.set_cons_succ, i64_w, i32_w]
        rfl
      exact norm_ (by simp only [putAll, Act.put, List.setIfInBounds_toArray, List.set_cons_zero, List.set_cons_succ]) (hCont (w6.heap.size, A4, c4, A5, c5) _ ⟨HD_8.out, HI_8.out, HZ_8.out, HL_8.out, HX_8.out, HF_8.out, HDO_8.out, B_8.out, HG8.out, Nat.le_refl _⟩)
  rintro ⟨g, A4, c4, A5, c5⟩ w8 ⟨hD8, hI8, hZ8, hL8, hX8, hF8, hDO8, hB8, hG8, hLE⟩
  have HD_8 := Aside0.mk hD8
  have HI_8 := Aside0.mk hI8
  have HZ_8 := Aside0.mk hZ8
  have HL_8 := Aside0.mk hL8
  have HX_8 := Aside0.mk hX8
  have HF_8 := Aside0.mk hF8
  have HDO_8 := Aside0.mk hDO8
  have B_8 := Aside0.mk hB8
  have HG_8 := Aside0.mk hG8
  have HLE := Aside0.mk hLE
  clear hB8 hG8 hLE hD8 hI8 hZ8 hL8 hX8 hF8 hDO8
  have hHeld : w8.cell? ⟨w5.heap.size + 1, 0, none⟩ = some (.func (.func 32) #[] #[.pointer (some ⟨w.heap.size + 1, 0, none⟩), .pointer (some ⟨w1.heap.size, 0, none⟩), .pointer (some ⟨w5.heap.size, 0, none⟩)]) ∧ w8.cell? ⟨w.heap.size, 0, none⟩ = some (.slice A0 l0.length c0) ∧ w8.cell? ⟨w.heap.size, 1, none⟩ = some (.slice A1 l1.length c1) := ⟨(blk_cell HDO_8.out 0).trans rfl, (blk_cell HD_8.out 0).trans rfl, (blk_cell HD_8.out 1).trans rfl⟩
  have y0 := blk_cell HG_8.out 0
  have y1 := blk_cell HG_8.out 1
  have fy0 := blk_frozen HG_8.out 0
  have fy1 := blk_frozen HG_8.out 1
  refine norm_ (a' := ?_) ?_ ?_
  rotate_left
  · simp only [putAll, Act.put, List.setIfInBounds_toArray, List.set_cons_zero, List.set_cons_succ]
    rfl
  refine last_ (i := 9) (N := none) #[true, true, true, true, true, true, true, true, true, true, false] rfl rfl (by kernel_rfl) (by decide) (fun K hK => ?_)
  refine skip_ (w1 := ?_) (by rfl) rfl ?_ ?_
  rotate_left
  · go_simp
    rfl
  refine hK.out _ _ ?_
  clear hK K
  refine pure_ (i := 10) (N := some 20) (v := ?_) (a' := ?_) #[true, true, true, true, true, true, true, true, true, true, true] rfl rfl (by kernel_rfl) (fun _ _ _ h => h) (Or.inl ⟨by rfl, ?_⟩) ?_ ?_
  rotate_left
  · intro w'
    go_simp
    with_reducible rfl
  rotate_left
  · simp only [Act.put, List.setIfInBounds_toArray, List.set_cons_zero, List.set_cons_succ, i64_w, i32_w]
    rfl
  refine done_ (by kernel_rfl) ?_
  obtain ⟨w9, hw_⟩ : ∃ x_, x_ = (w8.setCell ⟨g, 0, none⟩ (.slice A4 b1.length c4)).setCell ⟨g, 1, none⟩ (.slice A5 u1.length c5) := ⟨_, rfl⟩
  rw [← hw_]
  have HD_9 := Aside0.mk (show w9.heap[w.heap.size]? = some (.cells (#[.slice A0 l0.length c0, .slice A1 l1.length c1]) 25 (0, 0)) by rw [hw_]; exact blk_far (blk_far HD_8.out (p := ⟨g, 0, none⟩) (by have h1 := blk_lt HD_6.out; have h2 := HLE.out; show w.heap.size ≠ g; omega) _) (p := ⟨g, 1, none⟩) (by have h1 := blk_lt HD_6.out; have h2 := HLE.out; show w.heap.size ≠ g; omega) _)
  have HI_9 := Aside0.mk (show w9.heap[w.heap.size + 1]? = some (.cells (#[.int .i64 a]) 3 (0, 0)) by rw [hw_]; exact blk_far (blk_far HI_8.out (p := ⟨g, 0, none⟩) (by have h1 := blk_lt HI_6.out; have h2 := HLE.out; show w.heap.size + 1 ≠ g; omega) _) (p := ⟨g, 1, none⟩) (by have h1 := blk_lt HI_6.out; have h2 := HLE.out; show w.heap.size + 1 ≠ g; omega) _)
  have HZ_9 := Aside0.mk (show w9.heap[w.heap.size + 1 + 1]? = some (.cells (#[.slice none 0 0, .slice none 0 0]) 25 (0, 0)) by rw [hw_]; exact blk_far (blk_far HZ_8.out (p := ⟨g, 0, none⟩) (by have h1 := blk_lt HZ_6.out; have h2 := HLE.out; show w.heap.size + 1 + 1 ≠ g; omega) _) (p := ⟨g, 1, none⟩) (by have h1 := blk_lt HZ_6.out; have h2 := HLE.out; show w.heap.size + 1 + 1 ≠ g; omega) _)
  have HL_9 := Aside0.mk (show w9.heap[w1.heap.size]? = some (.cells (blkT n0 t0 k0 n1 t1 k1) 62 (0, 0)) by rw [hw_]; exact blk_far (blk_far HL_8.out (p := ⟨g, 0, none⟩) (by have h1 := blk_lt HL_6.out; have h2 := HLE.out; show w1.heap.size ≠ g; omega) _) (p := ⟨g, 1, none⟩) (by have h1 := blk_lt HL_6.out; have h2 := HLE.out; show w1.heap.size ≠ g; omega) _)
  have HX_9 := Aside0.mk (show w9.heap[w3.heap.size]? = some (.cells (#[.int .i64 xn, .string xt, .bool xk]) 61 (0, 0)) by rw [hw_]; exact blk_far (blk_far HX_8.out (p := ⟨g, 0, none⟩) (by have h1 := blk_lt HX_6.out; have h2 := HLE.out; show w3.heap.size ≠ g; omega) _) (p := ⟨g, 1, none⟩) (by have h1 := blk_lt HX_6.out; have h2 := HLE.out; show w3.heap.size ≠ g; omega) _)
  have HF_9 := Aside0.mk (show w9.heap[w5.heap.size]? = some (.cells (#[.string f]) 9 (0, 0)) by rw [hw_]; exact blk_far (blk_far HF_8.out (p := ⟨g, 0, none⟩) (by have h1 := blk_lt HF_6.out; have h2 := HLE.out; show w5.heap.size ≠ g; omega) _) (p := ⟨g, 1, none⟩) (by have h1 := blk_lt HF_6.out; have h2 := HLE.out; show w5.heap.size ≠ g; omega) _)
  have HDO_9 := Aside0.mk (show w9.heap[w5.heap.size + 1]? = some (.cells (#[.func (.func 32) #[] #[.pointer (some ⟨w.heap.size + 1, 0, none⟩), .pointer (some ⟨w1.heap.size, 0, none⟩), .pointer (some ⟨w5.heap.size, 0, none⟩)], .func (.func 34) #[] #[]]) 68 (0, 0)) by rw [hw_]; exact blk_far (blk_far HDO_8.out (p := ⟨g, 0, none⟩) (by have h1 := blk_lt HDO_6.out; have h2 := HLE.out; show w5.heap.size + 1 ≠ g; omega) _) (p := ⟨g, 1, none⟩) (by have h1 := blk_lt HDO_6.out; have h2 := HLE.out; show w5.heap.size + 1 ≠ g; omega) _)
  have HG_9 := Aside0.mk (show w9.heap[g]? = some (.cells (#[.slice A4 b1.length c4, .slice A5 u1.length c5]) 25 (0, 0)) by rw [hw_]; exact blk_set (blk_set HG_8.out 0 (.slice A4 b1.length c4)) 1 (.slice A5 u1.length c5))
  have B_9 := Aside0.mk (show Below w.heap.size w w9 by rw [hw_]; exact (B_8.out.setCell (p := ⟨g, 0, none⟩) (by have h1 := B_6.out.size; have h2 := HLE.out; show w.heap.size ≤ g; omega) _).setCell (p := ⟨g, 1, none⟩) (by have h1 := B_6.out.size; have h2 := HLE.out; show w.heap.size ≤ g; omega) _)
  clear hw_
  clear hHeld
  rcases HDD.out with hd | hd | hd
  case' inl => (have hdb : decide (deeds < 0) = true := decide_eq_true hd; clear hd; go_wp2)
  case' inr.inl => (subst hd; go_wp2)
  case' inr.inr => (have hdb : decide (deeds < 0) = false := decide_eq_false (by omega); have hdc : decide (2 < deeds) = true := decide_eq_true hd; clear hd; go_wp2)
  all_goals
    have HD_10 := Aside0.mk (blk_drew HD_9.out)
    have HI_10 := Aside0.mk (blk_drew HI_9.out)
    have HZ_10 := Aside0.mk (blk_drew HZ_9.out)
    have HL_10 := Aside0.mk (blk_drew HL_9.out)
    have HX_10 := Aside0.mk (blk_drew HX_9.out)
    have HF_10 := Aside0.mk (blk_drew HF_9.out)
    have HDO_10 := Aside0.mk (blk_drew HDO_9.out)
    have HG_10 := Aside0.mk (blk_drew HG_9.out)
    have B_10 := Aside0.mk (below_drew1 B_9.out)
    refine start_ (n := 9) (S := fun w' => w'.cell? ⟨w.heap.size, 0, none⟩ = some (.slice A0 l0.length c0) ∧ w'.cell? ⟨w.heap.size, 1, none⟩ = some (.slice A1 l1.length c1)) (ds := [8]) #[false, false, false, false, false, false, false, false, false] (by kernel_rfl) rfl rfl ⟨(blk_cell HD_10.out 0).trans rfl, (blk_cell HD_10.out 1).trans rfl⟩ (fun hHeld => ?_)
    generalize World.drew w9 = w10 at HD_10 HI_10 HZ_10 HL_10 HX_10 HF_10 HDO_10 HG_10 B_10 hHeld ⊢
    refine pure_ (i := 0) (N := some 87) (v := ?_) (a' := ?_) #[true, false, false, false, false, false, false, false, false] rfl rfl (by kernel_rfl) (fun _ _ _ h => h) (Or.inl ⟨by rfl, ?_⟩) ?_ ?_
    rotate_left
    · intro w'
      go_simp
      with_reducible rfl
    rotate_left
    · simp only [Act.put, List.setIfInBounds_toArray, List.set_cons_zero, List.set_cons_succ, i64_w, i32_w]
      rfl
    refine pure_ (i := 3) (N := some 90) (v := ?_) (a' := ?_) #[true, false, false, true, false, false, false, false, false] rfl rfl (by kernel_rfl) (fun _ _ _ h => h) (Or.inl ⟨by rfl, ?_⟩) ?_ ?_
    rotate_left
    · intro w'
      go_simp
      with_reducible rfl
    rotate_left
    · simp only [Act.put, List.setIfInBounds_toArray, List.set_cons_zero, List.set_cons_succ, i64_w, i32_w]
      rfl
    refine take_ (i := 1) (N := some 88) (v := ?_) (a' := ?_) #[true, true, false, true, false, false, false, false, false] rfl rfl (by kernel_rfl) (fun _ _ _ h => h) (Or.inl ⟨by rfl, ?_⟩) hHeld ?_ ?_
    rotate_left
    · rintro w' ⟨s0, s1⟩
      go_simp
      with_reducible rfl
    rotate_left
    · simp only [Act.put, List.setIfInBounds_toArray, List.set_cons_zero, List.set_cons_succ, i64_w, i32_w]
      rfl
    refine take_ (i := 4) (N := some 91) (v := ?_) (a' := ?_) #[true, true, false, true, true, false, false, false, false] rfl rfl (by kernel_rfl) (fun _ _ _ h => h) (Or.inl ⟨by rfl, ?_⟩) hHeld ?_ ?_
    rotate_left
    · rintro w' ⟨s0, s1⟩
      go_simp
      with_reducible rfl
    rotate_left
    · simp only [Act.put, List.setIfInBounds_toArray, List.set_cons_zero, List.set_cons_succ, i64_w, i32_w]
      rfl
    refine join_ (σ := Nat × Option Addr × Nat × Option Addr × Nat) 1 #[true, true, true, true, true, true, true, true, false] (fun s => [(89, .slice s.2.1 l0.length s.2.2.1), (92, .slice s.2.2.2.1 l1.length s.2.2.2.2), (93, .agg #[.slice s.2.1 l0.length s.2.2.1, .slice s.2.2.2.1 l1.length s.2.2.2.2]), (21, .pointer (some ⟨s.1, 0, none⟩))]) (fun s w' => w'.heap[w.heap.size]? = some (.cells (#[.slice A0 l0.length c0, .slice A1 l1.length c1]) 25 (0, 0)) ∧ w'.heap[w.heap.size + 1]? = some (.cells (#[.int .i64 a]) 3 (0, 0)) ∧ w'.heap[w.heap.size + 1 + 1]? = some (.cells (#[.slice none 0 0, .slice none 0 0]) 25 (0, 0)) ∧ w'.heap[w1.heap.size]? = some (.cells (blkT n0 t0 k0 n1 t1 k1) 62 (0, 0)) ∧ w'.heap[w3.heap.size]? = some (.cells (#[.int .i64 xn, .string xt, .bool xk]) 61 (0, 0)) ∧ w'.heap[w5.heap.size]? = some (.cells (#[.string f]) 9 (0, 0)) ∧ w'.heap[w5.heap.size + 1]? = some (.cells (#[.func (.func 32) #[] #[.pointer (some ⟨w.heap.size + 1, 0, none⟩), .pointer (some ⟨w1.heap.size, 0, none⟩), .pointer (some ⟨w5.heap.size, 0, none⟩)], .func (.func 34) #[] #[]]) 68 (0, 0)) ∧ w'.heap[g]? = some (.cells (#[.slice A4 b1.length c4, .slice A5 u1.length c5]) 25 (0, 0)) ∧ Below w.heap.size w w' ∧ w'.heap[s.1]? = some (.cells #[.slice none 0 0, .slice none 0 0] 25 (0, 0)) ∧ w10.heap.size ≤ s.1 ∧ Kd.R Kd.string 9 w' w.heap.size (fun _ => True) (.slice s.2.1 l0.length s.2.2.1) l0 ∧ Kd.R k73 73 w' w.heap.size (fun _ => True) (.slice s.2.2.2.1 l1.length s.2.2.2.2) l1) ?_ ?_
    rotate_left
    · intro hCont
      refine two_ (i := 2) (j := 7) (Ni := some 89) (Nj := some 21) #[true, true, true, true, true, false, false, false, false] #[true, true, false, true, true, false, false, true, false] rfl rfl rfl rfl (by kernel_rfl) (by decide) (by decide) (fun K hK => ?_) (fun K hK => ?_)
      · skip
        refine goes_ Try.func35 (by kernel_rfl) rfl #[.slice A0 l0.length c0] (by rfl) rfl rfl (by (try simp only [List.map_toArray, List.map_cons, List.map_nil]); first | done | rfl) ?_
        refine (HClone0.out (w10) B_10.out).mono ?_
        rintro e w11 ⟨xa, rfl, hR, hb⟩
        refine ⟨_, rfl, ?_⟩
        obtain ⟨Aa, ca, rfl⟩ := Kd.R_slice hR
        have hR_ := Kd.R_lower hR B_10.out.size
        clear hR
        have HD_11 := Aside0.mk (blk_below HD_10.out hb)
        have HI_11 := Aside0.mk (blk_below HI_10.out hb)
        have HZ_11 := Aside0.mk (blk_below HZ_10.out hb)
        have HL_11 := Aside0.mk (blk_below HL_10.out hb)
        have HX_11 := Aside0.mk (blk_below HX_10.out hb)
        have HF_11 := Aside0.mk (blk_below HF_10.out hb)
        have HDO_11 := Aside0.mk (blk_below HDO_10.out hb)
        have HG_11 := Aside0.mk (blk_below HG_10.out hb)
        have B_11 := Aside0.mk (B_10.out.trans (hb.mono B_10.out.size))
        have OV_11 := Aside0.mk hR_
        clear hR_
        have HS := Aside0.mk hb.size
        clear hb
        refine hK.out _ _ ⟨(blk_cell HD_11.out 0).trans rfl, (blk_cell HD_11.out 1).trans rfl⟩ (fun hHeld => ?_)
        clear hK K
        refine norm_ (a' := ?_) ?_ ?_
        rotate_left
        · show Act.put _ (some 89) _ = _
          simp only [Act.put, List.setIfInBounds_toArray, List.set_cons_zero, List.set_cons_succ, i64_w, i32_w]
          rfl
        refine two_ (i := 5) (j := 7) (Ni := some 92) (Nj := some 21) #[true, true, true, true, true, true, false, false, false] #[true, true, true, true, true, false, false, true, false] rfl rfl rfl rfl (by kernel_rfl) (by decide) (by decide) (fun K hK => ?_) (fun K hK => ?_)
        · skip
          refine goes_ Try.func36 (by kernel_rfl) rfl #[.slice A1 l1.length c1] (by rfl) rfl rfl (by (try simp only [List.map_toArray, List.map_cons, List.map_nil]); first | done | rfl) ?_
          refine (HClone1.out (w11) B_11.out).mono ?_
          rintro e w12 ⟨xb, rfl, hR, hb⟩
          refine ⟨_, rfl, ?_⟩
          obtain ⟨Ab, cb, rfl⟩ := Kd.R_slice hR
          have hR_ := Kd.R_lower hR B_11.out.size
          clear hR
          have HD_12 := Aside0.mk (blk_below HD_11.out hb)
          have HI_12 := Aside0.mk (blk_below HI_11.out hb)
          have HZ_12 := Aside0.mk (blk_below HZ_11.out hb)
          have HL_12 := Aside0.mk (blk_below HL_11.out hb)
          have HX_12 := Aside0.mk (blk_below HX_11.out hb)
          have HF_12 := Aside0.mk (blk_below HF_11.out hb)
          have HDO_12 := Aside0.mk (blk_below HDO_11.out hb)
          have HG_12 := Aside0.mk (blk_below HG_11.out hb)
          have OV_12 := Aside0.mk (Kd.R_below OV_11.out hb)
          have B_12 := Aside0.mk (B_11.out.trans (hb.mono B_11.out.size))
          have OU_12 := Aside0.mk hR_
          clear hR_
          have HS := Aside0.mk (Nat.le_trans HS.out hb.size)
          clear hb
          refine hK.out _ _ ⟨(blk_cell HD_12.out 0).trans rfl, (blk_cell HD_12.out 1).trans rfl⟩ (fun hHeld => ?_)
          clear hK K
          refine norm_ (a' := ?_) ?_ ?_
          rotate_left
          · show Act.put _ (some 92) _ = _
            simp only [Act.put, List.setIfInBounds_toArray, List.set_cons_zero, List.set_cons_succ, i64_w, i32_w]
            rfl
          refine pure_ (i := 6) (N := some 93) (v := ?_) (a' := ?_) #[true, true, true, true, true, true, true, false, false] rfl rfl (by kernel_rfl) (fun _ _ _ h => h) (Or.inl ⟨by rfl, ?_⟩) ?_ ?_
          rotate_left
          · intro w'
            go_simp
            with_reducible rfl
          rotate_left
          · simp only [Act.put, List.setIfInBounds_toArray, List.set_cons_zero, List.set_cons_succ, i64_w, i32_w]
            rfl
          refine one_ (i := 7) (N := some 21) #[true, true, true, true, true, true, true, true, false] rfl rfl (by kernel_rfl) (by decide) (fun K hK => ?_)
          refine value_ (w1 := ?_) (v := ?_) (by rfl) rfl ?_ ?_
          rotate_left 2
          · go_simp
            constructor
            · rfl
            · rfl
          have HS13 := Aside0.mk (show w10.heap.size ≤ (w12).heap.size by exact HS.out)
          have HD_13 := Aside0.mk (blk_alloc HD_12.out (.cells #[.slice none 0 0, .slice none 0 0] 25))
          have HI_13 := Aside0.mk (blk_alloc HI_12.out (.cells #[.slice none 0 0, .slice none 0 0] 25))
          have HZ_13 := Aside0.mk (blk_alloc HZ_12.out (.cells #[.slice none 0 0, .slice none 0 0] 25))
          have HL_13 := Aside0.mk (blk_alloc HL_12.out (.cells #[.slice none 0 0, .slice none 0 0] 25))
          have HX_13 := Aside0.mk (blk_alloc HX_12.out (.cells #[.slice none 0 0, .slice none 0 0] 25))
          have HF_13 := Aside0.mk (blk_alloc HF_12.out (.cells #[.slice none 0 0, .slice none 0 0] 25))
          have HDO_13 := Aside0.mk (blk_alloc HDO_12.out (.cells #[.slice none 0 0, .slice none 0 0] 25))
          have HG_13 := Aside0.mk (blk_alloc HG_12.out (.cells #[.slice none 0 0, .slice none 0 0] 25))
          have OV_13 := Aside0.mk (Kd.R_alloc OV_12.out (.cells #[.slice none 0 0, .slice none 0 0] 25))
          have OU_13 := Aside0.mk (Kd.R_alloc OU_12.out (.cells #[.slice none 0 0, .slice none 0 0] 25))
          have B_13 := Aside0.mk (B_12.out.alloc B_12.out.size (.cells #[.slice none 0 0, .slice none 0 0] 25))
          have HN_13 := Aside0.mk (show (w12.alloc (.cells #[.slice none 0 0, .slice none 0 0] 25)).heap[w12.heap.size]? = _ from blk_new (w12) (.cells #[.slice none 0 0, .slice none 0 0] 25))
          refine hK.out _ _ ⟨(blk_cell HD_13.out 0).trans rfl, (blk_cell HD_13.out 1).trans rfl⟩ (fun hHeld => ?_)
          clear hK K
          refine norm_ (a' := ?_) ?_ ?_
          rotate_left
          · show Act.put _ (some 21) _ = _
            simp only [Act.put, List.setIfInBounds_toArray, List.set_cons_zero, List.set_cons_succ, i64_w, i32_w]
            rfl
          exact norm_ (by simp only [putAll, Act.put, List.setIfInBounds_toArray, List.set_cons_zero, List.set_cons_succ]) (hCont (w12.heap.size, Aa, ca, Ab, cb) _ ⟨HD_13.out, HI_13.out, HZ_13.out, HL_13.out, HX_13.out, HF_13.out, HDO_13.out, HG_13.out, B_13.out, HN_13.out, HS13.out, OV_13.out, OU_13.out⟩)
        · skip
          refine value_ (w1 := ?_) (v := ?_) (by rfl) rfl ?_ ?_
          rotate_left 2
          · go_simp
            constructor
            · rfl
            · rfl
          have HS12 := Aside0.mk (show w10.heap.size ≤ (w11).heap.size by exact HS.out)
          have HD_12 := Aside0.mk (blk_alloc HD_11.out (.cells #[.slice none 0 0, .slice none 0 0] 25))
          have HI_12 := Aside0.mk (blk_alloc HI_11.out (.cells #[.slice none 0 0, .slice none 0 0] 25))
          have HZ_12 := Aside0.mk (blk_alloc HZ_11.out (.cells #[.slice none 0 0, .slice none 0 0] 25))
          have HL_12 := Aside0.mk (blk_alloc HL_11.out (.cells #[.slice none 0 0, .slice none 0 0] 25))
          have HX_12 := Aside0.mk (blk_alloc HX_11.out (.cells #[.slice none 0 0, .slice none 0 0] 25))
          have HF_12 := Aside0.mk (blk_alloc HF_11.out (.cells #[.slice none 0 0, .slice none 0 0] 25))
          have HDO_12 := Aside0.mk (blk_alloc HDO_11.out (.cells #[.slice none 0 0, .slice none 0 0] 25))
          have HG_12 := Aside0.mk (blk_alloc HG_11.out (.cells #[.slice none 0 0, .slice none 0 0] 25))
          have OV_12 := Aside0.mk (Kd.R_alloc OV_11.out (.cells #[.slice none 0 0, .slice none 0 0] 25))
          have B_12 := Aside0.mk (B_11.out.alloc B_11.out.size (.cells #[.slice none 0 0, .slice none 0 0] 25))
          have HN_12 := Aside0.mk (show (w11.alloc (.cells #[.slice none 0 0, .slice none 0 0] 25)).heap[w11.heap.size]? = _ from blk_new (w11) (.cells #[.slice none 0 0, .slice none 0 0] 25))
          refine hK.out _ _ ⟨(blk_cell HD_12.out 0).trans rfl, (blk_cell HD_12.out 1).trans rfl⟩ (fun hHeld => ?_)
          clear hK K
          refine norm_ (a' := ?_) ?_ ?_
          rotate_left
          · show Act.put _ (some 21) _ = _
            simp only [Act.put, List.setIfInBounds_toArray, List.set_cons_zero, List.set_cons_succ, i64_w, i32_w]
            rfl
          refine one_ (i := 5) (N := some 92) #[true, true, true, true, true, true, false, true, false] rfl rfl (by kernel_rfl) (by decide) (fun K hK => ?_)
          refine goes_ Try.func36 (by kernel_rfl) rfl #[.slice A1 l1.length c1] (by rfl) rfl rfl (by (try simp only [List.map_toArray, List.map_cons, List.map_nil]); first | done | rfl) ?_
          refine (HClone1.out ((w11.alloc (.cells #[.slice none 0 0, .slice none 0 0] 25))) B_12.out).mono ?_
          rintro e w13 ⟨xb, rfl, hR, hb⟩
          refine ⟨_, rfl, ?_⟩
          obtain ⟨Ab, cb, rfl⟩ := Kd.R_slice hR
          have hR_ := Kd.R_lower hR B_12.out.size
          clear hR
          have HD_13 := Aside0.mk (blk_below HD_12.out hb)
          have HI_13 := Aside0.mk (blk_below HI_12.out hb)
          have HZ_13 := Aside0.mk (blk_below HZ_12.out hb)
          have HL_13 := Aside0.mk (blk_below HL_12.out hb)
          have HX_13 := Aside0.mk (blk_below HX_12.out hb)
          have HF_13 := Aside0.mk (blk_below HF_12.out hb)
          have HDO_13 := Aside0.mk (blk_below HDO_12.out hb)
          have HG_13 := Aside0.mk (blk_below HG_12.out hb)
          have HN_13 := Aside0.mk (blk_below HN_12.out hb)
          have OV_13 := Aside0.mk (Kd.R_below OV_12.out hb)
          have B_13 := Aside0.mk (B_12.out.trans (hb.mono B_12.out.size))
          have OU_13 := Aside0.mk hR_
          clear hR_
          clear hb
          refine hK.out _ _ ⟨(blk_cell HD_13.out 0).trans rfl, (blk_cell HD_13.out 1).trans rfl⟩ (fun hHeld => ?_)
          clear hK K
          refine norm_ (a' := ?_) ?_ ?_
          rotate_left
          · show Act.put _ (some 92) _ = _
            simp only [Act.put, List.setIfInBounds_toArray, List.set_cons_zero, List.set_cons_succ, i64_w, i32_w]
            rfl
          refine pure_ (i := 6) (N := some 93) (v := ?_) (a' := ?_) #[true, true, true, true, true, true, true, true, false] rfl rfl (by kernel_rfl) (fun _ _ _ h => h) (Or.inl ⟨by rfl, ?_⟩) ?_ ?_
          rotate_left
          · intro w'
            go_simp
            with_reducible rfl
          rotate_left
          · simp only [Act.put, List.setIfInBounds_toArray, List.set_cons_zero, List.set_cons_succ, i64_w, i32_w]
            rfl
          exact norm_ (by simp only [putAll, Act.put, List.setIfInBounds_toArray, List.set_cons_zero, List.set_cons_succ]) (hCont (w11.heap.size, Aa, ca, Ab, cb) _ ⟨HD_13.out, HI_13.out, HZ_13.out, HL_13.out, HX_13.out, HF_13.out, HDO_13.out, HG_13.out, B_13.out, HN_13.out, HS12.out, OV_13.out, OU_13.out⟩)
      · skip
        refine value_ (w1 := ?_) (v := ?_) (by rfl) rfl ?_ ?_
        rotate_left 2
        · go_simp
          constructor
          · rfl
          · rfl
        have HS11 := Aside0.mk (show w10.heap.size ≤ (w10).heap.size by exact Nat.le_refl _)
        have HD_11 := Aside0.mk (blk_alloc HD_10.out (.cells #[.slice none 0 0, .slice none 0 0] 25))
        have HI_11 := Aside0.mk (blk_alloc HI_10.out (.cells #[.slice none 0 0, .slice none 0 0] 25))
        have HZ_11 := Aside0.mk (blk_alloc HZ_10.out (.cells #[.slice none 0 0, .slice none 0 0] 25))
        have HL_11 := Aside0.mk (blk_alloc HL_10.out (.cells #[.slice none 0 0, .slice none 0 0] 25))
        have HX_11 := Aside0.mk (blk_alloc HX_10.out (.cells #[.slice none 0 0, .slice none 0 0] 25))
        have HF_11 := Aside0.mk (blk_alloc HF_10.out (.cells #[.slice none 0 0, .slice none 0 0] 25))
        have HDO_11 := Aside0.mk (blk_alloc HDO_10.out (.cells #[.slice none 0 0, .slice none 0 0] 25))
        have HG_11 := Aside0.mk (blk_alloc HG_10.out (.cells #[.slice none 0 0, .slice none 0 0] 25))
        have B_11 := Aside0.mk (B_10.out.alloc B_10.out.size (.cells #[.slice none 0 0, .slice none 0 0] 25))
        have HN_11 := Aside0.mk (show (w10.alloc (.cells #[.slice none 0 0, .slice none 0 0] 25)).heap[w10.heap.size]? = _ from blk_new (w10) (.cells #[.slice none 0 0, .slice none 0 0] 25))
        refine hK.out _ _ ⟨(blk_cell HD_11.out 0).trans rfl, (blk_cell HD_11.out 1).trans rfl⟩ (fun hHeld => ?_)
        clear hK K
        refine norm_ (a' := ?_) ?_ ?_
        rotate_left
        · show Act.put _ (some 21) _ = _
          simp only [Act.put, List.setIfInBounds_toArray, List.set_cons_zero, List.set_cons_succ, i64_w, i32_w]
          rfl
        refine one_ (i := 2) (N := some 89) #[true, true, true, true, true, false, false, true, false] rfl rfl (by kernel_rfl) (by decide) (fun K hK => ?_)
        refine goes_ Try.func35 (by kernel_rfl) rfl #[.slice A0 l0.length c0] (by rfl) rfl rfl (by (try simp only [List.map_toArray, List.map_cons, List.map_nil]); first | done | rfl) ?_
        refine (HClone0.out ((w10.alloc (.cells #[.slice none 0 0, .slice none 0 0] 25))) B_11.out).mono ?_
        rintro e w12 ⟨xa, rfl, hR, hb⟩
        refine ⟨_, rfl, ?_⟩
        obtain ⟨Aa, ca, rfl⟩ := Kd.R_slice hR
        have hR_ := Kd.R_lower hR B_11.out.size
        clear hR
        have HD_12 := Aside0.mk (blk_below HD_11.out hb)
        have HI_12 := Aside0.mk (blk_below HI_11.out hb)
        have HZ_12 := Aside0.mk (blk_below HZ_11.out hb)
        have HL_12 := Aside0.mk (blk_below HL_11.out hb)
        have HX_12 := Aside0.mk (blk_below HX_11.out hb)
        have HF_12 := Aside0.mk (blk_below HF_11.out hb)
        have HDO_12 := Aside0.mk (blk_below HDO_11.out hb)
        have HG_12 := Aside0.mk (blk_below HG_11.out hb)
        have HN_12 := Aside0.mk (blk_below HN_11.out hb)
        have B_12 := Aside0.mk (B_11.out.trans (hb.mono B_11.out.size))
        have OV_12 := Aside0.mk hR_
        clear hR_
        clear hb
        refine hK.out _ _ ⟨(blk_cell HD_12.out 0).trans rfl, (blk_cell HD_12.out 1).trans rfl⟩ (fun hHeld => ?_)
        clear hK K
        refine norm_ (a' := ?_) ?_ ?_
        rotate_left
        · show Act.put _ (some 89) _ = _
          simp only [Act.put, List.setIfInBounds_toArray, List.set_cons_zero, List.set_cons_succ, i64_w, i32_w]
          rfl
        refine one_ (i := 5) (N := some 92) #[true, true, true, true, true, true, false, true, false] rfl rfl (by kernel_rfl) (by decide) (fun K hK => ?_)
        refine goes_ Try.func36 (by kernel_rfl) rfl #[.slice A1 l1.length c1] (by rfl) rfl rfl (by (try simp only [List.map_toArray, List.map_cons, List.map_nil]); first | done | rfl) ?_
        refine (HClone1.out (w12) B_12.out).mono ?_
        rintro e w13 ⟨xb, rfl, hR, hb⟩
        refine ⟨_, rfl, ?_⟩
        obtain ⟨Ab, cb, rfl⟩ := Kd.R_slice hR
        have hR_ := Kd.R_lower hR B_12.out.size
        clear hR
        have HD_13 := Aside0.mk (blk_below HD_12.out hb)
        have HI_13 := Aside0.mk (blk_below HI_12.out hb)
        have HZ_13 := Aside0.mk (blk_below HZ_12.out hb)
        have HL_13 := Aside0.mk (blk_below HL_12.out hb)
        have HX_13 := Aside0.mk (blk_below HX_12.out hb)
        have HF_13 := Aside0.mk (blk_below HF_12.out hb)
        have HDO_13 := Aside0.mk (blk_below HDO_12.out hb)
        have HG_13 := Aside0.mk (blk_below HG_12.out hb)
        have HN_13 := Aside0.mk (blk_below HN_12.out hb)
        have OV_13 := Aside0.mk (Kd.R_below OV_12.out hb)
        have B_13 := Aside0.mk (B_12.out.trans (hb.mono B_12.out.size))
        have OU_13 := Aside0.mk hR_
        clear hR_
        clear hb
        refine hK.out _ _ ⟨(blk_cell HD_13.out 0).trans rfl, (blk_cell HD_13.out 1).trans rfl⟩ (fun hHeld => ?_)
        clear hK K
        refine norm_ (a' := ?_) ?_ ?_
        rotate_left
        · show Act.put _ (some 92) _ = _
          simp only [Act.put, List.setIfInBounds_toArray, List.set_cons_zero, List.set_cons_succ, i64_w, i32_w]
          rfl
        refine pure_ (i := 6) (N := some 93) (v := ?_) (a' := ?_) #[true, true, true, true, true, true, true, true, false] rfl rfl (by kernel_rfl) (fun _ _ _ h => h) (Or.inl ⟨by rfl, ?_⟩) ?_ ?_
        rotate_left
        · intro w'
          go_simp
          with_reducible rfl
        rotate_left
        · simp only [Act.put, List.setIfInBounds_toArray, List.set_cons_zero, List.set_cons_succ, i64_w, i32_w]
          rfl
        exact norm_ (by simp only [putAll, Act.put, List.setIfInBounds_toArray, List.set_cons_zero, List.set_cons_succ]) (hCont (w10.heap.size, Aa, ca, Ab, cb) _ ⟨HD_13.out, HI_13.out, HZ_13.out, HL_13.out, HX_13.out, HF_13.out, HDO_13.out, HG_13.out, B_13.out, HN_13.out, HS11.out, OV_13.out, OU_13.out⟩)
    rintro ⟨gn, Aa, ca, Ab, cb⟩ w14 ⟨hD14, hI14, hZ14, hL14, hX14, hF14, hDO14, hG14, hB14, hN14, hLE2, hV14, hU14⟩
    have HD_14 := Aside0.mk hD14
    have HI_14 := Aside0.mk hI14
    have HZ_14 := Aside0.mk hZ14
    have HL_14 := Aside0.mk hL14
    have HX_14 := Aside0.mk hX14
    have HF_14 := Aside0.mk hF14
    have HDO_14 := Aside0.mk hDO14
    have HG_14 := Aside0.mk hG14
    have B_14 := Aside0.mk hB14
    have HN_14 := Aside0.mk hN14
    have HLE2 := Aside0.mk hLE2
    have OV_14 := Aside0.mk hV14
    have OU_14 := Aside0.mk hU14
    clear hB14 hN14 hLE2 hV14 hU14 hD14 hI14 hZ14 hL14 hX14 hF14 hDO14 hG14
    have hHeld : w14.cell? ⟨w.heap.size, 0, none⟩ = some (.slice A0 l0.length c0) ∧ w14.cell? ⟨w.heap.size, 1, none⟩ = some (.slice A1 l1.length c1) := ⟨(blk_cell HD_14.out 0).trans rfl, (blk_cell HD_14.out 1).trans rfl⟩
    have y0 := blk_cell HN_14.out 0
    have y1 := blk_cell HN_14.out 1
    have fy0 := blk_frozen HN_14.out 0
    have fy1 := blk_frozen HN_14.out 1
    refine norm_ (a' := ?_) ?_ ?_
    rotate_left
    · simp only [putAll, Act.put, List.setIfInBounds_toArray, List.set_cons_zero, List.set_cons_succ]
      rfl
    refine last_ (i := 8) (N := none) #[true, true, true, true, true, true, true, true, true] rfl rfl (by kernel_rfl) (by decide) (fun K hK => ?_)
    refine skip_ (w1 := ?_) (by rfl) rfl ?_ ?_
    rotate_left
    · go_simp
      rfl
    refine hK.out _ _ ?_
    clear hK K
    refine done_ (by kernel_rfl) ?_
    obtain ⟨w15, hw_⟩ : ∃ x_, x_ = (w14.setCell ⟨gn, 0, none⟩ (.slice Aa l0.length ca)).setCell ⟨gn, 1, none⟩ (.slice Ab l1.length cb) := ⟨_, rfl⟩
    rw [← hw_]
    have HD_15 := Aside0.mk (show w15.heap[w.heap.size]? = some (.cells (#[.slice A0 l0.length c0, .slice A1 l1.length c1]) 25 (0, 0)) by rw [hw_]; exact blk_far (blk_far HD_14.out (p := ⟨gn, 0, none⟩) (by have h1 := blk_lt HD_10.out; have h2 := HLE2.out; show w.heap.size ≠ gn; omega) _) (p := ⟨gn, 1, none⟩) (by have h1 := blk_lt HD_10.out; have h2 := HLE2.out; show w.heap.size ≠ gn; omega) _)
    have HI_15 := Aside0.mk (show w15.heap[w.heap.size + 1]? = some (.cells (#[.int .i64 a]) 3 (0, 0)) by rw [hw_]; exact blk_far (blk_far HI_14.out (p := ⟨gn, 0, none⟩) (by have h1 := blk_lt HI_10.out; have h2 := HLE2.out; show w.heap.size + 1 ≠ gn; omega) _) (p := ⟨gn, 1, none⟩) (by have h1 := blk_lt HI_10.out; have h2 := HLE2.out; show w.heap.size + 1 ≠ gn; omega) _)
    have HZ_15 := Aside0.mk (show w15.heap[w.heap.size + 1 + 1]? = some (.cells (#[.slice none 0 0, .slice none 0 0]) 25 (0, 0)) by rw [hw_]; exact blk_far (blk_far HZ_14.out (p := ⟨gn, 0, none⟩) (by have h1 := blk_lt HZ_10.out; have h2 := HLE2.out; show w.heap.size + 1 + 1 ≠ gn; omega) _) (p := ⟨gn, 1, none⟩) (by have h1 := blk_lt HZ_10.out; have h2 := HLE2.out; show w.heap.size + 1 + 1 ≠ gn; omega) _)
    have HL_15 := Aside0.mk (show w15.heap[w1.heap.size]? = some (.cells (blkT n0 t0 k0 n1 t1 k1) 62 (0, 0)) by rw [hw_]; exact blk_far (blk_far HL_14.out (p := ⟨gn, 0, none⟩) (by have h1 := blk_lt HL_10.out; have h2 := HLE2.out; show w1.heap.size ≠ gn; omega) _) (p := ⟨gn, 1, none⟩) (by have h1 := blk_lt HL_10.out; have h2 := HLE2.out; show w1.heap.size ≠ gn; omega) _)
    have HX_15 := Aside0.mk (show w15.heap[w3.heap.size]? = some (.cells (#[.int .i64 xn, .string xt, .bool xk]) 61 (0, 0)) by rw [hw_]; exact blk_far (blk_far HX_14.out (p := ⟨gn, 0, none⟩) (by have h1 := blk_lt HX_10.out; have h2 := HLE2.out; show w3.heap.size ≠ gn; omega) _) (p := ⟨gn, 1, none⟩) (by have h1 := blk_lt HX_10.out; have h2 := HLE2.out; show w3.heap.size ≠ gn; omega) _)
    have HF_15 := Aside0.mk (show w15.heap[w5.heap.size]? = some (.cells (#[.string f]) 9 (0, 0)) by rw [hw_]; exact blk_far (blk_far HF_14.out (p := ⟨gn, 0, none⟩) (by have h1 := blk_lt HF_10.out; have h2 := HLE2.out; show w5.heap.size ≠ gn; omega) _) (p := ⟨gn, 1, none⟩) (by have h1 := blk_lt HF_10.out; have h2 := HLE2.out; show w5.heap.size ≠ gn; omega) _)
    have HDO_15 := Aside0.mk (show w15.heap[w5.heap.size + 1]? = some (.cells (#[.func (.func 32) #[] #[.pointer (some ⟨w.heap.size + 1, 0, none⟩), .pointer (some ⟨w1.heap.size, 0, none⟩), .pointer (some ⟨w5.heap.size, 0, none⟩)], .func (.func 34) #[] #[]]) 68 (0, 0)) by rw [hw_]; exact blk_far (blk_far HDO_14.out (p := ⟨gn, 0, none⟩) (by have h1 := blk_lt HDO_10.out; have h2 := HLE2.out; show w5.heap.size + 1 ≠ gn; omega) _) (p := ⟨gn, 1, none⟩) (by have h1 := blk_lt HDO_10.out; have h2 := HLE2.out; show w5.heap.size + 1 ≠ gn; omega) _)
    have HG_15 := Aside0.mk (show w15.heap[g]? = some (.cells (#[.slice A4 b1.length c4, .slice A5 u1.length c5]) 25 (0, 0)) by rw [hw_]; exact blk_far (blk_far HG_14.out (p := ⟨gn, 0, none⟩) (by have h1 := blk_lt HG_10.out; have h2 := HLE2.out; show g ≠ gn; omega) _) (p := ⟨gn, 1, none⟩) (by have h1 := blk_lt HG_10.out; have h2 := HLE2.out; show g ≠ gn; omega) _)
    have HN_15 := Aside0.mk (show w15.heap[gn]? = some (.cells (#[.slice Aa l0.length ca, .slice Ab l1.length cb]) 25 (0, 0)) by rw [hw_]; exact blk_set (blk_set HN_14.out 0 (.slice Aa l0.length ca)) 1 (.slice Ab l1.length cb))
    have OV_15 := Aside0.mk (show Kd.R Kd.string 9 w15 w.heap.size (fun _ => True) (.slice Aa l0.length ca) (l0) by rw [hw_]; exact Kd.R_set (Kd.R_set OV_14.out HN_14.out (by intro q hq; simp [Kd.iso, Kd.pair, Kd.int, Kd.string, Kd.scalar] at hq; subst hq; decide) 0 (.slice Aa l0.length ca)) (blk_set HN_14.out 0 (.slice Aa l0.length ca)) (by intro q hq; simp [Kd.iso, Kd.pair, Kd.int, Kd.string, Kd.scalar] at hq; subst hq; decide) 1 (.slice Ab l1.length cb))
    have OU_15 := Aside0.mk (show Kd.R k73 73 w15 w.heap.size (fun _ => True) (.slice Ab l1.length cb) (l1) by rw [hw_]; exact Kd.R_set (Kd.R_set OU_14.out HN_14.out (by intro q hq; simp [k73, Kd.iso, Kd.pair, Kd.int, Kd.string, Kd.scalar] at hq; subst hq; decide) 0 (.slice Aa l0.length ca)) (blk_set HN_14.out 0 (.slice Aa l0.length ca)) (by intro q hq; simp [k73, Kd.iso, Kd.pair, Kd.int, Kd.string, Kd.scalar] at hq; subst hq; decide) 1 (.slice Ab l1.length cb))
    have B_15 := Aside0.mk (show Below w.heap.size w w15 by rw [hw_]; exact (B_14.out.setCell (p := ⟨gn, 0, none⟩) (by have h1 := B_10.out.size; have h2 := HLE2.out; show w.heap.size ≤ gn; omega) _).setCell (p := ⟨gn, 1, none⟩) (by have h1 := B_10.out.size; have h2 := HLE2.out; show w.heap.size ≤ gn; omega) _)
    clear hw_
    clear hHeld
    have HGN := Aside0.mk (show w5.heap.size + 1 + 1 ≤ gn by have h1 := blk_lt HDO_10.out; have h2 := HLE2.out; omega)
    obtain ⟨i68, hi68⟩ : ∃ i, Try.prog.info? 68 = some i := Option.isSome_iff_exists.1 (by kernel_rfl)
    have hcut := cut_to (P := Try.prog) 69 68 .i64 Try.underlying69 hi68 (some ⟨w5.heap.size + 1, 0, none⟩) 2 2 2 (by decide) (by decide) (by decide)
    have hu_ := Try.underlying69
    clear hi68
    go_wp2
    clear hcut
    go_loopw [98] (fun i wr => ∃ (k : Nat) (Ak : Option Addr) (ck : Nat) (Uk : Option Addr) (du : Nat), k ≤ 2 ∧ i = .int .i64 k ∧ ((k = 0 ∧ Aside0 (Kd.R Kd.string 9 wr w.heap.size (fun _ => True) (.slice Ak l0.length ck) l0) ∧ Aside0 (Kd.R k73 73 wr w.heap.size (fun _ => True) (.slice Uk l1.length du) l1) ∧ Aside0 (wr.heap[gn]? = some (.cells #[.slice Ak l0.length ck, .slice Uk l1.length du] 25 (0, 0)))) ∨ (k = 1 ∧ Aside0 (Kd.R Kd.string 9 wr w.heap.size (fun _ => True) (.slice Ak b1.length ck) b1) ∧ Aside0 (Kd.R k73 73 wr w.heap.size (fun _ => True) (.slice Uk u1.length du) u1) ∧ Aside0 (wr.heap[gn]? = some (.cells #[.slice Ak b1.length ck, .slice Uk u1.length du] 25 (0, 0)))) ∨ (k = 2 ∧ Aside0 (Kd.R Kd.string 9 wr w.heap.size (fun _ => True) (.slice Ak b2.length ck) b2) ∧ Aside0 (Kd.R k73 73 wr w.heap.size (fun _ => True) (.slice Uk 0 du) ([] : List S73)) ∧ Aside0 (wr.heap[gn]? = some (.cells #[.slice Ak b2.length ck, .slice Uk 0 du] 25 (0, 0))))) ∧ Aside0 (wr.heap[w.heap.size + 1]? = some (.cells (#[.int .i64 a]) 3 (0, 0))) ∧ Aside0 (wr.heap[w.heap.size + 1 + 1]? = some (.cells (#[.slice none 0 0, .slice none 0 0]) 25 (0, 0))) ∧ Aside0 (wr.heap[w1.heap.size]? = some (.cells (blkT n0 t0 k0 n1 t1 k1) 62 (0, 0))) ∧ Aside0 (wr.heap[w5.heap.size]? = some (.cells (#[.string f]) 9 (0, 0))) ∧ Aside0 (wr.heap[w5.heap.size + 1]? = some (.cells (#[.func (.func 32) #[] #[.pointer (some ⟨w.heap.size + 1, 0, none⟩), .pointer (some ⟨w1.heap.size, 0, none⟩), .pointer (some ⟨w5.heap.size, 0, none⟩)], .func (.func 34) #[] #[]]) 68 (0, 0))) ∧ Aside0 (Below w.heap.size w wr))
      (fun i _ => 2 - (intOf i).toNat)
    case atStart => exact ⟨0, Aa, ca, Ab, cb, Nat.zero_le _, rfl, Or.inl ⟨rfl, OV_15, OU_15, HN_15⟩, HI_15, HZ_15, HL_15, HF_15, HDO_15, B_15⟩
    case round =>
      clear HN_15 OV_15 OU_15 B_15 HI_15 HZ_15 HL_15 HF_15 HDO_15
      obtain ⟨k, Ak, ck, Uk, du, hk, rfl, hcase, HI_r, HZ_r, HL_r, HF_r, HDO_r, B_r⟩ := hrel
      rcases hcase with ⟨rfl, OV_r, OU_r, HN_r⟩ | ⟨rfl, OV_r, OU_r, HN_r⟩ | ⟨rfl, OV_r, OU_r, HN_r⟩
      · have n0 := blk_cell HN_r.out 0
        have n1 := blk_cell HN_r.out 1
        simp only [List.getElem?_toArray, List.getElem?_cons_zero, List.getElem?_cons_succ] at n0 n1
        have o0 := blk_cell HDO_r.out 0
        simp only [List.getElem?_toArray, List.getElem?_cons_zero, List.getElem?_cons_succ] at o0
        go_wp2_with (first | (go_at_call 32; (refine (HDeed2.out _ Ak Uk ck du w1.heap.size w5.heap.size (Kd.R_reads' OV_r.out).2.2 (Kd.R_reads' OV_r.out).2.1 (Kd.R_reads' OU_r.out).2.2 (Kd.R_reads' OU_r.out).2.1 HI_r.out HL_r.out HF_r.out).mono ?_); rintro e w20 ⟨v0, v1, rfl, hR0, hR1, hb⟩; obtain ⟨A20, c20, rfl⟩ := Kd.R_slice hR0; obtain ⟨A21, c21, rfl⟩ := Kd.R_slice hR1; have hV_ := Kd.R_lower hR0 B_r.out.size; have hU_ := Kd.R_lower hR1 B_r.out.size; clear hR0 hR1; have HI_20 := Aside0.mk (blk_below HI_r.out hb); have HZ_20 := Aside0.mk (blk_below HZ_r.out hb); have HL_20 := Aside0.mk (blk_below HL_r.out hb); have HF_20 := Aside0.mk (blk_below HF_r.out hb); have HDO_20 := Aside0.mk (blk_below HDO_r.out hb); have HN_20 := Aside0.mk (blk_below HN_r.out hb); have OV_20 := Aside0.mk (Kd.R_below OV_r.out hb); have OU_20 := Aside0.mk (Kd.R_below OU_r.out hb); have B_20 := Aside0.mk (B_r.out.trans (hb.mono B_r.out.size)); clear hb; have OV_20 := Aside0.mk hV_; have OU_20 := Aside0.mk hU_; clear hV_ hU_; have m0 := blk_cell HN_20.out 0; have m1 := blk_cell HN_20.out 1; have fm0 := blk_frozen HN_20.out 0; have fm1 := blk_frozen HN_20.out 1; simp only [List.getElem?_toArray, List.getElem?_cons_zero, List.getElem?_cons_succ] at m0 m1))
        have HI_21 := Aside0.mk (blk_far (blk_far HI_20.out (p := ⟨gn, 0, none⟩) (by have h1 := blk_lt HI_10.out; have h2 := HLE2.out; show w.heap.size + 1 ≠ gn; omega) (.slice A20 b1.length c20)) (p := ⟨gn, 1, none⟩) (by have h1 := blk_lt HI_10.out; have h2 := HLE2.out; show w.heap.size + 1 ≠ gn; omega) (.slice A21 u1.length c21))
        have HZ_21 := Aside0.mk (blk_far (blk_far HZ_20.out (p := ⟨gn, 0, none⟩) (by have h1 := blk_lt HZ_10.out; have h2 := HLE2.out; show w.heap.size + 1 + 1 ≠ gn; omega) (.slice A20 b1.length c20)) (p := ⟨gn, 1, none⟩) (by have h1 := blk_lt HZ_10.out; have h2 := HLE2.out; show w.heap.size + 1 + 1 ≠ gn; omega) (.slice A21 u1.length c21))
        have HL_21 := Aside0.mk (blk_far (blk_far HL_20.out (p := ⟨gn, 0, none⟩) (by have h1 := blk_lt HL_10.out; have h2 := HLE2.out; show w1.heap.size ≠ gn; omega) (.slice A20 b1.length c20)) (p := ⟨gn, 1, none⟩) (by have h1 := blk_lt HL_10.out; have h2 := HLE2.out; show w1.heap.size ≠ gn; omega) (.slice A21 u1.length c21))
        have HF_21 := Aside0.mk (blk_far (blk_far HF_20.out (p := ⟨gn, 0, none⟩) (by have h1 := blk_lt HF_10.out; have h2 := HLE2.out; show w5.heap.size ≠ gn; omega) (.slice A20 b1.length c20)) (p := ⟨gn, 1, none⟩) (by have h1 := blk_lt HF_10.out; have h2 := HLE2.out; show w5.heap.size ≠ gn; omega) (.slice A21 u1.length c21))
        have HDO_21 := Aside0.mk (blk_far (blk_far HDO_20.out (p := ⟨gn, 0, none⟩) (by have h1 := blk_lt HDO_10.out; have h2 := HLE2.out; show w5.heap.size + 1 ≠ gn; omega) (.slice A20 b1.length c20)) (p := ⟨gn, 1, none⟩) (by have h1 := blk_lt HDO_10.out; have h2 := HLE2.out; show w5.heap.size + 1 ≠ gn; omega) (.slice A21 u1.length c21))
        have HN_21 := Aside0.mk (blk_set (blk_set HN_20.out 0 (.slice A20 b1.length c20)) 1 (.slice A21 u1.length c21))
        have OV_21 := Aside0.mk (Kd.R_set (Kd.R_set OV_20.out HN_20.out (by intro q hq; simp [Kd.iso, Kd.pair, Kd.int, Kd.string, Kd.scalar] at hq; subst hq; decide) 0 (.slice A20 b1.length c20)) (blk_set HN_20.out 0 (.slice A20 b1.length c20)) (by intro q hq; simp [Kd.iso, Kd.pair, Kd.int, Kd.string, Kd.scalar] at hq; subst hq; decide) 1 (.slice A21 u1.length c21))
        have OU_21 := Aside0.mk (Kd.R_set (Kd.R_set OU_20.out HN_20.out (by intro q hq; simp [k73, Kd.iso, Kd.pair, Kd.int, Kd.string, Kd.scalar] at hq; subst hq; decide) 0 (.slice A20 b1.length c20)) (blk_set HN_20.out 0 (.slice A20 b1.length c20)) (by intro q hq; simp [k73, Kd.iso, Kd.pair, Kd.int, Kd.string, Kd.scalar] at hq; subst hq; decide) 1 (.slice A21 u1.length c21))
        have B_21 := Aside0.mk ((B_20.out.setCell (p := ⟨gn, 0, none⟩) (by have h1 := B_10.out.size; have h2 := HLE2.out; show w.heap.size ≤ gn; omega) (.slice A20 b1.length c20)).setCell (p := ⟨gn, 1, none⟩) (by have h1 := B_10.out.size; have h2 := HLE2.out; show w.heap.size ≤ gn; omega) (.slice A21 u1.length c21))
        go_roundw
        case measure => simp [intOf]
        case rel => exact ⟨1, A20, c20, A21, c21, by decide, by go_num, Or.inr <| Or.inl ⟨rfl, OV_21, OU_21, HN_21⟩, HI_21, HZ_21, HL_21, HF_21, HDO_21, B_21⟩
      · have n0 := blk_cell HN_r.out 0
        have n1 := blk_cell HN_r.out 1
        simp only [List.getElem?_toArray, List.getElem?_cons_zero, List.getElem?_cons_succ] at n0 n1
        have o1 := blk_cell HDO_r.out 1
        simp only [List.getElem?_toArray, List.getElem?_cons_zero, List.getElem?_cons_succ] at o1
        go_wp2_with (first | (go_at_call 34; (refine (HSync.out _ Ak Uk ck du (Kd.R_reads' OV_r.out).2.2 (Kd.R_reads' OV_r.out).2.1 (Kd.R_reads' OU_r.out).2.2 (Kd.R_reads' OU_r.out).2.1).mono ?_); rintro e w20 ⟨v0, v1, rfl, hR0, hR1, hb⟩; obtain ⟨A20, c20, rfl⟩ := Kd.R_slice hR0; obtain ⟨A21, c21, rfl⟩ : ∃ A_ c_, v1 = .slice A_ 0 c_ := (by obtain ⟨A_, c_, h_⟩ := Kd.R_slice hR1; exact ⟨A_, c_, h_⟩); have hV_ := Kd.R_lower hR0 B_r.out.size; have hU_ := Kd.R_lower hR1 B_r.out.size; clear hR0 hR1; have HI_20 := Aside0.mk (blk_below HI_r.out hb); have HZ_20 := Aside0.mk (blk_below HZ_r.out hb); have HL_20 := Aside0.mk (blk_below HL_r.out hb); have HF_20 := Aside0.mk (blk_below HF_r.out hb); have HDO_20 := Aside0.mk (blk_below HDO_r.out hb); have HN_20 := Aside0.mk (blk_below HN_r.out hb); have OV_20 := Aside0.mk (Kd.R_below OV_r.out hb); have OU_20 := Aside0.mk (Kd.R_below OU_r.out hb); have B_20 := Aside0.mk (B_r.out.trans (hb.mono B_r.out.size)); clear hb; have OV_20 := Aside0.mk hV_; have OU_20 := Aside0.mk hU_; clear hV_ hU_; have m0 := blk_cell HN_20.out 0; have m1 := blk_cell HN_20.out 1; have fm0 := blk_frozen HN_20.out 0; have fm1 := blk_frozen HN_20.out 1; simp only [List.getElem?_toArray, List.getElem?_cons_zero, List.getElem?_cons_succ] at m0 m1))
        have HI_21 := Aside0.mk (blk_far (blk_far HI_20.out (p := ⟨gn, 0, none⟩) (by have h1 := blk_lt HI_10.out; have h2 := HLE2.out; show w.heap.size + 1 ≠ gn; omega) (.slice A20 b2.length c20)) (p := ⟨gn, 1, none⟩) (by have h1 := blk_lt HI_10.out; have h2 := HLE2.out; show w.heap.size + 1 ≠ gn; omega) (.slice A21 0 c21))
        have HZ_21 := Aside0.mk (blk_far (blk_far HZ_20.out (p := ⟨gn, 0, none⟩) (by have h1 := blk_lt HZ_10.out; have h2 := HLE2.out; show w.heap.size + 1 + 1 ≠ gn; omega) (.slice A20 b2.length c20)) (p := ⟨gn, 1, none⟩) (by have h1 := blk_lt HZ_10.out; have h2 := HLE2.out; show w.heap.size + 1 + 1 ≠ gn; omega) (.slice A21 0 c21))
        have HL_21 := Aside0.mk (blk_far (blk_far HL_20.out (p := ⟨gn, 0, none⟩) (by have h1 := blk_lt HL_10.out; have h2 := HLE2.out; show w1.heap.size ≠ gn; omega) (.slice A20 b2.length c20)) (p := ⟨gn, 1, none⟩) (by have h1 := blk_lt HL_10.out; have h2 := HLE2.out; show w1.heap.size ≠ gn; omega) (.slice A21 0 c21))
        have HF_21 := Aside0.mk (blk_far (blk_far HF_20.out (p := ⟨gn, 0, none⟩) (by have h1 := blk_lt HF_10.out; have h2 := HLE2.out; show w5.heap.size ≠ gn; omega) (.slice A20 b2.length c20)) (p := ⟨gn, 1, none⟩) (by have h1 := blk_lt HF_10.out; have h2 := HLE2.out; show w5.heap.size ≠ gn; omega) (.slice A21 0 c21))
        have HDO_21 := Aside0.mk (blk_far (blk_far HDO_20.out (p := ⟨gn, 0, none⟩) (by have h1 := blk_lt HDO_10.out; have h2 := HLE2.out; show w5.heap.size + 1 ≠ gn; omega) (.slice A20 b2.length c20)) (p := ⟨gn, 1, none⟩) (by have h1 := blk_lt HDO_10.out; have h2 := HLE2.out; show w5.heap.size + 1 ≠ gn; omega) (.slice A21 0 c21))
        have HN_21 := Aside0.mk (blk_set (blk_set HN_20.out 0 (.slice A20 b2.length c20)) 1 (.slice A21 0 c21))
        have OV_21 := Aside0.mk (Kd.R_set (Kd.R_set OV_20.out HN_20.out (by intro q hq; simp [Kd.iso, Kd.pair, Kd.int, Kd.string, Kd.scalar] at hq; subst hq; decide) 0 (.slice A20 b2.length c20)) (blk_set HN_20.out 0 (.slice A20 b2.length c20)) (by intro q hq; simp [Kd.iso, Kd.pair, Kd.int, Kd.string, Kd.scalar] at hq; subst hq; decide) 1 (.slice A21 0 c21))
        have OU_21 := Aside0.mk (Kd.R_set (Kd.R_set OU_20.out HN_20.out (by intro q hq; simp [k73, Kd.iso, Kd.pair, Kd.int, Kd.string, Kd.scalar] at hq; subst hq; decide) 0 (.slice A20 b2.length c20)) (blk_set HN_20.out 0 (.slice A20 b2.length c20)) (by intro q hq; simp [k73, Kd.iso, Kd.pair, Kd.int, Kd.string, Kd.scalar] at hq; subst hq; decide) 1 (.slice A21 0 c21))
        have B_21 := Aside0.mk ((B_20.out.setCell (p := ⟨gn, 0, none⟩) (by have h1 := B_10.out.size; have h2 := HLE2.out; show w.heap.size ≤ gn; omega) (.slice A20 b2.length c20)).setCell (p := ⟨gn, 1, none⟩) (by have h1 := B_10.out.size; have h2 := HLE2.out; show w.heap.size ≤ gn; omega) (.slice A21 0 c21))
        go_roundw
        case measure => simp [intOf]
        case rel => exact ⟨2, A20, c20, A21, c21, by decide, by go_num, Or.inr <| Or.inr ⟨rfl, OV_21, OU_21, HN_21⟩, HI_21, HZ_21, HL_21, HF_21, HDO_21, B_21⟩
      · have n0 := blk_cell HN_r.out 0
        have n1 := blk_cell HN_r.out 1
        simp only [List.getElem?_toArray, List.getElem?_cons_zero, List.getElem?_cons_succ] at n0 n1
        have z0 := blk_cell HZ_r.out 0
        have z1 := blk_cell HZ_r.out 1
        have fz0 := blk_frozen HZ_r.out 0
        have fz1 := blk_frozen HZ_r.out 1
        simp only [List.getElem?_toArray, List.getElem?_cons_zero, List.getElem?_cons_succ] at z0 z1
        go_wp2
        have HZ_e := Aside0.mk (blk_set (blk_set HZ_r.out 0 (.slice Ak b2.length ck)) 1 (.slice Uk 0 du))
        have x0 := blk_cell HZ_e.out 0
        have x1 := blk_cell HZ_e.out 1
        have OV_e := Aside0.mk (Kd.R_set (Kd.R_set OV_r.out HZ_r.out (by intro q hq; simp [Kd.iso, Kd.pair, Kd.int, Kd.string, Kd.scalar] at hq; subst hq; decide) 0 (.slice Ak b2.length ck)) (blk_set HZ_r.out 0 (.slice Ak b2.length ck)) (by intro q hq; simp [Kd.iso, Kd.pair, Kd.int, Kd.string, Kd.scalar] at hq; subst hq; decide) 1 (.slice Uk 0 du))
        have OU_e := Aside0.mk (Kd.R_set (Kd.R_set OU_r.out HZ_r.out (by intro q hq; simp [k73, Kd.iso, Kd.pair, Kd.int, Kd.string, Kd.scalar] at hq; subst hq; decide) 0 (.slice Ak b2.length ck)) (blk_set HZ_r.out 0 (.slice Ak b2.length ck)) (by intro q hq; simp [k73, Kd.iso, Kd.pair, Kd.int, Kd.string, Kd.scalar] at hq; subst hq; decide) 1 (.slice Uk 0 du))
        refine bodyPost_ret (v := .tuple #[.agg #[.slice Ak b2.length ck, .slice Uk 0 du], .bool true, .int .i64 0]) ?_ rfl ⟨_, _, rfl, OV_e.out, OU_e.out, (B_r.out.setCell (p := ⟨w.heap.size + 1 + 1, 0, none⟩) (by show w.heap.size ≤ w.heap.size + 1 + 1; omega) _).setCell (p := ⟨w.heap.size + 1 + 1, 1, none⟩) (by show w.heap.size ≤ w.heap.size + 1 + 1; omega) _⟩
        simp [results, Try.results15, go_sem, x0, x1]
end Go.Proofs.Ytkgcaheddhfpgaa.P
/-
  twin.Get and twin.Stop: what they tell, without rounds.
-/
namespace Go.Proofs.Ytkgcaheddhfpgaa.P
open Go.RowKit Go.Proofs Go.Proofs.CodecPlain Go.Proofs.YtkgcaheddhfpgaaW.PrintWords Go.Proofs.YtkgcaheddhfpgaaW.PrintLast Go.Proofs.Plain

def twin_Get.f (l0 : List ByteArray) (l1 : List S73) (a : Int) : Option (ByteArray × Int × Int) := some (getT l0 l1 a)
theorem twin_Get.calls (A0_0 : Option Addr) (c0_0 : Nat) (l0_0 : List ByteArray) (A0_1 : Option Addr) (c0_1 : Nat) (l0_1 : List S73) (a1 : Int) (r1 : ByteArray) (r2 : Int) (r3 : Int) (w : World) (hr0_0 : Kd.C Kd.string w A0_0 l0_0.length l0_0) (hc0_0 : l0_0.length ≤ c0_0) (hr0_1 : Kd.C k73 w A0_1 l0_1.length l0_1) (hc0_1 : l0_1.length ≤ c0_1) (h : twin_Get.f l0_0 l0_1 a1 = some (r1, r2, r3)) :
    Calls Try.prog 12 #[.agg #[.slice A0_0 l0_0.length c0_0, .slice A0_1 l0_1.length c0_1], .int .i64 a1] w fun e w' => e = .returned (.tuple #[.string r1, .int .i64 r2, .int .i64 r3]) ∧ Below w.heap.size w w' := by
  obtain ⟨K, e⟩ := pair_ev l0_0 l0_1 a1
  refine twin_GetK.calls K A0_0 c0_0 l0_0 A0_1 c0_1 l0_1 a1 r1 r2 r3 w hr0_0 hc0_0 hr0_1 hc0_1 ?_
  unfold twin_GetK.f
  have e' := e K (Nat.le_refl _)
  simp only at e'
  rw [e', Option.bind_some]
  have hg : getT l0_0 l0_1 a1 = (r1, r2, r3) := Option.some.inj h
  rw [← hg]
  unfold getT
  obtain ⟨⟨n0, t0, k0, n1, t1, k1, er⟩, hp⟩ : ∃ p, p = pairV l0_0 l0_1 a1 := ⟨_, rfl⟩
  rw [← hp]
  simp only
  split
  · split <;> rfl
  · rfl
/-- What a Stop makes, with a write at a block. -/
def stopW (l0 : List ByteArray) (l1 : List S73) (at_ : Int) (f : ByteArray) (deeds : Int) : List ByteArray × List S73 × Bool × Int :=
  if (writeV l0 l1 at_ f).2.2 = 0 then
    (if deeds = 0 then (l0, l1, false, 0) else if deeds = 1 then ((writeV l0 l1 at_ f).1, (writeV l0 l1 at_ f).2.1, false, 0) else ((doneV (fun _ => true) (writeV l0 l1 at_ f).1 (writeV l0 l1 at_ f).2.1).1, [], true, 0))
  else ([], [], false, (writeV l0 l1 at_ f).2.2)
/-- What twin.Stop makes. -/
def stopV (l0 : List ByteArray) (l1 : List S73) (a : Int) (s : ByteArray) (deeds : Int) : List ByteArray × List S73 × Bool × Int :=
  match pairV l0 l1 a with
  | (n0, _, k0, n1, _, k1, er) => if er = 0 then (if 200 < s.size ∨ 1000000000 ≤ (if newB n0 k0 n1 k1 = true then n0 else n1) then ([], [], false, 2) else stopW l0 l1 (a + 1 - newV n0 k0 n1 k1) (frameOf (numStr ((if newB n0 k0 n1 k1 = true then n0 else n1) + 1) ++ s)) deeds) else ([], [], false, er)
def twin_Stop.f (l0 : List ByteArray) (l1 : List S73) (a : Int) (s : ByteArray) (deeds : Int) : Option (List ByteArray × List S73 × Bool × Int) := if -9223372036854775808 ≤ a ∧ a ≤ 9223372036854775807 then some (stopV l0 l1 a s deeds) else none
theorem ver_bd (s : ByteArray) : 0 ≤ (verV s).1 := by
  unfold verV
  split
  · exact (getNum_bd _).1
  · exact Int.le_refl _
/-- What a pair without an error tells of the disk. -/
theorem pair_ok {l0 : List ByteArray} {l1 : List S73} {a : Int} {n0 : Int} {t0 : ByteArray} {k0 : Bool} {n1 : Int} {t1 : ByteArray} {k1 : Bool} (hp : pairV l0 l1 a = (n0, t0, k0, n1, t1, k1, 0)) :
    (readV l0 l1 (wrap64 a)).2 = 0 ∧ (readV l0 l1 (wrap64 (a + 1))).2 = 0 ∧ (n0, t0, k0) = verV (readV l0 l1 (wrap64 a)).1 ∧ (n1, t1, k1) = verV (readV l0 l1 (wrap64 (a + 1))).1 ∧ ¬ (k0 = true ∧ k1 = true ∧ n0 = n1) := by
  unfold pairV at hp
  by_cases h1 : (readV l0 l1 (wrap64 a)).2 = 0
  · rw [if_pos h1] at hp
    by_cases h2 : (readV l0 l1 (wrap64 (a + 1))).2 = 0
    · rw [if_pos h2] at hp
      simp only [Prod.mk.injEq] at hp
      obtain ⟨rfl, rfl, rfl, rfl, rfl, rfl, he⟩ := hp
      refine ⟨h1, h2, rfl, rfl, fun hq => ?_⟩
      rw [if_pos hq] at he
      cases he
    · rw [if_neg h2] at hp
      simp only [Prod.mk.injEq] at hp
      exact absurd hp.2.2.2.2.2.2 h2
  · rw [if_neg h1] at hp
    simp only [Prod.mk.injEq] at hp
    exact absurd hp.2.2.2.2.2.2 h1
theorem readV_ok {l0 : List ByteArray} {l1 : List S73} {a : Int} (h : (readV l0 l1 a).2 = 0) : checkB l0 l1 = true ∧ 0 ≤ a ∧ a < (l0.length : Int) ∧ (readV l0 l1 a).1 = rdOf ByteArray.empty (applyW (fun _ => true) 0 l1 l0) a := by
  unfold readV at h ⊢
  by_cases h1 : checkB l0 l1 = false
  · rw [if_pos h1] at h; cases h
  · rw [if_neg h1] at h ⊢
    by_cases h2 : a < 0 ∨ a ≥ (l0.length : Int)
    · rw [if_pos h2] at h; cases h
    · rw [if_neg h2]
      exact ⟨by simpa using h1, by omega, by omega, rfl⟩
theorem twin_Stop.calls (A0_0 : Option Addr) (c0_0 : Nat) (l0_0 : List ByteArray) (A0_1 : Option Addr) (c0_1 : Nat) (l0_1 : List S73) (a1 : Int) (a2 : ByteArray) (a3 : Int) (r1 : List ByteArray) (r2 : List S73) (r3 : Bool) (r4 : Int) (w : World) (hr0_0 : Kd.C Kd.string w A0_0 l0_0.length l0_0) (hc0_0 : l0_0.length ≤ c0_0) (hr0_1 : Kd.C k73 w A0_1 l0_1.length l0_1) (hc0_1 : l0_1.length ≤ c0_1) (h : twin_Stop.f l0_0 l0_1 a1 a2 a3 = some (r1, r2, r3, r4)) :
    Calls Try.prog 15 #[.agg #[.slice A0_0 l0_0.length c0_0, .slice A0_1 l0_1.length c0_1], .int .i64 a1, .string a2, .int .i64 a3] w fun e w' => ∃ v0_ v1_ : Value, e = .returned (.tuple #[.agg #[v0_, v1_], .bool r3, .int .i64 r4]) ∧ Kd.R Kd.string 9 w' w.heap.size (fun _ => True) v0_ r1 ∧ Kd.R k73 73 w' w.heap.size (fun _ => True) v1_ r2 ∧ Below w.heap.size w w' := by
  unfold twin_Stop.f at h
  by_cases hbd : -9223372036854775808 ≤ a1 ∧ a1 ≤ 9223372036854775807
  rotate_left
  · rw [if_neg hbd] at h; cases h
  rw [if_pos hbd] at h
  have hs := Option.some.inj h
  obtain ⟨K, e⟩ := pair_ev l0_0 l0_1 a1
  have hp := e K (Nat.le_refl _)
  simp only at hp
  obtain ⟨⟨n0, t0, k0, n1, t1, k1, er⟩, hpv⟩ : ∃ p, pairV l0_0 l0_1 a1 = p := ⟨_, rfl⟩
  rw [hpv] at hp
  unfold stopV at hs
  rw [hpv] at hs
  simp only at hs
  obtain ⟨q, xn, xt, xk, hq, hqx, hxn⟩ : ∃ q xn xt xk, newV n0 k0 n1 k1 = q ∧ (q = 0 ∧ xn = n0 ∧ xt = t0 ∧ xk = k0 ∨ q = 1 ∧ xn = n1 ∧ xt = t1 ∧ xk = k1) ∧ xn = (if newB n0 k0 n1 k1 = true then n0 else n1) := by
    unfold newV
    by_cases hb : newB n0 k0 n1 k1 = true
    · exact ⟨0, n0, t0, k0, by rw [if_pos hb], Or.inl ⟨rfl, rfl, rfl, rfl⟩, by rw [if_pos hb]⟩
    · exact ⟨1, n1, t1, k1, by rw [if_neg hb], Or.inr ⟨rfl, rfl, rfl, rfl⟩, by rw [if_neg hb]⟩
  rw [← hxn, hq] at hs
  by_cases he : er = 0
  rotate_left
  · rw [if_neg he] at hs
    simp only [Prod.mk.injEq] at hs
    obtain ⟨rfl, rfl, rfl, rfl⟩ := hs
    exact twin_Stop_A K A0_0 c0_0 l0_0 A0_1 c0_1 l0_1 a1 a2 a3 n0 t0 k0 n1 t1 k1 er q xn xt xk hq hqx w hr0_0 hc0_0 hr0_1 hc0_1 hp he
  rw [if_pos he] at hs
  subst he
  by_cases hlim : 200 < a2.size ∨ 1000000000 ≤ xn
  · rw [if_pos hlim] at hs
    simp only [Prod.mk.injEq] at hs
    obtain ⟨rfl, rfl, rfl, rfl⟩ := hs
    by_cases h200 : 200 < a2.size
    · exact twin_Stop_Bs K A0_0 c0_0 l0_0 A0_1 c0_1 l0_1 a1 a2 a3 n0 t0 k0 n1 t1 k1 0 q xn xt xk hq hqx w hr0_0 hc0_0 hr0_1 hc0_1 hp rfl h200
    · exact twin_Stop_Bx K A0_0 c0_0 l0_0 A0_1 c0_1 l0_1 a1 a2 a3 n0 t0 k0 n1 t1 k1 0 q xn xt xk hq hqx w hr0_0 hc0_0 hr0_1 hc0_1 hp rfl (by omega) (by omega)
  rw [if_neg hlim] at hs
  obtain ⟨g1, g2, g3, g4, _⟩ := pair_ok hpv
  obtain ⟨o1, o2, o3, _⟩ := readV_ok g1
  have hw : wrap64 a1 = a1 := wrap_at hbd.1 hbd.2
  rw [hw] at o2 o3
  obtain ⟨b1, b2, b3, _⟩ := check_len o1
  have hx0 : 0 ≤ xn := by
    have v0 := ver_bd (readV l0_0 l0_1 (wrap64 a1)).1
    have v1 := ver_bd (readV l0_0 l0_1 (wrap64 (a1 + 1))).1
    rw [← g3] at v0
    rw [← g4] at v1
    simp only at v0 v1
    rcases hqx with h | h <;> omega
  obtain ⟨⟨wb, wu, we⟩, hwv⟩ : ∃ x, writeV l0_0 l0_1 (a1 + 1 - q) (frameOf (numStr (xn + 1) ++ a2)) = x := ⟨_, rfl⟩
  unfold stopW at hs
  rw [hwv] at hs
  simp only at hs
  by_cases hwe : we = 0
  rotate_left
  · rw [if_neg hwe] at hs
    simp only [Prod.mk.injEq] at hs
    obtain ⟨rfl, rfl, rfl, rfl⟩ := hs
    exact twin_Stop_C K A0_0 c0_0 l0_0 A0_1 c0_1 l0_1 a1 a2 a3 n0 t0 k0 n1 t1 k1 0 q xn xt xk hq hqx w hr0_0 hc0_0 hr0_1 hc0_1 hp rfl (by omega) hx0 (by omega) _ rfl (by omega) (by omega) wb wu we hwv hwe
  rw [if_pos hwe] at hs
  subst hwe
  have hck : checkB wb wu = true := by
    unfold writeV at hwv
    rw [if_neg (by rw [o1]; decide)] at hwv
    by_cases ha : a1 + 1 - q < 0 ∨ a1 + 1 - q ≥ (l0_0.length : Int)
    · rw [if_pos ha] at hwv; simp only [Prod.mk.injEq] at hwv; omega
    · rw [if_neg ha] at hwv
      by_cases hl : longS (frameOf (numStr (xn + 1) ++ a2)) = true
      · rw [if_pos hl] at hwv; simp only [Prod.mk.injEq] at hwv; omega
      · rw [if_neg hl] at hwv
        by_cases hf : l0_1.length = 100
        · rw [if_pos hf] at hwv; simp only [Prod.mk.injEq] at hwv; omega
        · rw [if_neg hf] at hwv
          simp only [Prod.mk.injEq] at hwv
          obtain ⟨rfl, rfl, _⟩ := hwv
          exact check_write o1 ha (by simpa using hl) hf
  have hsy : doneV (fun _ => true) wb wu = ((doneV (fun _ => true) wb wu).1, [], 0) := by
    unfold doneV
    rw [if_pos hck]
  by_cases h0 : a3 = 0
  · rw [if_pos h0] at hs
    simp only [Prod.mk.injEq] at hs
    obtain ⟨rfl, rfl, rfl, rfl⟩ := hs
    exact twin_Stop_D0 K A0_0 c0_0 l0_0 A0_1 c0_1 l0_1 a1 a2 a3 n0 t0 k0 n1 t1 k1 0 q xn xt xk hq hqx w hr0_0 hc0_0 hr0_1 hc0_1 hp rfl (by omega) hx0 (by omega) _ rfl (by omega) (by omega) wb wu hwv b2 b3 _ hsy h0
  rw [if_neg h0] at hs
  by_cases h1 : a3 = 1
  · rw [if_pos h1] at hs
    simp only [Prod.mk.injEq] at hs
    obtain ⟨rfl, rfl, rfl, rfl⟩ := hs
    exact twin_Stop_D1 K A0_0 c0_0 l0_0 A0_1 c0_1 l0_1 a1 a2 a3 n0 t0 k0 n1 t1 k1 0 q xn xt xk hq hqx w hr0_0 hc0_0 hr0_1 hc0_1 hp rfl (by omega) hx0 (by omega) _ rfl (by omega) (by omega) wb wu hwv b2 b3 _ hsy h1
  rw [if_neg h1] at hs
  simp only [Prod.mk.injEq] at hs
  obtain ⟨rfl, rfl, rfl, rfl⟩ := hs
  exact twin_Stop_D2 K A0_0 c0_0 l0_0 A0_1 c0_1 l0_1 a1 a2 a3 n0 t0 k0 n1 t1 k1 0 q xn xt xk hq hqx w hr0_0 hc0_0 hr0_1 hc0_1 hp rfl (by omega) hx0 (by omega) _ rfl (by omega) (by omega) wb wu hwv b2 b3 _ hsy (by omega)
end Go.Proofs.Ytkgcaheddhfpgaa.P
/-
  slot.load, by hand: what a disk says.
-/
namespace Go.Proofs.Ytkgcaheddhfpgaa.P
open Go.RowKit Go.Shelf Go.Proofs Go.Proofs.CodecPlain Go.Proofs.YtkgcaheddhfpgaaW.PrintWords Go.Proofs.YtkgcaheddhfpgaaW.PrintLast Go.Proofs.YtkgcaheddhfpgaaW.PrintMore

/-- A page, if a block bears one. -/
def pageV (l : List ByteArray) (u : List S73) (b : Int) : Option ByteArray :=
  if (getFrame (readV l u b).1).2.2 = 0 ∧ (getFrame (readV l u b).1).2.1 = ⟨#[]⟩ then some (getFrame (readV l u b).1).1 else none
/-- A table's pages. -/
def pagesV (l : List ByteArray) (u : List S73) (tb : List Int) : List ByteArray := tb.map (fun b => (pageV l u b).getD ⟨#[]⟩)
/-- What slot.load tells: the number, the table, the pages, the error. -/
def loadV (l : List ByteArray) (u : List S73) : Int × List Int × List ByteArray × Int :=
  if checkB l u = true ∧ l.length < 3 then (0, [], [], 40) else
  if ¬ (getT l u 0).2.2 = 0 then (0, [], [], (getT l u 0).2.2) else
  if (blocksV (getT l u 0).1 (l.length : Int)).2 = false then (0, [], [], 30) else
  if (blocksV (getT l u 0).1 (l.length : Int)).1.all (fun b => (pageV l u b).isSome) = true then ((getT l u 0).2.1, (blocksV (getT l u 0).1 (l.length : Int)).1, pagesV l u (blocksV (getT l u 0).1 (l.length : Int)).1, 0) else (0, [], [], 30)
/-- What slot.load leaves in memory. -/
def Loaded (w : World) (A0 : Option Addr) (k0 c0 : Nat) (A1 : Option Addr) (k1 c1 : Nat) (r : Int × List Int × List ByteArray × Int) (p : Value) (W' : World) : Prop :=
  (¬ r.2.2.2 = 0 ∧ p = .pointer none) ∨ (r.2.2.2 = 0 ∧ ∃ (b : Nat) (A2 : Option Addr) (c2 : Nat) (P : Value), p = .pointer (some ⟨b, 0, none⟩) ∧ w.heap.size ≤ b ∧ W'.heap[b]? = some (.cells (shelfC A0 k0 c0 A1 k1 c1 r.1 A2 r.2.1.length c2 P) 81 (0, 0)) ∧
    Kd.C (Kd.int .i64) W' A2 r.2.1.length r.2.1 ∧ r.2.1.length ≤ c2 ∧ Kd.R Kd.string 9 W' w.heap.size (fun q => q ≠ b) P r.2.2.1)
theorem R_reads_i {w : World} {base : Nat} {e : TypeId} {v : Value} {xs : List Int} (h : Kd.R (Kd.int .i64) e w base (fun _ => True) v xs) : ∃ A c, v = .slice A xs.length c ∧ xs.length ≤ c ∧ Kd.C (Kd.int .i64) w A xs.length xs := by
  obtain ⟨A, c, he, h2, h3⟩ := Kd.R_reads h
  exact ⟨A, c, he, h2, h3⟩
theorem blocksV_len (s : ByteArray) (nb : Int) : (blocksV s nb).1.length ≤ 1000 := by
  unfold blocksV
  split
  · simp
  · have := blkStep_len nb (getRow s).1 ([], (getRow s).2.2)
    have := getRow_len s
    simp only [List.length_nil] at *
    omega

set_option maxRecDepth 100000 in
set_option maxHeartbeats 4000000 in
theorem slot_load_calls (A0 : Option Addr) (c0 : Nat) (l : List ByteArray) (A1 : Option Addr) (c1 : Nat) (u : List S73) (w : World) (hr0 : Kd.C Kd.string w A0 l.length l) (hc0 : l.length ≤ c0) (hr1 : Kd.C k73 w A1 u.length u) (hc1 : u.length ≤ c1) :
    Calls Try.prog 40 #[.agg #[.slice A0 l.length c0, .slice A1 u.length c1]] w fun e W' => ∃ p, e = .returned (.tuple #[p, .int .i64 (loadV l u).2.2.2]) ∧ Aside0 (Loaded w A0 l.length c0 A1 u.length c1 (loadV l u) p W') ∧ Below w.heap.size w W' := by
  have HR0 := Aside0.mk hr0
  have HR1 := Aside0.mk hr1
  have HB0 := Aside0.mk ((Below.refl w.heap.size w).alloc (Nat.le_refl _) (.cells #[.slice A0 l.length c0, .slice A1 u.length c1] 25))
  have HK0 := Aside0.mk (blk_new w (.cells #[.slice A0 l.length c0, .slice A1 u.length c1] 25))
  have hle : u.length ≤ c1 := hc1
  clear hr0 hr1
  obtain ⟨ck, hck⟩ : ∃ ck, ck = checkB l u := ⟨_, rfl⟩
  have HCF := Aside0.mk (show disk_Check.f l u = some ck by rw [hck]; rfl)
  have HCK := Aside0.mk hck
  clear hck
  by_cases h40 : ck = true ∧ l.length < 3
  · have hv := Aside0.mk (show loadV l u = (0, [], [], 40) by unfold loadV; rw [if_pos (by rw [← HCK.out]; exact h40)])
    obtain ⟨rfl, h3⟩ := h40
    have e1 : decide ((l.length : Int) < 3) = true := decide_eq_true (by omega)
    have e2 : decide (l.length < 3) = true := decide_eq_true h3
    clear h3
    go_enter Try.func40, Try.ntmps40
    go_wp2_with (first | (go_at_call 53; (with_reducible refine (disk_Check.calls A0 c0 l A1 c1 u true _ ?s1 ?s2 ?s3 ?s4 HCF.out).mono ?_); (case s1 => exact Kd.C_below HR0.out HB0.out); (case s2 => exact hc0); (case s3 => exact Kd.C_below HR1.out HB0.out); (case s4 => exact hle); rintro e w1 ⟨rfl, hb1⟩; have HB1 := Aside0.mk (HB0.out.trans (hb1.mono (by simp))); have HK1 := blk_below HK0.out hb1; have q0 := blk_cell HK1 0; have q1 := blk_cell HK1 1; simp only [List.getElem?_toArray, List.getElem?_cons_zero, List.getElem?_cons_succ] at q0 q1; clear hb1 HK1))
    go_ret2
    rw [hv.out]
    exact ⟨_, rfl, ⟨.inl ⟨by decide, rfl⟩⟩, HB1.out⟩
  · have HV1 := Aside0.mk (show loadV l u = if ¬ (getT l u 0).2.2 = 0 then (0, [], [], (getT l u 0).2.2) else
        if (blocksV (getT l u 0).1 (l.length : Int)).2 = false then (0, [], [], 30) else
        if (blocksV (getT l u 0).1 (l.length : Int)).1.all (fun b => (pageV l u b).isSome) = true then ((getT l u 0).2.1, (blocksV (getT l u 0).1 (l.length : Int)).1, pagesV l u (blocksV (getT l u 0).1 (l.length : Int)).1, 0) else (0, [], [], 30) by
      unfold loadV
      rw [if_neg (by rw [← HCK.out]; exact h40)])
    obtain ⟨s, n, e, hg⟩ : ∃ s n e, getT l u 0 = (s, n, e) := ⟨_, _, _, rfl⟩
    rw [hg] at HV1
    simp only at HV1
    have HGF := Aside0.mk (show twin_Get.f l u 0 = some (s, n, e) by rw [← hg]; rfl)
    clear hg
    have hck3 : ck = false ∨ ¬ l.length < 3 := by
      cases ck
      · exact .inl rfl
      · exact .inr (fun h => h40 ⟨rfl, h⟩)
    clear h40
    obtain ⟨c3, hc3⟩ : ∃ c3, c3 = decide ((l.length : Int) < 3) := ⟨_, rfl⟩
    have hc3' : decide (l.length < 3) = c3 := by rw [hc3]; exact decide_eq_decide.2 (by omega)
    have hand : (ck && c3) = false := by
      rcases hck3 with h | h
      · rw [h]; rfl
      · rw [hc3, decide_eq_false (by omega)]; simp
    have hc3'' := hc3.symm
    clear hck3 hc3
    cases ck
    · clear hand
      by_cases he : e = 0
      · subst he
        have HV2 := Aside0.mk (HV1.out.trans (if_neg (fun h => h rfl)))
        clear HV1
        obtain ⟨K, hK⟩ := blocks_ev s (l.length : Int)
        have hbl := blocksV_len s (l.length : Int)
        obtain ⟨tb, ok, hbv⟩ : ∃ tb ok, blocksV s (l.length : Int) = (tb, ok) := ⟨_, _, rfl⟩
        have hK' := hK K (Nat.le_refl _)
        simp only at hK'
        rw [hbv] at hK' hbl HV2
        simp only at hbl HV2
        have HBF := Aside0.mk hK'
        clear hK hK' hbv
        cases ok
        · have hv := Aside0.mk (HV2.out.trans (if_pos rfl))
          clear HV2
          go_enter Try.func40, Try.ntmps40
          go_wp2_with (first | (go_at_call 53; (with_reducible refine (disk_Check.calls A0 c0 l A1 c1 u false _ ?s1 ?s2 ?s3 ?s4 HCF.out).mono ?_); (case s1 => exact Kd.C_below HR0.out HB0.out); (case s2 => exact hc0); (case s3 => exact Kd.C_below HR1.out HB0.out); (case s4 => exact hle); rintro e w1 ⟨rfl, hb1⟩; have HB1 := Aside0.mk (HB0.out.trans (hb1.mono (by simp))); have HK1 := Aside0.mk (blk_below HK0.out hb1); have q0 := blk_cell HK1.out 0; have q1 := blk_cell HK1.out 1; simp only [List.getElem?_toArray, List.getElem?_cons_zero, List.getElem?_cons_succ] at q0 q1; clear hb1))
          go_wp2_with (first | (go_at_call 12; (with_reducible refine (twin_Get.calls A0 c0 l A1 c1 u 0 s n 0 _ ?s1 ?s2 ?s3 ?s4 HGF.out).mono ?_); (case s1 => exact Kd.C_below HR0.out HB1.out); (case s2 => exact hc0); (case s3 => exact Kd.C_below HR1.out HB1.out); (case s4 => exact hle); rintro e w2 ⟨rfl, hb2⟩; have HB2 := Aside0.mk (HB1.out.trans (hb2.mono HB1.out.size)); have HK2 := Aside0.mk (blk_below HK1.out hb2); have q2 := blk_cell HK2.out 0; have q3 := blk_cell HK2.out 1; simp only [List.getElem?_toArray, List.getElem?_cons_zero, List.getElem?_cons_succ] at q2 q3; clear hb2))
          go_wp2_with (first | (go_at_call 54; (with_reducible refine (slot_blocks.calls K s (l.length : Int) tb false _ HBF.out).mono ?_); rintro e w3 ⟨v, rfl, ho, hb3⟩; have HB3 := Aside0.mk (HB2.out.trans (hb3.mono HB2.out.size)); have HK3 := Aside0.mk (blk_below HK2.out hb3); obtain ⟨A2, c2, ev, hc2, hC⟩ := R_reads_i ho; subst ev; have HC3 := Aside0.mk hC; have q4 := blk_cell HK3.out 0; have q5 := blk_cell HK3.out 1; simp only [List.getElem?_toArray, List.getElem?_cons_zero, List.getElem?_cons_succ] at q4 q5; clear hb3 ho hC))
          go_ret2
          rw [hv.out]
          exact ⟨_, rfl, ⟨.inl ⟨by decide, rfl⟩⟩, HB3.out⟩
        · have HV3 := Aside0.mk (HV2.out.trans (if_neg (by decide)))
          clear HV2
          go_enter Try.func40, Try.ntmps40
          go_wp2_with (first | (go_at_call 53; (with_reducible refine (disk_Check.calls A0 c0 l A1 c1 u false _ ?s1 ?s2 ?s3 ?s4 HCF.out).mono ?_); (case s1 => exact Kd.C_below HR0.out HB0.out); (case s2 => exact hc0); (case s3 => exact Kd.C_below HR1.out HB0.out); (case s4 => exact hle); rintro e w1 ⟨rfl, hb1⟩; have HB1 := Aside0.mk (HB0.out.trans (hb1.mono (by simp))); have HK1 := Aside0.mk (blk_below HK0.out hb1); have q0 := blk_cell HK1.out 0; have q1 := blk_cell HK1.out 1; simp only [List.getElem?_toArray, List.getElem?_cons_zero, List.getElem?_cons_succ] at q0 q1; clear hb1))
          go_wp2_with (first | (go_at_call 12; (with_reducible refine (twin_Get.calls A0 c0 l A1 c1 u 0 s n 0 _ ?s1 ?s2 ?s3 ?s4 HGF.out).mono ?_); (case s1 => exact Kd.C_below HR0.out HB1.out); (case s2 => exact hc0); (case s3 => exact Kd.C_below HR1.out HB1.out); (case s4 => exact hle); rintro e w2 ⟨rfl, hb2⟩; have HB2 := Aside0.mk (HB1.out.trans (hb2.mono HB1.out.size)); have HK2 := Aside0.mk (blk_below HK1.out hb2); have q2 := blk_cell HK2.out 0; have q3 := blk_cell HK2.out 1; simp only [List.getElem?_toArray, List.getElem?_cons_zero, List.getElem?_cons_succ] at q2 q3; clear hb2))
          go_wp2_with (first | (go_at_call 54; (with_reducible refine (slot_blocks.calls K s (l.length : Int) tb true _ HBF.out).mono ?_); rintro e w3 ⟨v, rfl, ho, hb3⟩; have HB3 := Aside0.mk (HB2.out.trans (hb3.mono HB2.out.size)); have HK3 := Aside0.mk (blk_below HK2.out hb3); obtain ⟨A2, c2, ev, hc2, hC⟩ := R_reads_i ho; subst ev; have HC3 := Aside0.mk hC; have q4 := blk_cell HK3.out 0; have q5 := blk_cell HK3.out 1; simp only [List.getElem?_toArray, List.getElem?_cons_zero, List.getElem?_cons_succ] at q4 q5; clear hb3 ho hC))
          have HSH := Aside0.mk (blk_new w3 (.cells (shelfC A0 l.length c0 A1 u.length c1 n A2 tb.length c2 (.slice none 0 0)) 81))
          go_loopw [51] (fun i wr => ∃ (k : Nat) (P : Value), k ≤ tb.length ∧ i = .int .i64 k ∧ Aside0 (∀ b ∈ tb.take k, (pageV l u b).isSome = true) ∧ Aside0 (wr.heap[w3.heap.size]? = some (.cells (shelfC A0 l.length c0 A1 u.length c1 n A2 tb.length c2 P) 81 (0, 0))) ∧ Aside0 (Kd.R Kd.string 9 wr w.heap.size (fun q => w3.heap.size < q) P (pagesV l u (tb.take k))) ∧ Aside0 (Below w3.heap.size w3 wr))
            (fun i _ => tb.length - (intOf i).toNat)
          case atStart => exact ⟨0, .slice none 0 0, Nat.zero_le _, rfl, ⟨by simp⟩, HSH, ⟨Kd.R_nil _ _ _ _ _⟩, ⟨(Below.refl _ _).alloc (Nat.le_refl _) _⟩⟩
          case round =>
            obtain ⟨k, P, hk, rfl, hall, HSr, HO, HB⟩ := hrel
            have HBw := Aside0.mk (HB3.out.trans (HB.out.mono HB3.out.size))
            by_cases hlt : k < tb.length
            · obtain ⟨ad, rfl, hx⟩ := Kd.at_int (Kd.C_below HC3.out HB.out) (k : Int) (by omega) (by omega)
              rw [slot_rd tb k hlt, Int.toNat_natCast] at hx
              have HKr := blk_below HK3.out HB.out
              have q6 := blk_cell HKr 0
              have q7 := blk_cell HKr 1
              simp only [List.getElem?_toArray, List.getElem?_cons_zero, List.getElem?_cons_succ] at q6 q7
              clear HKr
              obtain ⟨t, er, hrv⟩ : ∃ t er, readV l u tb[k] = (t, er) := ⟨_, _, rfl⟩
              have HRF := Aside0.mk ((read_f l u tb[k]).trans (congrArg some hrv))
              obtain ⟨g1, g2, g3, hgf⟩ : ∃ g1 g2 g3, getFrame t = (g1, g2, g3) := ⟨_, _, _, rfl⟩
              obtain ⟨K2, hK2⟩ := get_ev t
              have hK3 := hK2 K2 (Nat.le_refl _)
              simp only at hK3
              rw [hgf] at hK3
              have HGE := Aside0.mk hK3
              clear hK2 hK3
              have HPG := Aside0.mk (show pageV l u tb[k] = if g3 = 0 ∧ g2 = ⟨#[]⟩ then some g1 else none by unfold pageV; rw [hrv, hgf])
              clear hrv hgf
              have hPL := Aside0.mk (show (pagesV l u (tb.take k)).length ≤ 1000 by unfold pagesV; rw [List.length_map, List.length_take]; omega)
              by_cases hg3 : g3 = 0
              · by_cases hg2 : g2 = ⟨#[]⟩
                · have HP := HPG.out
                  rw [if_pos ⟨hg3, hg2⟩] at HP
                  have hal2 := Aside0.mk (show ∀ b ∈ tb.take (k + 1), (pageV l u b).isSome = true by rw [List.take_succ_eq_append_getElem hlt]; intro b hb; rcases List.mem_append.1 hb with h | h; (exact hall.out b h); (rw [List.mem_singleton.1 h, HP]; rfl))
                  have hnx := Aside0.mk (show pagesV l u (tb.take (k + 1)) = pagesV l u (tb.take k) ++ [g1] by unfold pagesV; rw [List.take_succ_eq_append_getElem hlt, List.map_append]; simp [HP])
                  clear HP HPG
                  subst hg3
                  subst hg2
                  go_wp2_with (first | (go_at_call 18; (with_reducible refine (disk_Read.calls A0 c0 l A1 c1 u tb[k] t er _ ?s1 ?s2 ?s3 ?s4 HRF.out).mono ?_); (case s1 => exact Kd.C_below HR0.out HBw.out); (case s2 => exact hc0); (case s3 => exact Kd.C_below HR1.out HBw.out); (case s4 => exact hle); rintro e w4 ⟨rfl, hb4⟩; have HB4 := Aside0.mk (HB.out.trans (hb4.mono HB.out.size)); have HS4 := Aside0.mk (blk_below HSr.out hb4); have HO4 := Aside0.mk (Kd.R_below HO.out hb4); clear hb4))
                  go_wp2_with (first | (go_at_call 55; (with_reducible refine (crc_Get.calls K2 t g1 ⟨#[]⟩ 0 _ HGE.out).mono ?_); rintro e w5 ⟨rfl, hb5⟩; have HB5 := Aside0.mk (HB4.out.trans (hb5.mono HB4.out.size)); have HS5 := Aside0.mk (blk_below HS4.out hb5); have HO5 := Aside0.mk (Kd.R_below HO4.out hb5); have q8 := blk_cell HS5.out 4; unfold shelfC at q8; simp only [List.getElem?_toArray, List.getElem?_cons_zero, List.getElem?_cons_succ] at q8; clear hb5) | ((with_reducible refine gate_builtin (b := .append) (xs := #[.tmp 77, .tmp 79]) rfl ?_); at_builtin; refine Kd.R_append Kd.string (w0 := w) w.heap.size rfl (.tmp 77) (.tmp 79) 22 9 (.string ⟨#[]⟩) 16 rfl Try.underlying22 info9 rfl (by decide) (by omega) P (pagesV l u (tb.take k)) g1 [.string g1] (fun q => w3.heap.size < q) (fun _ => False) rfl rfl ?aP (fun _ hk => hk.elim) ?aF ?aO ?aB ?aS ?aL ?_; (case aP => exact rfl); (case aB => exact HB3.out.trans (HB5.out.mono HB3.out.size)); (case aF => exact (fun q hq => Nat.lt_of_lt_of_le (Array.getElem?_eq_some_iff.1 HS5.out).1 hq)); (case aO => exact HO5.out); (case aS => exact Nat.le_trans HB3.out.size HB5.out.size); (case aL => have := hPL.out; omega); intro v1 w6 ho hb hg hat; obtain ⟨A9, k9, ev9⟩ := Kd.R_slice ho; subst ev9; rw [show (pagesV l u (tb.take k) ++ [g1]).length = (pagesV l u (tb.take k)).length + 1 from (by simp)] at ho; have HS6 := Aside0.mk ((hg.block w3.heap.size (Array.getElem?_eq_some_iff.1 HS5.out).1 (fun q => Nat.lt_irrefl _ ((HO5.out).1 _ q.symm))).trans HS5.out); have HB6 := Aside0.mk (HB5.out.grown hg HB5.out.size (fun j hj => Nat.le_of_lt ((HO5.out).1 j hj))); have HO6 := Aside0.mk ho; have q9 := blk_cell HS6.out 4; have f9 := blk_frozen HS6.out 4; unfold shelfC at q9; simp only [List.getElem?_toArray, List.getElem?_cons_zero, List.getElem?_cons_succ] at q9; clear ho hb hg hat))
                  go_roundw
                  case rel => exact ⟨k + 1, _, by omega, by go_num, hal2, ⟨blk_set HS6.out 4 _⟩, by rw [hnx.out]; exact ⟨Kd.R_far (p := ⟨w3.heap.size, 4, none⟩) HO6.out (fun q hq => Nat.ne_of_gt hq) _⟩, ⟨HB6.out.setCell (p := ⟨w3.heap.size, 4, none⟩) (Nat.le_refl _) _⟩⟩
                  case measure => simp [intOf]; omega
                · have hv := Aside0.mk (HV3.out.trans (if_neg (fun h => by have := List.all_eq_true.1 h tb[k] (List.getElem_mem hlt); rw [HPG.out, if_neg (fun q => hg2 q.2)] at this; cases this)))
                  have e5 : (g2.toList == ([] : List UInt8)) = false := beq_eq_false_iff_ne.mpr (fun q => hg2 ((empty_iff g2).1 q))
                  have e6 : (g2.toList != ([] : List UInt8)) = true := by rw [bne, e5]; rfl
                  subst hg3
                  clear HPG hg2
                  go_wp2_with (first | (go_at_call 18; (with_reducible refine (disk_Read.calls A0 c0 l A1 c1 u tb[k] t er _ ?s1 ?s2 ?s3 ?s4 HRF.out).mono ?_); (case s1 => exact Kd.C_below HR0.out HBw.out); (case s2 => exact hc0); (case s3 => exact Kd.C_below HR1.out HBw.out); (case s4 => exact hle); rintro e w4 ⟨rfl, hb4⟩; have HB4 := Aside0.mk (HB.out.trans (hb4.mono HB.out.size)); have HS4 := Aside0.mk (blk_below HSr.out hb4); have HO4 := Aside0.mk (Kd.R_below HO.out hb4); clear hb4))
                  go_wp2_with (first | (go_at_call 55; (with_reducible refine (crc_Get.calls K2 t g1 g2 0 _ HGE.out).mono ?_); rintro e w5 ⟨rfl, hb5⟩; have HB5 := Aside0.mk (HB4.out.trans (hb5.mono HB4.out.size)); have HS5 := Aside0.mk (blk_below HS4.out hb5); have HO5 := Aside0.mk (Kd.R_below HO4.out hb5); have q8 := blk_cell HS5.out 4; unfold shelfC at q8; simp only [List.getElem?_toArray, List.getElem?_cons_zero, List.getElem?_cons_succ] at q8; clear hb5))
                  go_ret2
                  rw [hv.out]
                  exact ⟨_, rfl, ⟨.inl ⟨by decide, rfl⟩⟩, HB3.out.trans (HB5.out.mono HB3.out.size)⟩
              · have hv := Aside0.mk (HV3.out.trans (if_neg (fun h => by have := List.all_eq_true.1 h tb[k] (List.getElem_mem hlt); rw [HPG.out, if_neg (fun q => hg3 q.1)] at this; cases this)))
                have e5 : (g3 != 0) = true := by rw [bne_iff_ne]; exact hg3
                clear HPG hg3
                go_wp2_with (first | (go_at_call 18; (with_reducible refine (disk_Read.calls A0 c0 l A1 c1 u tb[k] t er _ ?s1 ?s2 ?s3 ?s4 HRF.out).mono ?_); (case s1 => exact Kd.C_below HR0.out HBw.out); (case s2 => exact hc0); (case s3 => exact Kd.C_below HR1.out HBw.out); (case s4 => exact hle); rintro e w4 ⟨rfl, hb4⟩; have HB4 := Aside0.mk (HB.out.trans (hb4.mono HB.out.size)); have HS4 := Aside0.mk (blk_below HSr.out hb4); have HO4 := Aside0.mk (Kd.R_below HO.out hb4); clear hb4))
                go_wp2_with (first | (go_at_call 55; (with_reducible refine (crc_Get.calls K2 t g1 g2 g3 _ HGE.out).mono ?_); rintro e w5 ⟨rfl, hb5⟩; have HB5 := Aside0.mk (HB4.out.trans (hb5.mono HB4.out.size)); have HS5 := Aside0.mk (blk_below HS4.out hb5); have HO5 := Aside0.mk (Kd.R_below HO4.out hb5); have q8 := blk_cell HS5.out 4; unfold shelfC at q8; simp only [List.getElem?_toArray, List.getElem?_cons_zero, List.getElem?_cons_succ] at q8; clear hb5))
                go_ret2
                rw [hv.out]
                exact ⟨_, rfl, ⟨.inl ⟨by decide, rfl⟩⟩, HB3.out.trans (HB5.out.mono HB3.out.size)⟩
            · obtain rfl : k = tb.length := by omega
              have hal := hall.out
              have HO_ := HO.out
              rw [List.take_length] at hal HO_
              have hv := Aside0.mk (HV3.out.trans (if_pos (List.all_eq_true.2 hal)))
              have HOx := Aside0.mk HO_
              clear hal HO_
              go_wp2
              go_ret2
              rw [hv.out]
              exact ⟨_, rfl, ⟨.inr ⟨rfl, w3.heap.size, A2, c2, P, rfl, HB3.out.size, HSr.out, Kd.C_below HC3.out HB.out, hc2, Kd.R_mono HOx.out (fun q hq => Nat.ne_of_gt hq)⟩⟩, HBw.out⟩
      · have hv := Aside0.mk (HV1.out.trans (if_pos he))
        have e3 : (e != 0) = true := by rw [bne_iff_ne]; exact he
        have hne := Aside0.mk he
        clear HV1 he
        go_enter Try.func40, Try.ntmps40
        go_wp2_with (first | (go_at_call 53; (with_reducible refine (disk_Check.calls A0 c0 l A1 c1 u false _ ?s1 ?s2 ?s3 ?s4 HCF.out).mono ?_); (case s1 => exact Kd.C_below HR0.out HB0.out); (case s2 => exact hc0); (case s3 => exact Kd.C_below HR1.out HB0.out); (case s4 => exact hle); rintro e w1 ⟨rfl, hb1⟩; have HB1 := Aside0.mk (HB0.out.trans (hb1.mono (by simp))); have HK1 := Aside0.mk (blk_below HK0.out hb1); have q0 := blk_cell HK1.out 0; have q1 := blk_cell HK1.out 1; simp only [List.getElem?_toArray, List.getElem?_cons_zero, List.getElem?_cons_succ] at q0 q1; clear hb1))
        go_wp2_with (first | (go_at_call 12; (with_reducible refine (twin_Get.calls A0 c0 l A1 c1 u 0 s n e _ ?s1 ?s2 ?s3 ?s4 HGF.out).mono ?_); (case s1 => exact Kd.C_below HR0.out HB1.out); (case s2 => exact hc0); (case s3 => exact Kd.C_below HR1.out HB1.out); (case s4 => exact hle); rintro e w2 ⟨rfl, hb2⟩; have HB2 := Aside0.mk (HB1.out.trans (hb2.mono HB1.out.size)); have HK2 := Aside0.mk (blk_below HK1.out hb2); have q2 := blk_cell HK2.out 0; have q3 := blk_cell HK2.out 1; simp only [List.getElem?_toArray, List.getElem?_cons_zero, List.getElem?_cons_succ] at q2 q3; clear hb2))
        go_ret2
        rw [hv.out]
        exact ⟨_, rfl, ⟨.inl ⟨hne.out, rfl⟩⟩, HB2.out⟩
    · have hc3f : c3 = false := by simpa using hand
      subst hc3f
      clear hand
      by_cases he : e = 0
      · subst he
        have HV2 := Aside0.mk (HV1.out.trans (if_neg (fun h => h rfl)))
        clear HV1
        obtain ⟨K, hK⟩ := blocks_ev s (l.length : Int)
        have hbl := blocksV_len s (l.length : Int)
        obtain ⟨tb, ok, hbv⟩ : ∃ tb ok, blocksV s (l.length : Int) = (tb, ok) := ⟨_, _, rfl⟩
        have hK' := hK K (Nat.le_refl _)
        simp only at hK'
        rw [hbv] at hK' hbl HV2
        simp only at hbl HV2
        have HBF := Aside0.mk hK'
        clear hK hK' hbv
        cases ok
        · have hv := Aside0.mk (HV2.out.trans (if_pos rfl))
          clear HV2
          go_enter Try.func40, Try.ntmps40
          go_wp2_with (first | (go_at_call 53; (with_reducible refine (disk_Check.calls A0 c0 l A1 c1 u true _ ?s1 ?s2 ?s3 ?s4 HCF.out).mono ?_); (case s1 => exact Kd.C_below HR0.out HB0.out); (case s2 => exact hc0); (case s3 => exact Kd.C_below HR1.out HB0.out); (case s4 => exact hle); rintro e w1 ⟨rfl, hb1⟩; have HB1 := Aside0.mk (HB0.out.trans (hb1.mono (by simp))); have HK1 := Aside0.mk (blk_below HK0.out hb1); have q0 := blk_cell HK1.out 0; have q1 := blk_cell HK1.out 1; simp only [List.getElem?_toArray, List.getElem?_cons_zero, List.getElem?_cons_succ] at q0 q1; clear hb1))
          go_wp2_with (first | (go_at_call 12; (with_reducible refine (twin_Get.calls A0 c0 l A1 c1 u 0 s n 0 _ ?s1 ?s2 ?s3 ?s4 HGF.out).mono ?_); (case s1 => exact Kd.C_below HR0.out HB1.out); (case s2 => exact hc0); (case s3 => exact Kd.C_below HR1.out HB1.out); (case s4 => exact hle); rintro e w2 ⟨rfl, hb2⟩; have HB2 := Aside0.mk (HB1.out.trans (hb2.mono HB1.out.size)); have HK2 := Aside0.mk (blk_below HK1.out hb2); have q2 := blk_cell HK2.out 0; have q3 := blk_cell HK2.out 1; simp only [List.getElem?_toArray, List.getElem?_cons_zero, List.getElem?_cons_succ] at q2 q3; clear hb2))
          go_wp2_with (first | (go_at_call 54; (with_reducible refine (slot_blocks.calls K s (l.length : Int) tb false _ HBF.out).mono ?_); rintro e w3 ⟨v, rfl, ho, hb3⟩; have HB3 := Aside0.mk (HB2.out.trans (hb3.mono HB2.out.size)); have HK3 := Aside0.mk (blk_below HK2.out hb3); obtain ⟨A2, c2, ev, hc2, hC⟩ := R_reads_i ho; subst ev; have HC3 := Aside0.mk hC; have q4 := blk_cell HK3.out 0; have q5 := blk_cell HK3.out 1; simp only [List.getElem?_toArray, List.getElem?_cons_zero, List.getElem?_cons_succ] at q4 q5; clear hb3 ho hC))
          go_ret2
          rw [hv.out]
          exact ⟨_, rfl, ⟨.inl ⟨by decide, rfl⟩⟩, HB3.out⟩
        · have HV3 := Aside0.mk (HV2.out.trans (if_neg (by decide)))
          clear HV2
          go_enter Try.func40, Try.ntmps40
          go_wp2_with (first | (go_at_call 53; (with_reducible refine (disk_Check.calls A0 c0 l A1 c1 u true _ ?s1 ?s2 ?s3 ?s4 HCF.out).mono ?_); (case s1 => exact Kd.C_below HR0.out HB0.out); (case s2 => exact hc0); (case s3 => exact Kd.C_below HR1.out HB0.out); (case s4 => exact hle); rintro e w1 ⟨rfl, hb1⟩; have HB1 := Aside0.mk (HB0.out.trans (hb1.mono (by simp))); have HK1 := Aside0.mk (blk_below HK0.out hb1); have q0 := blk_cell HK1.out 0; have q1 := blk_cell HK1.out 1; simp only [List.getElem?_toArray, List.getElem?_cons_zero, List.getElem?_cons_succ] at q0 q1; clear hb1))
          go_wp2_with (first | (go_at_call 12; (with_reducible refine (twin_Get.calls A0 c0 l A1 c1 u 0 s n 0 _ ?s1 ?s2 ?s3 ?s4 HGF.out).mono ?_); (case s1 => exact Kd.C_below HR0.out HB1.out); (case s2 => exact hc0); (case s3 => exact Kd.C_below HR1.out HB1.out); (case s4 => exact hle); rintro e w2 ⟨rfl, hb2⟩; have HB2 := Aside0.mk (HB1.out.trans (hb2.mono HB1.out.size)); have HK2 := Aside0.mk (blk_below HK1.out hb2); have q2 := blk_cell HK2.out 0; have q3 := blk_cell HK2.out 1; simp only [List.getElem?_toArray, List.getElem?_cons_zero, List.getElem?_cons_succ] at q2 q3; clear hb2))
          go_wp2_with (first | (go_at_call 54; (with_reducible refine (slot_blocks.calls K s (l.length : Int) tb true _ HBF.out).mono ?_); rintro e w3 ⟨v, rfl, ho, hb3⟩; have HB3 := Aside0.mk (HB2.out.trans (hb3.mono HB2.out.size)); have HK3 := Aside0.mk (blk_below HK2.out hb3); obtain ⟨A2, c2, ev, hc2, hC⟩ := R_reads_i ho; subst ev; have HC3 := Aside0.mk hC; have q4 := blk_cell HK3.out 0; have q5 := blk_cell HK3.out 1; simp only [List.getElem?_toArray, List.getElem?_cons_zero, List.getElem?_cons_succ] at q4 q5; clear hb3 ho hC))
          have HSH := Aside0.mk (blk_new w3 (.cells (shelfC A0 l.length c0 A1 u.length c1 n A2 tb.length c2 (.slice none 0 0)) 81))
          go_loopw [51] (fun i wr => ∃ (k : Nat) (P : Value), k ≤ tb.length ∧ i = .int .i64 k ∧ Aside0 (∀ b ∈ tb.take k, (pageV l u b).isSome = true) ∧ Aside0 (wr.heap[w3.heap.size]? = some (.cells (shelfC A0 l.length c0 A1 u.length c1 n A2 tb.length c2 P) 81 (0, 0))) ∧ Aside0 (Kd.R Kd.string 9 wr w.heap.size (fun q => w3.heap.size < q) P (pagesV l u (tb.take k))) ∧ Aside0 (Below w3.heap.size w3 wr))
            (fun i _ => tb.length - (intOf i).toNat)
          case atStart => exact ⟨0, .slice none 0 0, Nat.zero_le _, rfl, ⟨by simp⟩, HSH, ⟨Kd.R_nil _ _ _ _ _⟩, ⟨(Below.refl _ _).alloc (Nat.le_refl _) _⟩⟩
          case round =>
            obtain ⟨k, P, hk, rfl, hall, HSr, HO, HB⟩ := hrel
            have HBw := Aside0.mk (HB3.out.trans (HB.out.mono HB3.out.size))
            by_cases hlt : k < tb.length
            · obtain ⟨ad, rfl, hx⟩ := Kd.at_int (Kd.C_below HC3.out HB.out) (k : Int) (by omega) (by omega)
              rw [slot_rd tb k hlt, Int.toNat_natCast] at hx
              have HKr := blk_below HK3.out HB.out
              have q6 := blk_cell HKr 0
              have q7 := blk_cell HKr 1
              simp only [List.getElem?_toArray, List.getElem?_cons_zero, List.getElem?_cons_succ] at q6 q7
              clear HKr
              obtain ⟨t, er, hrv⟩ : ∃ t er, readV l u tb[k] = (t, er) := ⟨_, _, rfl⟩
              have HRF := Aside0.mk ((read_f l u tb[k]).trans (congrArg some hrv))
              obtain ⟨g1, g2, g3, hgf⟩ : ∃ g1 g2 g3, getFrame t = (g1, g2, g3) := ⟨_, _, _, rfl⟩
              obtain ⟨K2, hK2⟩ := get_ev t
              have hK3 := hK2 K2 (Nat.le_refl _)
              simp only at hK3
              rw [hgf] at hK3
              have HGE := Aside0.mk hK3
              clear hK2 hK3
              have HPG := Aside0.mk (show pageV l u tb[k] = if g3 = 0 ∧ g2 = ⟨#[]⟩ then some g1 else none by unfold pageV; rw [hrv, hgf])
              clear hrv hgf
              have hPL := Aside0.mk (show (pagesV l u (tb.take k)).length ≤ 1000 by unfold pagesV; rw [List.length_map, List.length_take]; omega)
              by_cases hg3 : g3 = 0
              · by_cases hg2 : g2 = ⟨#[]⟩
                · have HP := HPG.out
                  rw [if_pos ⟨hg3, hg2⟩] at HP
                  have hal2 := Aside0.mk (show ∀ b ∈ tb.take (k + 1), (pageV l u b).isSome = true by rw [List.take_succ_eq_append_getElem hlt]; intro b hb; rcases List.mem_append.1 hb with h | h; (exact hall.out b h); (rw [List.mem_singleton.1 h, HP]; rfl))
                  have hnx := Aside0.mk (show pagesV l u (tb.take (k + 1)) = pagesV l u (tb.take k) ++ [g1] by unfold pagesV; rw [List.take_succ_eq_append_getElem hlt, List.map_append]; simp [HP])
                  clear HP HPG
                  subst hg3
                  subst hg2
                  go_wp2_with (first | (go_at_call 18; (with_reducible refine (disk_Read.calls A0 c0 l A1 c1 u tb[k] t er _ ?s1 ?s2 ?s3 ?s4 HRF.out).mono ?_); (case s1 => exact Kd.C_below HR0.out HBw.out); (case s2 => exact hc0); (case s3 => exact Kd.C_below HR1.out HBw.out); (case s4 => exact hle); rintro e w4 ⟨rfl, hb4⟩; have HB4 := Aside0.mk (HB.out.trans (hb4.mono HB.out.size)); have HS4 := Aside0.mk (blk_below HSr.out hb4); have HO4 := Aside0.mk (Kd.R_below HO.out hb4); clear hb4))
                  go_wp2_with (first | (go_at_call 55; (with_reducible refine (crc_Get.calls K2 t g1 ⟨#[]⟩ 0 _ HGE.out).mono ?_); rintro e w5 ⟨rfl, hb5⟩; have HB5 := Aside0.mk (HB4.out.trans (hb5.mono HB4.out.size)); have HS5 := Aside0.mk (blk_below HS4.out hb5); have HO5 := Aside0.mk (Kd.R_below HO4.out hb5); have q8 := blk_cell HS5.out 4; unfold shelfC at q8; simp only [List.getElem?_toArray, List.getElem?_cons_zero, List.getElem?_cons_succ] at q8; clear hb5) | ((with_reducible refine gate_builtin (b := .append) (xs := #[.tmp 77, .tmp 79]) rfl ?_); at_builtin; refine Kd.R_append Kd.string (w0 := w) w.heap.size rfl (.tmp 77) (.tmp 79) 22 9 (.string ⟨#[]⟩) 16 rfl Try.underlying22 info9 rfl (by decide) (by omega) P (pagesV l u (tb.take k)) g1 [.string g1] (fun q => w3.heap.size < q) (fun _ => False) rfl rfl ?aP (fun _ hk => hk.elim) ?aF ?aO ?aB ?aS ?aL ?_; (case aP => exact rfl); (case aB => exact HB3.out.trans (HB5.out.mono HB3.out.size)); (case aF => exact (fun q hq => Nat.lt_of_lt_of_le (Array.getElem?_eq_some_iff.1 HS5.out).1 hq)); (case aO => exact HO5.out); (case aS => exact Nat.le_trans HB3.out.size HB5.out.size); (case aL => have := hPL.out; omega); intro v1 w6 ho hb hg hat; obtain ⟨A9, k9, ev9⟩ := Kd.R_slice ho; subst ev9; rw [show (pagesV l u (tb.take k) ++ [g1]).length = (pagesV l u (tb.take k)).length + 1 from (by simp)] at ho; have HS6 := Aside0.mk ((hg.block w3.heap.size (Array.getElem?_eq_some_iff.1 HS5.out).1 (fun q => Nat.lt_irrefl _ ((HO5.out).1 _ q.symm))).trans HS5.out); have HB6 := Aside0.mk (HB5.out.grown hg HB5.out.size (fun j hj => Nat.le_of_lt ((HO5.out).1 j hj))); have HO6 := Aside0.mk ho; have q9 := blk_cell HS6.out 4; have f9 := blk_frozen HS6.out 4; unfold shelfC at q9; simp only [List.getElem?_toArray, List.getElem?_cons_zero, List.getElem?_cons_succ] at q9; clear ho hb hg hat))
                  go_roundw
                  case rel => exact ⟨k + 1, _, by omega, by go_num, hal2, ⟨blk_set HS6.out 4 _⟩, by rw [hnx.out]; exact ⟨Kd.R_far (p := ⟨w3.heap.size, 4, none⟩) HO6.out (fun q hq => Nat.ne_of_gt hq) _⟩, ⟨HB6.out.setCell (p := ⟨w3.heap.size, 4, none⟩) (Nat.le_refl _) _⟩⟩
                  case measure => simp [intOf]; omega
                · have hv := Aside0.mk (HV3.out.trans (if_neg (fun h => by have := List.all_eq_true.1 h tb[k] (List.getElem_mem hlt); rw [HPG.out, if_neg (fun q => hg2 q.2)] at this; cases this)))
                  have e5 : (g2.toList == ([] : List UInt8)) = false := beq_eq_false_iff_ne.mpr (fun q => hg2 ((empty_iff g2).1 q))
                  have e6 : (g2.toList != ([] : List UInt8)) = true := by rw [bne, e5]; rfl
                  subst hg3
                  clear HPG hg2
                  go_wp2_with (first | (go_at_call 18; (with_reducible refine (disk_Read.calls A0 c0 l A1 c1 u tb[k] t er _ ?s1 ?s2 ?s3 ?s4 HRF.out).mono ?_); (case s1 => exact Kd.C_below HR0.out HBw.out); (case s2 => exact hc0); (case s3 => exact Kd.C_below HR1.out HBw.out); (case s4 => exact hle); rintro e w4 ⟨rfl, hb4⟩; have HB4 := Aside0.mk (HB.out.trans (hb4.mono HB.out.size)); have HS4 := Aside0.mk (blk_below HSr.out hb4); have HO4 := Aside0.mk (Kd.R_below HO.out hb4); clear hb4))
                  go_wp2_with (first | (go_at_call 55; (with_reducible refine (crc_Get.calls K2 t g1 g2 0 _ HGE.out).mono ?_); rintro e w5 ⟨rfl, hb5⟩; have HB5 := Aside0.mk (HB4.out.trans (hb5.mono HB4.out.size)); have HS5 := Aside0.mk (blk_below HS4.out hb5); have HO5 := Aside0.mk (Kd.R_below HO4.out hb5); have q8 := blk_cell HS5.out 4; unfold shelfC at q8; simp only [List.getElem?_toArray, List.getElem?_cons_zero, List.getElem?_cons_succ] at q8; clear hb5))
                  go_ret2
                  rw [hv.out]
                  exact ⟨_, rfl, ⟨.inl ⟨by decide, rfl⟩⟩, HB3.out.trans (HB5.out.mono HB3.out.size)⟩
              · have hv := Aside0.mk (HV3.out.trans (if_neg (fun h => by have := List.all_eq_true.1 h tb[k] (List.getElem_mem hlt); rw [HPG.out, if_neg (fun q => hg3 q.1)] at this; cases this)))
                have e5 : (g3 != 0) = true := by rw [bne_iff_ne]; exact hg3
                clear HPG hg3
                go_wp2_with (first | (go_at_call 18; (with_reducible refine (disk_Read.calls A0 c0 l A1 c1 u tb[k] t er _ ?s1 ?s2 ?s3 ?s4 HRF.out).mono ?_); (case s1 => exact Kd.C_below HR0.out HBw.out); (case s2 => exact hc0); (case s3 => exact Kd.C_below HR1.out HBw.out); (case s4 => exact hle); rintro e w4 ⟨rfl, hb4⟩; have HB4 := Aside0.mk (HB.out.trans (hb4.mono HB.out.size)); have HS4 := Aside0.mk (blk_below HSr.out hb4); have HO4 := Aside0.mk (Kd.R_below HO.out hb4); clear hb4))
                go_wp2_with (first | (go_at_call 55; (with_reducible refine (crc_Get.calls K2 t g1 g2 g3 _ HGE.out).mono ?_); rintro e w5 ⟨rfl, hb5⟩; have HB5 := Aside0.mk (HB4.out.trans (hb5.mono HB4.out.size)); have HS5 := Aside0.mk (blk_below HS4.out hb5); have HO5 := Aside0.mk (Kd.R_below HO4.out hb5); have q8 := blk_cell HS5.out 4; unfold shelfC at q8; simp only [List.getElem?_toArray, List.getElem?_cons_zero, List.getElem?_cons_succ] at q8; clear hb5))
                go_ret2
                rw [hv.out]
                exact ⟨_, rfl, ⟨.inl ⟨by decide, rfl⟩⟩, HB3.out.trans (HB5.out.mono HB3.out.size)⟩
            · obtain rfl : k = tb.length := by omega
              have hal := hall.out
              have HO_ := HO.out
              rw [List.take_length] at hal HO_
              have hv := Aside0.mk (HV3.out.trans (if_pos (List.all_eq_true.2 hal)))
              have HOx := Aside0.mk HO_
              clear hal HO_
              go_wp2
              go_ret2
              rw [hv.out]
              exact ⟨_, rfl, ⟨.inr ⟨rfl, w3.heap.size, A2, c2, P, rfl, HB3.out.size, HSr.out, Kd.C_below HC3.out HB.out, hc2, Kd.R_mono HOx.out (fun q hq => Nat.ne_of_gt hq)⟩⟩, HBw.out⟩
      · have hv := Aside0.mk (HV1.out.trans (if_pos he))
        have e3 : (e != 0) = true := by rw [bne_iff_ne]; exact he
        have hne := Aside0.mk he
        clear HV1 he
        go_enter Try.func40, Try.ntmps40
        go_wp2_with (first | (go_at_call 53; (with_reducible refine (disk_Check.calls A0 c0 l A1 c1 u true _ ?s1 ?s2 ?s3 ?s4 HCF.out).mono ?_); (case s1 => exact Kd.C_below HR0.out HB0.out); (case s2 => exact hc0); (case s3 => exact Kd.C_below HR1.out HB0.out); (case s4 => exact hle); rintro e w1 ⟨rfl, hb1⟩; have HB1 := Aside0.mk (HB0.out.trans (hb1.mono (by simp))); have HK1 := Aside0.mk (blk_below HK0.out hb1); have q0 := blk_cell HK1.out 0; have q1 := blk_cell HK1.out 1; simp only [List.getElem?_toArray, List.getElem?_cons_zero, List.getElem?_cons_succ] at q0 q1; clear hb1))
        go_wp2_with (first | (go_at_call 12; (with_reducible refine (twin_Get.calls A0 c0 l A1 c1 u 0 s n e _ ?s1 ?s2 ?s3 ?s4 HGF.out).mono ?_); (case s1 => exact Kd.C_below HR0.out HB1.out); (case s2 => exact hc0); (case s3 => exact Kd.C_below HR1.out HB1.out); (case s4 => exact hle); rintro e w2 ⟨rfl, hb2⟩; have HB2 := Aside0.mk (HB1.out.trans (hb2.mono HB1.out.size)); have HK2 := Aside0.mk (blk_below HK1.out hb2); have q2 := blk_cell HK2.out 0; have q3 := blk_cell HK2.out 1; simp only [List.getElem?_toArray, List.getElem?_cons_zero, List.getElem?_cons_succ] at q2 q3; clear hb2))
        go_ret2
        rw [hv.out]
        exact ⟨_, rfl, ⟨.inl ⟨hne.out, rfl⟩⟩, HB2.out⟩
end Go.Proofs.Ytkgcaheddhfpgaa.P
/-
  slot.Load, slot.Free, by hand.
-/
namespace Go.Proofs.Ytkgcaheddhfpgaa.P
open Go.RowKit Go.Shelf Go.Proofs Go.Proofs.CodecPlain Go.Proofs.YtkgcaheddhfpgaaW.PrintWords Go.Proofs.YtkgcaheddhfpgaaW.PrintLast Go.Proofs.YtkgcaheddhfpgaaW.PrintMore

/-- What slot.Load answers. -/
def slot_Load.f (l : List ByteArray) (u : List S73) : Option (List ByteArray × Int × Int) := some ((loadV l u).2.2.1, (loadV l u).1, (loadV l u).2.2.2)
theorem loadV_no (l : List ByteArray) (u : List S73) (h : ¬ (loadV l u).2.2.2 = 0) : (loadV l u).1 = 0 ∧ (loadV l u).2.1 = [] ∧ (loadV l u).2.2.1 = [] := by
  unfold loadV at h ⊢
  split
  · exact ⟨rfl, rfl, rfl⟩
  · split
    · exact ⟨rfl, rfl, rfl⟩
    · split
      · exact ⟨rfl, rfl, rfl⟩
      · split
        · rename_i h1 h2 h3 h4
          rw [if_neg h1, if_neg h2, if_neg h3, if_pos h4] at h
          exact absurd rfl h
        · exact ⟨rfl, rfl, rfl⟩

set_option maxRecDepth 100000 in
set_option maxHeartbeats 4000000 in
theorem slot_Load_in (A0 : Option Addr) (c0 : Nat) (l : List ByteArray) (A1 : Option Addr) (c1 : Nat) (u : List S73) (w : World) (hr0 : Kd.C Kd.string w A0 l.length l) (hc0 : l.length ≤ c0) (hr1 : Kd.C k73 w A1 u.length u) (hc1 : u.length ≤ c1) :
    Calls Try.prog 20 #[.agg #[.slice A0 l.length c0, .slice A1 u.length c1]] w fun e w' => ∃ v0_ : Value, e = .returned (.tuple #[v0_, .int .i64 (loadV l u).1, .int .i64 (loadV l u).2.2.2]) ∧ Kd.R Kd.string 9 w' w.heap.size (fun _ => True) v0_ (loadV l u).2.2.1 ∧ Below w.heap.size w w' := by
  have mixed : Try.prog.follows .mixedOrders = true := by kernel_rfl
  have HB0 := Aside0.mk ((Below.refl w.heap.size w).alloc (Nat.le_refl _) (.cells #[.slice A0 l.length c0, .slice A1 u.length c1] 25))
  have HL := Aside0.mk (slot_load_calls A0 c0 l A1 c1 u (w.alloc (.cells #[.slice A0 l.length c0, .slice A1 u.length c1] 25)) (Kd.C_below hr0 HB0.out) hc0 (Kd.C_below hr1 HB0.out) hc1)
  have HNO := Aside0.mk (loadV_no l u)
  obtain ⟨r, hr⟩ : ∃ r, r = loadV l u := ⟨_, rfl⟩
  rw [← hr] at HL HNO ⊢
  obtain ⟨n, tb, pages, e⟩ := r
  simp only at HL HNO ⊢
  clear hr hr0 hr1
  by_cases he : e = 0
  · subst he
    go_enter Try.func20, Try.ntmps20
    go_wp2_with (first | (go_at_call 40; refine HL.out.mono ?_; rintro e w1 ⟨p, rfl, hl, hb1⟩; ((have HB1 := Aside0.mk (HB0.out.trans (hb1.mono (by simp))); have hl2 := hl.out; unfold Loaded at hl2; obtain ⟨_, b, A2, c2, P, rfl, hbb, hsh, _, _, hP⟩ := hl2.resolve_left (fun q => q.1 rfl); clear hl2; have q2 := blk_cell hsh 2; have q4 := blk_cell hsh 4; unfold shelfC at q2 q4; simp only [List.getElem?_toArray, List.getElem?_cons_zero, List.getElem?_cons_succ] at q2 q4; have HP := Aside0.mk hP; clear hl hb1 hsh hP))))
    obtain ⟨AP, kP, eP⟩ := Kd.R_slice HP.out
    subst eP
    refine (wpIn_wide (n := 3)).1 ?_
    gi_big_quiet_th_o (fail)
    go_wp2
    go_ret3
    exact ⟨_, rfl, Kd.R_drewN (Kd.R_mono (Kd.R_lower HP.out (by simp)) (fun _ _ => trivial)) _, pw_below_drewN HB1.out _⟩
  · obtain ⟨h1, h2, h3⟩ := HNO.out he
    try simp only at h1 h2 h3
    subst h1 h3
    have e3 : (e != 0) = true := by rw [bne_iff_ne]; exact he
    clear HNO he
    go_enter Try.func20, Try.ntmps20
    go_wp2_with (first | (go_at_call 40; refine HL.out.mono ?_; rintro e w1 ⟨p, rfl, hl, hb1⟩; have HB1 := Aside0.mk (HB0.out.trans (hb1.mono (by simp)))))
    go_ret3
    exact ⟨_, rfl, Kd.R_nil _ _ _ _ _, HB1.out⟩
theorem slot_Load.calls (A0_0 : Option Addr) (c0_0 : Nat) (l0_0 : List ByteArray) (A0_1 : Option Addr) (c0_1 : Nat) (l0_1 : List S73) (r1 : List ByteArray) (r2 : Int) (r3 : Int) (w : World) (hr0_0 : Kd.C Kd.string w A0_0 l0_0.length l0_0) (hc0_0 : l0_0.length ≤ c0_0) (hr0_1 : Kd.C k73 w A0_1 l0_1.length l0_1) (hc0_1 : l0_1.length ≤ c0_1) (h : slot_Load.f l0_0 l0_1 = some (r1, r2, r3)) :
    Calls Try.prog 20 #[.agg #[.slice A0_0 l0_0.length c0_0, .slice A0_1 l0_1.length c0_1]] w fun e w' => ∃ v0_ : Value, e = .returned (.tuple #[v0_, .int .i64 r2, .int .i64 r3]) ∧ Kd.R Kd.string 9 w' w.heap.size (fun _ => True) v0_ r1 ∧ Below w.heap.size w w' := by
  simp only [slot_Load.f, Option.some.injEq, Prod.mk.injEq] at h
  obtain ⟨rfl, rfl, rfl⟩ := h
  exact slot_Load_in A0_0 c0_0 l0_0 A0_1 c0_1 l0_1 w hr0_0 hc0_0 hr0_1 hc0_1

/-- What slot.Free answers. -/
def slot_Free.f (l : List ByteArray) (u : List S73) : Option (List Int × Int) := if l.length ≤ 1000000000 then some (if (loadV l u).2.2.2 = 0 then (freeK (loadV l u).2.1 l.length, 0) else ([], (loadV l u).2.2.2)) else none
theorem loadV_tb (l : List ByteArray) (u : List S73) : (loadV l u).2.1.length ≤ 1000 := by
  have := blocksV_len (getT l u 0).1 (l.length : Int)
  unfold loadV
  split
  · simp
  · split
    · simp
    · split
      · simp
      · split
        · exact this
        · simp
set_option maxRecDepth 100000 in
set_option maxHeartbeats 4000000 in
theorem slot_Free.calls (A0_0 : Option Addr) (c0_0 : Nat) (l0_0 : List ByteArray) (A0_1 : Option Addr) (c0_1 : Nat) (l0_1 : List S73) (r1 : List Int) (r2 : Int) (w : World) (hr0_0 : Kd.C Kd.string w A0_0 l0_0.length l0_0) (hc0_0 : l0_0.length ≤ c0_0) (hr0_1 : Kd.C k73 w A0_1 l0_1.length l0_1) (hc0_1 : l0_1.length ≤ c0_1) (h : slot_Free.f l0_0 l0_1 = some (r1, r2)) :
    Calls Try.prog 23 #[.agg #[.slice A0_0 l0_0.length c0_0, .slice A0_1 l0_1.length c0_1]] w fun e w' => ∃ v0_ : Value, e = .returned (.tuple #[v0_, .int .i64 r2]) ∧ Kd.R (Kd.int .i64) 3 w' w.heap.size (fun _ => True) v0_ r1 ∧ Below w.heap.size w w' := by
  unfold slot_Free.f at h
  by_cases hbig : l0_0.length ≤ 1000000000
  rotate_left
  · rw [if_neg hbig] at h; cases h
  rw [if_pos hbig] at h
  have h := Option.some.inj h
  have HB0 := Aside0.mk ((Below.refl w.heap.size w).alloc (Nat.le_refl _) (.cells #[.slice A0_0 l0_0.length c0_0, .slice A0_1 l0_1.length c0_1] 25))
  have HL := Aside0.mk (slot_load_calls A0_0 c0_0 l0_0 A0_1 c0_1 l0_1 (w.alloc (.cells #[.slice A0_0 l0_0.length c0_0, .slice A0_1 l0_1.length c0_1] 25)) (Kd.C_below hr0_0 HB0.out) hc0_0 (Kd.C_below hr0_1 HB0.out) hc0_1)
  have htb := loadV_tb l0_0 l0_1
  obtain ⟨r, hr⟩ : ∃ r, r = loadV l0_0 l0_1 := ⟨_, rfl⟩
  rw [← hr] at HL h htb
  obtain ⟨n, tb, pages, e⟩ := r
  simp only at HL h htb
  clear hr hr0_0 hr0_1
  by_cases he : e = 0
  · rw [if_pos he] at h
    simp only [Prod.mk.injEq] at h
    obtain ⟨rfl, rfl⟩ := h
    subst he
    go_enter Try.func23, Try.ntmps23
    go_wp2_with (first | (go_at_call 40; refine HL.out.mono ?_; rintro e w1 ⟨p, rfl, hl, hb1⟩; have HB1 := Aside0.mk (HB0.out.trans (hb1.mono (by simp))); have hl2 := hl.out; unfold Loaded at hl2; obtain ⟨_, b, A2, c2, P, rfl, hbb, hsh, hC, hc2, _⟩ := hl2.resolve_left (fun q => q.1 rfl); clear hl2; have HSH := Aside0.mk hsh; have HC := Aside0.mk hC; clear hl hb1 hsh hC) | (go_at_call 41; refine (slot_free_calls b _ _ _ _ _ _ _ A2 tb c2 P _ HSH.out HC.out hc2 hbig (by omega)).mono ?_; rintro e w2 ⟨v, rfl, hR, hb2⟩; have HB2 := Aside0.mk (HB1.out.trans (hb2.mono HB1.out.size)); have HR2 := Aside0.mk (Kd.R_lower hR HB1.out.size); clear hR hb2))
    go_ret2
    exact ⟨_, rfl, HR2.out, HB2.out⟩
  · rw [if_neg he] at h
    simp only [Prod.mk.injEq] at h
    obtain ⟨rfl, rfl⟩ := h
    have e3 : (e != 0) = true := by rw [bne_iff_ne]; exact he
    clear he
    go_enter Try.func23, Try.ntmps23
    go_wp2_with (first | (go_at_call 40; refine HL.out.mono ?_; rintro e w1 ⟨p, rfl, hl, hb1⟩; have HB1 := Aside0.mk (HB0.out.trans (hb1.mono (by simp)))))
    go_ret2
    exact ⟨_, rfl, Kd.R_nil _ _ _ _ _, HB1.out⟩
end Go.Proofs.Ytkgcaheddhfpgaa.P
/-
  slot.named told plainly; a Save's deeds and what a Save answers.
-/
namespace Go.Proofs.Ytkgcaheddhfpgaa.P
open Go.RowKit Go.Proofs Go.Proofs.CodecPlain Go.Proofs.YtkgcaheddhfpgaaW.PrintWords Go.Proofs.YtkgcaheddhfpgaaW.PrintLast Go.Proofs.Plain

/-- A table's bytes. -/
def namedV (l : List Int) : ByteArray × Int := if 200 < (rowStr (l.map numStr)).size then (rowStr (l.map numStr), 2) else (rowStr (l.map numStr), 0)
theorem named_ev (l : List Int) (hl : l.length ≤ 1000) (hb : ∀ b ∈ l, 0 ≤ b ∧ b ≤ 4294967295) : ∃ k, slot_named.f k l = some (namedV l) := by
  suffices H : ∀ d i, i + d = l.length → ∃ k, slot_named.l0 k ((l.take i).map numStr) l (l.length : Int) (i : Int) = some (namedV l) by
    obtain ⟨k, hk⟩ := H l.length 0 (by omega)
    exact ⟨k, by unfold slot_named.f; simpa using hk⟩
  intro d
  induction d with
  | zero =>
    intro i hi
    refine ⟨1, ?_⟩
    simp only [slot_named.l0]
    rw [if_neg (by omega), List.take_of_length_le (by omega)]
    have hr : codec_Row.f (l.map numStr) = some (rowStr (l.map numStr), 0) := by
      unfold codec_Row.f
      rw [if_neg (by rw [List.length_map]; omega), if_pos]
      rw [List.all_eq_true]
      intro s hs
      obtain ⟨b, _, rfl⟩ := List.mem_map.1 hs
      have := numStr_size b
      exact decide_eq_true (by omega)
    rw [hr, Option.bind_some]
    unfold namedV
    by_cases h : 200 < (rowStr (l.map numStr)).size
    · rw [if_pos (by simp only; omega), if_pos h]
    · rw [if_neg (by simp only; omega), if_neg h]
  | succ d ih =>
    intro i hi
    have hlt : i < l.length := by omega
    obtain ⟨k, hk⟩ := ih (i + 1) (by omega)
    refine ⟨k + 1, ?_⟩
    simp only [slot_named.l0]
    have hbi := hb _ (List.getElem_mem hlt)
    have hn : codec_Number.f (rd l (i : Int)) = some (numStr l[i], 0) := by
      rw [slot_rd l i hlt]
      unfold codec_Number.f
      rw [if_pos hbi]
    rw [if_pos (by omega), if_pos (by omega), if_pos (by omega), hn, Option.bind_some, if_pos (by rw [List.length_map, List.length_take]; omega), wrap_sl (by omega) (by omega)]
    have ht : (l.take i).map numStr ++ [numStr l[i]] = (l.take (i + 1)).map numStr := by
      rw [List.take_succ_eq_append_getElem hlt, List.map_append]; rfl
    rw [ht]
    exact_mod_cast hk

/-! ### A Save's deeds -/
/-- Where a Save stands: 0: it goes on; 1: it was stopped; 2: a deed was refused. -/
structure SvS where
  st : Nat
  b : List ByteArray
  u : List S73
  m : Int
  e : Int
/-- What deed i makes of a disk. -/
def deedV (tw : List Int) (l : List ByteArray) (i : Nat) (b : List ByteArray) (u : List S73) : List ByteArray × List S73 × Int :=
  if i < l.length then writeV b u (rd tw (i : Int)) (frameOf (rdOf ByteArray.empty l (i : Int))) else doneV (fun _ => true) b u
def svStep (tw : List Int) (l : List ByteArray) (s : SvS) (i : Nat) : SvS :=
  if s.st ≠ 0 then s else if s.m = 0 then { s with st := 1 } else
  if (deedV tw l i s.b s.u).2.2 ≠ 0 then { s with st := 2, e := (deedV tw l i s.b s.u).2.2 } else { st := 0, b := (deedV tw l i s.b s.u).1, u := (deedV tw l i s.b s.u).2.1, m := wrap64 (s.m - 1), e := 0 }
def svN (tw : List Int) (l : List ByteArray) (s : SvS) : Nat → SvS
  | 0 => s
  | i + 1 => svStep tw l (svN tw l s i) i
theorem svN_over (tw : List Int) (l : List ByteArray) (s : SvS) (i : Nat) (h : (svN tw l s i).st ≠ 0) (d : Nat) : svN tw l s (i + d) = svN tw l s i := by
  induction d with
  | zero => rfl
  | succ d ih =>
    show svStep tw l (svN tw l s (i + d)) (i + d) = _
    rw [ih]
    unfold svStep
    rw [if_pos h]
/-- What slot.Save answers, once the shelf is loaded and the pages have room. -/
def endV (tw : List Int) (l : List ByteArray) (t : ByteArray) (s : SvS) : List ByteArray × List S73 × Bool × Int :=
  if (svN tw l s (l.length + 1)).st = 1 then ((svN tw l s (l.length + 1)).b, (svN tw l s (l.length + 1)).u, false, 0)
  else if (svN tw l s (l.length + 1)).st = 2 then ([], [], false, (svN tw l s (l.length + 1)).e)
  else stopV (svN tw l s (l.length + 1)).b (svN tw l s (l.length + 1)).u 0 t (svN tw l s (l.length + 1)).m
/-- What slot.Save answers. -/
def saveV (l : List ByteArray) (u : List S73) (t : List ByteArray) (m : Int) : List ByteArray × List S73 × Bool × Int :=
  if ¬ (loadV l u).2.2.2 = 0 then ([], [], false, (loadV l u).2.2.2) else
  if t.any (fun s => decide (200 < s.size)) = true then ([], [], false, 2) else
  if (freeK (loadV l u).2.1 l.length).length < t.length then ([], [], false, 41) else
  if ¬ (namedV ((freeK (loadV l u).2.1 l.length).take t.length)).2 = 0 then ([], [], false, 2) else
  endV (freeK (loadV l u).2.1 l.length) t (namedV ((freeK (loadV l u).2.1 l.length).take t.length)).1 ⟨0, l, u, m, 0⟩
/-- What is loaded without an error lies on a disk that may be. -/
theorem loadV_check (l : List ByteArray) (u : List S73) (h : (loadV l u).2.2.2 = 0) : checkB l u = true := by
  by_cases hc : checkB l u = true
  · exact hc
  · exfalso
    have hc' : checkB l u = false := by simpa using hc
    unfold loadV at h
    rw [if_neg (fun q => hc q.1)] at h
    have hg : ¬ (getT l u 0).2.2 = 0 := by
      unfold getT pairV readV
      simp [hc']
    rw [if_pos hg] at h
    exact hg h
end Go.Proofs.Ytkgcaheddhfpgaa.P
/-
  A range over an iterator that lays memory of its own for what it yields: the round is told a fact on the yielded value and the world.
-/
namespace Go.Proofs.Ytkgcaheddhfpgaa.P
open Go.RowKit

/-- An iterator's contract: at each yield, Fx of what has come, the value, and the world. -/
def SeqFx {α : Type} (n : Nat) (P : Program) (g : Nat) (lb : Array Value) (encs : α → Array Value) (Fx : List α → α → World → Prop) (Kp : World → World → Prop) (S : List α → Prop) (w : World) : Prop :=
  ∀ (l : Nat) (J Jx : List α → World → Prop) (W : World), Below w.heap.size w W → AbidesFrom W.heap.size J → AbidesFrom W.heap.size Jx →
    (∀ pre x W1, J pre W1 → Fx pre x W1 → YieldAt Fence.wide (n - 1) P l (encs x) W1 fun e W' =>
      (e = .returned (.bool true) ∧ J (pre ++ [x]) W' ∧ Kp W1 W') ∨ (e = .returned (.bool false) ∧ Jx (pre ++ [x]) W')) →
    J [] W →
    CallsIn Fence.wide n P g (#[.func (.yield l) #[] #[]] ++ lb) W fun e W' => (∃ v, e = .returned v) ∧ ((∃ xs, S xs ∧ J xs W') ∨ (∃ pre, Jx pre W'))

/-- The two blocks of a loop's book-keeping: the rounds' deferred calls (none), the record behind. -/
def BookAt (b : Nat) (r : Loop) (W : World) : Prop := W.heap[b]? = some (.deferred (some [])) ∧ W.heap[b + 1]? = some (.loop r)
theorem BookAt.kept {b : Nat} {r : Loop} {W W' : World} (h : BookAt b r W) {row : Option Nat} (hg : W.grownBy W' row) (hr : ∀ k, row = some k → ∃ o : Obj, W.heap[k]? = some o ∧ o.isWalk = true) : BookAt b r W' :=
  ⟨(grownBy_keeps hg hr h.1 rfl).trans h.1, (grownBy_keeps hg hr h.2 rfl).trans h.2⟩
theorem BookAt.from {b B : Nat} {r : Loop} {W W' : World} (h : BookAt b r W) (hB : B ≤ b) (hk : KeepsFrom B W W') : BookAt b r W' :=
  ⟨hk.same _ _ hB h.1 rfl, hk.same _ _ (by omega) h.2 rfl⟩
theorem BookAt.put {b : Nat} {r : Loop} {W : World} (r' : Loop) (h : BookAt b r W) : BookAt b r' (W.putObj (b + 1) (.loop r')) :=
  ⟨(World.putObj_heap_other (by omega)).trans h.1, World.putObj_heap_same (Array.getElem?_eq_some_iff.1 h.2).1⟩

/-- How a round ends, told once for each way out of its body. -/
theorem round_end {P : Program} {b : Nat} {r : Loop} {W : World} (jump : Option Code) (h : BookAt b r W) :
    (Instr.endRound (b + 1) jump).run P W = .ok (.bool jump.isNone) (W.putObj (b + 1) (.loop { r with state := if jump.isNone then .ready else .done, pending := jump })) := run_endRound (P := P) jump h.2

set_option maxHeartbeats 1000000 in
theorem wpIn_rangeFx {α : Type} {n : Nat} {P : Program} {g : Operand} {ps : Array Tmp} {assign body : Code} {Q : Exit → Act → World → Prop} {a : Act} {w : World}
    (h1 : 1 ≤ n) {gf : Nat} {lb : Array Value} (hg : a.eval g = .func (.func gf) #[] lb) (eg : ∀ args w, (callFunc gf args).run P w = .ok (.enter gf args) w)
    {encs : α → Array Value} {Fx : List α → α → World → Prop} {Kp : World → World → Prop} {S : List α → Prop} {w0 : World} (hseq : SeqFx (n - 1) P gf lb encs Fx Kp S w0)
    (hKt : ∀ {A B C : World}, Kp A B → Kp B C → Kp A C) (hKb : ∀ (W : World) (l : Nat) (o o' : Obj), w.heap.size ≤ l → W.heap[l]? = some o → o.isCells = false → o.isWalk = false → Kp W (W.putObj l o'))
    (hFb : ∀ (pre : List α) (x : α) (W : World) (l : Nat) (o o' : Obj), w.heap.size ≤ l → W.heap[l]? = some o → o.isCells = false → Fx pre x W → Fx pre x (W.putObj l o'))
    (hb0 : Below w0.heap.size w0 w) (hps : ∀ x, (encs x).size = ps.size)
    (I : List α → World → Prop) (Ix : Code → List α → World → Prop) (hI : OwnFrom w.heap.size I) (hIx : ∀ c, OwnFrom w.heap.size (Ix c)) (h0 : I [] w)
    (hround : ∀ (l : Nat) (pre : List α) (x : α) (W : World), I pre W → Fx pre x W → assign.wpIn (Fence.wide.inRound l) (n - 1 - 1) P (Exit.then (fun a₁ W₁ => W₁ = W ∧ ∀ W2, I pre W2 → Fx pre x W2 → body.wpIn (Fence.wide.inRound l) (n - 1 - 1) P (ownPostG w.heap.size Kp I Ix (pre ++ [x]) W2) a₁ W2) (fun _ _ _ => False)) { tmps := (ps.zip (encs x)).foldl (fun t (p, v) => t.setIfInBounds p v) a.tmps, defers := [] } W)
    (hdone : ∀ (D : Nat) (xs : List α) (W : World), w.heap.size ≤ D → S xs → I xs W → W.heap[D]? = some (.deferred (some [])) → Q .normal { a with defers := { target := .collected D, args := #[] } :: a.defers } W)
    (hstop : ∀ (D : Nat) (c : Code) (pre : List α) (W : World), w.heap.size ≤ D → Ix c pre W → W.heap[D]? = some (.deferred (some [])) → c.wpIn Fence.wide n P Q { a with defers := { target := .collected D, args := #[] } :: a.defers } W) :
    (Code.rangeFunc g ps assign body).wpIn Fence.wide n P Q a w := by
  refine wpIn_rangeFunc (fun fn _ => ?_)
  obtain ⟨b, hb⟩ : ∃ b, b = w.heap.size := ⟨_, rfl⟩
  obtain ⟨rc, hrc⟩ : ∃ rc : Loop, rc = { state := .ready, pending := none, fn, tmps := a.tmps, params := ps, assign, body, defers := b } := ⟨_, rfl⟩
  obtain ⟨W1, hW1⟩ : ∃ W1, W1 = (w.alloc (.deferred (some []))).alloc (.loop rc) := ⟨_, rfl⟩
  have hsz : W1.heap.size = b + 2 := by rw [hW1, World.size_alloc, World.size_alloc, hb]
  have hbook : BookAt b rc W1 := by
    constructor
    · rw [hW1, hb]; exact (Below.heap_alloc _ _ _ (by simp)).trans (World.alloc_heap_new w _)
    · have := World.alloc_heap_new (w.alloc (.deferred (some []))) (.loop rc)
      rw [World.size_alloc] at this
      rw [hW1, hb]; exact this
  have hI1 : I [] W1 := by rw [hW1]; exact hI.alloc _ (hI.alloc _ h0)
  have hbw : Below b w W1 := by rw [hW1, hb]; exact ((Below.refl _ w).alloc (Nat.le_refl _) _).alloc (by simp) _
  -- what an iterator's step turns is no cells and lies from b on
  have hturn : ∀ {A : World} {row : Option Nat}, (∀ k, row = some k → W1.heap.size ≤ k ∧ ∃ o : Obj, A.heap[k]? = some o ∧ o.isWalk = true) → (∀ k, row = some k → w.heap.size ≤ k ∧ ∃ o : Obj, A.heap[k]? = some o ∧ o.isCells = false) := by
    intro A row hr k e
    obtain ⟨hk, o, ho, hw⟩ := hr k e
    exact ⟨by omega, o, ho, Obj.not_cells_of_walk hw⟩
  refine ⟨b + 1, [{ target := .collected b, args := #[] }], W1, { target := .fn (.func gf) lb, args := #[.func (.yield (b + 1)) #[] #[]] }, W1, gf, #[.func (.yield (b + 1)) #[] #[]] ++ lb, W1, ?_, ?_, fun _ _ => trivial, ?_, fun _ => h1, ?_⟩
  · rw [hW1, hrc, hb]; exact run_enterLoop_outer _ _ _ _ _
  · simp only [resolve, hg]
    simp [go_sem]
  · simp [invoke, go_sem, eg]
  refine (hseq (b + 1) (fun pre W => I pre W ∧ BookAt b rc W) (fun pre W => ∃ c, Ix c pre W ∧ BookAt b { rc with state := .done, pending := some c } W) W1 (hb0.trans (hbw.mono (by rw [hb]; exact hb0.size)))
    (fun s A B row hs hg' hr => ⟨hI s A B row hs.1 hg' (hturn hr), hs.2.kept hg' (fun k e => (hr k e).2)⟩)
    (fun s A B row hs hg' hr => ⟨hs.choose, (hIx _) s A B row hs.choose_spec.1 hg' (hturn hr), hs.choose_spec.2.kept hg' (fun k e => (hr k e).2)⟩)
    ?_ ⟨hI1, hbook⟩).mono ?_
  · -- a round
    rintro pre x W ⟨hi, hk⟩ hfx
    have hrdy : rc.state = .ready := by rw [hrc]
    have hy := run_yield (P := P) (args := encs x) hk.2 (by rw [hrc]; exact hps x)
    rw [hrc] at hy
    refine ⟨fn, _, assign, body, hy, roundIn_of_wpIn trivial (wpIn_mono (hround _ pre x W hi hfx) ?_)⟩
    rintro e a₁ W₁ he
    cases e with
    | exit id => exact he
    | goto t => exact he
    | ret => exact he
    | panic ch => exact he
    | outgrown => exact he
    | normal => ?_
    obtain ⟨hWe, hbody⟩ := he
    rw [hWe]
    clear hWe
    refine ⟨_, run_beginRound hk.2 hrdy, ?_⟩
    have hlo : w.heap.size ≤ b + 1 := by omega
    refine wpIn_mono (hbody _ (hI.putObj _ hi hlo hk.2 rfl) (hFb pre x _ _ _ _ hlo hk.2 rfl hfx)) ?_
    have hk2 := hk.put { rc with state := .busy }
    have hw2 : Kp W (W.putObj (b + 1) (.loop { rc with state := .busy })) := hKb _ _ _ _ hlo hk.2 rfl rfl
    have hover : ∀ (c : Code) (W3 : World), KeepsFrom w.heap.size (W.putObj (b + 1) (.loop { rc with state := .busy })) W3 → Ix c (pre ++ [x]) W3 →
        ∃ v W4, (Instr.endRound (b + 1) (some c)).run P W3 = .ok v W4 ∧ ((Ending.returned v = .returned (.bool true) ∧ (I (pre ++ [x]) W4 ∧ BookAt b rc W4) ∧ Kp W W4) ∨ (Ending.returned v = .returned (.bool false) ∧ ∃ c', Ix c' (pre ++ [x]) W4 ∧ BookAt b { rc with state := .done, pending := some c' } W4)) := by
      intro c W3 hk3 hi3
      have hb3 := hk2.from (by omega) hk3
      exact ⟨_, _, round_end (some c) hb3, .inr ⟨rfl, c, (hIx c).putObj _ hi3 hlo hb3.2 rfl, hb3.put _⟩⟩
    rintro e a3 W3 hp
    cases e with
    | normal =>
      obtain ⟨hk3, hkp3, hi3⟩ := hp
      have hb3 := hk2.from (by omega) hk3
      refine ⟨_, _, round_end none hb3, .inl ⟨rfl, ⟨hI.putObj _ hi3 hlo hb3.2 rfl, ?_⟩, hKt (hKt hw2 hkp3) (hKb _ _ _ _ hlo hb3.2 rfl rfl)⟩⟩
      have := hb3.put { rc with state := .ready, pending := none }
      rw [hrc] at this ⊢
      exact this
    | ret => exact hover .ret W3 hp.1 hp.2
    | exit id => exact hover (.exit id) W3 hp.1 hp.2
    | goto t => exact hover (.goto t) W3 hp.1 hp.2
    | panic ch => exact hp.elim
    | outgrown => exact hp.elim
  · -- behind the iterator
    have hlo : w.heap.size ≤ b + 1 := by omega
    rintro e W2 ⟨⟨v, rfl⟩, (⟨xs, hS, hi, hk⟩ | ⟨pre, c, hi, hk⟩)⟩
    · have hQ := hdone b xs _ (by omega) hS (hI.putObj (.loop { rc with state := .exhausted }) hi hlo hk.2 rfl) ((World.putObj_heap_other (by omega)).trans hk.1)
      refine ⟨none, _, ?_, hQ⟩
      have := run_endLoop (P := P) hk.2 (by rw [hrc]; simp)
      rw [this]
      rw [hrc]
    · have hQ := hstop b c pre _ (by omega) ((hIx c).putObj (.loop { rc with state := .exhausted, pending := some c }) hi hlo hk.2 rfl) ((World.putObj_heap_other (by omega)).trans hk.1)
      exact ⟨some c, _, run_endLoop (P := P) hk.2 (by simp), hQ⟩
end Go.Proofs.Ytkgcaheddhfpgaa.P
/-
  A page's write, as a deed of slot.Save, by hand.
-/
namespace Go.Proofs.Ytkgcaheddhfpgaa.P
open Go.RowKit Go.Proofs.YtkgcaheddhfpgaaW.PrintWords Go.Proofs.YtkgcaheddhfpgaaW.PrintLast

set_option maxHeartbeats 8000000 in
set_option maxRecDepth 100000 in
theorem slot_deed_calls (A0 : Option Addr) (c0 : Nat) (l0 : List ByteArray) (A1 : Option Addr) (c1 : Nat) (l1 : List S73) (AT0 : Option Addr) (tw : List Int) (cT : Nat) (i : Int) (f : ByteArray) (b1 : List ByteArray) (u1 : List S73) (e1 : Int) (B1 B2 B3 : Nat) (w : World)
    (hr0 : Kd.C Kd.string w A0 l0.length l0) (hc0 : l0.length ≤ c0) (hr1 : Kd.C k73 w A1 l1.length l1) (hc1 : l1.length ≤ c1) (hrT : Kd.C (Kd.int .i64) w AT0 tw.length tw) (hi0 : 0 ≤ i) (hi1 : i < tw.length) (h : writeV l0 l1 (rd tw i) f = (b1, u1, e1))
    (hA : w.heap[B1]? = some (.cells #[.slice AT0 tw.length cT] 39 (0, 0))) (hL : w.heap[B2]? = some (.cells #[.int .i64 i] 3 (0, 0))) (hF : w.heap[B3]? = some (.cells #[.string f] 9 (0, 0))) :
    Calls Try.prog 60 #[.agg #[.slice A0 l0.length c0, .slice A1 l1.length c1], .pointer (some ⟨B1, 0, none⟩), .pointer (some ⟨B2, 0, none⟩), .pointer (some ⟨B3, 0, none⟩)] w fun e w' => ∃ v0_ v1_ : Value, e = .returned (.tuple #[.agg #[v0_, v1_], .int .i64 e1]) ∧ Kd.R Kd.string 9 w' w.heap.size (fun _ => True) v0_ b1 ∧ Kd.R k73 73 w' w.heap.size (fun _ => True) v1_ u1 ∧ Below w.heap.size w w' := by
  obtain ⟨AT, rfl, hcT⟩ := Kd.at_int hrT i hi0 hi1
  have hltT := World.block_lt_of_cell? w _ hcT
  have HT : ∀ W, Below w.heap.size w W → W.cell? (AT.add i.toNat) = some (.int .i64 (rd tw i)) := fun W hb => (hb.cell hltT).trans hcT
  have HW := Aside0.mk (fun (W : World) (hb : Below w.heap.size w W) => disk_Write.calls A0 c0 l0 A1 c1 l1 (rd tw i) f b1 u1 e1 W (Kd.C_below hr0 hb) hc0 (Kd.C_below hr1 hb) hc1 (congrArg some h))
  have HBd0 := ((Below.refl w.heap.size w).alloc (Nat.le_refl _) (.cells #[.slice A0 l0.length c0, .slice A1 l1.length c1] 25)).alloc (by simp) (.cells #[.slice none 0 0, .slice none 0 0] 25)
  have HDd := Aside0.mk (blk_drew (blk_alloc (blk_new w (.cells #[.slice A0 l0.length c0, .slice A1 l1.length c1] 25)) (.cells #[.slice none 0 0, .slice none 0 0] 25)))
  have hE := blk_drew (blk_new (w.alloc (.cells #[.slice A0 l0.length c0, .slice A1 l1.length c1] 25)) (.cells #[.slice none 0 0, .slice none 0 0] 25))
  rw [World.size_alloc] at hE
  have HEd := Aside0.mk hE
  have HAd := Aside0.mk (blk_drew (blk_alloc (blk_alloc hA (.cells #[.slice A0 l0.length c0, .slice A1 l1.length c1] 25)) (.cells #[.slice none 0 0, .slice none 0 0] 25)))
  have HLd := Aside0.mk (blk_drew (blk_alloc (blk_alloc hL (.cells #[.slice A0 l0.length c0, .slice A1 l1.length c1] 25)) (.cells #[.slice none 0 0, .slice none 0 0] 25)))
  have HFd := Aside0.mk (blk_drew (blk_alloc (blk_alloc hF (.cells #[.slice A0 l0.length c0, .slice A1 l1.length c1] 25)) (.cells #[.slice none 0 0, .slice none 0 0] 25)))
  have HBd := Aside0.mk (below_drew1 HBd0)
  have p0 : (0 ≤ i) = True := eq_true hi0
  have p1 : (i < (tw.length : Int)) = True := eq_true hi1
  have p1d : decide (i < (tw.length : Int)) = true := decide_eq_true hi1
  clear hr0 hr1 hrT hE hA hL hF HBd0 h hi0 hi1 hcT hltT
  go_enter Try.func60, Try.ntmps60
  go_wp2
  refine start_ (n := 11) (S := fun w' => w'.cell? ⟨w.heap.size, 0, none⟩ = some (.slice A0 l0.length c0) ∧ w'.cell? ⟨w.heap.size, 1, none⟩ = some (.slice A1 l1.length c1) ∧ w'.cell? ⟨B1, 0, none⟩ = some (.slice (some AT) tw.length cT) ∧ w'.cell? ⟨B2, 0, none⟩ = some (.int .i64 i) ∧ w'.cell? ⟨B3, 0, none⟩ = some (.string f) ∧ w'.cell? (AT.add i.toNat) = some (.int .i64 (rd tw i))) (ds := [9]) #[false, false, false, false, false, false, false, false, false, false, false] (by kernel_rfl) rfl rfl ⟨(blk_cell HDd.out 0).trans rfl, (blk_cell HDd.out 1).trans rfl, (blk_cell HAd.out 0).trans rfl, (blk_cell HLd.out 0).trans rfl, (blk_cell HFd.out 0).trans rfl, (HT _ HBd.out)⟩ (fun hHeld => ?_)
  generalize World.drew _ = w1 at HDd HEd HAd HLd HFd HBd hHeld ⊢
  have HD1 := HDd
  have HE1 := HEd
  have HA1 := HAd
  have HL1 := HLd
  have HF1 := HFd
  have HB1 := HBd
  refine take_ (i := 0) (N := some 7) (v := ?_) (a' := ?_) #[true, false, false, false, false, false, false, false, false, false, false] rfl rfl (by kernel_rfl) (fun _ _ _ h => h) (Or.inl ⟨by rfl, ?_⟩) hHeld ?_ ?_
  rotate_left
  · rintro w' ⟨s0, s1, s2, s3, s4, s5⟩
    go_simp
    with_reducible rfl
  rotate_left
  · simp only [Act.put, List.setIfInBounds_toArray, List.set_cons_zero, List.set_cons_succ, i64_w, i32_w]
    rfl
  refine take_ (i := 1) (N := some 8) (v := ?_) (a' := ?_) #[true, true, false, false, false, false, false, false, false, false, false] rfl rfl (by kernel_rfl) (fun _ _ _ h => h) (Or.inl ⟨by rfl, ?_⟩) hHeld ?_ ?_
  rotate_left
  · rintro w' ⟨s0, s1, s2, s3, s4, s5⟩
    go_simp
    with_reducible rfl
  rotate_left
  · simp only [Act.put, List.setIfInBounds_toArray, List.set_cons_zero, List.set_cons_succ, i64_w, i32_w]
    rfl
  refine take_ (i := 2) (N := some 9) (v := ?_) (a' := ?_) #[true, true, true, false, false, false, false, false, false, false, false] rfl rfl (by kernel_rfl) (fun _ _ _ h => h) (Or.inl ⟨by rfl, ?_⟩) hHeld ?_ ?_
  rotate_left
  · rintro w' ⟨s0, s1, s2, s3, s4, s5⟩
    go_simp
    with_reducible rfl
  rotate_left
  · simp only [Act.put, List.setIfInBounds_toArray, List.set_cons_zero, List.set_cons_succ, i64_w, i32_w]
    rfl
  refine pure_ (i := 3) (N := some 10) (v := ?_) (a' := ?_) #[true, true, true, true, false, false, false, false, false, false, false] rfl rfl (by kernel_rfl) (fun _ _ _ h => h) (Or.inl ⟨by rfl, ?_⟩) ?_ ?_
  rotate_left
  · intro w'
    go_simp
    with_reducible rfl
  rotate_left
  · simp only [Act.put, List.setIfInBounds_toArray, List.set_cons_zero, List.set_cons_succ, i64_w, i32_w]
    rfl
  refine take_ (i := 4) (N := some 11) (v := ?_) (a' := ?_) #[true, true, true, true, true, false, false, false, false, false, false] rfl rfl (by kernel_rfl) (fun _ _ _ h => h) (Or.inl ⟨by rfl, ?_⟩) hHeld ?_ ?_
  rotate_left
  · rintro w' ⟨s0, s1, s2, s3, s4, s5⟩
    go_simp
    with_reducible rfl
  rotate_left
  · simp only [Act.put, List.setIfInBounds_toArray, List.set_cons_zero, List.set_cons_succ, i64_w, i32_w]
    rfl
  refine take_ (i := 5) (N := some 12) (v := ?_) (a' := ?_) #[true, true, true, true, true, true, false, false, false, false, false] rfl rfl (by kernel_rfl) (fun _ _ _ h => h) (Or.inl ⟨by rfl, ?_⟩) hHeld ?_ ?_
  rotate_left
  · rintro w' ⟨s0, s1, s2, s3, s4, s5⟩
    go_simp
    with_reducible rfl
  rotate_left
  · simp only [Act.put, List.setIfInBounds_toArray, List.set_cons_zero, List.set_cons_succ, i64_w, i32_w]
    rfl
  refine one_ (i := 6) (N := some 13) #[true, true, true, true, true, true, true, false, false, false, false] rfl rfl (by kernel_rfl) (by decide) (fun K hK => ?_)
  refine goes_ Try.func33 (by kernel_rfl) rfl #[.agg #[.slice A0 l0.length c0, .slice A1 l1.length c1], .int .i64 (rd tw i), .string f] (by rfl) rfl rfl (by (try simp only [List.map_toArray, List.map_cons, List.map_nil]); first | done | rfl) ?_
  refine (HW.out w1 HB1.out).mono ?_
  rintro e w4 ⟨v0, v1, rfl, hR0, hR1, hb⟩
  refine ⟨_, rfl, ?_⟩
  obtain ⟨A4, c4, rfl⟩ := Kd.R_slice hR0
  obtain ⟨A5, c5, rfl⟩ := Kd.R_slice hR1
  have HP4 := Aside0.mk (Kd.R_lower hR0 HB1.out.size)
  have HQ4 := Aside0.mk (Kd.R_lower hR1 HB1.out.size)
  have HD4 := Aside0.mk (blk_below HD1.out hb)
  have HE4 := Aside0.mk (blk_below HE1.out hb)
  have HA4 := Aside0.mk (blk_below HA1.out hb)
  have HL4 := Aside0.mk (blk_below HL1.out hb)
  have HF4 := Aside0.mk (blk_below HF1.out hb)
  have HB4 := Aside0.mk (HB1.out.trans (hb.mono HB1.out.size))
  clear hb hR0 hR1
  have z0 := blk_cell HE4.out 0
  have z1 := blk_cell HE4.out 1
  have f0 := blk_frozen HE4.out 0
  have f1 := blk_frozen HE4.out 1
  refine hK.out _ _ ⟨(blk_cell HD4.out 0).trans rfl, (blk_cell HD4.out 1).trans rfl, (blk_cell HA4.out 0).trans rfl, (blk_cell HL4.out 0).trans rfl, (blk_cell HF4.out 0).trans rfl, (HT _ HB4.out)⟩ (fun hHeld => ?_)
  clear hK K
  refine norm_ (a' := ?_) ?_ ?_
  rotate_left
  · show Act.put _ (some 13) _ = _
    simp only [Act.put, List.setIfInBounds_toArray, List.set_cons_zero, List.set_cons_succ, i64_w, i32_w]
    rfl
  refine pure_ (i := 7) (N := some 14) (v := ?_) (a' := ?_) #[true, true, true, true, true, true, true, true, false, false, false] rfl rfl (by kernel_rfl) (fun _ _ _ h => h) (Or.inl ⟨by rfl, ?_⟩) ?_ ?_
  rotate_left
  · intro w'
    go_simp
    with_reducible rfl
  rotate_left
  · simp only [Act.put, List.setIfInBounds_toArray, List.set_cons_zero, List.set_cons_succ, i64_w, i32_w]
    rfl
  refine pure_ (i := 8) (N := some 15) (v := ?_) (a' := ?_) #[true, true, true, true, true, true, true, true, true, false, false] rfl rfl (by kernel_rfl) (fun _ _ _ h => h) (Or.inl ⟨by rfl, ?_⟩) ?_ ?_
  rotate_left
  · intro w'
    go_simp
    with_reducible rfl
  rotate_left
  · simp only [Act.put, List.setIfInBounds_toArray, List.set_cons_zero, List.set_cons_succ, i64_w, i32_w]
    rfl
  refine last_ (i := 9) (N := none) #[true, true, true, true, true, true, true, true, true, true, false] rfl rfl (by kernel_rfl) (by decide) (fun K hK => ?_)
  refine skip_ (w1 := ?_) (by rfl) rfl ?_ ?_
  rotate_left
  · go_simp
    rfl
  refine hK.out _ _ ?_
  clear hK K
  refine pure_ (i := 10) (N := some 6) (v := ?_) (a' := ?_) #[true, true, true, true, true, true, true, true, true, true, true] rfl rfl (by kernel_rfl) (fun _ _ _ h => h) (Or.inl ⟨by rfl, ?_⟩) ?_ ?_
  rotate_left
  · intro w'
    go_simp
    with_reducible rfl
  rotate_left
  · simp only [Act.put, List.setIfInBounds_toArray, List.set_cons_zero, List.set_cons_succ, i64_w, i32_w]
    rfl
  refine done_ (by kernel_rfl) ?_
  have HE5 := blk_set HE4.out 0 (.slice A4 b1.length c4)
  have HE6 := blk_set HE5 1 (.slice A5 u1.length c5)
  have g0 := blk_cell HE6 0
  have g1 := blk_cell HE6 1
  have qs : ∀ q, q ∈ 9 :: Kd.string.E → q ≠ 25 := by intro q hq; simp [Kd.string, Kd.scalar] at hq; subst hq; decide
  have qw : ∀ q, q ∈ 73 :: k73.E → q ≠ 25 := by intro q hq; simp [k73, Kd.iso, Kd.pair, Kd.int, Kd.string, Kd.scalar] at hq; subst hq; decide
  have HP6 := Aside0.mk (Kd.R_set (Kd.R_set HP4.out HE4.out qs 0 (.slice A4 b1.length c4)) HE5 qs 1 (.slice A5 u1.length c5))
  have HQ6 := Aside0.mk (Kd.R_set (Kd.R_set HQ4.out HE4.out qw 0 (.slice A4 b1.length c4)) HE5 qw 1 (.slice A5 u1.length c5))
  have HB6 := Aside0.mk ((HB4.out.setCell (p := ⟨w.heap.size + 1, 0, none⟩) (by show w.heap.size ≤ w.heap.size + 1; omega) (.slice A4 b1.length c4)).setCell (p := ⟨w.heap.size + 1, 1, none⟩) (by show w.heap.size ≤ w.heap.size + 1; omega) (.slice A5 u1.length c5))
  clear HE5 HE6 qs qw
  go_wp2
  refine bodyPost_ret (v := .tuple #[.agg #[.slice A4 b1.length c4, .slice A5 u1.length c5], .int .i64 e1]) ?_ rfl ⟨_, _, rfl, HP6.out, HQ6.out, HB6.out⟩
  simp [results, Try.results60, go_sem, g0, g1]
end Go.Proofs.Ytkgcaheddhfpgaa.P
/-
  slot.deeds, by hand: an iterator over a Save's deeds.
-/
namespace Go.Proofs.Ytkgcaheddhfpgaa.P
open Go.RowKit Go.Shelf Go.Proofs.CodecPlain Go.Proofs.YtkgcaheddhfpgaaW.PrintWords Go.Proofs.YtkgcaheddhfpgaaW.PrintLast Go.Proofs.YtkgcaheddhfpgaaW.PrintMore

attribute [local go_sem] Oper.semAt_some

/-- A deed that is yielded: a write (its number's and its frame's boxes), or Sync. -/
abbrev DeedX := Option (Nat × Nat)
def valD (Bt : Nat) : DeedX → Value
  | some (bi, bf) => .func (.func 60) #[] #[.pointer (some ⟨Bt, 0, none⟩), .pointer (some ⟨bi, 0, none⟩), .pointer (some ⟨bf, 0, none⟩)]
  | none => .func (.func 34) #[] #[]
def encD (Bt : Nat) (x : DeedX) : Array Value := #[valD Bt x]
/-- What is told of a deed at its yield. -/
def FxD (l : List ByteArray) (pre : List DeedX) : DeedX → World → Prop
  | some (bi, bf), W => pre.length < l.length ∧ Boxed W bi 3 (.int .i64 (pre.length : Int)) ∧ Boxed W bf 9 (.string (frameOf (rdOf ByteArray.empty l (pre.length : Int))))
  | none, _ => pre.length = l.length

theorem grown_of_below {W W' : World} (h : Below W.heap.size W W') : W.grownBy W' none := ⟨h.os, h.tape, h.output, h.size, fun k hk _ => h.block k hk⟩
theorem abides_step {β : Type} {B : Nat} {J : β → World → Prop} (h : AbidesFrom B J) {s : β} {W W' : World} (hs : J s W) (hb : Below W.heap.size W W') : J s W' :=
  h s W W' none hs (grown_of_below hb) (fun _ e => by cases e)

set_option maxHeartbeats 1000000 in
theorem slot_deeds_in (m : Nat) (A : Option Addr) (n c : Nat) (AT : Option Addr) (nT cT : Nat) (w : World) :
    CallsIn Fence.wide m Try.prog 45 #[.slice A n c, .slice AT nT cT] w fun e w' => e = .returned (.func (.func 59) #[] #[.pointer (some ⟨w.heap.size, 0, none⟩), .pointer (some ⟨w.heap.size + 1, 0, none⟩)]) ∧ w' = (w.alloc (.cells #[.slice A n c] 22)).alloc (.cells #[.slice AT nT cT] 39) := by
  refine callsIn_of_wp Try.func45 rfl trivial ?_ rfl
  simp only [Try.ntmps45, List.size_toArray, List.length_cons, List.length_nil, Nat.reduceAdd, Nat.reduceSub, Array.replicate_succ, Array.replicate_zero, List.push_toArray, List.append_toArray, List.nil_append, List.cons_append]
  gi_wp2
  go_ret
  exact ⟨rfl, rfl⟩

set_option maxRecDepth 100000 in
set_option maxHeartbeats 4000000 in
theorem slot_deeds1_in (n : Nat) (hn : 1 ≤ n) (w0 : World) (A : Option Addr) (c : Nat) (l : List ByteArray) (hr : Kd.C Kd.string w0 A l.length l) (hs : ∀ s ∈ l, s.size ≤ 200) (hl : l.length ≤ 1000000) (lo Bl Bt : Nat) (J Jx : List DeedX → World → Prop) (W : World)
    (hW : Below w0.heap.size w0 W) (hJ : AbidesFrom W.heap.size J)
    (hY : ∀ pre x W1, J pre W1 → FxD l pre x W1 → YieldAt Fence.wide (n - 1) Try.prog lo (encD Bt x) W1 fun e W' =>
      (e = .returned (.bool true) ∧ J (pre ++ [x]) W' ∧ Below w0.heap.size W1 W') ∨ (e = .returned (.bool false) ∧ Jx (pre ++ [x]) W'))
    (hBl : Boxed W Bl 22 (.slice A l.length c)) (h0 : J [] W) :
    CallsIn Fence.wide n Try.prog 59 #[.func (.yield lo) #[] #[], .pointer (some ⟨Bl, 0, none⟩), .pointer (some ⟨Bt, 0, none⟩)] W fun e W' => (∃ v, e = .returned v) ∧
      ((∃ xs, xs.length = l.length + 1 ∧ J xs W') ∨ (∃ pre, Jx pre W')) := by
  have HW := Aside0.mk hW
  have HS := Aside0.mk hs
  have hcl := hBl.cell
  have HY := Aside0.mk hY
  have HJ := Aside0.mk hJ
  clear hs hW hY hJ
  refine callsIn_of_wp Try.func59 rfl trivial ?_ rfl
  simp only [Try.ntmps59, List.size_toArray, List.length_cons, List.length_nil, Nat.reduceAdd, Nat.reduceSub, Array.replicate_succ, Array.replicate_zero, List.push_toArray, List.append_toArray, List.nil_append, List.cons_append]
  gi_wp2
  gi_loopw [10] (fun i wr => ∃ j : Nat, j ≤ l.length ∧ i = .int .i64 j ∧ As (∃ pre, pre.length = j ∧ J pre wr) ∧ As (Below w0.heap.size w0 wr))
    (fun i _ => l.length - (intOf i).toNat)
  case atStart => exact ⟨0, Nat.zero_le _, rfl, ⟨[], rfl, h0⟩, ⟨HW.out⟩⟩
  case round =>
    obtain ⟨j, hj, rfl, hJp, hB⟩ := hrel
    by_cases hjl : j < l.length
    · have c1 : decide ((j : Int) < (l.length : Int)) = true := decide_eq_true (by omega)
      obtain ⟨ad, hA, hx⟩ := Kd.at_string (Kd.C_below hr hB.out) (j : Int) (by omega) (by omega)
      subst hA
      have p0 : (0 ≤ (j : Int)) = True := eq_true (by omega)
      have p1 : ((j : Int) < (l.length : Int)) = True := eq_true (by omega)
      obtain ⟨t, ht⟩ : ∃ t, t = rdOf ByteArray.empty l (j : Int) := ⟨_, rfl⟩
      rw [← ht, Int.toNat_natCast] at hx
      have htz : t.size ≤ 200 := by
        rw [ht]
        simp only [rdOf, Int.toNat_natCast]
        rw [List.getD_eq_getElem?_getD, List.getElem?_eq_getElem hjl]
        exact HS.out _ (List.getElem_mem hjl)
      have HPut := Aside0.mk (fun W => crc_Put.calls t (frameOf t) 0 W (by rw [put_f, if_pos (by omega)]))
      have HT := Aside0.mk ht
      clear ht htz
      gi_wp2
      refine ⟨trivial, (callsIn_wide.2 (HPut.out _)).mono ?_⟩
      rintro e w3 ⟨rfl, hb3⟩
      have hI3 : Boxed w3 wr.heap.size 3 (.int .i64 (j : Int)) := (hb3.block _ (by simp)).trans (Boxed.new wr 3 (.int .i64 (j : Int)))
      have hI4 := Boxed.alloc hI3 (.cells #[.string (frameOf t)] 9)
      have hF4 := Boxed.new w3 9 (.string (frameOf t))
      have hB4 := Aside0.mk (((hB.out.alloc hB.out.size (.cells #[.int .i64 (j : Int)] 3)).trans (hb3.mono (by have := hB.out.size; simp; omega))).alloc (by have := hB.out.size; have := hb3.size; simp at this; omega) (.cells #[.string (frameOf t)] 9))
      obtain ⟨pre, hpl, hJ1⟩ := hJp.out
      have hJ4 : J pre (w3.alloc (.cells #[.string (frameOf t)] 9)) := abides_step HJ.out (abides_step HJ.out (abides_step HJ.out hJ1 ((Below.refl _ wr).alloc (Nat.le_refl _) _)) hb3) ((Below.refl _ w3).alloc (Nat.le_refl _) _)
      have hFx : FxD l pre (some (wr.heap.size, w3.heap.size)) (w3.alloc (.cells #[.string (frameOf t)] 9)) := by
        refine ⟨by omega, ?_, ?_⟩
        · rw [hpl]; exact hI4
        · rw [hpl, ← HT.out]; exact hF4
      obtain ⟨fn, tmps, assign, body, hy, hR⟩ := HY.out pre _ _ hJ4 hFx
      simp only [encD, valD] at hy
      clear hI3 hI4 hF4 hb3 hFx hJ4 hJ1
      gi_wp2
      refine hR.mono ?_
      rintro e W3 (⟨rfl, hJ3, hk3⟩ | ⟨rfl, hJx3⟩)
      · gi_wp2
        go_roundw
        case rel => exact ⟨j + 1, by omega, rfl, ⟨_, by rw [List.length_append, hpl]; rfl, hJ3⟩, ⟨hB4.out.trans hk3⟩⟩
        case measure => simp [intOf, i64_w, wrap64]; omega
      · gi_wp2
        refine bodyPost_ret (results_none rfl _ _ _) rfl ?_
        exact ⟨⟨_, rfl⟩, .inr ⟨_, hJx3⟩⟩
    · have c1 : decide ((j : Int) < (l.length : Int)) = false := decide_eq_false (by omega)
      obtain ⟨pre, hpl, hJ1⟩ := hJp.out
      have hpe : pre.length = l.length := by omega
      obtain ⟨fn, tmps, assign, body, hy, hR⟩ := HY.out pre none wr hJ1 hpe
      simp only [encD, valD] at hy
      gi_wp2
      refine hR.mono ?_
      rintro e W3 (⟨rfl, hJ3, hk3⟩ | ⟨rfl, hJx3⟩)
      · gi_wp2
        go_end0
        exact ⟨⟨_, rfl⟩, .inl ⟨_, by rw [List.length_append, hpe]; rfl, hJ3⟩⟩
      · gi_wp2
        go_end0
        exact ⟨⟨_, rfl⟩, .inr ⟨_, hJx3⟩⟩
end Go.Proofs.Ytkgcaheddhfpgaa.P
/-
  What slot.Save keeps in memory while its deeds go on.
-/
namespace Go.Proofs.Ytkgcaheddhfpgaa.P
open Go.RowKit Go.Shelf Go.Proofs Go.Proofs.CodecPlain Go.Proofs.YtkgcaheddhfpgaaW.PrintWords Go.Proofs.YtkgcaheddhfpgaaW.PrintLast Go.Proofs.YtkgcaheddhfpgaaW.PrintMore

theorem slot_deeds_fx (n : Nat) (hn : 1 ≤ n) (w0 : World) (A : Option Addr) (c : Nat) (l : List ByteArray) (hr : Kd.C Kd.string w0 A l.length l) (hs : ∀ s ∈ l, s.size ≤ 200) (hl : l.length ≤ 1000000) (Bl Bt : Nat) (w : World) (hw : Below w0.heap.size w0 w)
    (hBl : Boxed w Bl 22 (.slice A l.length c)) :
    SeqFx n Try.prog 59 #[.pointer (some ⟨Bl, 0, none⟩), .pointer (some ⟨Bt, 0, none⟩)] (encD Bt) (FxD l) (Below w0.heap.size) (fun xs => xs.length = l.length + 1) w :=
  fun lo J Jx W hW hJ _ hY h0 => slot_deeds1_in n hn w0 A c l hr hs hl lo Bl Bt J Jx W (hw.trans (hW.mono hw.size)) hJ hY ((hW.block Bl hBl.lt).trans hBl) h0

theorem blk_apart {W : World} {i j : Nat} {a a' : Array Value} {t t' : TypeId} (hi : W.heap[i]? = some (.cells a t (0, 0))) (hj : W.heap[j]? = some (.cells a' t' (0, 0))) (h : t ≠ t') : i ≠ j := by
  intro e
  subst e
  rw [hi] at hj
  simp at hj
  exact h hj.2
theorem keepsFrom_below {B : Nat} {W W' : World} (hb : Below W.heap.size W W') : KeepsFrom B W W' := ⟨hb.size, fun k o _ hk _ => (hb.block k (Array.getElem?_eq_some_iff.1 hk).1).trans hk⟩
theorem keepsFrom_set (B : Nat) (W : World) (a : Addr) (v : Value) : KeepsFrom B W (W.setCell a v) := (KeepsOthers.setCell W a v).from B

/-- The blocks of a Save. b0: the first one of its own; x: the errno's box; g: the disk's; s: 'stopped'; t: the free blocks'. -/
structure SvMem (w0 : World) (x g s t : Nat) (AF : Option Addr) (cF : Nat) (fr : List Int) (b2 : Nat) (W : World) (b : List ByteArray) (u : List S73) (m : Int) (st : Bool) (ex : Int) : Prop where
  m : W.heap[w0.heap.size + 1]? = some (.cells #[.int .i64 m] 3 (0, 0))
  z : W.heap[w0.heap.size + 1 + 1]? = some (.cells #[.slice none 0 0, .slice none 0 0] 25 (0, 0))
  k : W.heap[w0.heap.size + 1 + 1 + 1]? = some (.cells #[.bool false] 4 (0, 0))
  e : W.heap[w0.heap.size + 1 + 1 + 1 + 1]? = some (.cells #[.int .i64 0] 27 (0, 0))
  x : W.heap[x]? = some (.cells #[.int .i64 ex] 27 (0, 0))
  n : ∃ A c A' c', W.heap[g]? = some (.cells #[.slice A b.length c, .slice A' u.length c'] 25 (0, 0)) ∧ Kd.R Kd.string 9 W w0.heap.size (fun _ => True) (.slice A b.length c) b ∧ Kd.R k73 73 W w0.heap.size (fun _ => True) (.slice A' u.length c') u
  s : W.heap[s]? = some (.cells #[.bool st] 4 (0, 0))
  f : Kd.R (Kd.int .i64) 3 W b2 (fun _ => True) (.slice AF fr.length cF) fr
  t : W.heap[t]? = some (.cells #[.slice AF fr.length cF] 39 (0, 0))
  bel : Below w0.heap.size w0 W
/-- Where they lie. -/
structure SvAt (w0 : World) (x g s b2 : Nat) : Prop where
  x : w0.heap.size + 5 ≤ x
  g : w0.heap.size + 5 ≤ g
  s : w0.heap.size + 5 ≤ s
  b : w0.heap.size + 5 ≤ b2

variable {w0 : World} {x g s t : Nat} {AF : Option Addr} {cF : Nat} {fr : List Int} {b2 : Nat} {W W' : World} {b : List ByteArray} {u : List S73} {m : Int} {st : Bool} {ex : Int}

theorem R_kept {α : Type} {d : Kd α} {e : Nat} {base : Nat} {ok : Nat → Prop} {v : Value} {xs : List α} (h : d.R e W base ok v xs) {row : Option Nat} (hg : W.grownBy W' row) (hr : ∀ k, row = some k → ∃ o : Obj, W.heap[k]? = some o ∧ o.isCells = false) : d.R e W' base ok v xs :=
  Kd.R_mono (Kd.R_move (Kd.R_bound h) (fun k hk => by
    obtain ⟨_, _, hlt, q, _, cells, hc⟩ := hk
    exact hg.block k hlt (fun e => by
      obtain ⟨o, ho, hn⟩ := hr k e.symm
      rw [hc] at ho
      cases ho
      cases hn))) (fun _ hk => hk.1)
theorem SvMem.grown (h : SvMem w0 x g s t AF cF fr b2 W b u m st ex) {row : Option Nat} (hg : W.grownBy W' row) (hlo : ∀ k, row = some k → w0.heap.size ≤ k) (hr : ∀ k, row = some k → ∃ o : Obj, W.heap[k]? = some o ∧ o.isCells = false) : SvMem w0 x g s t AF cF fr b2 W' b u m st ex := by
  have hk : ∀ {i : Nat} {a : Array Value} {ty : TypeId}, W.heap[i]? = some (.cells a ty (0, 0)) → W'.heap[i]? = some (.cells a ty (0, 0)) := fun hi => (grownBy_keeps_cells hg hr hi rfl).trans hi
  obtain ⟨A, c, A', c', h1, h2, h3⟩ := h.n
  exact ⟨hk h.m, hk h.z, hk h.k, hk h.e, hk h.x, ⟨A, c, A', c', hk h1, R_kept h2 hg hr, R_kept h3 hg hr⟩, hk h.s, R_kept h.f hg hr, hk h.t, h.bel.grown hg h.bel.size hlo⟩
theorem SvMem.below (h : SvMem w0 x g s t AF cF fr b2 W b u m st ex) (hb : Below W.heap.size W W') : SvMem w0 x g s t AF cF fr b2 W' b u m st ex :=
  h.grown (grown_of_below hb) (fun _ e => by cases e) (fun _ e => by cases e)

theorem qs_ne {T : Nat} (h : (9 : Nat) ≠ T) : ∀ q, q ∈ 9 :: Kd.string.E → q ≠ T := by intro q hq; simp [Kd.string, Kd.scalar] at hq; subst hq; exact h
theorem qi_ne {T : Nat} (h : (3 : Nat) ≠ T) : ∀ q, q ∈ 3 :: (Kd.int .i64).E → q ≠ T := by intro q hq; simp [Kd.int, Kd.scalar] at hq; subst hq; exact h
theorem qw_ne {T : Nat} (h : (73 : Nat) ≠ T) : ∀ q, q ∈ 73 :: k73.E → q ≠ T := by intro q hq; simp [k73, Kd.iso, Kd.pair, Kd.int, Kd.string, Kd.scalar] at hq; subst hq; exact h

theorem SvMem.setX (h : SvMem w0 x g s t AF cF fr b2 W b u m st ex) (at_ : SvAt w0 x g s b2) (v : Int) : SvMem w0 x g s t AF cF fr b2 (W.setCell ⟨x, 0, none⟩ (.int .i64 v)) b u m st v := by
  obtain ⟨A, c, A', c', h1, h2, h3⟩ := h.n
  have hx := at_.x
  refine ⟨blk_far h.m (p := ⟨x, 0, none⟩) (by show _ ≠ x; omega) _, blk_far h.z (p := ⟨x, 0, none⟩) (by show _ ≠ x; omega) _, blk_far h.k (p := ⟨x, 0, none⟩) (by show _ ≠ x; omega) _, blk_far h.e (p := ⟨x, 0, none⟩) (by show _ ≠ x; omega) _, blk_set h.x 0 _, ⟨A, c, A', c', blk_far h1 (p := ⟨x, 0, none⟩) (blk_apart h1 h.x (by decide)) _, ?_, ?_⟩, blk_far h.s (p := ⟨x, 0, none⟩) (blk_apart h.s h.x (by decide)) _, ?_, blk_far h.t (p := ⟨x, 0, none⟩) (blk_apart h.t h.x (by decide)) _, h.bel.setCell (p := ⟨x, 0, none⟩) (by show _ ≤ x; omega) _⟩
  · exact Kd.R_set h2 h.x (qs_ne (by decide)) 0 _
  · exact Kd.R_set h3 h.x (qw_ne (by decide)) 0 _
  · exact Kd.R_set h.f h.x (qi_ne (by decide)) 0 _
theorem SvMem.setM (h : SvMem w0 x g s t AF cF fr b2 W b u m st ex) (at_ : SvAt w0 x g s b2) (v : Int) : SvMem w0 x g s t AF cF fr b2 (W.setCell ⟨w0.heap.size + 1, 0, none⟩ (.int .i64 v)) b u v st ex := by
  obtain ⟨A, c, A', c', h1, h2, h3⟩ := h.n
  have hx := at_.x; have hg := at_.g; have hs := at_.s; have hb := at_.b
  have p : Addr := ⟨w0.heap.size + 1, 0, none⟩
  refine ⟨blk_set h.m 0 _, blk_far h.z (p := ⟨w0.heap.size + 1, 0, none⟩) (by show _ ≠ w0.heap.size + 1; omega) _, blk_far h.k (p := ⟨w0.heap.size + 1, 0, none⟩) (by show _ ≠ w0.heap.size + 1; omega) _, blk_far h.e (p := ⟨w0.heap.size + 1, 0, none⟩) (by show _ ≠ w0.heap.size + 1; omega) _, blk_far h.x (p := ⟨w0.heap.size + 1, 0, none⟩) (by show _ ≠ w0.heap.size + 1; omega) _, ⟨A, c, A', c', blk_far h1 (p := ⟨w0.heap.size + 1, 0, none⟩) (by show _ ≠ w0.heap.size + 1; omega) _, ?_, ?_⟩, blk_far h.s (p := ⟨w0.heap.size + 1, 0, none⟩) (by show _ ≠ w0.heap.size + 1; omega) _, ?_, blk_far h.t (p := ⟨w0.heap.size + 1, 0, none⟩) (blk_apart h.t h.m (by decide)) _, h.bel.setCell (p := ⟨w0.heap.size + 1, 0, none⟩) (by show _ ≤ w0.heap.size + 1; omega) _⟩
  · exact Kd.R_set h2 h.m (qs_ne (by decide)) 0 _
  · exact Kd.R_set h3 h.m (qw_ne (by decide)) 0 _
  · exact Kd.R_mono (Kd.R_far (p := ⟨w0.heap.size + 1, 0, none⟩) (Kd.R_bound h.f) (fun k hk => by have := hk.2.1; show k ≠ w0.heap.size + 1; omega) _) (fun _ hk => hk.1)
theorem SvMem.setS (h : SvMem w0 x g s t AF cF fr b2 W b u m st ex) (at_ : SvAt w0 x g s b2) (v : Bool) : SvMem w0 x g s t AF cF fr b2 (W.setCell ⟨s, 0, none⟩ (.bool v)) b u m v ex := by
  obtain ⟨A, c, A', c', h1, h2, h3⟩ := h.n
  have hs := at_.s
  refine ⟨blk_far h.m (p := ⟨s, 0, none⟩) (by show _ ≠ s; omega) _, blk_far h.z (p := ⟨s, 0, none⟩) (by show _ ≠ s; omega) _, blk_far h.k (p := ⟨s, 0, none⟩) (by show _ ≠ s; omega) _, blk_far h.e (p := ⟨s, 0, none⟩) (by show _ ≠ s; omega) _, blk_far h.x (p := ⟨s, 0, none⟩) (blk_apart h.x h.s (by decide)) _, ⟨A, c, A', c', blk_far h1 (p := ⟨s, 0, none⟩) (blk_apart h1 h.s (by decide)) _, ?_, ?_⟩, blk_set h.s 0 _, ?_, blk_far h.t (p := ⟨s, 0, none⟩) (blk_apart h.t h.s (by decide)) _, h.bel.setCell (p := ⟨s, 0, none⟩) (by show _ ≤ s; omega) _⟩
  · exact Kd.R_set h2 h.s (qs_ne (by decide)) 0 _
  · exact Kd.R_set h3 h.s (qw_ne (by decide)) 0 _
  · exact Kd.R_set h.f h.s (qi_ne (by decide)) 0 _
/-- A disk of rows that are at hand is stored. -/
theorem SvMem.setN (h : SvMem w0 x g s t AF cF fr b2 W b u m st ex) (at_ : SvAt w0 x g s b2) {A A' : Option Addr} {c c' : Nat} {b' : List ByteArray} {u' : List S73}
    (hP : Kd.R Kd.string 9 W w0.heap.size (fun _ => True) (.slice A b'.length c) b') (hQ : Kd.R k73 73 W w0.heap.size (fun _ => True) (.slice A' u'.length c') u') :
    SvMem w0 x g s t AF cF fr b2 ((W.setCell ⟨g, 0, none⟩ (.slice A b'.length c)).setCell ⟨g, 1, none⟩ (.slice A' u'.length c')) b' u' m st ex := by
  obtain ⟨_, _, _, _, h1, _, _⟩ := h.n
  have hg := at_.g
  have far : ∀ {i : Nat} {a : Array Value} {ty : TypeId}, W.heap[i]? = some (.cells a ty (0, 0)) → i ≠ g → ((W.setCell ⟨g, 0, none⟩ (.slice A b'.length c)).setCell ⟨g, 1, none⟩ (.slice A' u'.length c')).heap[i]? = some (.cells a ty (0, 0)) := fun hi hne => blk_far (blk_far hi (p := ⟨g, 0, none⟩) hne _) (p := ⟨g, 1, none⟩) hne _
  refine ⟨far h.m (by omega), far h.z (by omega), far h.k (by omega), far h.e (by omega), far h.x (blk_apart h.x h1 (by decide)), ⟨A, c, A', c', blk_set (blk_set h1 0 _) 1 _, ?_, ?_⟩, far h.s (blk_apart h.s h1 (by decide)), ?_, far h.t (blk_apart h.t h1 (by decide)), (h.bel.setCell (p := ⟨g, 0, none⟩) (by show _ ≤ g; omega) _).setCell (p := ⟨g, 1, none⟩) (by show _ ≤ g; omega) _⟩
  · exact Kd.R_set (Kd.R_set hP h1 (qs_ne (by decide)) 0 _) (blk_set h1 0 _) (qs_ne (by decide)) 1 _
  · exact Kd.R_set (Kd.R_set hQ h1 (qw_ne (by decide)) 0 _) (blk_set h1 0 _) (qw_ne (by decide)) 1 _
  · exact Kd.R_set (Kd.R_set h.f h1 (qi_ne (by decide)) 0 _) (blk_set h1 0 _) (qi_ne (by decide)) 1 _
end Go.Proofs.Ytkgcaheddhfpgaa.P
/-
  slot.Save, by hand: what is refused.
-/
namespace Go.Proofs.Ytkgcaheddhfpgaa.P
open Go.RowKit Go.Shelf Go.Proofs Go.Proofs.CodecPlain Go.Proofs.YtkgcaheddhfpgaaW.PrintWords Go.Proofs.YtkgcaheddhfpgaaW.PrintLast Go.Proofs.YtkgcaheddhfpgaaW.PrintMore

/-- The end of a Save: what is told, in rows of its own. -/
def SavePost (w : World) (b : List ByteArray) (u : List S73) (d : Bool) (er : Int) (e : Ending) (w' : World) : Prop := ∃ v0_ v1_ : Value, e = .returned (.tuple #[.agg #[v0_, v1_], .bool d, .int .i64 er]) ∧ Kd.R Kd.string 9 w' w.heap.size (fun _ => True) v0_ b ∧ Kd.R k73 73 w' w.heap.size (fun _ => True) v1_ u ∧ Below w.heap.size w w'
/-- The blocks that a Save begins with. -/
structure SvEnt (w0 : World) (D : Array Value) (m : Int) (W : World) : Prop where
  d : W.heap[w0.heap.size]? = some (.cells D 25 (0, 0))
  m : W.heap[w0.heap.size + 1]? = some (.cells #[.int .i64 m] 3 (0, 0))
  z : W.heap[w0.heap.size + 1 + 1]? = some (.cells #[.slice none 0 0, .slice none 0 0] 25 (0, 0))
  k : W.heap[w0.heap.size + 1 + 1 + 1]? = some (.cells #[.bool false] 4 (0, 0))
  e : W.heap[w0.heap.size + 1 + 1 + 1 + 1]? = some (.cells #[.int .i64 0] 27 (0, 0))
  bel : Below w0.heap.size w0 W
  size : w0.heap.size + 5 ≤ W.heap.size
theorem SvEnt.below {w0 : World} {D : Array Value} {m : Int} {W W' : World} (h : SvEnt w0 D m W) (hb : Below W.heap.size W W') : SvEnt w0 D m W' :=
  ⟨blk_below h.d hb, blk_below h.m hb, blk_below h.z hb, blk_below h.k hb, blk_below h.e hb, h.bel.trans (hb.mono h.bel.size), Nat.le_trans h.size hb.size⟩
theorem SvEnt.start (w : World) (D : Array Value) (m : Int) : SvEnt w D m (((((w.alloc (.cells D 25)).alloc (.cells #[.int .i64 m] 3)).alloc (.cells #[.slice none 0 0, .slice none 0 0] 25)).alloc (.cells #[.bool false] 4)).alloc (.cells #[.int .i64 0] 27)) := by
  have h1 := blk_new (w.alloc (.cells D 25)) (.cells #[.int .i64 m] 3)
  have h2 := blk_new ((w.alloc (.cells D 25)).alloc (.cells #[.int .i64 m] 3)) (.cells #[.slice none 0 0, .slice none 0 0] 25)
  have h3 := blk_new (((w.alloc (.cells D 25)).alloc (.cells #[.int .i64 m] 3)).alloc (.cells #[.slice none 0 0, .slice none 0 0] 25)) (.cells #[.bool false] 4)
  have h4 := blk_new ((((w.alloc (.cells D 25)).alloc (.cells #[.int .i64 m] 3)).alloc (.cells #[.slice none 0 0, .slice none 0 0] 25)).alloc (.cells #[.bool false] 4)) (.cells #[.int .i64 0] 27)
  simp only [World.size_alloc] at h1 h2 h3 h4
  refine ⟨blk_alloc (blk_alloc (blk_alloc (blk_alloc (blk_new w _) _) _) _) _, blk_alloc (blk_alloc (blk_alloc h1 _) _) _, blk_alloc (blk_alloc h2 _) _, blk_alloc h3 _, h4, ?_, by simp⟩
  exact (((((Below.refl w.heap.size w).alloc (Nat.le_refl _) _).alloc (by simp) _).alloc (by simp; omega) _).alloc (by simp; omega) _).alloc (by simp; omega) _
/-- Nothing and an error are stored. -/
theorem SvEnt.fail {w0 : World} {D : Array Value} {m : Int} {W : World} (h : SvEnt w0 D m W) (er : Int) :
    SavePost w0 [] [] false er (.returned (.tuple #[.agg #[.slice none 0 0, .slice none 0 0], .bool false, .int .i64 er])) ((((W.setCell ⟨w0.heap.size + 1 + 1, 0, none⟩ (.slice none 0 0)).setCell ⟨w0.heap.size + 1 + 1, 1, none⟩ (.slice none 0 0)).setCell ⟨w0.heap.size + 1 + 1 + 1, 0, none⟩ (.bool false)).setCell ⟨w0.heap.size + 1 + 1 + 1 + 1, 0, none⟩ (.int .i64 er)) ∧
    ((((W.setCell ⟨w0.heap.size + 1 + 1, 0, none⟩ (.slice none 0 0)).setCell ⟨w0.heap.size + 1 + 1, 1, none⟩ (.slice none 0 0)).setCell ⟨w0.heap.size + 1 + 1 + 1, 0, none⟩ (.bool false)).setCell ⟨w0.heap.size + 1 + 1 + 1 + 1, 0, none⟩ (.int .i64 er)).heap[w0.heap.size + 1 + 1]? = some (.cells #[.slice none 0 0, .slice none 0 0] 25 (0, 0)) ∧
    ((((W.setCell ⟨w0.heap.size + 1 + 1, 0, none⟩ (.slice none 0 0)).setCell ⟨w0.heap.size + 1 + 1, 1, none⟩ (.slice none 0 0)).setCell ⟨w0.heap.size + 1 + 1 + 1, 0, none⟩ (.bool false)).setCell ⟨w0.heap.size + 1 + 1 + 1 + 1, 0, none⟩ (.int .i64 er)).heap[w0.heap.size + 1 + 1 + 1]? = some (.cells #[.bool false] 4 (0, 0)) ∧
    ((((W.setCell ⟨w0.heap.size + 1 + 1, 0, none⟩ (.slice none 0 0)).setCell ⟨w0.heap.size + 1 + 1, 1, none⟩ (.slice none 0 0)).setCell ⟨w0.heap.size + 1 + 1 + 1, 0, none⟩ (.bool false)).setCell ⟨w0.heap.size + 1 + 1 + 1 + 1, 0, none⟩ (.int .i64 er)).heap[w0.heap.size + 1 + 1 + 1 + 1]? = some (.cells #[.int .i64 er] 27 (0, 0)) := by
  refine ⟨⟨_, _, rfl, Kd.R_nil _ _ _ _ _, Kd.R_nil _ _ _ _ _, (((h.bel.setCell (p := ⟨w0.heap.size + 1 + 1, 0, none⟩) (by show _ ≤ w0.heap.size + 1 + 1; omega) _).setCell (p := ⟨w0.heap.size + 1 + 1, 1, none⟩) (by show _ ≤ w0.heap.size + 1 + 1; omega) _).setCell (p := ⟨w0.heap.size + 1 + 1 + 1, 0, none⟩) (by show _ ≤ w0.heap.size + 1 + 1 + 1; omega) _).setCell (p := ⟨w0.heap.size + 1 + 1 + 1 + 1, 0, none⟩) (by show _ ≤ w0.heap.size + 1 + 1 + 1 + 1; omega) _⟩, ?_, ?_, ?_⟩
  · exact blk_far (blk_far (blk_set (blk_set h.z 0 _) 1 _) (p := ⟨w0.heap.size + 1 + 1 + 1, 0, none⟩) (by show _ ≠ w0.heap.size + 1 + 1 + 1; omega) _) (p := ⟨w0.heap.size + 1 + 1 + 1 + 1, 0, none⟩) (by show _ ≠ w0.heap.size + 1 + 1 + 1 + 1; omega) _
  · exact blk_far (blk_set (blk_far (blk_far h.k (p := ⟨w0.heap.size + 1 + 1, 0, none⟩) (by show _ ≠ w0.heap.size + 1 + 1; omega) _) (p := ⟨w0.heap.size + 1 + 1, 1, none⟩) (by show _ ≠ w0.heap.size + 1 + 1; omega) _) 0 _) (p := ⟨w0.heap.size + 1 + 1 + 1 + 1, 0, none⟩) (by show _ ≠ w0.heap.size + 1 + 1 + 1 + 1; omega) _
  · exact blk_set (blk_far (blk_far (blk_far h.e (p := ⟨w0.heap.size + 1 + 1, 0, none⟩) (by show _ ≠ w0.heap.size + 1 + 1; omega) _) (p := ⟨w0.heap.size + 1 + 1, 1, none⟩) (by show _ ≠ w0.heap.size + 1 + 1; omega) _) (p := ⟨w0.heap.size + 1 + 1 + 1, 0, none⟩) (by show _ ≠ w0.heap.size + 1 + 1 + 1; omega) _) 0 _
theorem SavePost.drew {w0 : World} {b : List ByteArray} {u : List S73} {d : Bool} {er : Int} {e : Ending} {W : World} (h : SavePost w0 b u d er e W) : SavePost w0 b u d er e W.drew := by
  obtain ⟨v0, v1, h1, h2, h3, h4⟩ := h
  exact ⟨v0, v1, h1, Kd.R_drew h2, Kd.R_drew h3, below_drew1 h4⟩
theorem long_calls (s : ByteArray) (w : World) : Calls Try.prog 43 #[.string s] w fun e w' => e = .returned (.bool (decide (200 < s.size))) ∧ w' = w := by
  have hd : decide ((s.size : Int) > 200) = decide (200 < s.size) := decide_eq_decide.2 (by omega)
  go_enter Try.func43, Try.ntmps43
  go_wp2
  go_ret
  exact ⟨by first | rfl | rw [← hd] | simp [hd], rfl⟩
theorem long_pred (l : List ByteArray) (w : World) : PredAt 43 #[] Value.string (fun s => decide (200 < s.size)) l w :=
  ⟨enters_of Try.func43 (by kernel_rfl) rfl, fun x _ w1 _ => (long_calls x w1).mono (by rintro e w2 ⟨rfl, rfl⟩; exact ⟨rfl, Below.refl _ _⟩)⟩

/-- No panic. -/
def quietQ (Q : Exit → Act → World → Prop) : Exit → Act → World → Prop
  | .panic _, _, _ => False
  | .normal, a, w => Q .normal a w
  | .ret, a, w => Q .ret a w
  | .exit i, a, w => Q (.exit i) a w
  | .goto i, a, w => Q (.goto i) a w
  | .outgrown, a, w => Q .outgrown a w
theorem quietQ_le (Q : Exit → Act → World → Prop) : ∀ e a w, quietQ Q e a w → Q e a w
  | .panic _, _, _, h => h.elim
  | .normal, _, _, h => h
  | .ret, _, _, h => h
  | .exit _, _, _, h => h
  | .goto _, _, _, h => h
  | .outgrown, _, _, h => h
theorem loadV_tbs (l : List ByteArray) (u : List S73) : (loadV l u).2.1.length ≤ 1000 := by
  have := blocksV_len (getT l u 0).1 (l.length : Int)
  unfold loadV
  repeat' split
  all_goals first | exact this | simp
theorem freeK_mem {tb : List Int} {k : Nat} {b : Int} (h : b ∈ freeK tb k) : 2 ≤ b ∧ b < k ∧ b ∉ tb := by
  unfold freeK at h
  obtain ⟨i, hi, rfl⟩ := List.mem_map.1 h
  obtain ⟨h1, h2⟩ := List.mem_filter.1 hi
  have h3 := List.mem_range.1 h1
  simp only [Bool.and_eq_true, decide_eq_true_eq, Bool.not_eq_true', decide_eq_false_iff_not] at h2
  exact ⟨by omega, by omega, h2.2⟩
theorem SvEnt.far {w0 : World} {D : Array Value} {m : Int} {W : World} (h : SvEnt w0 D m W) {x i : Nat} (hx : w0.heap.size + 5 ≤ x) (v : Value) : SvEnt w0 D m (W.setCell ⟨x, i, none⟩ v) :=
  ⟨blk_far h.d (p := ⟨x, i, none⟩) (by show _ ≠ x; omega) _, blk_far h.m (p := ⟨x, i, none⟩) (by show _ ≠ x; omega) _, blk_far h.z (p := ⟨x, i, none⟩) (by show _ ≠ x; omega) _, blk_far h.k (p := ⟨x, i, none⟩) (by show _ ≠ x; omega) _, blk_far h.e (p := ⟨x, i, none⟩) (by show _ ≠ x; omega) _, h.bel.setCell (p := ⟨x, i, none⟩) (by show _ ≤ x; omega) _, by have := h.size; simpa [World.setCell] using this⟩

set_option maxHeartbeats 16000000 in
set_option maxRecDepth 100000 in
theorem slot_Save_A (A0 : Option Addr) (c0 : Nat) (l : List ByteArray) (A1 : Option Addr) (c1 : Nat) (u : List S73) (A2 : Option Addr) (c2 : Nat) (t : List ByteArray) (m : Int) (w : World) (hr0 : Kd.C Kd.string w A0 l.length l) (hc0 : l.length ≤ c0) (hr1 : Kd.C k73 w A1 u.length u) (hc1 : u.length ≤ c1) (hr2 : Kd.C Kd.string w A2 t.length t) (hc2 : t.length ≤ c2) (he : ¬ (loadV l u).2.2.2 = 0) :
    Calls Try.prog 21 #[.agg #[.slice A0 l.length c0, .slice A1 u.length c1], .slice A2 t.length c2, .int .i64 m] w (SavePost w [] [] false (loadV l u).2.2.2) := by
  have HE0 := Aside0.mk (SvEnt.start w #[.slice A0 l.length c0, .slice A1 u.length c1] m)
  have HL := Aside0.mk (slot_load_calls A0 c0 l A1 c1 u (((((w.alloc (.cells #[.slice A0 l.length c0, .slice A1 u.length c1] 25)).alloc (.cells #[.int .i64 m] 3)).alloc (.cells #[.slice none 0 0, .slice none 0 0] 25)).alloc (.cells #[.bool false] 4)).alloc (.cells #[.int .i64 0] 27)) (Kd.C_below hr0 HE0.out.bel) hc0 (Kd.C_below hr1 HE0.out.bel) hc1)
  obtain ⟨r, hr⟩ : ∃ r, r = loadV l u := ⟨_, rfl⟩
  rw [← hr] at HL he
  obtain ⟨n, tb, pages, er⟩ := r
  simp only at HL he
  have hne : (er != 0) = true := by rw [bne_iff_ne]; exact he
  have hres : (loadV l u).2.2.2 = er := by rw [← hr]
  rw [hres]
  have mixed : Try.prog.follows .mixedOrders = true := by kernel_rfl
  clear hr hr0 hr1 hr2 hres he
  go_enter Try.func21, Try.ntmps21
  go_wp2
  go_step3
  go_wp2_with (first | (go_at_call 40; ((with_reducible refine HL.out.mono ?_); rintro e w1 ⟨p, rfl, hl, hb⟩; have HX5 := Aside0.mk (HE0.out.below hb).size; have HEn := Aside0.mk ((HE0.out.below hb).below ((Below.refl _ w1).alloc (Nat.le_refl _) (.cells #[.int .i64 er] 27))); clear hb hl; have z0 := blk_cell HEn.out.z 0; have z1 := blk_cell HEn.out.z 1; have k0 := blk_cell HEn.out.k 0; have e0 := blk_cell HEn.out.e 0; have fz0 := blk_frozen HEn.out.z 0; have fz1 := blk_frozen HEn.out.z 1; have fk0 := blk_frozen HEn.out.k 0; have fe0 := blk_frozen HEn.out.e 0; simp only [List.getElem?_toArray, List.getElem?_cons_zero, List.getElem?_cons_succ] at z0 z1 k0 e0)))
  have x0 := blk_cell (blk_new w1 (.cells #[.int .i64 er] 27)) 0
  simp only [List.getElem?_toArray, List.getElem?_cons_zero, List.getElem?_cons_succ] at x0
  generalize w1.alloc (.cells #[.int .i64 er] 27) = w2 at HEn z0 z1 k0 e0 fz0 fz1 fk0 fe0 x0 ⊢
  have hlt := HEn.out.size
  have hx_ := HX5.out
  have n1 : ¬ w1.heap.size = w.heap.size + 1 + 1 := by omega
  have n2 : ¬ w1.heap.size = w.heap.size + 1 + 1 + 1 := by omega
  have n3 : ¬ w1.heap.size = w.heap.size + 1 + 1 + 1 + 1 := by omega
  have n4 : ¬ w.heap.size + 1 + 1 = w1.heap.size := by omega
  have n5 : ¬ w.heap.size + 1 + 1 + 1 = w1.heap.size := by omega
  have n6 : ¬ w.heap.size + 1 + 1 + 1 + 1 = w1.heap.size := by omega
  clear hlt hx_
  refine (wpIn_wide (n := 3)).1 ?_
  gi_region_with_o (fail)
  all_goals
    obtain ⟨hF, f1, f2, f3⟩ := HEn.out.fail er
    have g0 := blk_cell f1 0
    have g1 := blk_cell f1 1
    have g2 := blk_cell f2 0
    have g3 := blk_cell f3 0
    simp only [List.getElem?_toArray, List.getElem?_cons_zero, List.getElem?_cons_succ] at g0 g1 g2 g3
    clear f1 f2 f3 z0 z1 k0 e0 fz0 fz1 fk0 fe0 x0
    go_wp2
    rw [Exit.noGoto_ret]
    refine bodyPost_ret (v := .tuple #[.agg #[.slice none 0 0, .slice none 0 0], .bool false, .int .i64 er]) ?_ rfl (by first | exact hF | exact hF.drew)
    simp [results, Try.results21, go_sem, g0, g1, g2, g3]
end Go.Proofs.Ytkgcaheddhfpgaa.P
