/-
  The walk and the plain statement of NetDoes, joined.
-/
import Derived.OwnWalk
import Derived.LoopTactic
import Derived.Test.YtfejidinfcmfjaaCn5dd
import Derived.Test.YtfejidinfcmfjaaCn5df
import Derived.Test.YtfejidinfcmfjaaCn5da
import Derived.Test.YtfejidinfcmfjaaCn5db
import Derived.Test.YtfejidinfcmfjaaCn5dc
import Derived.Test.YtfejidinfcmfjaaCn5dg
import Derived.Test.YtfejidinfcmfjaaCn5de
set_option linter.unusedVariables false
set_option linter.unusedSimpArgs false
/-
  sextonlaw25.NetDoes, by hand: it answers true for every input.
-/
namespace Go.Proofs.Ytfejidinfcmfjaa.P
open Go.RowKit Go.Proofs Go.Shelf Go.Proofs.YtfejidinfcmfjaaW.PrintWords Go.Proofs.YtfejidinfcmfjaaW.PrintLast Go.Proofs.YtfejidinfcmfjaaW.PrintMore Go.Proofs.Plain

/-- What is told of the calls: the program and the reference answer the same. -/
structure NetOk (l more : List S29) (pl n a b : Int) (c : List S29) (d : Int) (g : S29) (h : List S29) (okk : Bool) (y : List S29) (x : Bool) (s : List (List S29)) (u : List S29) : Prop where
  big : ∃ k, sextonref25_Big.f k l = some false
  big2 : ∃ k, sextonref25_Big.f k more = some false
  own : ∃ k, sextonref25_Own.f k l = some l
  put : net_Put.f l more = some (c, d)
  rput : ∃ k, sextonref25_Put.f k l more = some (c, d)
  take : net_Take.f l pl = some (g.f0, g.f1, g.f2, g.f3, g.f4, g.f5, g.f6, g.f7, h, okk)
  rtake : ∃ k, sextonref25_Take.f k l pl = some (g.f0, g.f1, g.f2, g.f3, g.f4, g.f5, g.f6, g.f7, h, okk)
  copy : net_Copy.f l pl = some (y, x)
  rcopy : ∃ k, sextonref25_Copy.f k l pl = some (y, x)
  split : net_Split.f l n = some s
  rsplit : ∃ k, sextonref25_Split.f k l n = some s
  cut : net_Cut.f l a b = some u
  rcut : ∃ k, sextonref25_Cut.f k l a b = some u
  s1 : ∃ k, sextonref23_SameRow.f k c c = some true
  s2 : ∃ k, sextonref23_Same.f k g.f0 g.f1 g.f2 g.f3 g.f4 g.f5 g.f6 g.f7 g.f0 g.f1 g.f2 g.f3 g.f4 g.f5 g.f6 g.f7 = some true
  s3 : ∃ k, sextonref23_SameRow.f k h h = some true
  s4 : ∃ k, sextonref23_SameRow.f k y y = some true
  s5 : ∃ k, sextonref25_Same.f k s s = some true
  s6 : ∃ k, sextonref23_SameRow.f k u u = some true
  s7 : ∃ k, sextonref23_SameRow.f k l l = some true

set_option maxHeartbeats 4000000 in
set_option maxRecDepth 100000 in
theorem netdoes_far1 (A0 : Option Addr) (c0 : Nat) (l : List S29) (A1 : Option Addr) (c1 : Nat) (more : List S29) (pl n a b : Int) (w : World) (hr0 : Kd.C k29 w A0 l.length l) (hc0 : l.length ≤ c0) (hr1 : Kd.C k29 w A1 more.length more) (hc1 : more.length ≤ c1) (k : Nat) (hf : sextonref25_Big.f k l = some true) :
    Calls Try.prog 3 #[.slice A0 l.length c0, .slice A1 more.length c1, .int .i64 pl, .int .i64 n, .int .i64 a, .int .i64 b] w fun e w' => e = .returned (.bool true) ∧ Below w.heap.size w w' := by
  have HB0 := Aside0.mk (Below.refl w.heap.size w)
  have Rl_0 := Aside0.mk hr0
  have Rm_0 := Aside0.mk hr1
  have HC0 := Aside0.mk hc0
  have HC1 := Aside0.mk hc1
  clear hr0 hr1 hc0 hc1
  have HF := Aside0.mk hf
  clear hf
  go_enter Try.func3, Try.ntmps3
  go_wp2_with (first | (go_at_call 13; (with_reducible refine (sextonref25_Big.calls k A0 c0 l true _ Rl_0.out HC0.out HF.out).mono ?_); rintro e w1 ⟨rfl, hb⟩; have HB1 := Aside0.mk (HB0.out.trans (hb.mono HB0.out.size)); have Rl_1 := Aside0.mk (Kd.C_below Rl_0.out hb); have Rm_1 := Aside0.mk (Kd.C_below Rm_0.out hb); clear hb))
  go_ret
  exact ⟨rfl, HB1.out⟩

set_option maxHeartbeats 4000000 in
set_option maxRecDepth 100000 in
theorem netdoes_far2 (A0 : Option Addr) (c0 : Nat) (l : List S29) (A1 : Option Addr) (c1 : Nat) (more : List S29) (pl n a b : Int) (w : World) (hr0 : Kd.C k29 w A0 l.length l) (hc0 : l.length ≤ c0) (hr1 : Kd.C k29 w A1 more.length more) (hc1 : more.length ≤ c1) (k k2 : Nat) (hg : sextonref25_Big.f k2 l = some false) (hf : sextonref25_Big.f k more = some true) :
    Calls Try.prog 3 #[.slice A0 l.length c0, .slice A1 more.length c1, .int .i64 pl, .int .i64 n, .int .i64 a, .int .i64 b] w fun e w' => e = .returned (.bool true) ∧ Below w.heap.size w w' := by
  have HB0 := Aside0.mk (Below.refl w.heap.size w)
  have Rl_0 := Aside0.mk hr0
  have Rm_0 := Aside0.mk hr1
  have HC0 := Aside0.mk hc0
  have HC1 := Aside0.mk hc1
  clear hr0 hr1 hc0 hc1
  have HF := Aside0.mk hf
  have HG := Aside0.mk hg
  clear hg
  clear hf
  go_enter Try.func3, Try.ntmps3
  go_wp2_with (first | (go_at_call 13; (with_reducible refine (sextonref25_Big.calls k2 A0 c0 l false _ Rl_0.out HC0.out HG.out).mono ?_); rintro e w1 ⟨rfl, hb⟩; have HB1 := Aside0.mk (HB0.out.trans (hb.mono HB0.out.size)); have Rl_1 := Aside0.mk (Kd.C_below Rl_0.out hb); have Rm_1 := Aside0.mk (Kd.C_below Rm_0.out hb); clear hb))
  go_wp2_with (first | (go_at_call 13; (with_reducible refine (sextonref25_Big.calls k A1 c1 more true _ Rm_1.out HC1.out HF.out).mono ?_); rintro e w2 ⟨rfl, hb⟩; have HB2 := Aside0.mk (HB1.out.trans (hb.mono HB1.out.size)); have Rl_2 := Aside0.mk (Kd.C_below Rl_1.out hb); have Rm_2 := Aside0.mk (Kd.C_below Rm_1.out hb); clear hb))
  go_ret
  exact ⟨rfl, HB2.out⟩

set_option maxHeartbeats 16000000 in
set_option maxRecDepth 100000 in
theorem netdoes_in (A0 : Option Addr) (c0 : Nat) (l : List S29) (A1 : Option Addr) (c1 : Nat) (more : List S29) (pl n a b : Int) (c : List S29) (d : Int) (g : S29) (h : List S29) (okk : Bool) (y : List S29) (x : Bool) (s : List (List S29)) (u : List S29) (w : World) (hr0 : Kd.C k29 w A0 l.length l) (hc0 : l.length ≤ c0) (hr1 : Kd.C k29 w A1 more.length more) (hc1 : more.length ≤ c1) (hok : NetOk l more pl n a b c d g h okk y x s u) :
    Calls Try.prog 3 #[.slice A0 l.length c0, .slice A1 more.length c1, .int .i64 pl, .int .i64 n, .int .i64 a, .int .i64 b] w fun e w' => e = .returned (.bool true) ∧ Below w.heap.size w w' := by
  have HB0 := Aside0.mk (Below.refl w.heap.size w)
  have Rl_0 := Aside0.mk hr0
  have Rm_0 := Aside0.mk hr1
  have HC0 := Aside0.mk hc0
  have HC1 := Aside0.mk hc1
  clear hr0 hr1 hc0 hc1
  obtain ⟨kb, Ebig⟩ := hok.big
  replace Ebig := Aside0.mk Ebig
  obtain ⟨kb2, Ebig2⟩ := hok.big2
  replace Ebig2 := Aside0.mk Ebig2
  obtain ⟨ko, Eown⟩ := hok.own
  replace Eown := Aside0.mk Eown
  obtain ⟨kp, Erput⟩ := hok.rput
  replace Erput := Aside0.mk Erput
  obtain ⟨kt, Ertake⟩ := hok.rtake
  replace Ertake := Aside0.mk Ertake
  obtain ⟨kc, Ercopy⟩ := hok.rcopy
  replace Ercopy := Aside0.mk Ercopy
  obtain ⟨ks, Ersplit⟩ := hok.rsplit
  replace Ersplit := Aside0.mk Ersplit
  obtain ⟨ku, Ercut⟩ := hok.rcut
  replace Ercut := Aside0.mk Ercut
  obtain ⟨k1, Es1⟩ := hok.s1
  replace Es1 := Aside0.mk Es1
  obtain ⟨k2, Es2⟩ := hok.s2
  replace Es2 := Aside0.mk Es2
  obtain ⟨k3, Es3⟩ := hok.s3
  replace Es3 := Aside0.mk Es3
  obtain ⟨k4, Es4⟩ := hok.s4
  replace Es4 := Aside0.mk Es4
  obtain ⟨k5, Es5⟩ := hok.s5
  replace Es5 := Aside0.mk Es5
  obtain ⟨k6, Es6⟩ := hok.s6
  replace Es6 := Aside0.mk Es6
  obtain ⟨k7, Es7⟩ := hok.s7
  replace Es7 := Aside0.mk Es7
  have Eput := Aside0.mk hok.put
  have Etake := Aside0.mk hok.take
  have Ecopy := Aside0.mk hok.copy
  have Esplit := Aside0.mk hok.split
  have Ecut := Aside0.mk hok.cut
  clear hok
  go_enter Try.func3, Try.ntmps3
  go_wp2_with (first | (go_at_call 13; (with_reducible refine (sextonref25_Big.calls kb A0 c0 l false _ Rl_0.out HC0.out Ebig.out).mono ?_); rintro e w1 ⟨rfl, hb⟩; have HB1 := Aside0.mk (HB0.out.trans (hb.mono HB0.out.size)); have Rl_1 := Aside0.mk (Kd.C_below Rl_0.out hb); have Rm_1 := Aside0.mk (Kd.C_below Rm_0.out hb); clear hb))
  go_wp2_with (first | (go_at_call 13; (with_reducible refine (sextonref25_Big.calls kb2 A1 c1 more false _ Rm_1.out HC1.out Ebig2.out).mono ?_); rintro e w2 ⟨rfl, hb⟩; have HB2 := Aside0.mk (HB1.out.trans (hb.mono HB1.out.size)); have Rl_2 := Aside0.mk (Kd.C_below Rl_1.out hb); have Rm_2 := Aside0.mk (Kd.C_below Rm_1.out hb); clear hb))
  go_wp2_with (first | (go_at_call 14; (with_reducible refine (sextonref25_Own.calls ko A0 c0 l l _ Rl_2.out HC0.out Eown.out).mono ?_); rintro e w3 ⟨v0, rfl, h0, hb⟩; have HB3 := Aside0.mk (HB2.out.trans (hb.mono HB2.out.size)); have Rl_3 := Aside0.mk (Kd.C_below Rl_2.out hb); have Rm_3 := Aside0.mk (Kd.C_below Rm_2.out hb); obtain ⟨Ao, co, rfl⟩ := Kd.S_slice h0; have Ro_3 := Aside0.mk (Kd.S_reads' h0).2.2; have Lo := Aside0.mk (Kd.S_reads' h0).2.1; have So_3 := Aside0.mk h0; have HW3 := Aside0.mk (Below.refl w3.heap.size w3); clear h0; clear hb))
  go_wp2_with (first | (go_at_call 15; (with_reducible refine (net_Put.calls A0 c0 l A1 c1 more c d _ Rl_3.out HC0.out Rm_3.out HC1.out Eput.out).mono ?_); rintro e w4 ⟨v0, rfl, h0, hb⟩; have HB4 := Aside0.mk (HB3.out.trans (hb.mono HB3.out.size)); have HW4 := Aside0.mk (HW3.out.trans (hb.mono HW3.out.size)); have Rl_4 := Aside0.mk (Kd.C_below Rl_3.out hb); have Rm_4 := Aside0.mk (Kd.C_below Rm_3.out hb); have Ro_4 := Aside0.mk (Kd.C_below Ro_3.out hb); have So_4 := Aside0.mk (Kd.S_below So_3.out hb); obtain ⟨Ac, cc, rfl⟩ := Kd.R_slice h0; have Rc_4 := Aside0.mk (Kd.R_reads' h0).2.2; have Lc := Aside0.mk (Kd.R_reads' h0).2.1; have Oc_4 := Aside0.mk (Kd.R_lower h0 HW3.out.size); clear h0; clear hb))
  go_wp2_with (first | (go_at_call 16; (with_reducible refine (sextonref25_Put.calls kp Ao co l A1 c1 more c d _ Ro_4.out Lo.out Rm_4.out HC1.out Erput.out).mono ?_); rintro e w5 ⟨v0, rfl, h0, hb⟩; have HB5 := Aside0.mk (HB4.out.trans (hb.mono HB4.out.size)); have HW5 := Aside0.mk (HW4.out.trans (hb.mono HW4.out.size)); have Rl_5 := Aside0.mk (Kd.C_below Rl_4.out hb); have Rm_5 := Aside0.mk (Kd.C_below Rm_4.out hb); have Ro_5 := Aside0.mk (Kd.C_below Ro_4.out hb); have Rc_5 := Aside0.mk (Kd.C_below Rc_4.out hb); have Oc_5 := Aside0.mk (Kd.R_below Oc_4.out hb); have So_5 := Aside0.mk (Kd.S_below So_4.out hb); obtain ⟨Ae, ce, rfl⟩ := Kd.S_slice h0; have Re_5 := Aside0.mk (Kd.S_reads' h0).2.2; have Le := Aside0.mk (Kd.S_reads' h0).2.1; clear h0; clear hb))
  go_wp2_with (first | (go_at_call 17; (with_reducible refine (net_Take.calls A0 c0 l pl g.f0 g.f1 g.f2 g.f3 g.f4 g.f5 g.f6 g.f7 h okk _ Rl_5.out HC0.out Etake.out).mono ?_); rintro e w6 ⟨v7, v0, rfl, h7, h0, hb⟩; have HB6 := Aside0.mk (HB5.out.trans (hb.mono HB5.out.size)); have HW6 := Aside0.mk (HW5.out.trans (hb.mono HW5.out.size)); have Rl_6 := Aside0.mk (Kd.C_below Rl_5.out hb); have Rm_6 := Aside0.mk (Kd.C_below Rm_5.out hb); have Ro_6 := Aside0.mk (Kd.C_below Ro_5.out hb); have Rc_6 := Aside0.mk (Kd.C_below Rc_5.out hb); have Re_6 := Aside0.mk (Kd.C_below Re_5.out hb); have Oc_6 := Aside0.mk (Kd.R_below Oc_5.out hb); have So_6 := Aside0.mk (Kd.S_below So_5.out hb); obtain ⟨Ah7, ch7, rfl⟩ := Kd.R_slice h7; have Rh7_6 := Aside0.mk (Kd.R_reads' h7).2.2; have Lh7 := Aside0.mk (Kd.R_reads' h7).2.1; clear h7; obtain ⟨Ah, ch, rfl⟩ := Kd.R_slice h0; have Rh_6 := Aside0.mk (Kd.R_reads' h0).2.2; have Lh := Aside0.mk (Kd.R_reads' h0).2.1; have Oh_6 := Aside0.mk (Kd.R_lower (Kd.R_mono h0 (fun _ _ => trivial) : Kd.R k29 29 _ _ (fun _ => True) _ _) HW5.out.size); clear h0; clear hb) | ((with_reducible refine gate_store (t := 29) (p := 18) rfl ?_); refine store_event (t := 29) (p := 18) (w1 := (w6.alloc (.cells (blkQ 0 0 0 0 0 0 0 (.slice none 0 0)) 29)).setCells w6.heap.size 0 (blkQ g.f0 g.f1 g.f2 g.f3 g.f4 g.f5 g.f6 (.slice Ah7 g.f7.length ch7)).toList) rfl rfl rfl ?hr ?_; (case hr => (unfold execOp; simp only [Act.eval, Sem.run_bind, Sem.run_pure, Result.andThen_ok]; show ((Sem.run Try.prog (Instr.storeAt 29 (.pointer (some ⟨w6.heap.size, 0, none⟩)) (.agg (blkQ g.f0 g.f1 g.f2 g.f3 g.f4 g.f5 g.f6 (.slice Ah7 g.f7.length ch7)))) (w6.alloc (.cells (blkQ 0 0 0 0 0 0 0 (.slice none 0 0)) 29))).andThen _) = _; rw [(store_msgQ (blk_new w6 (.cells (blkQ 0 0 0 0 0 0 0 (.slice none 0 0)) 29)) rfl g.f0 g.f1 g.f2 g.f3 g.f4 g.f5 g.f6 (.slice Ah7 g.f7.length ch7) rfl).1]; try rfl)); intro w7 hw_; have HS := Aside0.mk (show Below w6.heap.size w6 w7 by rw [hw_]; exact below_cellsQ ((Below.refl _ _).alloc (Nat.le_refl _) _) (Nat.le_refl _) _); have HB7 := Aside0.mk (HB6.out.trans (HS.out.mono HB6.out.size)); have HW7 := Aside0.mk (HW6.out.trans (HS.out.mono HW6.out.size)); have Rl_7 := Aside0.mk (Kd.C_below Rl_6.out HS.out); have Rm_7 := Aside0.mk (Kd.C_below Rm_6.out HS.out); have Ro_7 := Aside0.mk (Kd.C_below Ro_6.out HS.out); have Rc_7 := Aside0.mk (Kd.C_below Rc_6.out HS.out); have Re_7 := Aside0.mk (Kd.C_below Re_6.out HS.out); have Rh7_7 := Aside0.mk (Kd.C_below Rh7_6.out HS.out); have Rh_7 := Aside0.mk (Kd.C_below Rh_6.out HS.out); have Oc_7 := Aside0.mk (Kd.R_below Oc_6.out HS.out); have Oh_7 := Aside0.mk (Kd.R_below Oh_6.out HS.out); have So_7 := Aside0.mk (Kd.S_below So_6.out HS.out); have Hgh_7 := Aside0.mk (hw_ ▸ (store_msgQ (blk_new w6 (.cells (blkQ 0 0 0 0 0 0 0 (.slice none 0 0)) 29)) rfl g.f0 g.f1 g.f2 g.f3 g.f4 g.f5 g.f6 (.slice Ah7 g.f7.length ch7) rfl).2 : w7.heap[w6.heap.size]? = some (.cells (blkQ g.f0 g.f1 g.f2 g.f3 g.f4 g.f5 g.f6 (.slice Ah7 g.f7.length ch7)) 29 (0, 0))); clear hw_ HS))
  go_wp2_with (first | (go_at_call 18; (with_reducible refine (sextonref25_Take.calls kt (fun _ => True) Ao co l pl g.f0 g.f1 g.f2 g.f3 g.f4 g.f5 g.f6 g.f7 h okk _ (Kd.S_V So_7.out) Ertake.out).mono ?_); rintro e w8 ⟨v7, v0, rfl, h7, h0, hb⟩; have HB8 := Aside0.mk (HB7.out.trans (hb.mono HB7.out.size)); have HW8 := Aside0.mk (HW7.out.trans (hb.mono HW7.out.size)); have Hgh_8 := Aside0.mk (blk_below Hgh_7.out hb); have Rl_8 := Aside0.mk (Kd.C_below Rl_7.out hb); have Rm_8 := Aside0.mk (Kd.C_below Rm_7.out hb); have Ro_8 := Aside0.mk (Kd.C_below Ro_7.out hb); have Rc_8 := Aside0.mk (Kd.C_below Rc_7.out hb); have Re_8 := Aside0.mk (Kd.C_below Re_7.out hb); have Rh7_8 := Aside0.mk (Kd.C_below Rh7_7.out hb); have Rh_8 := Aside0.mk (Kd.C_below Rh_7.out hb); have Oc_8 := Aside0.mk (Kd.R_below Oc_7.out hb); have Oh_8 := Aside0.mk (Kd.R_below Oh_7.out hb); have So_8 := Aside0.mk (Kd.S_below So_7.out hb); obtain ⟨Aj7, cj7, rfl⟩ := Kd.R_slice h7; have Rj7_8 := Aside0.mk (Kd.R_reads' h7).2.2; have Lj7 := Aside0.mk (Kd.R_reads' h7).2.1; clear h7; obtain ⟨Aj, cj, rfl⟩ := Kd.N_slice h0; have Rj_8 := Aside0.mk (Kd.N_reads' h0).2.2; have Lj := Aside0.mk (Kd.N_reads' h0).2.1; clear h0; clear hb) | ((with_reducible refine gate_store (t := 29) (p := 21) rfl ?_); refine store_event (t := 29) (p := 21) (w1 := (w8.alloc (.cells (blkQ 0 0 0 0 0 0 0 (.slice none 0 0)) 29)).setCells w8.heap.size 0 (blkQ g.f0 g.f1 g.f2 g.f3 g.f4 g.f5 g.f6 (.slice Aj7 g.f7.length cj7)).toList) rfl rfl rfl ?hr ?_; (case hr => (unfold execOp; simp only [Act.eval, Sem.run_bind, Sem.run_pure, Result.andThen_ok]; show ((Sem.run Try.prog (Instr.storeAt 29 (.pointer (some ⟨w8.heap.size, 0, none⟩)) (.agg (blkQ g.f0 g.f1 g.f2 g.f3 g.f4 g.f5 g.f6 (.slice Aj7 g.f7.length cj7)))) (w8.alloc (.cells (blkQ 0 0 0 0 0 0 0 (.slice none 0 0)) 29))).andThen _) = _; rw [(store_msgQ (blk_new w8 (.cells (blkQ 0 0 0 0 0 0 0 (.slice none 0 0)) 29)) rfl g.f0 g.f1 g.f2 g.f3 g.f4 g.f5 g.f6 (.slice Aj7 g.f7.length cj7) rfl).1]; try rfl)); intro w9 hw_; have HS := Aside0.mk (show Below w8.heap.size w8 w9 by rw [hw_]; exact below_cellsQ ((Below.refl _ _).alloc (Nat.le_refl _) _) (Nat.le_refl _) _); have HB9 := Aside0.mk (HB8.out.trans (HS.out.mono HB8.out.size)); have HW9 := Aside0.mk (HW8.out.trans (HS.out.mono HW8.out.size)); have Hgh_9 := Aside0.mk (blk_below Hgh_8.out HS.out); have Rl_9 := Aside0.mk (Kd.C_below Rl_8.out HS.out); have Rm_9 := Aside0.mk (Kd.C_below Rm_8.out HS.out); have Ro_9 := Aside0.mk (Kd.C_below Ro_8.out HS.out); have Rc_9 := Aside0.mk (Kd.C_below Rc_8.out HS.out); have Re_9 := Aside0.mk (Kd.C_below Re_8.out HS.out); have Rh7_9 := Aside0.mk (Kd.C_below Rh7_8.out HS.out); have Rh_9 := Aside0.mk (Kd.C_below Rh_8.out HS.out); have Rj7_9 := Aside0.mk (Kd.C_below Rj7_8.out HS.out); have Rj_9 := Aside0.mk (Kd.C_below Rj_8.out HS.out); have Oc_9 := Aside0.mk (Kd.R_below Oc_8.out HS.out); have Oh_9 := Aside0.mk (Kd.R_below Oh_8.out HS.out); have So_9 := Aside0.mk (Kd.S_below So_8.out HS.out); have Hgj_9 := Aside0.mk (hw_ ▸ (store_msgQ (blk_new w8 (.cells (blkQ 0 0 0 0 0 0 0 (.slice none 0 0)) 29)) rfl g.f0 g.f1 g.f2 g.f3 g.f4 g.f5 g.f6 (.slice Aj7 g.f7.length cj7) rfl).2 : w9.heap[w8.heap.size]? = some (.cells (blkQ g.f0 g.f1 g.f2 g.f3 g.f4 g.f5 g.f6 (.slice Aj7 g.f7.length cj7)) 29 (0, 0))); clear hw_ HS))
  go_wp2_with (first | (go_at_call 19; (with_reducible refine (net_Copy.calls A0 c0 l pl y x _ Rl_9.out HC0.out Ecopy.out).mono ?_); rintro e w10 ⟨v0, rfl, h0, hb⟩; have HB10 := Aside0.mk (HB9.out.trans (hb.mono HB9.out.size)); have HW10 := Aside0.mk (HW9.out.trans (hb.mono HW9.out.size)); have Hgh_10 := Aside0.mk (blk_below Hgh_9.out hb); have Hgj_10 := Aside0.mk (blk_below Hgj_9.out hb); have Rl_10 := Aside0.mk (Kd.C_below Rl_9.out hb); have Rm_10 := Aside0.mk (Kd.C_below Rm_9.out hb); have Ro_10 := Aside0.mk (Kd.C_below Ro_9.out hb); have Rc_10 := Aside0.mk (Kd.C_below Rc_9.out hb); have Re_10 := Aside0.mk (Kd.C_below Re_9.out hb); have Rh7_10 := Aside0.mk (Kd.C_below Rh7_9.out hb); have Rh_10 := Aside0.mk (Kd.C_below Rh_9.out hb); have Rj7_10 := Aside0.mk (Kd.C_below Rj7_9.out hb); have Rj_10 := Aside0.mk (Kd.C_below Rj_9.out hb); have Oc_10 := Aside0.mk (Kd.R_below Oc_9.out hb); have Oh_10 := Aside0.mk (Kd.R_below Oh_9.out hb); obtain ⟨Ak, ck, rfl⟩ := Kd.R_slice h0; have Rk_10 := Aside0.mk (Kd.R_reads' h0).2.2; have Lk := Aside0.mk (Kd.R_reads' h0).2.1; have Ok_10 := Aside0.mk (Kd.R_lower h0 HW9.out.size); clear h0; clear hb))
  go_wp2_with (first | (go_at_call 20; (with_reducible refine (sextonref25_Copy.calls kc Ao co l pl y x _ Ro_10.out Lo.out Ercopy.out).mono ?_); rintro e w11 ⟨v0, rfl, h0, hb⟩; have HB11 := Aside0.mk (HB10.out.trans (hb.mono HB10.out.size)); have HW11 := Aside0.mk (HW10.out.trans (hb.mono HW10.out.size)); have Hgh_11 := Aside0.mk (blk_below Hgh_10.out hb); have Hgj_11 := Aside0.mk (blk_below Hgj_10.out hb); have Rl_11 := Aside0.mk (Kd.C_below Rl_10.out hb); have Rm_11 := Aside0.mk (Kd.C_below Rm_10.out hb); have Ro_11 := Aside0.mk (Kd.C_below Ro_10.out hb); have Rc_11 := Aside0.mk (Kd.C_below Rc_10.out hb); have Re_11 := Aside0.mk (Kd.C_below Re_10.out hb); have Rh7_11 := Aside0.mk (Kd.C_below Rh7_10.out hb); have Rh_11 := Aside0.mk (Kd.C_below Rh_10.out hb); have Rj7_11 := Aside0.mk (Kd.C_below Rj7_10.out hb); have Rj_11 := Aside0.mk (Kd.C_below Rj_10.out hb); have Rk_11 := Aside0.mk (Kd.C_below Rk_10.out hb); have Oc_11 := Aside0.mk (Kd.R_below Oc_10.out hb); have Oh_11 := Aside0.mk (Kd.R_below Oh_10.out hb); have Ok_11 := Aside0.mk (Kd.R_below Ok_10.out hb); obtain ⟨An, cn, rfl⟩ := Kd.S_slice h0; have Rn_11 := Aside0.mk (Kd.S_reads' h0).2.2; have Ln := Aside0.mk (Kd.S_reads' h0).2.1; clear h0; clear hb))
  go_wp2_with (first | (go_at_call 21; (with_reducible refine (net_Split.calls A0 c0 l n s _ Rl_11.out HC0.out Esplit.out).mono ?_); rintro e w12 ⟨v0, rfl, h0, hb⟩; have HB12 := Aside0.mk (HB11.out.trans (hb.mono HB11.out.size)); have HW12 := Aside0.mk (HW11.out.trans (hb.mono HW11.out.size)); have Hgh_12 := Aside0.mk (blk_below Hgh_11.out hb); have Hgj_12 := Aside0.mk (blk_below Hgj_11.out hb); have Rl_12 := Aside0.mk (Kd.C_below Rl_11.out hb); have Rm_12 := Aside0.mk (Kd.C_below Rm_11.out hb); have Ro_12 := Aside0.mk (Kd.C_below Ro_11.out hb); have Rc_12 := Aside0.mk (Kd.C_below Rc_11.out hb); have Re_12 := Aside0.mk (Kd.C_below Re_11.out hb); have Rh7_12 := Aside0.mk (Kd.C_below Rh7_11.out hb); have Rh_12 := Aside0.mk (Kd.C_below Rh_11.out hb); have Rj7_12 := Aside0.mk (Kd.C_below Rj7_11.out hb); have Rj_12 := Aside0.mk (Kd.C_below Rj_11.out hb); have Rk_12 := Aside0.mk (Kd.C_below Rk_11.out hb); have Rn_12 := Aside0.mk (Kd.C_below Rn_11.out hb); have Oc_12 := Aside0.mk (Kd.R_below Oc_11.out hb); have Oh_12 := Aside0.mk (Kd.R_below Oh_11.out hb); have Ok_12 := Aside0.mk (Kd.R_below Ok_11.out hb); obtain ⟨As, cs, rfl⟩ := Kd.R_slice h0; have Rs_12 := Aside0.mk (Kd.R_reads' h0).2.2; have Ls := Aside0.mk (Kd.R_reads' h0).2.1; have Os_12 := Aside0.mk (Kd.R_lower h0 HW11.out.size); clear h0; clear hb))
  go_wp2_with (first | (go_at_call 22; (with_reducible refine (sextonref25_Split.calls ks Ao co l n s _ Ro_12.out Lo.out Ersplit.out).mono ?_); rintro e w13 ⟨v0, rfl, h0, hb⟩; have HB13 := Aside0.mk (HB12.out.trans (hb.mono HB12.out.size)); have HW13 := Aside0.mk (HW12.out.trans (hb.mono HW12.out.size)); have Hgh_13 := Aside0.mk (blk_below Hgh_12.out hb); have Hgj_13 := Aside0.mk (blk_below Hgj_12.out hb); have Rl_13 := Aside0.mk (Kd.C_below Rl_12.out hb); have Rm_13 := Aside0.mk (Kd.C_below Rm_12.out hb); have Ro_13 := Aside0.mk (Kd.C_below Ro_12.out hb); have Rc_13 := Aside0.mk (Kd.C_below Rc_12.out hb); have Re_13 := Aside0.mk (Kd.C_below Re_12.out hb); have Rh7_13 := Aside0.mk (Kd.C_below Rh7_12.out hb); have Rh_13 := Aside0.mk (Kd.C_below Rh_12.out hb); have Rj7_13 := Aside0.mk (Kd.C_below Rj7_12.out hb); have Rj_13 := Aside0.mk (Kd.C_below Rj_12.out hb); have Rk_13 := Aside0.mk (Kd.C_below Rk_12.out hb); have Rn_13 := Aside0.mk (Kd.C_below Rn_12.out hb); have Rs_13 := Aside0.mk (Kd.C_below Rs_12.out hb); have Oc_13 := Aside0.mk (Kd.R_below Oc_12.out hb); have Oh_13 := Aside0.mk (Kd.R_below Oh_12.out hb); have Ok_13 := Aside0.mk (Kd.R_below Ok_12.out hb); have Os_13 := Aside0.mk (Kd.R_below Os_12.out hb); obtain ⟨At, ct, rfl⟩ := Kd.R_slice h0; have Rt_13 := Aside0.mk (Kd.R_reads' h0).2.2; have Lt := Aside0.mk (Kd.R_reads' h0).2.1; clear h0; clear hb))
  go_wp2_with (first | (go_at_call 23; (with_reducible refine (net_Cut.calls A0 c0 l a b u _ Rl_13.out HC0.out Ecut.out).mono ?_); rintro e w14 ⟨v0, rfl, h0, hb⟩; have HB14 := Aside0.mk (HB13.out.trans (hb.mono HB13.out.size)); have HW14 := Aside0.mk (HW13.out.trans (hb.mono HW13.out.size)); have Hgh_14 := Aside0.mk (blk_below Hgh_13.out hb); have Hgj_14 := Aside0.mk (blk_below Hgj_13.out hb); have Rl_14 := Aside0.mk (Kd.C_below Rl_13.out hb); have Rm_14 := Aside0.mk (Kd.C_below Rm_13.out hb); have Ro_14 := Aside0.mk (Kd.C_below Ro_13.out hb); have Rc_14 := Aside0.mk (Kd.C_below Rc_13.out hb); have Re_14 := Aside0.mk (Kd.C_below Re_13.out hb); have Rh7_14 := Aside0.mk (Kd.C_below Rh7_13.out hb); have Rh_14 := Aside0.mk (Kd.C_below Rh_13.out hb); have Rj7_14 := Aside0.mk (Kd.C_below Rj7_13.out hb); have Rj_14 := Aside0.mk (Kd.C_below Rj_13.out hb); have Rk_14 := Aside0.mk (Kd.C_below Rk_13.out hb); have Rn_14 := Aside0.mk (Kd.C_below Rn_13.out hb); have Rs_14 := Aside0.mk (Kd.C_below Rs_13.out hb); have Rt_14 := Aside0.mk (Kd.C_below Rt_13.out hb); have Oc_14 := Aside0.mk (Kd.R_below Oc_13.out hb); have Oh_14 := Aside0.mk (Kd.R_below Oh_13.out hb); have Ok_14 := Aside0.mk (Kd.R_below Ok_13.out hb); have Os_14 := Aside0.mk (Kd.R_below Os_13.out hb); obtain ⟨Au, cu, rfl⟩ := Kd.R_slice h0; have Ru_14 := Aside0.mk (Kd.R_reads' h0).2.2; have Lu := Aside0.mk (Kd.R_reads' h0).2.1; have Ou_14 := Aside0.mk (Kd.R_lower h0 HW13.out.size); clear h0; clear hb))
  go_wp2_with (first | (go_at_call 24; (with_reducible refine (sextonref25_Cut.calls ku Ao co l a b u _ Ro_14.out Lo.out Ercut.out).mono ?_); rintro e w15 ⟨v0, rfl, h0, hb⟩; have HB15 := Aside0.mk (HB14.out.trans (hb.mono HB14.out.size)); have HW15 := Aside0.mk (HW14.out.trans (hb.mono HW14.out.size)); have Hgh_15 := Aside0.mk (blk_below Hgh_14.out hb); have Hgj_15 := Aside0.mk (blk_below Hgj_14.out hb); have Rl_15 := Aside0.mk (Kd.C_below Rl_14.out hb); have Rm_15 := Aside0.mk (Kd.C_below Rm_14.out hb); have Ro_15 := Aside0.mk (Kd.C_below Ro_14.out hb); have Rc_15 := Aside0.mk (Kd.C_below Rc_14.out hb); have Re_15 := Aside0.mk (Kd.C_below Re_14.out hb); have Rh7_15 := Aside0.mk (Kd.C_below Rh7_14.out hb); have Rh_15 := Aside0.mk (Kd.C_below Rh_14.out hb); have Rj7_15 := Aside0.mk (Kd.C_below Rj7_14.out hb); have Rj_15 := Aside0.mk (Kd.C_below Rj_14.out hb); have Rk_15 := Aside0.mk (Kd.C_below Rk_14.out hb); have Rn_15 := Aside0.mk (Kd.C_below Rn_14.out hb); have Rs_15 := Aside0.mk (Kd.C_below Rs_14.out hb); have Rt_15 := Aside0.mk (Kd.C_below Rt_14.out hb); have Ru_15 := Aside0.mk (Kd.C_below Ru_14.out hb); have Oc_15 := Aside0.mk (Kd.R_below Oc_14.out hb); have Oh_15 := Aside0.mk (Kd.R_below Oh_14.out hb); have Ok_15 := Aside0.mk (Kd.R_below Ok_14.out hb); have Os_15 := Aside0.mk (Kd.R_below Os_14.out hb); have Ou_15 := Aside0.mk (Kd.R_below Ou_14.out hb); obtain ⟨Av, cv, rfl⟩ := Kd.S_slice h0; have Rv_15 := Aside0.mk (Kd.S_reads' h0).2.2; have Lv := Aside0.mk (Kd.S_reads' h0).2.1; clear h0; clear hb))
  go_wp2_with (first | (go_at_call 25; (with_reducible refine (sextonref23_SameRow.calls k1 Ac cc c Ae ce c true _ Rc_15.out Lc.out Re_15.out Le.out Es1.out).mono ?_); rintro e w16 ⟨rfl, hb⟩; have HB16 := Aside0.mk (HB15.out.trans (hb.mono HB15.out.size)); have HW16 := Aside0.mk (HW15.out.trans (hb.mono HW15.out.size)); have Hgh_16 := Aside0.mk (blk_below Hgh_15.out hb); have Hgj_16 := Aside0.mk (blk_below Hgj_15.out hb); have Rl_16 := Aside0.mk (Kd.C_below Rl_15.out hb); have Rm_16 := Aside0.mk (Kd.C_below Rm_15.out hb); have Ro_16 := Aside0.mk (Kd.C_below Ro_15.out hb); have Rc_16 := Aside0.mk (Kd.C_below Rc_15.out hb); have Re_16 := Aside0.mk (Kd.C_below Re_15.out hb); have Rh7_16 := Aside0.mk (Kd.C_below Rh7_15.out hb); have Rh_16 := Aside0.mk (Kd.C_below Rh_15.out hb); have Rj7_16 := Aside0.mk (Kd.C_below Rj7_15.out hb); have Rj_16 := Aside0.mk (Kd.C_below Rj_15.out hb); have Rk_16 := Aside0.mk (Kd.C_below Rk_15.out hb); have Rn_16 := Aside0.mk (Kd.C_below Rn_15.out hb); have Rs_16 := Aside0.mk (Kd.C_below Rs_15.out hb); have Rt_16 := Aside0.mk (Kd.C_below Rt_15.out hb); have Ru_16 := Aside0.mk (Kd.C_below Ru_15.out hb); have Rv_16 := Aside0.mk (Kd.C_below Rv_15.out hb); have Oc_16 := Aside0.mk (Kd.R_below Oc_15.out hb); have Oh_16 := Aside0.mk (Kd.R_below Oh_15.out hb); have Ok_16 := Aside0.mk (Kd.R_below Ok_15.out hb); have Os_16 := Aside0.mk (Kd.R_below Os_15.out hb); have Ou_16 := Aside0.mk (Kd.R_below Ou_15.out hb); have qgh16_0 := blk_cell Hgh_16.out 0; have qgh16_1 := blk_cell Hgh_16.out 1; have qgh16_2 := blk_cell Hgh_16.out 2; have qgh16_3 := blk_cell Hgh_16.out 3; have qgh16_4 := blk_cell Hgh_16.out 4; have qgh16_5 := blk_cell Hgh_16.out 5; have qgh16_6 := blk_cell Hgh_16.out 6; have qgh16_7 := blk_cell Hgh_16.out 7; simp only [blkQ, List.getElem?_toArray, List.getElem?_cons_zero, List.getElem?_cons_succ] at qgh16_0 qgh16_1 qgh16_2 qgh16_3 qgh16_4 qgh16_5 qgh16_6 qgh16_7; have qgj16_0 := blk_cell Hgj_16.out 0; have qgj16_1 := blk_cell Hgj_16.out 1; have qgj16_2 := blk_cell Hgj_16.out 2; have qgj16_3 := blk_cell Hgj_16.out 3; have qgj16_4 := blk_cell Hgj_16.out 4; have qgj16_5 := blk_cell Hgj_16.out 5; have qgj16_6 := blk_cell Hgj_16.out 6; have qgj16_7 := blk_cell Hgj_16.out 7; simp only [blkQ, List.getElem?_toArray, List.getElem?_cons_zero, List.getElem?_cons_succ] at qgj16_0 qgj16_1 qgj16_2 qgj16_3 qgj16_4 qgj16_5 qgj16_6 qgj16_7; clear hb))
  go_wp2_with (first | (go_at_call 26; (with_reducible refine (sextonref23_Same.calls k2 g.f0 g.f1 g.f2 g.f3 g.f4 g.f5 g.f6 Ah7 ch7 g.f7 g.f0 g.f1 g.f2 g.f3 g.f4 g.f5 g.f6 Aj7 cj7 g.f7 true _ Rh7_16.out Lh7.out Rj7_16.out Lj7.out Es2.out).mono ?_); rintro e w17 ⟨rfl, hb⟩; have HB17 := Aside0.mk (HB16.out.trans (hb.mono HB16.out.size)); have HW17 := Aside0.mk (HW16.out.trans (hb.mono HW16.out.size)); have Hgh_17 := Aside0.mk (blk_below Hgh_16.out hb); have Hgj_17 := Aside0.mk (blk_below Hgj_16.out hb); have Rl_17 := Aside0.mk (Kd.C_below Rl_16.out hb); have Rm_17 := Aside0.mk (Kd.C_below Rm_16.out hb); have Ro_17 := Aside0.mk (Kd.C_below Ro_16.out hb); have Rc_17 := Aside0.mk (Kd.C_below Rc_16.out hb); have Re_17 := Aside0.mk (Kd.C_below Re_16.out hb); have Rh7_17 := Aside0.mk (Kd.C_below Rh7_16.out hb); have Rh_17 := Aside0.mk (Kd.C_below Rh_16.out hb); have Rj7_17 := Aside0.mk (Kd.C_below Rj7_16.out hb); have Rj_17 := Aside0.mk (Kd.C_below Rj_16.out hb); have Rk_17 := Aside0.mk (Kd.C_below Rk_16.out hb); have Rn_17 := Aside0.mk (Kd.C_below Rn_16.out hb); have Rs_17 := Aside0.mk (Kd.C_below Rs_16.out hb); have Rt_17 := Aside0.mk (Kd.C_below Rt_16.out hb); have Ru_17 := Aside0.mk (Kd.C_below Ru_16.out hb); have Rv_17 := Aside0.mk (Kd.C_below Rv_16.out hb); have Oc_17 := Aside0.mk (Kd.R_below Oc_16.out hb); have Oh_17 := Aside0.mk (Kd.R_below Oh_16.out hb); have Ok_17 := Aside0.mk (Kd.R_below Ok_16.out hb); have Os_17 := Aside0.mk (Kd.R_below Os_16.out hb); have Ou_17 := Aside0.mk (Kd.R_below Ou_16.out hb); clear hb))
  go_wp2_with (first | (go_at_call 25; (with_reducible refine (sextonref23_SameRow.calls k3 Ah ch h Aj cj h true _ Rh_17.out Lh.out Rj_17.out Lj.out Es3.out).mono ?_); rintro e w18 ⟨rfl, hb⟩; have HB18 := Aside0.mk (HB17.out.trans (hb.mono HB17.out.size)); have HW18 := Aside0.mk (HW17.out.trans (hb.mono HW17.out.size)); have Hgh_18 := Aside0.mk (blk_below Hgh_17.out hb); have Hgj_18 := Aside0.mk (blk_below Hgj_17.out hb); have Rl_18 := Aside0.mk (Kd.C_below Rl_17.out hb); have Rm_18 := Aside0.mk (Kd.C_below Rm_17.out hb); have Ro_18 := Aside0.mk (Kd.C_below Ro_17.out hb); have Rc_18 := Aside0.mk (Kd.C_below Rc_17.out hb); have Re_18 := Aside0.mk (Kd.C_below Re_17.out hb); have Rh7_18 := Aside0.mk (Kd.C_below Rh7_17.out hb); have Rh_18 := Aside0.mk (Kd.C_below Rh_17.out hb); have Rj7_18 := Aside0.mk (Kd.C_below Rj7_17.out hb); have Rj_18 := Aside0.mk (Kd.C_below Rj_17.out hb); have Rk_18 := Aside0.mk (Kd.C_below Rk_17.out hb); have Rn_18 := Aside0.mk (Kd.C_below Rn_17.out hb); have Rs_18 := Aside0.mk (Kd.C_below Rs_17.out hb); have Rt_18 := Aside0.mk (Kd.C_below Rt_17.out hb); have Ru_18 := Aside0.mk (Kd.C_below Ru_17.out hb); have Rv_18 := Aside0.mk (Kd.C_below Rv_17.out hb); have Oc_18 := Aside0.mk (Kd.R_below Oc_17.out hb); have Oh_18 := Aside0.mk (Kd.R_below Oh_17.out hb); have Ok_18 := Aside0.mk (Kd.R_below Ok_17.out hb); have Os_18 := Aside0.mk (Kd.R_below Os_17.out hb); have Ou_18 := Aside0.mk (Kd.R_below Ou_17.out hb); clear hb))
  go_wp2_with (first | (go_at_call 25; (with_reducible refine (sextonref23_SameRow.calls k4 Ak ck y An cn y true _ Rk_18.out Lk.out Rn_18.out Ln.out Es4.out).mono ?_); rintro e w19 ⟨rfl, hb⟩; have HB19 := Aside0.mk (HB18.out.trans (hb.mono HB18.out.size)); have HW19 := Aside0.mk (HW18.out.trans (hb.mono HW18.out.size)); have Hgh_19 := Aside0.mk (blk_below Hgh_18.out hb); have Hgj_19 := Aside0.mk (blk_below Hgj_18.out hb); have Rl_19 := Aside0.mk (Kd.C_below Rl_18.out hb); have Rm_19 := Aside0.mk (Kd.C_below Rm_18.out hb); have Ro_19 := Aside0.mk (Kd.C_below Ro_18.out hb); have Rc_19 := Aside0.mk (Kd.C_below Rc_18.out hb); have Re_19 := Aside0.mk (Kd.C_below Re_18.out hb); have Rh7_19 := Aside0.mk (Kd.C_below Rh7_18.out hb); have Rh_19 := Aside0.mk (Kd.C_below Rh_18.out hb); have Rj7_19 := Aside0.mk (Kd.C_below Rj7_18.out hb); have Rj_19 := Aside0.mk (Kd.C_below Rj_18.out hb); have Rk_19 := Aside0.mk (Kd.C_below Rk_18.out hb); have Rn_19 := Aside0.mk (Kd.C_below Rn_18.out hb); have Rs_19 := Aside0.mk (Kd.C_below Rs_18.out hb); have Rt_19 := Aside0.mk (Kd.C_below Rt_18.out hb); have Ru_19 := Aside0.mk (Kd.C_below Ru_18.out hb); have Rv_19 := Aside0.mk (Kd.C_below Rv_18.out hb); have Oc_19 := Aside0.mk (Kd.R_below Oc_18.out hb); have Oh_19 := Aside0.mk (Kd.R_below Oh_18.out hb); have Ok_19 := Aside0.mk (Kd.R_below Ok_18.out hb); have Os_19 := Aside0.mk (Kd.R_below Os_18.out hb); have Ou_19 := Aside0.mk (Kd.R_below Ou_18.out hb); clear hb))
  go_wp2_with (first | (go_at_call 27; (with_reducible refine (sextonref25_Same.calls k5 As cs s At ct s true _ Rs_19.out Ls.out Rt_19.out Lt.out Es5.out).mono ?_); rintro e w20 ⟨rfl, hb⟩; have HB20 := Aside0.mk (HB19.out.trans (hb.mono HB19.out.size)); have HW20 := Aside0.mk (HW19.out.trans (hb.mono HW19.out.size)); have Hgh_20 := Aside0.mk (blk_below Hgh_19.out hb); have Hgj_20 := Aside0.mk (blk_below Hgj_19.out hb); have Rl_20 := Aside0.mk (Kd.C_below Rl_19.out hb); have Rm_20 := Aside0.mk (Kd.C_below Rm_19.out hb); have Ro_20 := Aside0.mk (Kd.C_below Ro_19.out hb); have Rc_20 := Aside0.mk (Kd.C_below Rc_19.out hb); have Re_20 := Aside0.mk (Kd.C_below Re_19.out hb); have Rh7_20 := Aside0.mk (Kd.C_below Rh7_19.out hb); have Rh_20 := Aside0.mk (Kd.C_below Rh_19.out hb); have Rj7_20 := Aside0.mk (Kd.C_below Rj7_19.out hb); have Rj_20 := Aside0.mk (Kd.C_below Rj_19.out hb); have Rk_20 := Aside0.mk (Kd.C_below Rk_19.out hb); have Rn_20 := Aside0.mk (Kd.C_below Rn_19.out hb); have Rs_20 := Aside0.mk (Kd.C_below Rs_19.out hb); have Rt_20 := Aside0.mk (Kd.C_below Rt_19.out hb); have Ru_20 := Aside0.mk (Kd.C_below Ru_19.out hb); have Rv_20 := Aside0.mk (Kd.C_below Rv_19.out hb); have Oc_20 := Aside0.mk (Kd.R_below Oc_19.out hb); have Oh_20 := Aside0.mk (Kd.R_below Oh_19.out hb); have Ok_20 := Aside0.mk (Kd.R_below Ok_19.out hb); have Os_20 := Aside0.mk (Kd.R_below Os_19.out hb); have Ou_20 := Aside0.mk (Kd.R_below Ou_19.out hb); clear hb))
  go_wp2_with (first | (go_at_call 25; (with_reducible refine (sextonref23_SameRow.calls k6 Au cu u Av cv u true _ Ru_20.out Lu.out Rv_20.out Lv.out Es6.out).mono ?_); rintro e w21 ⟨rfl, hb⟩; have HB21 := Aside0.mk (HB20.out.trans (hb.mono HB20.out.size)); have HW21 := Aside0.mk (HW20.out.trans (hb.mono HW20.out.size)); have Hgh_21 := Aside0.mk (blk_below Hgh_20.out hb); have Hgj_21 := Aside0.mk (blk_below Hgj_20.out hb); have Rl_21 := Aside0.mk (Kd.C_below Rl_20.out hb); have Rm_21 := Aside0.mk (Kd.C_below Rm_20.out hb); have Ro_21 := Aside0.mk (Kd.C_below Ro_20.out hb); have Rc_21 := Aside0.mk (Kd.C_below Rc_20.out hb); have Re_21 := Aside0.mk (Kd.C_below Re_20.out hb); have Rh7_21 := Aside0.mk (Kd.C_below Rh7_20.out hb); have Rh_21 := Aside0.mk (Kd.C_below Rh_20.out hb); have Rj7_21 := Aside0.mk (Kd.C_below Rj7_20.out hb); have Rj_21 := Aside0.mk (Kd.C_below Rj_20.out hb); have Rk_21 := Aside0.mk (Kd.C_below Rk_20.out hb); have Rn_21 := Aside0.mk (Kd.C_below Rn_20.out hb); have Rs_21 := Aside0.mk (Kd.C_below Rs_20.out hb); have Rt_21 := Aside0.mk (Kd.C_below Rt_20.out hb); have Ru_21 := Aside0.mk (Kd.C_below Ru_20.out hb); have Rv_21 := Aside0.mk (Kd.C_below Rv_20.out hb); have Oc_21 := Aside0.mk (Kd.R_below Oc_20.out hb); have Oh_21 := Aside0.mk (Kd.R_below Oh_20.out hb); have Ok_21 := Aside0.mk (Kd.R_below Ok_20.out hb); have Os_21 := Aside0.mk (Kd.R_below Os_20.out hb); have Ou_21 := Aside0.mk (Kd.R_below Ou_20.out hb); clear hb))
  have HS := Aside0.mk (Smu.refl (b := w3.heap.size) (w := w21))
  have hmaxs : s.length ≤ 9223372036854775807 := Kd.C_max Rs_21.out
  go_wp2_with (first | (go_at_call 28; (with_reducible refine (smudge_calls Ac cc w3.heap.size c _ ((Sm.of Oc_21.out).smu HS.out)).mono ?_); rintro e v1 ⟨rfl, hs⟩; replace HS := Aside0.mk (HS.out.trans hs); clear hs))
  go_wp2_with (first | (go_at_call 28; (with_reducible refine (smudge_calls Ah ch w3.heap.size h _ ((Sm.of Oh_21.out).smu HS.out)).mono ?_); rintro e v2 ⟨rfl, hs⟩; replace HS := Aside0.mk (HS.out.trans hs); clear hs))
  go_wp2_with (first | (go_at_call 28; (with_reducible refine (smudge_calls Ak ck w3.heap.size y _ ((Sm.of Ok_21.out).smu HS.out)).mono ?_); rintro e v3 ⟨rfl, hs⟩; replace HS := Aside0.mk (HS.out.trans hs); clear hs))
  go_wp2_with (first | (go_at_call 28; (with_reducible refine (smudge_calls Au cu w3.heap.size u _ ((Sm.of Ou_21.out).smu HS.out)).mono ?_); rintro e v4 ⟨rfl, hs⟩; replace HS := Aside0.mk (HS.out.trans hs); clear hs))
  go_loopw [33] (fun i wr => ∃ q : Nat, q ≤ s.length ∧ i = .int .i64 q ∧ Aside0 (Smu w3.heap.size w21 wr)) (fun i _ => s.length - (intOf i).toNat)
  case atStart => exact ⟨0, Nat.zero_le _, rfl, HS⟩
  case round =>
    clear HS
    obtain ⟨q, hq, rfl, HS⟩ := hrel
    by_cases hlt : q < s.length
    · obtain ⟨gs, cur, G, hA, hss⟩ := SmS.of Os_21.out (by omega)
      subst hA
      have e1 := hss.at_ q hlt
      have e2 := hss.sm q hlt
      generalize s.getD q [] = sq at e1 e2
      have xq := (blk_cell (HS.out.kept hss.blk (by decide) (by decide)) q).trans e1
      have HSM := Aside0.mk (e2.smu HS.out)
      clear hss e1 e2
      go_wp2_with (first | (go_at_call 28; (with_reducible refine (smudge_calls (G q).1 (G q).2 w3.heap.size sq _ HSM.out).mono ?_); rintro e vq ⟨rfl, hs⟩; replace HS := Aside0.mk (HS.out.trans hs); clear hs))
      go_roundw
      case rel => exact ⟨q + 1, hlt, by go_num, HS⟩
      case measure => simp [intOf]; omega
    · obtain rfl : q = s.length := by omega
      clear hlt hq
      have hwb := HS.out.bel
      have HBx := Aside0.mk (HB21.out.trans (hwb.mono HB3.out.size))
      have Rl_x := Aside0.mk (Kd.C_below Rl_3.out (HW21.out.trans hwb))
      have Ro_x := Aside0.mk (Kd.C_below Ro_3.out (HW21.out.trans hwb))
      clear hwb
      go_wp2_with (first | (go_at_call 29; (with_reducible refine (sextonlaw25_carried.calls true _ rfl).mono ?_); rintro e wy ⟨rfl, hb⟩; have HBy := Aside0.mk (HBx.out.trans (hb.mono HBx.out.size)); have Rl_y := Aside0.mk (Kd.C_below Rl_x.out hb); have Ro_y := Aside0.mk (Kd.C_below Ro_x.out hb); clear hb))
      go_wp2_with (first | (go_at_call 25; (with_reducible refine (sextonref23_SameRow.calls k7 A0 c0 l Ao co l true _ Rl_y.out HC0.out Ro_y.out Lo.out Es7.out).mono ?_); rintro e wz ⟨rfl, hb⟩; have HBz := Aside0.mk (HBy.out.trans (hb.mono HBy.out.size)); clear hb))
      go_ret
      exact ⟨rfl, HBz.out⟩

/-- What NetDoes answers: true, where the program and the reference answer the same (YNetDoes says: everywhere). -/
noncomputable def sextonlaw25_NetDoes.f (l0 : List S29) (l1 : List S29) (a2 a3 a4 a5 : Int) : Option Bool :=
  @ite _ ((∃ k, sextonref25_Big.f k l0 = some true) ∨ ((∃ k, sextonref25_Big.f k l0 = some false) ∧ ∃ k, sextonref25_Big.f k l1 = some true) ∨ ∃ c d g h okk y x s u, NetOk l0 l1 a2 a3 a4 a5 c d g h okk y x s u) (Classical.propDecidable _) (some true) none
theorem sextonlaw25_NetDoes.calls (A0 : Option Addr) (c0 : Nat) (l0 : List S29) (A1 : Option Addr) (c1 : Nat) (l1 : List S29) (a2 : Int) (a3 : Int) (a4 : Int) (a5 : Int) (r : Bool) (w : World) (hr0 : Kd.C k29 w A0 l0.length l0) (hc0 : l0.length ≤ c0) (hr1 : Kd.C k29 w A1 l1.length l1) (hc1 : l1.length ≤ c1) (h : sextonlaw25_NetDoes.f l0 l1 a2 a3 a4 a5 = some r) :
    Calls Try.prog 3 #[.slice A0 l0.length c0, .slice A1 l1.length c1, .int .i64 a2, .int .i64 a3, .int .i64 a4, .int .i64 a5] w fun e w' => e = .returned (.bool r) ∧ Below w.heap.size w w' := by
  unfold sextonlaw25_NetDoes.f at h
  split at h
  · rename_i hd
    cases h
    rcases hd with ⟨k, hd⟩ | ⟨⟨k2, hg⟩, k, hd⟩ | ⟨c, d, g, h, okk, y, x, s, u, hd⟩
    · exact netdoes_far1 A0 c0 l0 A1 c1 l1 a2 a3 a4 a5 w hr0 hc0 hr1 hc1 k hd
    · exact netdoes_far2 A0 c0 l0 A1 c1 l1 a2 a3 a4 a5 w hr0 hc0 hr1 hc1 k k2 hg hd
    · exact netdoes_in A0 c0 l0 A1 c1 l1 a2 a3 a4 a5 c d g h okk y x s u w hr0 hc0 hr1 hc1 hd
  · cases h
end Go.Proofs.Ytfejidinfcmfjaa.P
/-
  The plain statement of NetDoes: messages are put, taken, copied, split and cut just so.
-/
namespace Go.Proofs.Ytfejidinfcmfjaa.Pure
open Go.RowKit Go.Proofs Go.Proofs.CodecPlain Go.Proofs.YtfejidinfcmfjaaW.PrintWords Go.Proofs.YtfejidinfcmfjaaW.PrintLast Go.Proofs.Ytfejidinfcmfjaa.P

theorem own1 (x : S29) (hx : x.f7.length ≤ 80) : sextonref25_own.f x.f0 x.f1 x.f2 x.f3 x.f4 x.f5 x.f6 x.f7 = some (x.f0, x.f1, x.f2, x.f3, x.f4, x.f5, x.f6, x.f7) := by
  unfold sextonref25_own.f sextonref01_Own.f
  rw [if_pos (by simp only [List.length_nil]; omega), List.nil_append]
  rfl
theorem own_l0 (l : List S29) (hl : l.length ≤ 1000) (hx : ∀ x ∈ l, x.f7.length ≤ 80) (d : Nat) : ∀ (k : Nat) (acc : List S29), acc.length ≤ 1000 + k → k + d = l.length → Ev (fun r => sextonref25_Own.l0 r l acc (k : Int)) (acc ++ l.drop k) := by
  induction d with
  | zero =>
    intro k acc ha hk
    refine Ev.step (f := fun _ => some acc) (fun r => by simp only [sextonref25_Own.l0]; rw [if_neg (by omega)]) ?_
    rw [List.drop_of_length_le (by omega), List.append_nil]
    exact Ev.now _
  | succ d ih =>
    intro k acc ha hk
    have hlt : k < l.length := by omega
    have := ih (k + 1) (acc ++ [l[k]]) (by simp; omega) (by omega)
    rw [List.append_assoc, List.singleton_append, ← List.drop_eq_getElem_cons hlt] at this
    refine Ev.step (fun r => ?_) this
    simp only [sextonref25_Own.l0]
    rw [if_pos (by omega), if_pos (by omega), rd_msg l k hlt, own1 _ (hx _ (List.getElem_mem hlt)), wrap_id (by omega) (by omega)]
    simp only [Option.bind_some]
    rw [if_pos (by omega)]
    rfl
theorem own25 (l : List S29) (hl : l.length ≤ 1000) (hx : ∀ x ∈ l, x.f7.length ≤ 80) : Ev (fun k => sextonref25_Own.f k l) l := own_l0 l hl hx l.length 0 [] (by simp) (by omega)
theorem put_l0 (m : List S29) (hm : m.length ≤ 1000) (hx : ∀ x ∈ m, x.f7.length ≤ 80) (d : Nat) : ∀ (k : Nat) (acc : List S29) (lost : Nat), lost ≤ k → acc.length ≤ 1000 + k → k + d = m.length → Ev (fun r => sextonref25_Put.l0 r m acc (lost : Int) (k : Int)) (acc ++ (m.drop k).take (200 - acc.length), ((lost + (d - min d (200 - acc.length)) : Nat) : Int)) := by
  induction d with
  | zero =>
    intro k acc lost h0 ha hk
    refine Ev.step (f := fun _ => some (acc, (lost : Int))) (fun r => by simp only [sextonref25_Put.l0]; rw [if_neg (by omega)]) ?_
    rw [List.drop_of_length_le (by omega), List.take_nil, List.append_nil, show lost + (0 - min 0 (200 - acc.length)) = lost by omega]
    exact Ev.now _
  | succ d ih =>
    intro k acc lost h0 ha hk
    have hlt : k < m.length := by omega
    by_cases h2 : 200 ≤ acc.length
    · have := ih (k + 1) acc (lost + 1) (by omega) (by omega) (by omega)
      rw [show 200 - acc.length = 0 by omega, List.take_zero, List.append_nil, show lost + 1 + (d - min d 0) = lost + (d + 1 - min (d + 1) 0) by omega] at this
      rw [show 200 - acc.length = 0 by omega, List.take_zero, List.append_nil]
      refine Ev.step (fun r => ?_) this
      simp only [sextonref25_Put.l0]
      rw [if_pos (by omega), if_pos (by omega), wrap_id (by omega) (by omega), wrap_id (by omega) (by omega)]
      rfl
    · have := ih (k + 1) (acc ++ [m[k]]) lost (by omega) (by simp; omega) (by omega)
      rw [List.length_append, List.length_singleton, List.append_assoc] at this
      rw [List.drop_eq_getElem_cons hlt, show 200 - acc.length = (200 - (acc.length + 1)) + 1 by omega, List.take_succ_cons, show lost + (d + 1 - min (d + 1) (200 - (acc.length + 1) + 1)) = lost + (d - min d (200 - (acc.length + 1))) by omega]
      refine Ev.step (fun r => ?_) this
      simp only [sextonref25_Put.l0]
      rw [if_pos (by omega), if_neg (by omega), if_pos (by omega), rd_msg m k hlt, own1 _ (hx _ (List.getElem_mem hlt)), wrap_id (by omega) (by omega)]
      simp only [Option.bind_some]
      rw [if_pos (by omega)]
      rfl
theorem put25 (l m : List S29) (hl : l.length ≤ 1000) (hx : ∀ x ∈ l, x.f7.length ≤ 80) (hm : m.length ≤ 1000) (hy : ∀ x ∈ m, x.f7.length ≤ 80) : Ev (fun k => sextonref25_Put.f k l m) (l ++ m.take (manyM l.length m.length), ((m.length - manyM l.length m.length : Nat) : Int)) := by
  refine Ev.bind (own25 l hl hx) ?_
  have := put_l0 m hm hy m.length 0 l 0 (by omega) (by omega) (by omega)
  rw [List.drop_zero, Nat.zero_add] at this
  unfold manyM
  rw [show m.take (min m.length (200 - l.length)) = m.take (200 - l.length) by rw [List.take_eq_take_iff]; omega]
  exact this
theorem take25 (l : List S29) (hl : l.length ≤ 1000) (hx : ∀ x ∈ l, x.f7.length ≤ 80) (pl : Int) : Ev (fun k => sextonref25_Take.f k l pl) ((takeM l pl).1.f0, (takeM l pl).1.f1, (takeM l pl).1.f2, (takeM l pl).1.f3, (takeM l pl).1.f4, (takeM l pl).1.f5, (takeM l pl).1.f6, (takeM l pl).1.f7, (takeM l pl).2.1, (takeM l pl).2.2) := by
  unfold takeM
  by_cases h : pl < 0 ∨ pl ≥ (l.length : Int)
  · rw [if_pos h]
    refine Ev.congr (f := fun k => sextonref25_Take.j0 k l pl true) (fun k => ?_) (Ev.step (f := fun _ => some (0, 0, 0, 0, 0, 0, 0, [], [], false)) (fun k => by simp only [sextonref25_Take.j0]; rw [if_pos trivial]) (Ev.now _))
    unfold sextonref25_Take.f
    by_cases h0 : pl < 0
    · rw [if_pos h0]
    · rw [if_neg h0, decide_eq_true (by omega)]
  · rw [if_neg h]
    obtain ⟨i, rfl⟩ : ∃ i : Nat, pl = (i : Int) := ⟨pl.toNat, by omega⟩
    have hi : i < l.length := by omega
    refine Ev.congr (f := fun k => sextonref25_Take.j0 k l (i : Int) false) (fun k => by unfold sextonref25_Take.f; rw [if_neg (by omega), decide_eq_false (by omega)]) ?_
    rw [rd_msg l i hi, Int.toNat_natCast]
    have he : l.take i ++ l.drop (i + 1) = l.eraseIdx i := (List.eraseIdx_eq_take_drop_succ l i).symm
    refine Ev.step (f := fun k => (sextonref25_Own.f k (l.eraseIdx i)).bind fun t => some (l[i].f0, l[i].f1, l[i].f2, l[i].f3, l[i].f4, l[i].f5, l[i].f6, l[i].f7, t, true)) (fun k => ?_) (Ev.bind (own25 _ (Nat.le_trans (List.length_eraseIdx_le ..) hl) (fun x h => hx x (List.mem_of_mem_eraseIdx h))) (Ev.now _))
    simp only [sextonref25_Take.j0]
    rw [if_neg (by decide), if_pos (by omega), if_pos (by omega), Option.bind_some, if_pos (by simp only [List.length_nil, List.length_take]; omega), Option.bind_some, wrap_id (by omega) (by omega), if_pos (by omega), if_pos (by omega), Option.bind_some, if_pos (by simp only [List.nil_append, List.length_take, List.length_drop]; omega), if_pos (by omega), rd_msg l i hi, own1 _ (hx _ (List.getElem_mem hi)), List.nil_append, Int.toNat_natCast, show ((i : Int) + 1).toNat = i + 1 by omega, he]
    rfl
theorem copy25 (l : List S29) (hl : l.length ≤ 1000) (hx : ∀ x ∈ l, x.f7.length ≤ 80) (pl : Int) : Ev (fun k => sextonref25_Copy.f k l pl) (copyM l pl) := by
  refine Ev.bind (own25 l hl hx) ?_
  by_cases h0 : pl < 0
  · rw [show copyM l pl = (l, false) from if_pos (.inl h0)]
    exact Ev.congr (f := fun _ => some (l, false)) (fun k => by rw [if_pos h0]) (Ev.now _)
  by_cases h1 : pl ≥ (l.length : Int)
  · rw [show copyM l pl = (l, false) from if_pos (.inr (.inl h1))]
    exact Ev.congr (f := fun _ => some (l, false)) (fun k => by rw [if_neg h0, if_pos h1]) (Ev.now _)
  by_cases h2 : 200 ≤ l.length
  · rw [show copyM l pl = (l, false) from if_pos (.inr (.inr h2))]
    exact Ev.congr (f := fun _ => some (l, false)) (fun k => by rw [if_neg h0, if_neg h1, if_pos (by omega)]) (Ev.now _)
  obtain ⟨i, rfl⟩ : ∃ i : Nat, pl = (i : Int) := ⟨pl.toNat, by omega⟩
  have hi : i < l.length := by omega
  rw [show copyM l (i : Int) = (l ++ [l[i]], true) by unfold copyM; rw [if_neg (by omega), rd_msg l i hi]]
  refine Ev.congr (f := fun _ => some (l ++ [l[i]], true)) (fun k => ?_) (Ev.now _)
  rw [if_neg h0, if_neg h1, if_neg (by omega), if_pos (by omega), if_pos (by omega), rd_msg l i hi, own1 _ (hx _ (List.getElem_mem hi))]
  simp only [Option.bind_some]
  rw [if_pos (by omega)]
theorem split_l1 (l : List S29) (hl : l.length ≤ 1000) (hx : ∀ x ∈ l, x.f7.length ≤ 80) (n : Nat) (h7 : n ≤ 7) (done : List (List S29)) (hd : done.length ≤ 7) (i : Nat) (hi : i < n) (r : List (List S29)) (one : List S29)
    (d : Nat) : ∀ (k : Nat) (acc : List S29), acc.length ≤ k → k + d = l.length → one = acc ++ (l.drop k).filter (fun x => x.f2 == (i : Int)) → Ev (fun q => sextonref25_Split.l0 q l (n : Int) (done ++ [one]) ((i + 1 : Nat) : Int)) r →
    Ev (fun q => sextonref25_Split.l1 q l (n : Int) done (i : Int) acc (k : Int)) r := by
  induction d with
  | zero =>
    intro k acc ha hk ho hr
    rw [List.drop_of_length_le (by omega), List.filter_nil, List.append_nil] at ho
    subst ho
    refine Ev.step (fun q => ?_) hr
    simp only [sextonref25_Split.l1]
    rw [if_neg (by omega), if_pos (by omega), wrap_id (by omega) (by omega)]
    rfl
  | succ d ih =>
    intro k acc ha hk ho hr
    have hlt : k < l.length := by omega
    rw [List.drop_eq_getElem_cons hlt, List.filter_cons] at ho
    by_cases hf : l[k].f2 = (i : Int)
    · rw [if_pos (by rw [hf]; simp)] at ho
      refine Ev.step (fun q => ?_) (ih (k + 1) (acc ++ [l[k]]) (by simp; omega) (by omega) (by rw [ho]; simp) hr)
      simp only [sextonref25_Split.l1]
      rw [if_pos (by omega), if_pos (by omega), rd_msg l k hlt, if_pos hf, own1 _ (hx _ (List.getElem_mem hlt)), wrap_id (by omega) (by omega)]
      simp only [Option.bind_some]
      rw [if_pos (by omega)]
      rfl
    · rw [if_neg (by simpa using hf)] at ho
      refine Ev.step (fun q => ?_) (ih (k + 1) acc (by omega) (by omega) ho hr)
      simp only [sextonref25_Split.l1]
      rw [if_pos (by omega), if_pos (by omega), rd_msg l k hlt, if_neg hf, wrap_id (by omega) (by omega)]
      rfl
theorem split_l0 (l : List S29) (hl : l.length ≤ 1000) (hx : ∀ x ∈ l, x.f7.length ≤ 80) (n : Nat) (h7 : n ≤ 7) (d : Nat) : ∀ i : Nat, i + d = n →
    Ev (fun q => sextonref25_Split.l0 q l (n : Int) ((List.range i).map (fun (i : Nat) => l.filter (fun x => x.f2 == (i : Int)))) (i : Int)) ((List.range n).map (fun (i : Nat) => l.filter (fun x => x.f2 == (i : Int)))) := by
  induction d with
  | zero =>
    intro i hi
    obtain rfl : i = n := by omega
    exact Ev.step (f := fun _ => some _) (fun q => by simp only [sextonref25_Split.l0]; rw [if_neg (by omega)]) (Ev.now _)
  | succ d ih =>
    intro i hi
    have := ih (i + 1) (by omega)
    rw [List.range_succ, List.map_append, List.map_cons, List.map_nil] at this
    refine Ev.step (fun q => ?_) (split_l1 l hl hx n h7 ((List.range i).map (fun (i : Nat) => l.filter (fun x => x.f2 == (i : Int)))) (by simp; omega) i (by omega) _ (l.filter (fun x => x.f2 == (i : Int))) l.length 0 [] (by simp) (by omega) (by rw [List.drop_zero, List.nil_append]) this)
    simp only [sextonref25_Split.l0]
    rw [if_pos (by omega)]
    rfl
theorem split25 (l : List S29) (hl : l.length ≤ 1000) (hx : ∀ x ∈ l, x.f7.length ≤ 80) (n : Int) : Ev (fun k => sextonref25_Split.f k l n) (splitM l n) := by
  unfold splitM
  by_cases h : n < 1 ∨ 7 < n
  · rw [if_pos h]
    refine Ev.congr (f := fun k => sextonref25_Split.j0 k l n true) (fun k => ?_) (Ev.step (f := fun _ => some []) (fun k => by simp only [sextonref25_Split.j0]; rw [if_pos trivial]) (Ev.now _))
    unfold sextonref25_Split.f
    by_cases h0 : n < 1
    · rw [if_pos h0]
    · rw [if_neg h0, decide_eq_true (by omega)]
  · rw [if_neg h]
    obtain ⟨m, rfl⟩ : ∃ m : Nat, n = (m : Int) := ⟨n.toNat, by omega⟩
    refine Ev.congr (f := fun k => sextonref25_Split.j0 k l (m : Int) false) (fun k => by unfold sextonref25_Split.f; rw [if_neg (by omega), decide_eq_false (by omega)]) ?_
    refine Ev.step (f := fun k => sextonref25_Split.l0 k l (m : Int) [] 0) (fun k => by simp only [sextonref25_Split.j0]; rw [if_neg (by decide)]) ?_
    rw [Int.toNat_natCast]
    exact split_l0 l hl hx m (by omega) m 0 (by omega)
theorem cut_l0 (l : List S29) (hl : l.length ≤ 1000) (hx : ∀ x ∈ l, x.f7.length ≤ 80) (a b : Int) (d : Nat) : ∀ (k : Nat) (acc : List S29), acc.length ≤ k → k + d = l.length → Ev (fun q => sextonref25_Cut.l0 q l a b acc (k : Int)) (acc ++ (l.drop k).filter (fun x => !cutP a b x)) := by
  induction d with
  | zero =>
    intro k acc ha hk
    rw [List.drop_of_length_le (by omega), List.filter_nil, List.append_nil]
    exact Ev.step (f := fun _ => some acc) (fun r => by simp only [sextonref25_Cut.l0]; rw [if_neg (by omega)]) (Ev.now _)
  | succ d ih =>
    intro k acc ha hk
    have hlt : k < l.length := by omega
    rw [List.drop_eq_getElem_cons hlt, List.filter_cons]
    by_cases hc : cutP a b l[k] = true
    · rw [if_neg (by simp [hc])]
      refine Ev.step (fun q => ?_) (ih (k + 1) acc (by omega) (by omega))
      simp only [sextonref25_Cut.l0]
      rw [if_pos (by omega), if_pos (by omega), rd_msg l k hlt, own1 _ (hx _ (List.getElem_mem hlt)), wrap_id (by omega) (by omega)]
      simp only [cutP, Bool.or_eq_true, Bool.and_eq_true, beq_iff_eq] at hc
      show _ = sextonref25_Cut.l0 q l a b acc ((k : Int) + 1)
      split
      · split
        · rfl
        · split
          · split
            · rfl
            · omega
          · omega
      · split
        · split
          · rfl
          · omega
        · omega
    · have hc' : cutP a b l[k] = false := by simpa using hc
      rw [if_pos (by simp [hc'])]
      have := ih (k + 1) (acc ++ [l[k]]) (by simp; omega) (by omega)
      rw [List.append_assoc, List.singleton_append] at this
      refine Ev.step (fun q => ?_) this
      simp only [sextonref25_Cut.l0]
      rw [if_pos (by omega), if_pos (by omega), rd_msg l k hlt, own1 _ (hx _ (List.getElem_mem hlt)), wrap_id (by omega) (by omega)]
      simp only [Option.bind_some]
      simp only [cutP, Bool.or_eq_false_iff, Bool.and_eq_false_iff, beq_eq_false_iff_ne] at hc'
      rw [if_pos (show acc.length < 1759218604441 by omega)]
      show _ = sextonref25_Cut.l0 q l a b (acc ++ [l[k]]) ((k : Int) + 1)
      split
      · split
        · omega
        · split
          · split
            · omega
            · rfl
          · rfl
      · split
        · split
          · omega
          · rfl
        · rfl
theorem cut25 (l : List S29) (hl : l.length ≤ 1000) (hx : ∀ x ∈ l, x.f7.length ≤ 80) (a b : Int) : Ev (fun k => sextonref25_Cut.f k l a b) (l.filter (fun x => !cutP a b x)) := by
  have := cut_l0 l hl hx a b l.length 0 [] (by simp) (by omega)
  rwa [List.drop_zero, List.nil_append] at this
theorem rows_l0 (s : List (List S29)) (hs : s.length ≤ 1000) (hl : ∀ l ∈ s, l.length ≤ 1000 ∧ ∀ x ∈ l, x.f7.length ≤ 80) (d : Nat) : ∀ k : Nat, k + d = s.length → Ev (fun r => sextonref25_Same.l0 r s s (k : Int)) true := by
  induction d with
  | zero =>
    intro k hk
    exact Ev.step (f := fun _ => some true) (fun r => by simp only [sextonref25_Same.l0]; rw [if_neg (by omega)]) (Ev.now _)
  | succ d ih =>
    intro k hk
    have hlt : k < s.length := by omega
    have hm := hl _ (List.getElem_mem hlt)
    refine Ev.step (f := fun r => (sextonref23_SameRow.f r s[k] s[k]).bind fun t => if t = true then sextonref25_Same.l0 r s s ((k + 1 : Nat) : Int) else some false) (fun r => ?_) ?_
    · simp only [sextonref25_Same.l0]
      rw [if_pos (by omega), if_pos (by omega), if_pos (by omega), show rd_L4 s (k : Int) = s[k] by simp [rd_L4, List.getD_eq_getElem?_getD, hlt], wrap_id (by omega) (by omega)]
      rfl
    · refine Ev.bind (row_yes s[k] (by omega) (fun x h => Nat.le_trans (hm.2 x h) (by omega))) ?_
      exact Ev.congr (fun r => by rw [if_pos rfl]) (ih (k + 1) (by omega))
theorem rows_yes (s : List (List S29)) (hs : s.length ≤ 1000) (hl : ∀ l ∈ s, l.length ≤ 1000 ∧ ∀ x ∈ l, x.f7.length ≤ 80) : Ev (fun r => sextonref25_Same.f r s s) true := by
  refine Ev.congr (f := fun r => sextonref25_Same.l0 r s s 0) (fun r => by unfold sextonref25_Same.f; rw [if_pos rfl]) ?_
  exact rows_l0 s hs hl s.length 0 (by omega)
theorem ex_of {α : Type} {g : Nat → Option α} {r : α} (h : Ev g r) : ∃ k, g k = some r := ⟨h.choose, h.choose_spec _ (Nat.le_refl _)⟩

theorem NetDoes (l0 : (List S29)) (l1 : (List S29)) (a2 : Int) (a3 : Int) (a4 : Int) (a5 : Int) {ok0 : Prop} (h0 : ok0) {ok1 : Prop} (h1 : ok1) {ok2 : Prop} (h2 : ok2) {ok3 : Prop} (h3 : ok3) {ok4 : Prop} (h4 : ok4) {ok5 : Prop} (h5 : ok5) :
    sextonlaw25_NetDoes.f l0 l1 a2 a3 a4 a5 = some true := by
  clear h0 h1 h2 h3 h4 h5
  unfold sextonlaw25_NetDoes.f
  obtain ⟨b, hb, hs⟩ := big25 l0
  cases b
  rotate_left
  · rw [if_pos (.inl (ex_of hb))]
  obtain ⟨b1, hb1, hs1⟩ := big25 l1
  cases b1
  rotate_left
  · rw [if_pos (.inr (.inl ⟨ex_of hb, ex_of hb1⟩))]
  obtain ⟨hl, hx⟩ := hs rfl
  obtain ⟨hm, hy⟩ := hs1 rfl
  have hx' : ∀ x ∈ l0, x.f7.length ≤ 1000000000 := fun x h => Nat.le_trans (hx x h) (by omega)
  have hc : (l0 ++ l1.take (manyM l0.length l1.length)).length ≤ 1000 := by
    rw [List.length_append, List.length_take]; omega
  have hcx : ∀ x ∈ l0 ++ l1.take (manyM l0.length l1.length), x.f7.length ≤ 80 := by
    intro x h
    rcases List.mem_append.1 h with h | h
    · exact hx x h
    · exact hy x (List.mem_of_mem_take h)
  have hg : (takeM l0 a2).1.f7.length ≤ 80 ∧ (takeM l0 a2).2.1.length ≤ 1000 ∧ ∀ x ∈ (takeM l0 a2).2.1, x.f7.length ≤ 80 := by
    unfold takeM
    split
    · exact ⟨by decide, by simp, fun x h => by cases h⟩
    · rename_i h
      obtain ⟨i, rfl⟩ : ∃ i : Nat, a2 = (i : Int) := ⟨a2.toNat, by omega⟩
      have hi : i < l0.length := by omega
      rw [rd_msg l0 i hi]
      exact ⟨hx _ (List.getElem_mem hi), Nat.le_trans (List.length_eraseIdx_le ..) (by omega), fun x h => hx x (List.mem_of_mem_eraseIdx h)⟩
  have hk : (copyM l0 a2).1.length ≤ 1000 ∧ ∀ x ∈ (copyM l0 a2).1, x.f7.length ≤ 80 := by
    unfold copyM
    split
    · exact ⟨(by omega : l0.length ≤ 1000), hx⟩
    · rename_i h
      obtain ⟨i, rfl⟩ : ∃ i : Nat, a2 = (i : Int) := ⟨a2.toNat, by omega⟩
      have hi : i < l0.length := by omega
      rw [rd_msg l0 i hi]
      refine ⟨by rw [List.length_append, List.length_singleton]; omega, fun x h => ?_⟩
      rcases List.mem_append.1 h with h | h
      · exact hx x h
      · rw [List.mem_singleton] at h; subst h; exact hx _ (List.getElem_mem hi)
  have hsp : (splitM l0 a3).length ≤ 1000 ∧ ∀ l ∈ splitM l0 a3, l.length ≤ 1000 ∧ ∀ x ∈ l, x.f7.length ≤ 80 := by
    unfold splitM
    split
    · exact ⟨by simp, fun l h => by cases h⟩
    · rename_i hn
      refine ⟨by rw [List.length_map, List.length_range]; omega, fun l h => ?_⟩
      obtain ⟨i, -, rfl⟩ := List.mem_map.1 h
      exact ⟨Nat.le_trans (List.length_filter_le _ _) (by omega), fun x h => hx x (List.mem_filter.1 h).1⟩
  have hu : (l0.filter (fun x => !cutP a4 a5 x)).length ≤ 1000 ∧ ∀ x ∈ l0.filter (fun x => !cutP a4 a5 x), x.f7.length ≤ 80 := ⟨Nat.le_trans (List.length_filter_le _ _) (by omega), fun x h => hx x (List.mem_filter.1 h).1⟩
  have yes : ∀ l : List S29, l.length ≤ 1000 → (∀ x ∈ l, x.f7.length ≤ 80) → ∃ k, sextonref23_SameRow.f k l l = some true := fun l h1 h2 => ex_of (row_yes l (by omega) (fun x h => Nat.le_trans (h2 x h) (by omega)))
  have hok : NetOk l0 l1 a2 a3 a4 a5 (l0 ++ l1.take (manyM l0.length l1.length)) ((l1.length - manyM l0.length l1.length : Nat) : Int) (takeM l0 a2).1 (takeM l0 a2).2.1 (takeM l0 a2).2.2 (copyM l0 a2).1 (copyM l0 a2).2 (splitM l0 a3) (l0.filter (fun x => !cutP a4 a5 x)) :=
    { big := ex_of hb, big2 := ex_of hb1, own := ex_of (own25 l0 (by omega) hx)
      put := by
        unfold net_Put.f
        rw [if_pos ⟨by omega, by omega, hx', fun x h => Nat.le_trans (hy x h) (by omega)⟩]
      rput := ex_of (put25 l0 l1 (by omega) hx (by omega) hy)
      take := by
        unfold net_Take.f net_TakeS.f
        rw [if_pos ⟨by omega, hx'⟩]
        rfl
      rtake := ex_of (take25 l0 (by omega) hx a2)
      copy := by
        unfold net_Copy.f
        rw [if_pos ⟨by omega, hx'⟩]
      rcopy := ex_of (copy25 l0 (by omega) hx a2)
      split := by
        unfold net_Split.f
        rw [if_pos ⟨by omega, hx'⟩]
      rsplit := ex_of (split25 l0 (by omega) hx a3)
      cut := by
        unfold net_Cut.f
        rw [if_pos ⟨by omega, hx'⟩]
      rcut := ex_of (cut25 l0 (by omega) hx a4 a5)
      s1 := yes _ hc hcx
      s2 := ex_of (same_yes _ (by omega))
      s3 := yes _ hg.2.1 hg.2.2
      s4 := yes _ hk.1 hk.2
      s5 := ex_of (rows_yes _ hsp.1 hsp.2)
      s6 := yes _ hu.1 hu.2
      s7 := yes _ (by omega) hx }
  rw [if_pos (.inr (.inr ⟨_, _, _, _, _, _, _, _, _, hok⟩))]
end Go.Proofs.Ytfejidinfcmfjaa.Pure
