/-
  Texts that the claims of this chapter share, joined.
-/
import Derived.OwnWalk
import Derived.StillTactics
import Derived.LoopTactic
import Derived.Shelf.RegionOpen
import Derived.Test.YtkgcaheddhfpgaaC06b
import Derived.Test.YtkgcaheddhfpgaaC06e
import Derived.Test.YtkgcaheddhfpgaaPx0
set_option linter.unusedVariables false
set_option linter.unusedSimpArgs false
/-
  slot.Save, by hand: pages that are refused.
-/
namespace Go.Proofs.Ytkgcaheddhfpgaa.P
open Go.RowKit Go.Shelf Go.Proofs Go.Proofs.CodecPlain Go.Proofs.YtkgcaheddhfpgaaW.PrintWords Go.Proofs.YtkgcaheddhfpgaaW.PrintLast Go.Proofs.YtkgcaheddhfpgaaW.PrintMore

set_option maxHeartbeats 16000000 in
set_option maxRecDepth 100000 in
theorem slot_Save_B (A0 : Option Addr) (c0 : Nat) (l : List ByteArray) (A1 : Option Addr) (c1 : Nat) (u : List S73) (A2 : Option Addr) (c2 : Nat) (t : List ByteArray) (m : Int) (w : World) (hr0 : Kd.C Kd.string w A0 l.length l) (hc0 : l.length ≤ c0) (hr1 : Kd.C k73 w A1 u.length u) (hc1 : u.length ≤ c1) (hr2 : Kd.C Kd.string w A2 t.length t) (hc2 : t.length ≤ c2) (he : (loadV l u).2.2.2 = 0) (hal : t.any (fun s => decide (200 < s.size)) = true) :
    Calls Try.prog 21 #[.agg #[.slice A0 l.length c0, .slice A1 u.length c1], .slice A2 t.length c2, .int .i64 m] w (SavePost w [] [] false 2) := by
  have HE0 := Aside0.mk (SvEnt.start w #[.slice A0 l.length c0, .slice A1 u.length c1] m)
  have HL := Aside0.mk (slot_load_calls A0 c0 l A1 c1 u (((((w.alloc (.cells #[.slice A0 l.length c0, .slice A1 u.length c1] 25)).alloc (.cells #[.int .i64 m] 3)).alloc (.cells #[.slice none 0 0, .slice none 0 0] 25)).alloc (.cells #[.bool false] 4)).alloc (.cells #[.int .i64 0] 27)) (Kd.C_below hr0 HE0.out.bel) hc0 (Kd.C_below hr1 HE0.out.bel) hc1)
  have hchk := loadV_check l u he
  have hl2 := check_len hchk
  have htb := loadV_tbs l u
  obtain ⟨r, hr⟩ : ∃ r, r = loadV l u := ⟨_, rfl⟩
  rw [← hr] at HL he htb
  obtain ⟨n, tb, pages, er⟩ := r
  simp only at HL he htb
  subst he
  obtain ⟨fr, hfq⟩ : ∃ fr, fr = freeK tb l.length := ⟨_, rfl⟩
  have HFR := Aside0.mk (fun (W : World) (bs : Nat) (A3 : Option Addr) (c3 : Nat) (P : Value) hb q0 q1 => show Calls Try.prog _ _ W _ by have := slot_free_calls bs A0 l.length c0 A1 u.length c1 n A3 tb c3 P W hb q0 q1 (by omega) (by omega); rw [← hfq] at this; exact this)
  have HR2 := Aside0.mk (fun (W : World) (hb : Below w.heap.size w W) => Kd.C_below hr2 hb)
  have HCT := Aside0.mk (fun (W : World) (hb : Below w.heap.size w W) => show Calls Try.prog _ _ W _ by have := ContainsFuncStr 43 #[] (fun s => decide (200 < s.size)) A2 c2 t W (HR2.out W hb) (long_pred t W); rw [hal] at this; exact this)
  obtain ⟨iI, hiI⟩ : ∃ i, Try.prog.info? 3 = some i := Option.isSome_iff_exists.1 (by kernel_rfl)
  have hu_ := Try.underlying39
  clear hr hr0 hr1 hr2 hchk hl2 htb hfq hal
  go_enter Try.func21, Try.ntmps21
  go_wp2
  go_step3
  go_wp2_with (first | (go_at_call 40; ((with_reducible refine HL.out.mono ?_); rintro e w1 ⟨p, rfl, hl, hb⟩; have hl2 := hl.out; unfold Loaded at hl2; obtain ⟨_, bs, A3, c3, P, rfl, hbb, hsh, hC3, hc3, _⟩ := hl2.resolve_left (fun q => q.1 rfl); clear hl2; have HE1 := Aside0.mk ((HE0.out.below hb).below ((Below.refl _ w1).alloc (Nat.le_refl _) (.cells #[.int .i64 0] 27))); have HX1 := Aside0.mk (blk_new w1 (.cells #[.int .i64 0] 27)); have HZ1 := Aside0.mk (HE0.out.below hb).size; have HF1 := Aside0.mk (HFR.out (w1.alloc (.cells #[.int .i64 0] 27)) bs A3 c3 P (blk_alloc hsh _) (Kd.C_alloc hC3 _) hc3); clear hb hl hsh hC3 hbb)) | (go_at_call 41; ((with_reducible refine HF1.out.mono ?_); rintro e w2 ⟨v2, rfl, hRF, hb⟩; obtain ⟨AF, cF, rfl⟩ := Kd.R_slice hRF; have HE2 := Aside0.mk (HE1.out.below hb); have HX2 := Aside0.mk (blk_below HX1.out hb); have HRF2 := Aside0.mk hRF; clear hb hRF)) | (go_at_call 42; ((with_reducible refine (HCT.out _ HE2.out.bel).mono ?_); rintro e w3 ⟨rfl, hb⟩; have HE3 := Aside0.mk (HE2.out.below hb); have HX3 := Aside0.mk (blk_below HX2.out hb); have HRF3 := Aside0.mk (Kd.R_below HRF2.out hb); clear hb; have z0 := blk_cell HE3.out.z 0; have z1 := blk_cell HE3.out.z 1; have k0 := blk_cell HE3.out.k 0; have e0 := blk_cell HE3.out.e 0; have fz0 := blk_frozen HE3.out.z 0; have fz1 := blk_frozen HE3.out.z 1; have fk0 := blk_frozen HE3.out.k 0; have fe0 := blk_frozen HE3.out.e 0; simp only [List.getElem?_toArray, List.getElem?_cons_zero, List.getElem?_cons_succ] at z0 z1 k0 e0)))
  obtain ⟨hF, f1, f2, f3⟩ := HE3.out.fail 2
  have g0 := blk_cell f1 0
  have g1 := blk_cell f1 1
  have g2 := blk_cell f2 0
  have g3 := blk_cell f3 0
  simp only [List.getElem?_toArray, List.getElem?_cons_zero, List.getElem?_cons_succ] at g0 g1 g2 g3
  clear f1 f2 f3
  rw [Exit.noGoto_ret]
  refine bodyPost_ret (v := .tuple #[.agg #[.slice none 0 0, .slice none 0 0], .bool false, .int .i64 2]) ?_ rfl hF
  simp [results, Try.results21, go_sem, g0, g1, g2, g3]
set_option maxHeartbeats 16000000 in
set_option maxRecDepth 100000 in
theorem slot_Save_C (A0 : Option Addr) (c0 : Nat) (l : List ByteArray) (A1 : Option Addr) (c1 : Nat) (u : List S73) (A2 : Option Addr) (c2 : Nat) (t : List ByteArray) (m : Int) (w : World) (hr0 : Kd.C Kd.string w A0 l.length l) (hc0 : l.length ≤ c0) (hr1 : Kd.C k73 w A1 u.length u) (hc1 : u.length ≤ c1) (hr2 : Kd.C Kd.string w A2 t.length t) (hc2 : t.length ≤ c2) (he : (loadV l u).2.2.2 = 0) (hal : t.any (fun s => decide (200 < s.size)) = false) (hfr : (freeK (loadV l u).2.1 l.length).length < t.length) :
    Calls Try.prog 21 #[.agg #[.slice A0 l.length c0, .slice A1 u.length c1], .slice A2 t.length c2, .int .i64 m] w (SavePost w [] [] false 41) := by
  have HE0 := Aside0.mk (SvEnt.start w #[.slice A0 l.length c0, .slice A1 u.length c1] m)
  have HL := Aside0.mk (slot_load_calls A0 c0 l A1 c1 u (((((w.alloc (.cells #[.slice A0 l.length c0, .slice A1 u.length c1] 25)).alloc (.cells #[.int .i64 m] 3)).alloc (.cells #[.slice none 0 0, .slice none 0 0] 25)).alloc (.cells #[.bool false] 4)).alloc (.cells #[.int .i64 0] 27)) (Kd.C_below hr0 HE0.out.bel) hc0 (Kd.C_below hr1 HE0.out.bel) hc1)
  have hchk := loadV_check l u he
  have hl2 := check_len hchk
  have htb := loadV_tbs l u
  obtain ⟨r, hr⟩ : ∃ r, r = loadV l u := ⟨_, rfl⟩
  rw [← hr] at HL he htb hfr
  obtain ⟨n, tb, pages, er⟩ := r
  simp only at HL he htb hfr
  subst he
  obtain ⟨fr, hfq⟩ : ∃ fr, fr = freeK tb l.length := ⟨_, rfl⟩
  rw [← hfq] at hfr
  have HFR := Aside0.mk (fun (W : World) (bs : Nat) (A3 : Option Addr) (c3 : Nat) (P : Value) hb q0 q1 => show Calls Try.prog _ _ W _ by have := slot_free_calls bs A0 l.length c0 A1 u.length c1 n A3 tb c3 P W hb q0 q1 (by omega) (by omega); rw [← hfq] at this; exact this)
  have HR2 := Aside0.mk (fun (W : World) (hb : Below w.heap.size w W) => Kd.C_below hr2 hb)
  have HCT := Aside0.mk (fun (W : World) (hb : Below w.heap.size w W) => show Calls Try.prog _ _ W _ by have := ContainsFuncStr 43 #[] (fun s => decide (200 < s.size)) A2 c2 t W (HR2.out W hb) (long_pred t W); rw [hal] at this; exact this)
  obtain ⟨iI, hiI⟩ : ∃ i, Try.prog.info? 3 = some i := Option.isSome_iff_exists.1 (by kernel_rfl)
  have hu_ := Try.underlying39
  have d1 : decide ((fr.length : Int) < (t.length : Int)) = true := decide_eq_true (by omega)
  have d2 : decide (fr.length < t.length) = true := decide_eq_true hfr
  clear hr hr0 hr1 hr2 hchk hl2 htb hfq hal hfr
  go_enter Try.func21, Try.ntmps21
  go_wp2
  go_step3
  go_wp2_with (first | (go_at_call 40; ((with_reducible refine HL.out.mono ?_); rintro e w1 ⟨p, rfl, hl, hb⟩; have hl2 := hl.out; unfold Loaded at hl2; obtain ⟨_, bs, A3, c3, P, rfl, hbb, hsh, hC3, hc3, _⟩ := hl2.resolve_left (fun q => q.1 rfl); clear hl2; have HE1 := Aside0.mk ((HE0.out.below hb).below ((Below.refl _ w1).alloc (Nat.le_refl _) (.cells #[.int .i64 0] 27))); have HX1 := Aside0.mk (blk_new w1 (.cells #[.int .i64 0] 27)); have HZ1 := Aside0.mk (HE0.out.below hb).size; have HF1 := Aside0.mk (HFR.out (w1.alloc (.cells #[.int .i64 0] 27)) bs A3 c3 P (blk_alloc hsh _) (Kd.C_alloc hC3 _) hc3); clear hb hl hsh hC3 hbb)) | (go_at_call 41; ((with_reducible refine HF1.out.mono ?_); rintro e w2 ⟨v2, rfl, hRF, hb⟩; obtain ⟨AF, cF, rfl⟩ := Kd.R_slice hRF; have HE2 := Aside0.mk (HE1.out.below hb); have HX2 := Aside0.mk (blk_below HX1.out hb); have HRF2 := Aside0.mk hRF; clear hb hRF)) | (go_at_call 42; ((with_reducible refine (HCT.out _ HE2.out.bel).mono ?_); rintro e w3 ⟨rfl, hb⟩; have HE3 := Aside0.mk (HE2.out.below hb); have HX3 := Aside0.mk (blk_below HX2.out hb); have HRF3 := Aside0.mk (Kd.R_below HRF2.out hb); clear hb; have z0 := blk_cell HE3.out.z 0; have z1 := blk_cell HE3.out.z 1; have k0 := blk_cell HE3.out.k 0; have e0 := blk_cell HE3.out.e 0; have fz0 := blk_frozen HE3.out.z 0; have fz1 := blk_frozen HE3.out.z 1; have fk0 := blk_frozen HE3.out.k 0; have fe0 := blk_frozen HE3.out.e 0; simp only [List.getElem?_toArray, List.getElem?_cons_zero, List.getElem?_cons_succ] at z0 z1 k0 e0)))
  obtain ⟨hF, f1, f2, f3⟩ := HE3.out.fail 41
  have g0 := blk_cell f1 0
  have g1 := blk_cell f1 1
  have g2 := blk_cell f2 0
  have g3 := blk_cell f3 0
  simp only [List.getElem?_toArray, List.getElem?_cons_zero, List.getElem?_cons_succ] at g0 g1 g2 g3
  clear f1 f2 f3
  rw [Exit.noGoto_ret]
  refine bodyPost_ret (v := .tuple #[.agg #[.slice none 0 0, .slice none 0 0], .bool false, .int .i64 41]) ?_ rfl hF
  simp [results, Try.results21, go_sem, g0, g1, g2, g3]
set_option maxHeartbeats 16000000 in
set_option maxRecDepth 100000 in
theorem slot_Save_D (A0 : Option Addr) (c0 : Nat) (l : List ByteArray) (A1 : Option Addr) (c1 : Nat) (u : List S73) (A2 : Option Addr) (c2 : Nat) (t : List ByteArray) (m : Int) (w : World) (hr0 : Kd.C Kd.string w A0 l.length l) (hc0 : l.length ≤ c0) (hr1 : Kd.C k73 w A1 u.length u) (hc1 : u.length ≤ c1) (hr2 : Kd.C Kd.string w A2 t.length t) (hc2 : t.length ≤ c2) (he : (loadV l u).2.2.2 = 0) (hal : t.any (fun s => decide (200 < s.size)) = false) (hfr : ¬ (freeK (loadV l u).2.1 l.length).length < t.length) (hnm : ¬ (namedV ((freeK (loadV l u).2.1 l.length).take t.length)).2 = 0) :
    Calls Try.prog 21 #[.agg #[.slice A0 l.length c0, .slice A1 u.length c1], .slice A2 t.length c2, .int .i64 m] w (SavePost w [] [] false 2) := by
  have HE0 := Aside0.mk (SvEnt.start w #[.slice A0 l.length c0, .slice A1 u.length c1] m)
  have HL := Aside0.mk (slot_load_calls A0 c0 l A1 c1 u (((((w.alloc (.cells #[.slice A0 l.length c0, .slice A1 u.length c1] 25)).alloc (.cells #[.int .i64 m] 3)).alloc (.cells #[.slice none 0 0, .slice none 0 0] 25)).alloc (.cells #[.bool false] 4)).alloc (.cells #[.int .i64 0] 27)) (Kd.C_below hr0 HE0.out.bel) hc0 (Kd.C_below hr1 HE0.out.bel) hc1)
  have hchk := loadV_check l u he
  have hl2 := check_len hchk
  have htb := loadV_tbs l u
  obtain ⟨r, hr⟩ : ∃ r, r = loadV l u := ⟨_, rfl⟩
  rw [← hr] at HL he htb hfr hnm
  obtain ⟨n, tb, pages, er⟩ := r
  simp only at HL he htb hfr hnm
  subst he
  obtain ⟨fr, hfq⟩ : ∃ fr, fr = freeK tb l.length := ⟨_, rfl⟩
  rw [← hfq] at hfr hnm
  have HFR := Aside0.mk (fun (W : World) (bs : Nat) (A3 : Option Addr) (c3 : Nat) (P : Value) hb q0 q1 => show Calls Try.prog _ _ W _ by have := slot_free_calls bs A0 l.length c0 A1 u.length c1 n A3 tb c3 P W hb q0 q1 (by omega) (by omega); rw [← hfq] at this; exact this)
  have HR2 := Aside0.mk (fun (W : World) (hb : Below w.heap.size w W) => Kd.C_below hr2 hb)
  have HCT := Aside0.mk (fun (W : World) (hb : Below w.heap.size w W) => show Calls Try.prog _ _ W _ by have := ContainsFuncStr 43 #[] (fun s => decide (200 < s.size)) A2 c2 t W (HR2.out W hb) (long_pred t W); rw [hal] at this; exact this)
  obtain ⟨iI, hiI⟩ : ∃ i, Try.prog.info? 3 = some i := Option.isSome_iff_exists.1 (by kernel_rfl)
  have hu_ := Try.underlying39
  have hlen : (fr.take t.length).length = t.length := by rw [List.length_take]; omega
  have d1 : decide ((fr.length : Int) < (t.length : Int)) = false := decide_eq_false (by omega)
  have d2 : decide (fr.length < t.length) = false := decide_eq_false hfr
  have hle : t.length ≤ fr.length := by omega
  have HRT := Aside0.mk (fun (W : World) {AF : Option Addr} {cF base : Nat} (q : Kd.R (Kd.int .i64) 3 W base (fun _ => True) (.slice AF fr.length cF) fr) => show Kd.C (Kd.int .i64) W AF t.length (fr.take t.length) by have := Kd.C_take (Kd.R_reads' q).2.2 hle; rw [hlen] at this; exact this)
  obtain ⟨nm, hnmq⟩ : ∃ nm, nm = namedV (fr.take t.length) := ⟨_, rfl⟩
  obtain ⟨kn, hkn⟩ := named_ev (fr.take t.length) (by rw [hlen]; have := freeK_length tb l.length; rw [← hfq] at this; omega) (fun b hb => by
    have := freeK_mem (hfq ▸ List.mem_of_mem_take hb)
    omega)
  rw [← hnmq] at hkn hnm
  obtain ⟨nt, ne⟩ := nm
  have HNM := Aside0.mk (fun (W : World) (AF : Option Addr) (cF : Nat) (q : Kd.C (Kd.int .i64) W AF t.length (fr.take t.length)) (q1 : t.length ≤ cF) => show Calls Try.prog 44 #[.slice AF t.length cF] W _ by have := slot_named.calls kn AF cF (fr.take t.length) nt ne W (by rw [hlen]; exact q) (by rw [hlen]; exact q1) hkn; rw [hlen] at this; exact this)
  simp only at hnm
  have hne : (ne != 0) = true := by rw [bne_iff_ne]; exact hnm
  clear hr hr0 hr1 hr2 hchk hl2 htb hfq hal hfr hnm hkn hnmq
  go_enter Try.func21, Try.ntmps21
  go_wp2
  go_step3
  go_wp2_with (first | (go_at_call 40; ((with_reducible refine HL.out.mono ?_); rintro e w1 ⟨p, rfl, hl, hb⟩; have hl2 := hl.out; unfold Loaded at hl2; obtain ⟨_, bs, A3, c3, P, rfl, hbb, hsh, hC3, hc3, _⟩ := hl2.resolve_left (fun q => q.1 rfl); clear hl2; have HE1 := Aside0.mk ((HE0.out.below hb).below ((Below.refl _ w1).alloc (Nat.le_refl _) (.cells #[.int .i64 0] 27))); have HX1 := Aside0.mk (blk_new w1 (.cells #[.int .i64 0] 27)); have HZ1 := Aside0.mk (HE0.out.below hb).size; have HF1 := Aside0.mk (HFR.out (w1.alloc (.cells #[.int .i64 0] 27)) bs A3 c3 P (blk_alloc hsh _) (Kd.C_alloc hC3 _) hc3); clear hb hl hsh hC3 hbb)) | (go_at_call 41; ((with_reducible refine HF1.out.mono ?_); rintro e w2 ⟨v2, rfl, hRF, hb⟩; obtain ⟨AF, cF, rfl⟩ := Kd.R_slice hRF; have HE2 := Aside0.mk (HE1.out.below hb); have HX2 := Aside0.mk (blk_below HX1.out hb); have HRF2 := Aside0.mk hRF; clear hb hRF; have hcF := Aside0.mk (Kd.R_reads' HRF2.out).2.1; have hcut := cut_to (P := Try.prog) 39 3 .i64 Try.underlying39 hiI AF fr.length cF (t.length : Int) (by omega) (by omega) hcF.out)) | (go_at_call 42; ((with_reducible refine (HCT.out _ HE2.out.bel).mono ?_); rintro e w3 ⟨rfl, hb⟩; have HE3 := Aside0.mk (HE2.out.below hb); have HX3 := Aside0.mk (blk_below HX2.out hb); have HRF3 := Aside0.mk (Kd.R_below HRF2.out hb); clear hb; have x3 := blk_cell HX3.out 0; have fx3 := blk_frozen HX3.out 0; simp only [List.getElem?_toArray, List.getElem?_cons_zero, List.getElem?_cons_succ] at x3)) | (go_at_call 44; ((with_reducible refine (HNM.out _ AF cF (HRT.out _ HRF3.out) (by have := hcF.out; omega)).mono ?_); rintro e w4 ⟨rfl, hb⟩; have HE4 := Aside0.mk (HE3.out.below hb); have HX4 := Aside0.mk (blk_below HX3.out hb); have HRF4 := Aside0.mk (Kd.R_below HRF3.out hb); have x4 := blk_cell HX4.out 0; have fx4 := blk_frozen HX4.out 0; simp only [List.getElem?_toArray, List.getElem?_cons_zero, List.getElem?_cons_succ] at x4; clear hb x3 fx3; have HE5 := Aside0.mk (show SvEnt w #[.slice A0 l.length c0, .slice A1 u.length c1] m (w4.setCell ⟨w1.heap.size, 0, none⟩ (.int .i64 ne)) from HE4.out.far (by have := HZ1.out; omega) _); have z0 := blk_cell HE5.out.z 0; have z1 := blk_cell HE5.out.z 1; have k0 := blk_cell HE5.out.k 0; have e0 := blk_cell HE5.out.e 0; have fz0 := blk_frozen HE5.out.z 0; have fz1 := blk_frozen HE5.out.z 1; have fk0 := blk_frozen HE5.out.k 0; have fe0 := blk_frozen HE5.out.e 0; simp only [List.getElem?_toArray, List.getElem?_cons_zero, List.getElem?_cons_succ] at z0 z1 k0 e0)))
  obtain ⟨hF, f1, f2, f3⟩ := HE5.out.fail 2
  have g0 := blk_cell f1 0
  have g1 := blk_cell f1 1
  have g2 := blk_cell f2 0
  have g3 := blk_cell f3 0
  simp only [List.getElem?_toArray, List.getElem?_cons_zero, List.getElem?_cons_succ] at g0 g1 g2 g3
  clear f1 f2 f3
  rw [Exit.noGoto_ret]
  refine bodyPost_ret (v := .tuple #[.agg #[.slice none 0 0, .slice none 0 0], .bool false, .int .i64 2]) ?_ rfl hF
  simp [results, Try.results21, go_sem, g0, g1, g2, g3]
end Go.Proofs.Ytkgcaheddhfpgaa.P
/-
  slot.Save, by hand: the deeds.
-/
namespace Go.Proofs.Ytkgcaheddhfpgaa.P
open Go.RowKit Go.Shelf Go.Proofs Go.Proofs.CodecPlain Go.Proofs.YtkgcaheddhfpgaaW.PrintWords Go.Proofs.YtkgcaheddhfpgaaW.PrintLast Go.Proofs.YtkgcaheddhfpgaaW.PrintMore

/-- Between two deeds. -/
def SvI (l : List ByteArray) (s0 : SvS) (w0 : World) (x g s t : Nat) (AF : Option Addr) (cF : Nat) (fr : List Int) (b2 : Nat) (pre : List DeedX) (W : World) : Prop :=
  (svN fr l s0 pre.length).st = 0 ∧ SvMem w0 x g s t AF cF fr b2 W (svN fr l s0 pre.length).b (svN fr l s0 pre.length).u (svN fr l s0 pre.length).m false 0
/-- A deed that was the last one. -/
def SvX (l : List ByteArray) (s0 : SvS) (w0 : World) (x g s t : Nat) (AF : Option Addr) (cF : Nat) (fr : List Int) (b2 : Nat) (c : Code) (pre : List DeedX) (W : World) : Prop :=
  (c = .ret ∧ (svN fr l s0 pre.length).st = 2 ∧ pre.length ≤ l.length + 1 ∧ W.heap[w0.heap.size + 1 + 1]? = some (.cells #[.slice none 0 0, .slice none 0 0] 25 (0, 0)) ∧ W.heap[w0.heap.size + 1 + 1 + 1]? = some (.cells #[.bool false] 4 (0, 0)) ∧ W.heap[w0.heap.size + 1 + 1 + 1 + 1]? = some (.cells #[.int .i64 (svN fr l s0 pre.length).e] 27 (0, 0)) ∧ Below w0.heap.size w0 W) ∨
  (c = .exit 1 ∧ (svN fr l s0 pre.length).st = 1 ∧ pre.length ≤ l.length + 1 ∧ SvMem w0 x g s t AF cF fr b2 W (svN fr l s0 pre.length).b (svN fr l s0 pre.length).u (svN fr l s0 pre.length).m true 0)
section
variable {l : List ByteArray} {s0 : SvS} {w0 : World} {x g s t : Nat} {AF : Option Addr} {cF : Nat} {fr : List Int} {b2 B : Nat}
theorem svI_own (l : List ByteArray) (s0 : SvS) (hB : w0.heap.size ≤ B) : OwnFrom B (SvI l s0 w0 x g s t AF cF fr b2) := fun pre W W' row h hg hr =>
  ⟨h.1, h.2.grown hg (fun k e => Nat.le_trans hB (hr k e).1) (fun k e => (hr k e).2)⟩
theorem svX_own (l : List ByteArray) (s0 : SvS) (hB : w0.heap.size ≤ B) : ∀ c, OwnFrom B (SvX l s0 w0 x g s t AF cF fr b2 c) := fun c pre W W' row h hg hr => by
  have hk : ∀ {i : Nat} {a : Array Value} {ty : TypeId}, W.heap[i]? = some (.cells a ty (0, 0)) → W'.heap[i]? = some (.cells a ty (0, 0)) := fun hi => (grownBy_keeps_cells hg (fun k e => (hr k e).2) hi rfl).trans hi
  rcases h with ⟨h1, h2, h0, h3, h4, h5, h6⟩ | ⟨h1, h2, h0, h3⟩
  · exact .inl ⟨h1, h2, h0, hk h3, hk h4, hk h5, h6.grown hg h6.size (fun k e => Nat.le_trans hB (hr k e).1)⟩
  · exact .inr ⟨h1, h2, h0, h3.grown hg (fun k e => Nat.le_trans hB (hr k e).1) (fun k e => (hr k e).2)⟩
theorem boxed_put {W : World} {b i : Nat} {T : TypeId} {v : Value} {o o' : Obj} (h : Boxed W b T v) (hi : W.heap[i]? = some o) (ho : o.isCells = false) : Boxed (W.putObj i o') b T v :=
  h.kept (grownBy_putObj' W i o') (fun e => by
    injection e with e
    subst e
    rw [show W.heap[b]? = _ from h] at hi
    cases hi
    cases ho)
variable {W : World} {b : List ByteArray} {u : List S73} {m : Int} {st : Bool} {ex : Int}
theorem SvMem.fail (h : SvMem w0 x g s t AF cF fr b2 W b u m st ex) (er : Int) :
    ((((W.setCell ⟨w0.heap.size + 1 + 1, 0, none⟩ (.slice none 0 0)).setCell ⟨w0.heap.size + 1 + 1, 1, none⟩ (.slice none 0 0)).setCell ⟨w0.heap.size + 1 + 1 + 1, 0, none⟩ (.bool false)).setCell ⟨w0.heap.size + 1 + 1 + 1 + 1, 0, none⟩ (.int .i64 er)).heap[w0.heap.size + 1 + 1]? = some (.cells #[.slice none 0 0, .slice none 0 0] 25 (0, 0)) ∧
    ((((W.setCell ⟨w0.heap.size + 1 + 1, 0, none⟩ (.slice none 0 0)).setCell ⟨w0.heap.size + 1 + 1, 1, none⟩ (.slice none 0 0)).setCell ⟨w0.heap.size + 1 + 1 + 1, 0, none⟩ (.bool false)).setCell ⟨w0.heap.size + 1 + 1 + 1 + 1, 0, none⟩ (.int .i64 er)).heap[w0.heap.size + 1 + 1 + 1]? = some (.cells #[.bool false] 4 (0, 0)) ∧
    ((((W.setCell ⟨w0.heap.size + 1 + 1, 0, none⟩ (.slice none 0 0)).setCell ⟨w0.heap.size + 1 + 1, 1, none⟩ (.slice none 0 0)).setCell ⟨w0.heap.size + 1 + 1 + 1, 0, none⟩ (.bool false)).setCell ⟨w0.heap.size + 1 + 1 + 1 + 1, 0, none⟩ (.int .i64 er)).heap[w0.heap.size + 1 + 1 + 1 + 1]? = some (.cells #[.int .i64 er] 27 (0, 0)) ∧
    Below w0.heap.size w0 ((((W.setCell ⟨w0.heap.size + 1 + 1, 0, none⟩ (.slice none 0 0)).setCell ⟨w0.heap.size + 1 + 1, 1, none⟩ (.slice none 0 0)).setCell ⟨w0.heap.size + 1 + 1 + 1, 0, none⟩ (.bool false)).setCell ⟨w0.heap.size + 1 + 1 + 1 + 1, 0, none⟩ (.int .i64 er)) := by
  refine ⟨?_, ?_, ?_, (((h.bel.setCell (p := ⟨w0.heap.size + 1 + 1, 0, none⟩) (by show _ ≤ w0.heap.size + 1 + 1; omega) _).setCell (p := ⟨w0.heap.size + 1 + 1, 1, none⟩) (by show _ ≤ w0.heap.size + 1 + 1; omega) _).setCell (p := ⟨w0.heap.size + 1 + 1 + 1, 0, none⟩) (by show _ ≤ w0.heap.size + 1 + 1 + 1; omega) _).setCell (p := ⟨w0.heap.size + 1 + 1 + 1 + 1, 0, none⟩) (by show _ ≤ w0.heap.size + 1 + 1 + 1 + 1; omega) _⟩
  · exact blk_far (blk_far (blk_set (blk_set h.z 0 _) 1 _) (p := ⟨w0.heap.size + 1 + 1 + 1, 0, none⟩) (by show _ ≠ w0.heap.size + 1 + 1 + 1; omega) _) (p := ⟨w0.heap.size + 1 + 1 + 1 + 1, 0, none⟩) (by show _ ≠ w0.heap.size + 1 + 1 + 1 + 1; omega) _
  · exact blk_far (blk_set (blk_far (blk_far h.k (p := ⟨w0.heap.size + 1 + 1, 0, none⟩) (by show _ ≠ w0.heap.size + 1 + 1; omega) _) (p := ⟨w0.heap.size + 1 + 1, 1, none⟩) (by show _ ≠ w0.heap.size + 1 + 1; omega) _) 0 _) (p := ⟨w0.heap.size + 1 + 1 + 1 + 1, 0, none⟩) (by show _ ≠ w0.heap.size + 1 + 1 + 1 + 1; omega) _
  · exact blk_set (blk_far (blk_far (blk_far h.e (p := ⟨w0.heap.size + 1 + 1, 0, none⟩) (by show _ ≠ w0.heap.size + 1 + 1; omega) _) (p := ⟨w0.heap.size + 1 + 1, 1, none⟩) (by show _ ≠ w0.heap.size + 1 + 1; omega) _) (p := ⟨w0.heap.size + 1 + 1 + 1, 0, none⟩) (by show _ ≠ w0.heap.size + 1 + 1 + 1; omega) _) 0 _
/-- What a Save ends with, behind the marks. -/
theorem save_shut {W : World} {v0 v1 : Value} {d : Bool} {er : Int} {D : Nat} {b : List ByteArray} {u : List S73} (hD : w0.heap.size + 5 ≤ D) (hk : W.heap[D]? = some (.deferred (some [])))
    (hz : W.heap[w0.heap.size + 1 + 1]? = some (.cells #[v0, v1] 25 (0, 0))) (hb : W.heap[w0.heap.size + 1 + 1 + 1]? = some (.cells #[.bool d] 4 (0, 0))) (he : W.heap[w0.heap.size + 1 + 1 + 1 + 1]? = some (.cells #[.int .i64 er] 27 (0, 0)))
    (hP : Kd.R Kd.string 9 W w0.heap.size (fun _ => True) v0 b) (hQ : Kd.R k73 73 W w0.heap.size (fun _ => True) v1 u) (hB : Below w0.heap.size w0 W) :
    (W.putObj D (.deferred none)).heap[w0.heap.size + 1 + 1]? = some (.cells #[v0, v1] 25 (0, 0)) ∧ (W.putObj D (.deferred none)).heap[w0.heap.size + 1 + 1 + 1]? = some (.cells #[.bool d] 4 (0, 0)) ∧ (W.putObj D (.deferred none)).heap[w0.heap.size + 1 + 1 + 1 + 1]? = some (.cells #[.int .i64 er] 27 (0, 0)) ∧
    SavePost w0 b u d er (.returned (.tuple #[.agg #[v0, v1], .bool d, .int .i64 er])) (W.putObj D (.deferred none)) := by
  have hc : ∀ k, some D = some k → ∃ o : Obj, W.heap[k]? = some o ∧ o.isCells = false := fun k e => by
    injection e with e
    subst e
    exact ⟨_, hk, rfl⟩
  exact ⟨(World.putObj_heap_other (by omega)).trans hz, (World.putObj_heap_other (by omega)).trans hb, (World.putObj_heap_other (by omega)).trans he, _, _, rfl, R_kept hP (grownBy_putObj' W D _) hc, R_kept hQ (grownBy_putObj' W D _) hc, hB.grown (grownBy_putObj' W D _) hB.size (fun k e => by injection e with e; omega)⟩
/-- A disk of rows at hand is stored as the result. -/
theorem SvMem.give (h : SvMem w0 x g s t AF cF fr b2 W b u m st ex) {A A' : Option Addr} {c c' : Nat} {b' : List ByteArray} {u' : List S73}
    (hP : Kd.R Kd.string 9 W w0.heap.size (fun _ => True) (.slice A b'.length c) b') (hQ : Kd.R k73 73 W w0.heap.size (fun _ => True) (.slice A' u'.length c') u') (d : Bool) (er : Int) {D : Nat} (hD : w0.heap.size + 5 ≤ D) (hk : W.heap[D]? = some (.deferred (some []))) {W' : World}
    (hW : W' = (((W.setCell ⟨w0.heap.size + 1 + 1, 0, none⟩ (.slice A b'.length c)).setCell ⟨w0.heap.size + 1 + 1, 1, none⟩ (.slice A' u'.length c')).setCell ⟨w0.heap.size + 1 + 1 + 1, 0, none⟩ (.bool d)).setCell ⟨w0.heap.size + 1 + 1 + 1 + 1, 0, none⟩ (.int .i64 er)) :
    W'.heap[D]? = some (.deferred (some [])) ∧ (W'.putObj D (.deferred none)).heap[w0.heap.size + 1 + 1]? = some (.cells #[.slice A b'.length c, .slice A' u'.length c'] 25 (0, 0)) ∧ (W'.putObj D (.deferred none)).heap[w0.heap.size + 1 + 1 + 1]? = some (.cells #[.bool d] 4 (0, 0)) ∧ (W'.putObj D (.deferred none)).heap[w0.heap.size + 1 + 1 + 1 + 1]? = some (.cells #[.int .i64 er] 27 (0, 0)) ∧
    SavePost w0 b' u' d er (.returned (.tuple #[.agg #[.slice A b'.length c, .slice A' u'.length c'], .bool d, .int .i64 er])) (W'.putObj D (.deferred none)) := by
  have z1 := blk_set h.z 0 (.slice A b'.length c)
  have z2 := blk_set z1 1 (.slice A' u'.length c')
  have z3 := blk_far z2 (p := ⟨w0.heap.size + 1 + 1 + 1, 0, none⟩) (by show _ ≠ w0.heap.size + 1 + 1 + 1; omega) (.bool d)
  have z4 := blk_far z3 (p := ⟨w0.heap.size + 1 + 1 + 1 + 1, 0, none⟩) (by show _ ≠ w0.heap.size + 1 + 1 + 1 + 1; omega) (.int .i64 er)
  have k2 := blk_far (blk_far h.k (p := ⟨w0.heap.size + 1 + 1, 0, none⟩) (by show _ ≠ w0.heap.size + 1 + 1; omega) (.slice A b'.length c)) (p := ⟨w0.heap.size + 1 + 1, 1, none⟩) (by show _ ≠ w0.heap.size + 1 + 1; omega) (.slice A' u'.length c')
  have k4 := blk_far (blk_set k2 0 (.bool d)) (p := ⟨w0.heap.size + 1 + 1 + 1 + 1, 0, none⟩) (by show _ ≠ w0.heap.size + 1 + 1 + 1 + 1; omega) (.int .i64 er)
  have e3 := blk_far (blk_far (blk_far h.e (p := ⟨w0.heap.size + 1 + 1, 0, none⟩) (by show _ ≠ w0.heap.size + 1 + 1; omega) (.slice A b'.length c)) (p := ⟨w0.heap.size + 1 + 1, 1, none⟩) (by show _ ≠ w0.heap.size + 1 + 1; omega) (.slice A' u'.length c')) (p := ⟨w0.heap.size + 1 + 1 + 1, 0, none⟩) (by show _ ≠ w0.heap.size + 1 + 1 + 1; omega) (.bool d)
  have e4 := blk_set e3 0 (.int .i64 er)
  have P4 := Kd.R_set (Kd.R_set (Kd.R_set (Kd.R_set hP h.z (qs_ne (by decide)) 0 (.slice A b'.length c)) z1 (qs_ne (by decide)) 1 (.slice A' u'.length c')) k2 (qs_ne (by decide)) 0 (.bool d)) e3 (qs_ne (by decide)) 0 (.int .i64 er)
  have Q4 := Kd.R_set (Kd.R_set (Kd.R_set (Kd.R_set hQ h.z (qw_ne (by decide)) 0 (.slice A b'.length c)) z1 (qw_ne (by decide)) 1 (.slice A' u'.length c')) k2 (qw_ne (by decide)) 0 (.bool d)) e3 (qw_ne (by decide)) 0 (.int .i64 er)
  have B4 := (((h.bel.setCell (p := ⟨w0.heap.size + 1 + 1, 0, none⟩) (by show _ ≤ w0.heap.size + 1 + 1; omega) (.slice A b'.length c)).setCell (p := ⟨w0.heap.size + 1 + 1, 1, none⟩) (by show _ ≤ w0.heap.size + 1 + 1; omega) (.slice A' u'.length c')).setCell (p := ⟨w0.heap.size + 1 + 1 + 1, 0, none⟩) (by show _ ≤ w0.heap.size + 1 + 1 + 1; omega) (.bool d)).setCell (p := ⟨w0.heap.size + 1 + 1 + 1 + 1, 0, none⟩) (by show _ ≤ w0.heap.size + 1 + 1 + 1 + 1; omega) (.int .i64 er)
  have hk4 : W'.heap[D]? = some (.deferred (some [])) := by
    rw [hW]
    exact (Below.heap_setCell _ ⟨w0.heap.size + 1 + 1 + 1 + 1, 0, none⟩ _ D (by show D ≠ w0.heap.size + 1 + 1 + 1 + 1; omega)).trans ((Below.heap_setCell _ ⟨w0.heap.size + 1 + 1 + 1, 0, none⟩ _ D (by show D ≠ w0.heap.size + 1 + 1 + 1; omega)).trans ((Below.heap_setCell _ ⟨w0.heap.size + 1 + 1, 1, none⟩ _ D (by show D ≠ w0.heap.size + 1 + 1; omega)).trans ((Below.heap_setCell _ ⟨w0.heap.size + 1 + 1, 0, none⟩ _ D (by show D ≠ w0.heap.size + 1 + 1; omega)).trans hk)))
  rw [← hW] at z4 k4 e4 P4 Q4 B4
  exact ⟨hk4, save_shut hD hk4 z4 k4 e4 P4 Q4 B4⟩
theorem zip1 (p : Tmp) (v : Value) (arr : Array Value) : (#[p].zip #[v]).foldl (fun t (x : Tmp × Value) => t.setIfInBounds x.1 x.2) arr = arr.setIfInBounds p v := by simp
theorem fxD_put (l : List ByteArray) (pre : List DeedX) (y : DeedX) (W : World) (i : Nat) (o o' : Obj) (_ : B ≤ i) (hi : W.heap[i]? = some o) (ho : o.isCells = false) (h : FxD l pre y W) : FxD l pre y (W.putObj i o') := by
  rcases y with _ | ⟨bi, bf⟩
  · exact h
  · exact ⟨h.1, boxed_put h.2.1 hi ho, boxed_put h.2.2 hi ho⟩
end
attribute [local go_sem] Oper.semAt_some

set_option maxHeartbeats 16000000 in
set_option maxRecDepth 100000 in
theorem slot_Save_E (A0 : Option Addr) (c0 : Nat) (l : List ByteArray) (A1 : Option Addr) (c1 : Nat) (u : List S73) (A2 : Option Addr) (c2 : Nat) (t : List ByteArray) (m : Int) (w : World) (hr0 : Kd.C Kd.string w A0 l.length l) (hc0 : l.length ≤ c0) (hr1 : Kd.C k73 w A1 u.length u) (hc1 : u.length ≤ c1) (hr2 : Kd.C Kd.string w A2 t.length t) (hc2 : t.length ≤ c2) (he : (loadV l u).2.2.2 = 0) (hal : t.any (fun s => decide (200 < s.size)) = false) (hfr : ¬ (freeK (loadV l u).2.1 l.length).length < t.length) (hnm : (namedV ((freeK (loadV l u).2.1 l.length).take t.length)).2 = 0) (R : List ByteArray × List S73 × Bool × Int) (hR : R = endV (freeK (loadV l u).2.1 l.length) t (namedV ((freeK (loadV l u).2.1 l.length).take t.length)).1 ⟨0, l, u, m, 0⟩) :
    Calls Try.prog 21 #[.agg #[.slice A0 l.length c0, .slice A1 u.length c1], .slice A2 t.length c2, .int .i64 m] w (SavePost w R.1 R.2.1 R.2.2.1 R.2.2.2) := by
  have HE0 := Aside0.mk (SvEnt.start w #[.slice A0 l.length c0, .slice A1 u.length c1] m)
  have HL := Aside0.mk (slot_load_calls A0 c0 l A1 c1 u (((((w.alloc (.cells #[.slice A0 l.length c0, .slice A1 u.length c1] 25)).alloc (.cells #[.int .i64 m] 3)).alloc (.cells #[.slice none 0 0, .slice none 0 0] 25)).alloc (.cells #[.bool false] 4)).alloc (.cells #[.int .i64 0] 27)) (Kd.C_below hr0 HE0.out.bel) hc0 (Kd.C_below hr1 HE0.out.bel) hc1)
  have hchk := loadV_check l u he
  have hl2 := check_len hchk
  have htb := loadV_tbs l u
  obtain ⟨r, hr⟩ : ∃ r, r = loadV l u := ⟨_, rfl⟩
  rw [← hr] at HL he htb hfr hnm hR
  obtain ⟨n, tb, pages, er⟩ := r
  simp only at HL he htb hfr hnm hR
  subst he
  obtain ⟨fr, hfq⟩ : ∃ fr, fr = freeK tb l.length := ⟨_, rfl⟩
  rw [← hfq] at hfr hnm hR
  have HFR := Aside0.mk (fun (W : World) (bs : Nat) (A3 : Option Addr) (c3 : Nat) (P : Value) hb q0 q1 => show Calls Try.prog _ _ W _ by have := slot_free_calls bs A0 l.length c0 A1 u.length c1 n A3 tb c3 P W hb q0 q1 (by omega) (by omega); rw [← hfq] at this; exact this)
  have HR2 := Aside0.mk (fun (W : World) (hb : Below w.heap.size w W) => Kd.C_below hr2 hb)
  have HCT := Aside0.mk (fun (W : World) (hb : Below w.heap.size w W) => show Calls Try.prog _ _ W _ by have := ContainsFuncStr 43 #[] (fun s => decide (200 < s.size)) A2 c2 t W (HR2.out W hb) (long_pred t W); rw [hal] at this; exact this)
  obtain ⟨iI, hiI⟩ : ∃ i, Try.prog.info? 3 = some i := Option.isSome_iff_exists.1 (by kernel_rfl)
  have hu_ := Try.underlying39
  have hlen : (fr.take t.length).length = t.length := by rw [List.length_take]; omega
  have d1 : decide ((fr.length : Int) < (t.length : Int)) = false := decide_eq_false (by omega)
  have d2 : decide (fr.length < t.length) = false := decide_eq_false hfr
  have hle : t.length ≤ fr.length := by omega
  have HRT := Aside0.mk (fun (W : World) {AF : Option Addr} {cF base : Nat} (q : Kd.R (Kd.int .i64) 3 W base (fun _ => True) (.slice AF fr.length cF) fr) => show Kd.C (Kd.int .i64) W AF t.length (fr.take t.length) by have := Kd.C_take (Kd.R_reads' q).2.2 hle; rw [hlen] at this; exact this)
  obtain ⟨nm, hnmq⟩ : ∃ nm, nm = namedV (fr.take t.length) := ⟨_, rfl⟩
  obtain ⟨kn, hkn⟩ := named_ev (fr.take t.length) (by rw [hlen]; have := freeK_length tb l.length; rw [← hfq] at this; omega) (fun b hb => by
    have := freeK_mem (hfq ▸ List.mem_of_mem_take hb)
    omega)
  rw [← hnmq] at hkn hnm hR
  obtain ⟨nt, ne⟩ := nm
  have HNM := Aside0.mk (fun (W : World) (AF : Option Addr) (cF : Nat) (q : Kd.C (Kd.int .i64) W AF t.length (fr.take t.length)) (q1 : t.length ≤ cF) => show Calls Try.prog 44 #[.slice AF t.length cF] W _ by have := slot_named.calls kn AF cF (fr.take t.length) nt ne W (by rw [hlen]; exact q) (by rw [hlen]; exact q1) hkn; rw [hlen] at this; exact this)
  simp only at hnm hR
  subst hnm
  have HClone0 := Aside0.mk (fun (W : World) (hb : Below w.heap.size w W) => slices_Clone_string_string.calls A0 c0 l l W (Kd.C_below hr0 hb) hc0 (by unfold slices_Clone_string_string.f; rw [if_pos (by omega)]))
  have HClone1 := Aside0.mk (fun (W : World) (hb : Below w.heap.size w W) => slices_Clone_WN.calls A1 c1 u u W (Kd.C_below hr1 hb) hc1 (by unfold slices_Clone_WN.f; rw [if_pos (by omega)]))
  have HLQ := Aside0.mk hl2
  have HAL := Aside0.mk hal
  have HRQ := Aside0.mk hR
  have HR2q := Aside0.mk hr2
  have HLE := Aside0.mk hle
  have HFL := Aside0.mk (show fr.length ≤ 200 by have := freeK_length tb l.length; rw [← hfq] at this; omega)
  have hmf : ∀ (fn : Fn) (first cap : Array Value) (w : World), (Instr.makeFunc fn first cap).run Try.prog w = .ok (.func fn first cap) w := fun _ _ _ _ => rfl
  clear hr hr0 hr1 hr2 hchk hl2 htb hfq hal hfr hkn hnmq hR
  refine (callsIn_wide (n := 9)).1 (callsIn_of_wp_marks Try.func21 rfl trivial (wpIn_mono ((wpIn_wide (n := 9)).2 ?_) (quietQ_le _)) rfl)
  simp only [Try.ntmps21, List.size_toArray, List.length_cons, List.length_nil, Nat.reduceAdd, Nat.reduceSub, Array.replicate_succ, Array.replicate_zero, List.push_toArray, List.append_toArray, List.nil_append, List.cons_append]
  go_wp2
  go_step3
  go_wp2_with (first | (go_at_call 40; ((with_reducible refine HL.out.mono ?_); rintro e w1 ⟨p, rfl, hl, hb⟩; have hl2 := hl.out; unfold Loaded at hl2; obtain ⟨_, bs, A3, c3, P, rfl, hbb, hsh, hC3, hc3, _⟩ := hl2.resolve_left (fun q => q.1 rfl); clear hl2; have HE1 := Aside0.mk ((HE0.out.below hb).below ((Below.refl _ w1).alloc (Nat.le_refl _) (.cells #[.int .i64 0] 27))); have HX1 := Aside0.mk (blk_new w1 (.cells #[.int .i64 0] 27)); have HZ1 := Aside0.mk (HE0.out.below hb).size; have HF1 := Aside0.mk (HFR.out (w1.alloc (.cells #[.int .i64 0] 27)) bs A3 c3 P (blk_alloc hsh _) (Kd.C_alloc hC3 _) hc3); clear hb hl hsh hC3 hbb)) | (go_at_call 41; ((with_reducible refine HF1.out.mono ?_); rintro e w2 ⟨v2, rfl, hRF, hb⟩; obtain ⟨AF, cF, rfl⟩ := Kd.R_slice hRF; have HE2 := Aside0.mk (HE1.out.below hb); have HX2 := Aside0.mk (blk_below HX1.out hb); have HRF2 := Aside0.mk hRF; clear hb hRF; have hcF := Aside0.mk (Kd.R_reads' HRF2.out).2.1; have hcut := cut_to (P := Try.prog) 39 3 .i64 Try.underlying39 hiI AF fr.length cF (t.length : Int) (by omega) (by omega) hcF.out)) | (go_at_call 42; ((with_reducible refine (HCT.out _ HE2.out.bel).mono ?_); rintro e w3 ⟨rfl, hb⟩; have HE3 := Aside0.mk (HE2.out.below hb); have HX3 := Aside0.mk (blk_below HX2.out hb); have HRF3 := Aside0.mk (Kd.R_below HRF2.out hb); clear hb; have x3 := blk_cell HX3.out 0; have fx3 := blk_frozen HX3.out 0; simp only [List.getElem?_toArray, List.getElem?_cons_zero, List.getElem?_cons_succ] at x3)) | (go_at_call 44; ((with_reducible refine (HNM.out _ AF cF (HRT.out _ HRF3.out) (by have := hcF.out; omega)).mono ?_); rintro e w4 ⟨rfl, hb⟩; have HE4 := Aside0.mk (HE3.out.below hb); have HX4 := Aside0.mk (blk_below HX3.out hb); have HRF4 := Aside0.mk (Kd.R_below HRF3.out hb); have x4 := blk_cell HX4.out 0; have fx4 := blk_frozen HX4.out 0; simp only [List.getElem?_toArray, List.getElem?_cons_zero, List.getElem?_cons_succ] at x4; clear hb x3 fx3)))
  have HE5 := Aside0.mk (show SvEnt w #[.slice A0 l.length c0, .slice A1 u.length c1] m (w4.setCell ⟨w1.heap.size, 0, none⟩ (.int .i64 0)) from HE4.out.far (by have := HZ1.out; omega) _)
  have HD_5 := Aside0.mk HE5.out.d
  have HM_5 := Aside0.mk HE5.out.m
  have HZ_5 := Aside0.mk HE5.out.z
  have HK_5 := Aside0.mk HE5.out.k
  have HE_5 := Aside0.mk HE5.out.e
  have B_5 := Aside0.mk HE5.out.bel
  have HX_5 := Aside0.mk (show (w4.setCell ⟨w1.heap.size, 0, none⟩ (.int .i64 0)).heap[w1.heap.size]? = some (.cells (#[.int .i64 0]) 27 (0, 0)) from blk_set HX4.out 0 (.int .i64 0))
  have OF_5 := Aside0.mk (show Kd.R (Kd.int .i64) 3 (w4.setCell ⟨w1.heap.size, 0, none⟩ (.int .i64 0)) (w1.heap.size + 1) (fun _ => True) (.slice AF fr.length cF) (fr) by have h_ := Kd.R_set HRF4.out HX4.out (qi_ne (by decide)) 0 (.int .i64 0); rw [World.size_alloc] at h_; exact h_)
  have HD_10 := Aside0.mk (blk_drew HD_5.out)
  have HM_10 := Aside0.mk (blk_drew HM_5.out)
  have HZ_10 := Aside0.mk (blk_drew HZ_5.out)
  have HK_10 := Aside0.mk (blk_drew HK_5.out)
  have HE_10 := Aside0.mk (blk_drew HE_5.out)
  have HX_10 := Aside0.mk (blk_drew HX_5.out)
  have OF_10 := Aside0.mk (Kd.R_drew OF_5.out)
  have B_10 := Aside0.mk (below_drew1 B_5.out)
  refine start_ (n := 9) (S := fun w' => w'.cell? ⟨w.heap.size, 0, none⟩ = some (.slice A0 l.length c0) ∧ w'.cell? ⟨w.heap.size, 1, none⟩ = some (.slice A1 u.length c1)) (ds := [8]) #[false, false, false, false, false, false, false, false, false] (by kernel_rfl) rfl rfl ⟨(blk_cell HD_10.out 0).trans rfl, (blk_cell HD_10.out 1).trans rfl⟩ (fun hHeld => ?_)
  generalize World.drew (w4.setCell ⟨w1.heap.size, 0, none⟩ (.int .i64 0)) = w10 at HD_10 HM_10 HZ_10 HK_10 HE_10 HX_10 OF_10 B_10 hHeld ⊢
  refine pure_ (i := 0) (N := some 49) (v := ?_) (a' := ?_) #[true, false, false, false, false, false, false, false, false] rfl rfl (by kernel_rfl) (fun _ _ _ h => h) (Or.inl ⟨by rfl, ?_⟩) ?_ ?_
  rotate_left
  · intro w'
    go_simp
    with_reducible rfl
  rotate_left
  · simp only [Act.put, List.setIfInBounds_toArray, List.set_cons_zero, List.set_cons_succ, i64_w, i32_w]
    rfl
  refine pure_ (i := 3) (N := some 52) (v := ?_) (a' := ?_) #[true, false, false, true, false, false, false, false, false] rfl rfl (by kernel_rfl) (fun _ _ _ h => h) (Or.inl ⟨by rfl, ?_⟩) ?_ ?_
  rotate_left
  · intro w'
    go_simp
    with_reducible rfl
  rotate_left
  · simp only [Act.put, List.setIfInBounds_toArray, List.set_cons_zero, List.set_cons_succ, i64_w, i32_w]
    rfl
  refine take_ (i := 1) (N := some 50) (v := ?_) (a' := ?_) #[true, true, false, true, false, false, false, false, false] rfl rfl (by kernel_rfl) (fun _ _ _ h => h) (Or.inl ⟨by rfl, ?_⟩) hHeld ?_ ?_
  rotate_left
  · rintro w' ⟨s0, s1⟩
    go_simp
    with_reducible rfl
  rotate_left
  · simp only [Act.put, List.setIfInBounds_toArray, List.set_cons_zero, List.set_cons_succ, i64_w, i32_w]
    rfl
  refine take_ (i := 4) (N := some 53) (v := ?_) (a' := ?_) #[true, true, false, true, true, false, false, false, false] rfl rfl (by kernel_rfl) (fun _ _ _ h => h) (Or.inl ⟨by rfl, ?_⟩) hHeld ?_ ?_
  rotate_left
  · rintro w' ⟨s0, s1⟩
    go_simp
    with_reducible rfl
  rotate_left
  · simp only [Act.put, List.setIfInBounds_toArray, List.set_cons_zero, List.set_cons_succ, i64_w, i32_w]
    rfl
  refine join_ (σ := Nat × Option Addr × Nat × Option Addr × Nat) 1 #[true, true, true, true, true, true, true, true, false] (fun s => [(51, .slice s.2.1 l.length s.2.2.1), (54, .slice s.2.2.2.1 u.length s.2.2.2.2), (55, .agg #[.slice s.2.1 l.length s.2.2.1, .slice s.2.2.2.1 u.length s.2.2.2.2]), (13, .pointer (some ⟨s.1, 0, none⟩))]) (fun s w' => w'.heap[w.heap.size]? = some (.cells (#[.slice A0 l.length c0, .slice A1 u.length c1]) 25 (0, 0)) ∧ w'.heap[w.heap.size + 1]? = some (.cells (#[.int .i64 m]) 3 (0, 0)) ∧ w'.heap[w.heap.size + 1 + 1]? = some (.cells (#[.slice none 0 0, .slice none 0 0]) 25 (0, 0)) ∧ w'.heap[w.heap.size + 1 + 1 + 1]? = some (.cells (#[.bool false]) 4 (0, 0)) ∧ w'.heap[w.heap.size + 1 + 1 + 1 + 1]? = some (.cells (#[.int .i64 0]) 27 (0, 0)) ∧ w'.heap[w1.heap.size]? = some (.cells (#[.int .i64 0]) 27 (0, 0)) ∧ Below w.heap.size w w' ∧ w'.heap[s.1]? = some (.cells #[.slice none 0 0, .slice none 0 0] 25 (0, 0)) ∧ w10.heap.size ≤ s.1 ∧ Kd.R Kd.string 9 w' w.heap.size (fun _ => True) (.slice s.2.1 l.length s.2.2.1) l ∧ Kd.R k73 73 w' w.heap.size (fun _ => True) (.slice s.2.2.2.1 u.length s.2.2.2.2) u ∧ Kd.R (Kd.int .i64) 3 w' (w1.heap.size + 1) (fun _ => True) (.slice AF fr.length cF) (fr)) ?_ ?_
  rotate_left
  · intro hCont
    refine two_ (i := 2) (j := 7) (Ni := some 51) (Nj := some 13) #[true, true, true, true, true, false, false, false, false] #[true, true, false, true, true, false, false, true, false] rfl rfl rfl rfl (by kernel_rfl) (by decide) (by decide) (fun K hK => ?_) (fun K hK => ?_)
    · skip
      refine goes_ Try.func35 (by kernel_rfl) rfl #[.slice A0 l.length c0] (by rfl) rfl rfl (by (try simp only [List.map_toArray, List.map_cons, List.map_nil]); first | done | rfl) ?_
      refine (HClone0.out (w10) B_10.out).mono ?_
      rintro e w11 ⟨xa, rfl, hR, hb⟩
      refine ⟨_, rfl, ?_⟩
      obtain ⟨Aa, ca, rfl⟩ := Kd.R_slice hR
      have hR_ := Kd.R_lower hR B_10.out.size
      clear hR
      have HD_11 := Aside0.mk (blk_below HD_10.out hb)
      have HM_11 := Aside0.mk (blk_below HM_10.out hb)
      have HZ_11 := Aside0.mk (blk_below HZ_10.out hb)
      have HK_11 := Aside0.mk (blk_below HK_10.out hb)
      have HE_11 := Aside0.mk (blk_below HE_10.out hb)
      have HX_11 := Aside0.mk (blk_below HX_10.out hb)
      have OF_11 := Aside0.mk (Kd.R_below OF_10.out hb)
      have B_11 := Aside0.mk (B_10.out.trans (hb.mono B_10.out.size))
      have OV_11 := Aside0.mk hR_
      clear hR_
      have HS := Aside0.mk hb.size
      clear hb
      refine hK.out _ _ ⟨(blk_cell HD_11.out 0).trans rfl, (blk_cell HD_11.out 1).trans rfl⟩ (fun hHeld => ?_)
      clear hK K
      refine norm_ (a' := ?_) ?_ ?_
      rotate_left
      · show Act.put _ (some 51) _ = _
        simp only [Act.put, List.setIfInBounds_toArray, List.set_cons_zero, List.set_cons_succ, i64_w, i32_w]
        rfl
      refine two_ (i := 5) (j := 7) (Ni := some 54) (Nj := some 13) #[true, true, true, true, true, true, false, false, false] #[true, true, true, true, true, false, false, true, false] rfl rfl rfl rfl (by kernel_rfl) (by decide) (by decide) (fun K hK => ?_) (fun K hK => ?_)
      · skip
        refine goes_ Try.func36 (by kernel_rfl) rfl #[.slice A1 u.length c1] (by rfl) rfl rfl (by (try simp only [List.map_toArray, List.map_cons, List.map_nil]); first | done | rfl) ?_
        refine (HClone1.out (w11) B_11.out).mono ?_
        rintro e w12 ⟨xb, rfl, hR, hb⟩
        refine ⟨_, rfl, ?_⟩
        obtain ⟨Ab, cb, rfl⟩ := Kd.R_slice hR
        have hR_ := Kd.R_lower hR B_11.out.size
        clear hR
        have HD_12 := Aside0.mk (blk_below HD_11.out hb)
        have HM_12 := Aside0.mk (blk_below HM_11.out hb)
        have HZ_12 := Aside0.mk (blk_below HZ_11.out hb)
        have HK_12 := Aside0.mk (blk_below HK_11.out hb)
        have HE_12 := Aside0.mk (blk_below HE_11.out hb)
        have HX_12 := Aside0.mk (blk_below HX_11.out hb)
        have OF_12 := Aside0.mk (Kd.R_below OF_11.out hb)
        have OV_12 := Aside0.mk (Kd.R_below OV_11.out hb)
        have B_12 := Aside0.mk (B_11.out.trans (hb.mono B_11.out.size))
        have OU_12 := Aside0.mk hR_
        clear hR_
        have HS := Aside0.mk (Nat.le_trans HS.out hb.size)
        clear hb
        refine hK.out _ _ ⟨(blk_cell HD_12.out 0).trans rfl, (blk_cell HD_12.out 1).trans rfl⟩ (fun hHeld => ?_)
        clear hK K
        refine norm_ (a' := ?_) ?_ ?_
        rotate_left
        · show Act.put _ (some 54) _ = _
          simp only [Act.put, List.setIfInBounds_toArray, List.set_cons_zero, List.set_cons_succ, i64_w, i32_w]
          rfl
        refine pure_ (i := 6) (N := some 55) (v := ?_) (a' := ?_) #[true, true, true, true, true, true, true, false, false] rfl rfl (by kernel_rfl) (fun _ _ _ h => h) (Or.inl ⟨by rfl, ?_⟩) ?_ ?_
        rotate_left
        · intro w'
          go_simp
          with_reducible rfl
        rotate_left
        · simp only [Act.put, List.setIfInBounds_toArray, List.set_cons_zero, List.set_cons_succ, i64_w, i32_w]
          rfl
        refine one_ (i := 7) (N := some 13) #[true, true, true, true, true, true, true, true, false] rfl rfl (by kernel_rfl) (by decide) (fun K hK => ?_)
        refine value_ (w1 := ?_) (v := ?_) (by rfl) rfl ?_ ?_
        rotate_left 2
        · go_simp
          constructor
          · rfl
          · rfl
        have HS13 := Aside0.mk (show w10.heap.size ≤ (w12).heap.size by exact HS.out)
        have HD_13 := Aside0.mk (blk_alloc HD_12.out (.cells #[.slice none 0 0, .slice none 0 0] 25))
        have HM_13 := Aside0.mk (blk_alloc HM_12.out (.cells #[.slice none 0 0, .slice none 0 0] 25))
        have HZ_13 := Aside0.mk (blk_alloc HZ_12.out (.cells #[.slice none 0 0, .slice none 0 0] 25))
        have HK_13 := Aside0.mk (blk_alloc HK_12.out (.cells #[.slice none 0 0, .slice none 0 0] 25))
        have HE_13 := Aside0.mk (blk_alloc HE_12.out (.cells #[.slice none 0 0, .slice none 0 0] 25))
        have HX_13 := Aside0.mk (blk_alloc HX_12.out (.cells #[.slice none 0 0, .slice none 0 0] 25))
        have OF_13 := Aside0.mk (Kd.R_alloc OF_12.out (.cells #[.slice none 0 0, .slice none 0 0] 25))
        have OV_13 := Aside0.mk (Kd.R_alloc OV_12.out (.cells #[.slice none 0 0, .slice none 0 0] 25))
        have OU_13 := Aside0.mk (Kd.R_alloc OU_12.out (.cells #[.slice none 0 0, .slice none 0 0] 25))
        have B_13 := Aside0.mk (B_12.out.alloc B_12.out.size (.cells #[.slice none 0 0, .slice none 0 0] 25))
        have HN_13 := Aside0.mk (show (w12.alloc (.cells #[.slice none 0 0, .slice none 0 0] 25)).heap[w12.heap.size]? = _ from blk_new (w12) (.cells #[.slice none 0 0, .slice none 0 0] 25))
        refine hK.out _ _ ⟨(blk_cell HD_13.out 0).trans rfl, (blk_cell HD_13.out 1).trans rfl⟩ (fun hHeld => ?_)
        clear hK K
        refine norm_ (a' := ?_) ?_ ?_
        rotate_left
        · show Act.put _ (some 13) _ = _
          simp only [Act.put, List.setIfInBounds_toArray, List.set_cons_zero, List.set_cons_succ, i64_w, i32_w]
          rfl
        exact norm_ (by simp only [putAll, Act.put, List.setIfInBounds_toArray, List.set_cons_zero, List.set_cons_succ]) (hCont (w12.heap.size, Aa, ca, Ab, cb) _ ⟨HD_13.out, HM_13.out, HZ_13.out, HK_13.out, HE_13.out, HX_13.out, B_13.out, HN_13.out, HS13.out, OV_13.out, OU_13.out, OF_13.out⟩)
      · skip
        refine value_ (w1 := ?_) (v := ?_) (by rfl) rfl ?_ ?_
        rotate_left 2
        · go_simp
          constructor
          · rfl
          · rfl
        have HS12 := Aside0.mk (show w10.heap.size ≤ (w11).heap.size by exact HS.out)
        have HD_12 := Aside0.mk (blk_alloc HD_11.out (.cells #[.slice none 0 0, .slice none 0 0] 25))
        have HM_12 := Aside0.mk (blk_alloc HM_11.out (.cells #[.slice none 0 0, .slice none 0 0] 25))
        have HZ_12 := Aside0.mk (blk_alloc HZ_11.out (.cells #[.slice none 0 0, .slice none 0 0] 25))
        have HK_12 := Aside0.mk (blk_alloc HK_11.out (.cells #[.slice none 0 0, .slice none 0 0] 25))
        have HE_12 := Aside0.mk (blk_alloc HE_11.out (.cells #[.slice none 0 0, .slice none 0 0] 25))
        have HX_12 := Aside0.mk (blk_alloc HX_11.out (.cells #[.slice none 0 0, .slice none 0 0] 25))
        have OF_12 := Aside0.mk (Kd.R_alloc OF_11.out (.cells #[.slice none 0 0, .slice none 0 0] 25))
        have OV_12 := Aside0.mk (Kd.R_alloc OV_11.out (.cells #[.slice none 0 0, .slice none 0 0] 25))
        have B_12 := Aside0.mk (B_11.out.alloc B_11.out.size (.cells #[.slice none 0 0, .slice none 0 0] 25))
        have HN_12 := Aside0.mk (show (w11.alloc (.cells #[.slice none 0 0, .slice none 0 0] 25)).heap[w11.heap.size]? = _ from blk_new (w11) (.cells #[.slice none 0 0, .slice none 0 0] 25))
        refine hK.out _ _ ⟨(blk_cell HD_12.out 0).trans rfl, (blk_cell HD_12.out 1).trans rfl⟩ (fun hHeld => ?_)
        clear hK K
        refine norm_ (a' := ?_) ?_ ?_
        rotate_left
        · show Act.put _ (some 13) _ = _
          simp only [Act.put, List.setIfInBounds_toArray, List.set_cons_zero, List.set_cons_succ, i64_w, i32_w]
          rfl
        refine one_ (i := 5) (N := some 54) #[true, true, true, true, true, true, false, true, false] rfl rfl (by kernel_rfl) (by decide) (fun K hK => ?_)
        refine goes_ Try.func36 (by kernel_rfl) rfl #[.slice A1 u.length c1] (by rfl) rfl rfl (by (try simp only [List.map_toArray, List.map_cons, List.map_nil]); first | done | rfl) ?_
        refine (HClone1.out ((w11.alloc (.cells #[.slice none 0 0, .slice none 0 0] 25))) B_12.out).mono ?_
        rintro e w13 ⟨xb, rfl, hR, hb⟩
        refine ⟨_, rfl, ?_⟩
        obtain ⟨Ab, cb, rfl⟩ := Kd.R_slice hR
        have hR_ := Kd.R_lower hR B_12.out.size
        clear hR
        have HD_13 := Aside0.mk (blk_below HD_12.out hb)
        have HM_13 := Aside0.mk (blk_below HM_12.out hb)
        have HZ_13 := Aside0.mk (blk_below HZ_12.out hb)
        have HK_13 := Aside0.mk (blk_below HK_12.out hb)
        have HE_13 := Aside0.mk (blk_below HE_12.out hb)
        have HX_13 := Aside0.mk (blk_below HX_12.out hb)
        have HN_13 := Aside0.mk (blk_below HN_12.out hb)
        have OF_13 := Aside0.mk (Kd.R_below OF_12.out hb)
        have OV_13 := Aside0.mk (Kd.R_below OV_12.out hb)
        have B_13 := Aside0.mk (B_12.out.trans (hb.mono B_12.out.size))
        have OU_13 := Aside0.mk hR_
        clear hR_
        clear hb
        refine hK.out _ _ ⟨(blk_cell HD_13.out 0).trans rfl, (blk_cell HD_13.out 1).trans rfl⟩ (fun hHeld => ?_)
        clear hK K
        refine norm_ (a' := ?_) ?_ ?_
        rotate_left
        · show Act.put _ (some 54) _ = _
          simp only [Act.put, List.setIfInBounds_toArray, List.set_cons_zero, List.set_cons_succ, i64_w, i32_w]
          rfl
        refine pure_ (i := 6) (N := some 55) (v := ?_) (a' := ?_) #[true, true, true, true, true, true, true, true, false] rfl rfl (by kernel_rfl) (fun _ _ _ h => h) (Or.inl ⟨by rfl, ?_⟩) ?_ ?_
        rotate_left
        · intro w'
          go_simp
          with_reducible rfl
        rotate_left
        · simp only [Act.put, List.setIfInBounds_toArray, List.set_cons_zero, List.set_cons_succ, i64_w, i32_w]
          rfl
        exact norm_ (by simp only [putAll, Act.put, List.setIfInBounds_toArray, List.set_cons_zero, List.set_cons_succ]) (hCont (w11.heap.size, Aa, ca, Ab, cb) _ ⟨HD_13.out, HM_13.out, HZ_13.out, HK_13.out, HE_13.out, HX_13.out, B_13.out, HN_13.out, HS12.out, OV_13.out, OU_13.out, OF_13.out⟩)
    · skip
      refine value_ (w1 := ?_) (v := ?_) (by rfl) rfl ?_ ?_
      rotate_left 2
      · go_simp
        constructor
        · rfl
        · rfl
      have HS11 := Aside0.mk (show w10.heap.size ≤ (w10).heap.size by exact Nat.le_refl _)
      have HD_11 := Aside0.mk (blk_alloc HD_10.out (.cells #[.slice none 0 0, .slice none 0 0] 25))
      have HM_11 := Aside0.mk (blk_alloc HM_10.out (.cells #[.slice none 0 0, .slice none 0 0] 25))
      have HZ_11 := Aside0.mk (blk_alloc HZ_10.out (.cells #[.slice none 0 0, .slice none 0 0] 25))
      have HK_11 := Aside0.mk (blk_alloc HK_10.out (.cells #[.slice none 0 0, .slice none 0 0] 25))
      have HE_11 := Aside0.mk (blk_alloc HE_10.out (.cells #[.slice none 0 0, .slice none 0 0] 25))
      have HX_11 := Aside0.mk (blk_alloc HX_10.out (.cells #[.slice none 0 0, .slice none 0 0] 25))
      have OF_11 := Aside0.mk (Kd.R_alloc OF_10.out (.cells #[.slice none 0 0, .slice none 0 0] 25))
      have B_11 := Aside0.mk (B_10.out.alloc B_10.out.size (.cells #[.slice none 0 0, .slice none 0 0] 25))
      have HN_11 := Aside0.mk (show (w10.alloc (.cells #[.slice none 0 0, .slice none 0 0] 25)).heap[w10.heap.size]? = _ from blk_new (w10) (.cells #[.slice none 0 0, .slice none 0 0] 25))
      refine hK.out _ _ ⟨(blk_cell HD_11.out 0).trans rfl, (blk_cell HD_11.out 1).trans rfl⟩ (fun hHeld => ?_)
      clear hK K
      refine norm_ (a' := ?_) ?_ ?_
      rotate_left
      · show Act.put _ (some 13) _ = _
        simp only [Act.put, List.setIfInBounds_toArray, List.set_cons_zero, List.set_cons_succ, i64_w, i32_w]
        rfl
      refine one_ (i := 2) (N := some 51) #[true, true, true, true, true, false, false, true, false] rfl rfl (by kernel_rfl) (by decide) (fun K hK => ?_)
      refine goes_ Try.func35 (by kernel_rfl) rfl #[.slice A0 l.length c0] (by rfl) rfl rfl (by (try simp only [List.map_toArray, List.map_cons, List.map_nil]); first | done | rfl) ?_
      refine (HClone0.out ((w10.alloc (.cells #[.slice none 0 0, .slice none 0 0] 25))) B_11.out).mono ?_
      rintro e w12 ⟨xa, rfl, hR, hb⟩
      refine ⟨_, rfl, ?_⟩
      obtain ⟨Aa, ca, rfl⟩ := Kd.R_slice hR
      have hR_ := Kd.R_lower hR B_11.out.size
      clear hR
      have HD_12 := Aside0.mk (blk_below HD_11.out hb)
      have HM_12 := Aside0.mk (blk_below HM_11.out hb)
      have HZ_12 := Aside0.mk (blk_below HZ_11.out hb)
      have HK_12 := Aside0.mk (blk_below HK_11.out hb)
      have HE_12 := Aside0.mk (blk_below HE_11.out hb)
      have HX_12 := Aside0.mk (blk_below HX_11.out hb)
      have HN_12 := Aside0.mk (blk_below HN_11.out hb)
      have OF_12 := Aside0.mk (Kd.R_below OF_11.out hb)
      have B_12 := Aside0.mk (B_11.out.trans (hb.mono B_11.out.size))
      have OV_12 := Aside0.mk hR_
      clear hR_
      clear hb
      refine hK.out _ _ ⟨(blk_cell HD_12.out 0).trans rfl, (blk_cell HD_12.out 1).trans rfl⟩ (fun hHeld => ?_)
      clear hK K
      refine norm_ (a' := ?_) ?_ ?_
      rotate_left
      · show Act.put _ (some 51) _ = _
        simp only [Act.put, List.setIfInBounds_toArray, List.set_cons_zero, List.set_cons_succ, i64_w, i32_w]
        rfl
      refine one_ (i := 5) (N := some 54) #[true, true, true, true, true, true, false, true, false] rfl rfl (by kernel_rfl) (by decide) (fun K hK => ?_)
      refine goes_ Try.func36 (by kernel_rfl) rfl #[.slice A1 u.length c1] (by rfl) rfl rfl (by (try simp only [List.map_toArray, List.map_cons, List.map_nil]); first | done | rfl) ?_
      refine (HClone1.out (w12) B_12.out).mono ?_
      rintro e w13 ⟨xb, rfl, hR, hb⟩
      refine ⟨_, rfl, ?_⟩
      obtain ⟨Ab, cb, rfl⟩ := Kd.R_slice hR
      have hR_ := Kd.R_lower hR B_12.out.size
      clear hR
      have HD_13 := Aside0.mk (blk_below HD_12.out hb)
      have HM_13 := Aside0.mk (blk_below HM_12.out hb)
      have HZ_13 := Aside0.mk (blk_below HZ_12.out hb)
      have HK_13 := Aside0.mk (blk_below HK_12.out hb)
      have HE_13 := Aside0.mk (blk_below HE_12.out hb)
      have HX_13 := Aside0.mk (blk_below HX_12.out hb)
      have HN_13 := Aside0.mk (blk_below HN_12.out hb)
      have OF_13 := Aside0.mk (Kd.R_below OF_12.out hb)
      have OV_13 := Aside0.mk (Kd.R_below OV_12.out hb)
      have B_13 := Aside0.mk (B_12.out.trans (hb.mono B_12.out.size))
      have OU_13 := Aside0.mk hR_
      clear hR_
      clear hb
      refine hK.out _ _ ⟨(blk_cell HD_13.out 0).trans rfl, (blk_cell HD_13.out 1).trans rfl⟩ (fun hHeld => ?_)
      clear hK K
      refine norm_ (a' := ?_) ?_ ?_
      rotate_left
      · show Act.put _ (some 54) _ = _
        simp only [Act.put, List.setIfInBounds_toArray, List.set_cons_zero, List.set_cons_succ, i64_w, i32_w]
        rfl
      refine pure_ (i := 6) (N := some 55) (v := ?_) (a' := ?_) #[true, true, true, true, true, true, true, true, false] rfl rfl (by kernel_rfl) (fun _ _ _ h => h) (Or.inl ⟨by rfl, ?_⟩) ?_ ?_
      rotate_left
      · intro w'
        go_simp
        with_reducible rfl
      rotate_left
      · simp only [Act.put, List.setIfInBounds_toArray, List.set_cons_zero, List.set_cons_succ, i64_w, i32_w]
        rfl
      exact norm_ (by simp only [putAll, Act.put, List.setIfInBounds_toArray, List.set_cons_zero, List.set_cons_succ]) (hCont (w10.heap.size, Aa, ca, Ab, cb) _ ⟨HD_13.out, HM_13.out, HZ_13.out, HK_13.out, HE_13.out, HX_13.out, B_13.out, HN_13.out, HS11.out, OV_13.out, OU_13.out, OF_13.out⟩)
  rintro ⟨gn, Aa, ca, Ab, cb⟩ w14 ⟨hD14, hM14, hZ14, hK14, hE14, hX14, hB14, hN14, hLE2, hV14, hU14, hF14⟩
  have HD_14 := Aside0.mk hD14
  have HM_14 := Aside0.mk hM14
  have HZ_14 := Aside0.mk hZ14
  have HK_14 := Aside0.mk hK14
  have HE_14 := Aside0.mk hE14
  have HX_14 := Aside0.mk hX14
  have B_14 := Aside0.mk hB14
  have HN_14 := Aside0.mk hN14
  have HLE2 := Aside0.mk hLE2
  have OV_14 := Aside0.mk hV14
  have OU_14 := Aside0.mk hU14
  have OF_14 := Aside0.mk hF14
  clear hB14 hN14 hLE2 hV14 hU14 hF14 hD14 hM14 hZ14 hK14 hE14 hX14
  have hHeld : w14.cell? ⟨w.heap.size, 0, none⟩ = some (.slice A0 l.length c0) ∧ w14.cell? ⟨w.heap.size, 1, none⟩ = some (.slice A1 u.length c1) := ⟨(blk_cell HD_14.out 0).trans rfl, (blk_cell HD_14.out 1).trans rfl⟩
  have y0 := blk_cell HN_14.out 0
  have y1 := blk_cell HN_14.out 1
  have fy0 := blk_frozen HN_14.out 0
  have fy1 := blk_frozen HN_14.out 1
  refine norm_ (a' := ?_) ?_ ?_
  rotate_left
  · simp only [putAll, Act.put, List.setIfInBounds_toArray, List.set_cons_zero, List.set_cons_succ]
    rfl
  refine last_ (i := 8) (N := none) #[true, true, true, true, true, true, true, true, true] rfl rfl (by kernel_rfl) (by decide) (fun K hK => ?_)
  refine skip_ (w1 := ?_) (by rfl) rfl ?_ ?_
  rotate_left
  · go_simp
    rfl
  refine hK.out _ _ ?_
  clear hK K
  refine done_ (by kernel_rfl) ?_
  obtain ⟨w15, hw_⟩ : ∃ x_, x_ = (w14.setCell ⟨gn, 0, none⟩ (.slice Aa l.length ca)).setCell ⟨gn, 1, none⟩ (.slice Ab u.length cb) := ⟨_, rfl⟩
  rw [← hw_]
  have HD_15 := Aside0.mk (show w15.heap[w.heap.size]? = some (.cells (#[.slice A0 l.length c0, .slice A1 u.length c1]) 25 (0, 0)) by rw [hw_]; exact blk_far (blk_far HD_14.out (p := ⟨gn, 0, none⟩) (by have h1 := blk_lt HD_10.out; have h2 := HLE2.out; show w.heap.size ≠ gn; omega) _) (p := ⟨gn, 1, none⟩) (by have h1 := blk_lt HD_10.out; have h2 := HLE2.out; show w.heap.size ≠ gn; omega) _)
  have HM_15 := Aside0.mk (show w15.heap[w.heap.size + 1]? = some (.cells (#[.int .i64 m]) 3 (0, 0)) by rw [hw_]; exact blk_far (blk_far HM_14.out (p := ⟨gn, 0, none⟩) (by have h1 := blk_lt HM_10.out; have h2 := HLE2.out; show w.heap.size + 1 ≠ gn; omega) _) (p := ⟨gn, 1, none⟩) (by have h1 := blk_lt HM_10.out; have h2 := HLE2.out; show w.heap.size + 1 ≠ gn; omega) _)
  have HZ_15 := Aside0.mk (show w15.heap[w.heap.size + 1 + 1]? = some (.cells (#[.slice none 0 0, .slice none 0 0]) 25 (0, 0)) by rw [hw_]; exact blk_far (blk_far HZ_14.out (p := ⟨gn, 0, none⟩) (by have h1 := blk_lt HZ_10.out; have h2 := HLE2.out; show w.heap.size + 1 + 1 ≠ gn; omega) _) (p := ⟨gn, 1, none⟩) (by have h1 := blk_lt HZ_10.out; have h2 := HLE2.out; show w.heap.size + 1 + 1 ≠ gn; omega) _)
  have HK_15 := Aside0.mk (show w15.heap[w.heap.size + 1 + 1 + 1]? = some (.cells (#[.bool false]) 4 (0, 0)) by rw [hw_]; exact blk_far (blk_far HK_14.out (p := ⟨gn, 0, none⟩) (by have h1 := blk_lt HK_10.out; have h2 := HLE2.out; show w.heap.size + 1 + 1 + 1 ≠ gn; omega) _) (p := ⟨gn, 1, none⟩) (by have h1 := blk_lt HK_10.out; have h2 := HLE2.out; show w.heap.size + 1 + 1 + 1 ≠ gn; omega) _)
  have HE_15 := Aside0.mk (show w15.heap[w.heap.size + 1 + 1 + 1 + 1]? = some (.cells (#[.int .i64 0]) 27 (0, 0)) by rw [hw_]; exact blk_far (blk_far HE_14.out (p := ⟨gn, 0, none⟩) (by have h1 := blk_lt HE_10.out; have h2 := HLE2.out; show w.heap.size + 1 + 1 + 1 + 1 ≠ gn; omega) _) (p := ⟨gn, 1, none⟩) (by have h1 := blk_lt HE_10.out; have h2 := HLE2.out; show w.heap.size + 1 + 1 + 1 + 1 ≠ gn; omega) _)
  have HX_15 := Aside0.mk (show w15.heap[w1.heap.size]? = some (.cells (#[.int .i64 0]) 27 (0, 0)) by rw [hw_]; exact blk_far (blk_far HX_14.out (p := ⟨gn, 0, none⟩) (by have h1 := blk_lt HX_10.out; have h2 := HLE2.out; show w1.heap.size ≠ gn; omega) _) (p := ⟨gn, 1, none⟩) (by have h1 := blk_lt HX_10.out; have h2 := HLE2.out; show w1.heap.size ≠ gn; omega) _)
  have HN_15 := Aside0.mk (show w15.heap[gn]? = some (.cells (#[.slice Aa l.length ca, .slice Ab u.length cb]) 25 (0, 0)) by rw [hw_]; exact blk_set (blk_set HN_14.out 0 (.slice Aa l.length ca)) 1 (.slice Ab u.length cb))
  have OF_15 := Aside0.mk (show Kd.R (Kd.int .i64) 3 w15 (w1.heap.size + 1) (fun _ => True) (.slice AF fr.length cF) (fr) by rw [hw_]; exact Kd.R_set (Kd.R_set OF_14.out HN_14.out (qi_ne (by decide)) 0 (.slice Aa l.length ca)) (blk_set HN_14.out 0 (.slice Aa l.length ca)) (qi_ne (by decide)) 1 (.slice Ab u.length cb))
  have OV_15 := Aside0.mk (show Kd.R Kd.string 9 w15 w.heap.size (fun _ => True) (.slice Aa l.length ca) (l) by rw [hw_]; exact Kd.R_set (Kd.R_set OV_14.out HN_14.out (qs_ne (by decide)) 0 (.slice Aa l.length ca)) (blk_set HN_14.out 0 (.slice Aa l.length ca)) (qs_ne (by decide)) 1 (.slice Ab u.length cb))
  have OU_15 := Aside0.mk (show Kd.R k73 73 w15 w.heap.size (fun _ => True) (.slice Ab u.length cb) (u) by rw [hw_]; exact Kd.R_set (Kd.R_set OU_14.out HN_14.out (qw_ne (by decide)) 0 (.slice Aa l.length ca)) (blk_set HN_14.out 0 (.slice Aa l.length ca)) (qw_ne (by decide)) 1 (.slice Ab u.length cb))
  have B_15 := Aside0.mk (show Below w.heap.size w w15 by rw [hw_]; exact (B_14.out.setCell (p := ⟨gn, 0, none⟩) (by have h1 := B_10.out.size; have h2 := HLE2.out; show w.heap.size ≤ gn; omega) _).setCell (p := ⟨gn, 1, none⟩) (by have h1 := B_10.out.size; have h2 := HLE2.out; show w.heap.size ≤ gn; omega) _)
  clear hw_
  have HD_16 := Aside0.mk (blk_alloc HD_15.out (.cells #[.bool false] 4))
  have HM_16 := Aside0.mk (blk_alloc HM_15.out (.cells #[.bool false] 4))
  have HZ_16 := Aside0.mk (blk_alloc HZ_15.out (.cells #[.bool false] 4))
  have HK_16 := Aside0.mk (blk_alloc HK_15.out (.cells #[.bool false] 4))
  have HE_16 := Aside0.mk (blk_alloc HE_15.out (.cells #[.bool false] 4))
  have HX_16 := Aside0.mk (blk_alloc HX_15.out (.cells #[.bool false] 4))
  have HN_16 := Aside0.mk (blk_alloc HN_15.out (.cells #[.bool false] 4))
  have OF_16 := Aside0.mk (Kd.R_alloc OF_15.out (.cells #[.bool false] 4))
  have OV_16 := Aside0.mk (Kd.R_alloc OV_15.out (.cells #[.bool false] 4))
  have OU_16 := Aside0.mk (Kd.R_alloc OU_15.out (.cells #[.bool false] 4))
  have B_16 := Aside0.mk (B_15.out.alloc B_15.out.size (.cells #[.bool false] 4))
  have HS_16 := Aside0.mk (show (w15.alloc (.cells #[.bool false] 4)).heap[w15.heap.size]? = _ from blk_new (w15) (.cells #[.bool false] 4))
  have HD_17 := Aside0.mk (blk_alloc HD_16.out (.cells #[.slice A2 t.length c2] 22))
  have HM_17 := Aside0.mk (blk_alloc HM_16.out (.cells #[.slice A2 t.length c2] 22))
  have HZ_17 := Aside0.mk (blk_alloc HZ_16.out (.cells #[.slice A2 t.length c2] 22))
  have HK_17 := Aside0.mk (blk_alloc HK_16.out (.cells #[.slice A2 t.length c2] 22))
  have HE_17 := Aside0.mk (blk_alloc HE_16.out (.cells #[.slice A2 t.length c2] 22))
  have HX_17 := Aside0.mk (blk_alloc HX_16.out (.cells #[.slice A2 t.length c2] 22))
  have HN_17 := Aside0.mk (blk_alloc HN_16.out (.cells #[.slice A2 t.length c2] 22))
  have HS_17 := Aside0.mk (blk_alloc HS_16.out (.cells #[.slice A2 t.length c2] 22))
  have OF_17 := Aside0.mk (Kd.R_alloc OF_16.out (.cells #[.slice A2 t.length c2] 22))
  have OV_17 := Aside0.mk (Kd.R_alloc OV_16.out (.cells #[.slice A2 t.length c2] 22))
  have OU_17 := Aside0.mk (Kd.R_alloc OU_16.out (.cells #[.slice A2 t.length c2] 22))
  have B_17 := Aside0.mk (B_16.out.alloc B_16.out.size (.cells #[.slice A2 t.length c2] 22))
  have HL_17 := Aside0.mk (show ((w15.alloc (.cells #[.bool false] 4)).alloc (.cells #[.slice A2 t.length c2] 22)).heap[w15.heap.size + 1]? = some (.cells (#[.slice A2 t.length c2]) 22 (0, 0)) by have h_ := blk_new ((w15.alloc (.cells #[.bool false] 4))) (.cells #[.slice A2 t.length c2] 22); simp only [World.size_alloc] at h_ ⊢; exact h_)
  have HD_18 := Aside0.mk (blk_alloc HD_17.out (.cells #[.slice AF fr.length cF] 39))
  have HM_18 := Aside0.mk (blk_alloc HM_17.out (.cells #[.slice AF fr.length cF] 39))
  have HZ_18 := Aside0.mk (blk_alloc HZ_17.out (.cells #[.slice AF fr.length cF] 39))
  have HK_18 := Aside0.mk (blk_alloc HK_17.out (.cells #[.slice AF fr.length cF] 39))
  have HE_18 := Aside0.mk (blk_alloc HE_17.out (.cells #[.slice AF fr.length cF] 39))
  have HX_18 := Aside0.mk (blk_alloc HX_17.out (.cells #[.slice AF fr.length cF] 39))
  have HN_18 := Aside0.mk (blk_alloc HN_17.out (.cells #[.slice AF fr.length cF] 39))
  have HS_18 := Aside0.mk (blk_alloc HS_17.out (.cells #[.slice AF fr.length cF] 39))
  have HL_18 := Aside0.mk (blk_alloc HL_17.out (.cells #[.slice AF fr.length cF] 39))
  have OF_18 := Aside0.mk (Kd.R_alloc OF_17.out (.cells #[.slice AF fr.length cF] 39))
  have OV_18 := Aside0.mk (Kd.R_alloc OV_17.out (.cells #[.slice AF fr.length cF] 39))
  have OU_18 := Aside0.mk (Kd.R_alloc OU_17.out (.cells #[.slice AF fr.length cF] 39))
  have B_18 := Aside0.mk (B_17.out.alloc B_17.out.size (.cells #[.slice AF fr.length cF] 39))
  have HT_18 := Aside0.mk (show (((w15.alloc (.cells #[.bool false] 4)).alloc (.cells #[.slice A2 t.length c2] 22)).alloc (.cells #[.slice AF fr.length cF] 39)).heap[w15.heap.size + 1 + 1]? = some (.cells (#[.slice AF fr.length cF]) 39 (0, 0)) by have h_ := blk_new (((w15.alloc (.cells #[.bool false] 4)).alloc (.cells #[.slice A2 t.length c2] 22))) (.cells #[.slice AF fr.length cF] 39); simp only [World.size_alloc] at h_ ⊢; exact h_)
  have HSVx := Aside0.mk (show SvMem w w1.heap.size gn w15.heap.size (w15.heap.size + 1 + 1) AF cF fr (w1.heap.size + 1) (((w15.alloc (.cells #[.bool false] 4)).alloc (.cells #[.slice A2 t.length c2] 22)).alloc (.cells #[.slice AF fr.length cF] 39)) l u m false 0 from ⟨HM_18.out, HZ_18.out, HK_18.out, HE_18.out, HX_18.out, ⟨_, _, _, _, HN_18.out, OV_18.out, OU_18.out⟩, HS_18.out, OF_18.out, HT_18.out, B_18.out⟩)
  have HAT := Aside0.mk (show SvAt w w1.heap.size gn w15.heap.size (w1.heap.size + 1) by have h1 := HZ1.out; have h2 := HLE2.out; have h3 := blk_lt HX_10.out; have h4 := blk_lt HX_15.out; exact ⟨by omega, by omega, by omega, by omega⟩)
  have HLx := Aside0.mk HL_18.out
  have HDs := Aside0.mk (show Calls Try.prog 45 #[.slice A2 t.length c2, .slice AF fr.length cF] (w15.alloc (.cells #[.bool false] 4)) (fun e w' => e = .returned (.func (.func 59) #[] #[.pointer (some ⟨w15.heap.size + 1, 0, none⟩), .pointer (some ⟨w15.heap.size + 1 + 1, 0, none⟩)]) ∧ w' = (((w15.alloc (.cells #[.bool false] 4)).alloc (.cells #[.slice A2 t.length c2] 22)).alloc (.cells #[.slice AF fr.length cF] 39))) by have h_ := (callsIn_wide (n := 3)).1 (slot_deeds_in 3 A2 t.length c2 AF fr.length cF (w15.alloc (.cells #[.bool false] 4))); simp only [World.size_alloc] at h_; exact h_)
  clear hHeld HM_18 HZ_18 HK_18 HE_18 HX_18 HN_18 HS_18 HT_18 HL_18 HD_18 OV_18 OU_18 OF_18 B_18 HD_17 HD_16 HD_15 HM_17 HM_16 HM_15 HZ_17 HZ_16 HZ_15 HK_17 HK_16 HK_15 HE_17 HE_16 HE_15 HX_17 HX_16 HX_15 HN_17 HN_16 HN_15 OV_17 OU_17 OF_17 OV_16 OU_16 OF_16 OV_15 OU_15 OF_15 B_15 B_16 B_17 HS_16 HS_17 HL_17
  go_wp2
  go_step3
  go_wp2_with (go_at_call 45; ((with_reducible refine HDs.out.mono ?_); rintro e w17 ⟨rfl, hw17⟩; have HSV := Aside0.mk (show SvMem w w1.heap.size gn w15.heap.size (w15.heap.size + 1 + 1) AF cF fr (w1.heap.size + 1) w17 l u m false 0 by rw [hw17]; exact HSVx.out); have HLb := Aside0.mk (show Boxed w17 (w15.heap.size + 1) 22 (.slice A2 t.length c2) by rw [hw17]; exact HLx.out); clear hw17))
  have hcf1 := enters_of Try.func59 (by kernel_rfl) rfl
  clear HSVx HLx HDs
  have hszs : ∀ s ∈ t, s.size ≤ 200 := fun s hs => by have h_ := List.any_eq_false.1 HAL.out s hs; simp at h_; omega
  have htl : t.length ≤ 1000000 := by have h1 := HLE.out; have h2 := HFL.out; omega
  refine (wpIn_wide (n := 9)).1 ?_
  refine wpIn_rangeFx (n := 9) (by omega) (gf := 59) (lb := #[.pointer (some ⟨w15.heap.size + 1, 0, none⟩), .pointer (some ⟨w15.heap.size + 1 + 1, 0, none⟩)]) rfl hcf1 (slot_deeds_fx (9 - 1) (by omega) w A2 c2 t HR2q.out hszs htl (w15.heap.size + 1) (w15.heap.size + 1 + 1) w17 HSV.out.bel HLb.out) (fun h k => h.trans k) (belowK_b HSV.out.bel.size) (fxD_put t) (Below.refl _ _) (fun _ => rfl)
    (SvI t ⟨0, l, u, m, 0⟩ w w1.heap.size gn w15.heap.size (w15.heap.size + 1 + 1) AF cF fr (w1.heap.size + 1)) (SvX t ⟨0, l, u, m, 0⟩ w w1.heap.size gn w15.heap.size (w15.heap.size + 1 + 1) AF cF fr (w1.heap.size + 1)) (svI_own _ _ HSV.out.bel.size) (svX_own _ _ HSV.out.bel.size) ⟨rfl, HSV.out⟩ ?round ?done ?stop
  case round =>
    clear HSV HLb
    intro lo pre x W hI hfx
    rw [show encD (w15.heap.size + 1 + 1) x = #[valD (w15.heap.size + 1 + 1) x] from rfl, zip1]
    simp only [List.setIfInBounds_toArray, List.set_cons_zero, List.set_cons_succ]
    gi_wp2
    refine ⟨trivial, fun W2 hI hfx => ?_⟩
    obtain ⟨q, hq⟩ : ∃ q, q = svN fr t ⟨0, l, u, m, 0⟩ pre.length := ⟨_, rfl⟩
    have HNX := Aside0.mk (show svN fr t ⟨0, l, u, m, 0⟩ (pre ++ [x]).length = svStep fr t q pre.length by rw [List.length_append, hq]; rfl)
    obtain ⟨hst, hm⟩ := hI
    rw [← hq] at hst hm
    have HST := Aside0.mk hst
    have HBL := Aside0.mk hm.bel.size
    have HLEN := Aside0.mk (show (pre ++ [x]).length ≤ t.length + 1 by
      rw [List.length_append]
      rcases x with _ | ⟨bi, bf⟩
      · have h_ : pre.length = t.length := hfx
        simp; omega
      · have h_ := hfx.1
        simp; omega)
    clear hq hst
    have cM := blk_cell hm.m 0
    simp only [List.getElem?_toArray, List.getElem?_cons_zero, List.getElem?_cons_succ] at cM
    by_cases hm0 : q.m = 0
    · rw [hm0] at cM
      have cS := blk_cell hm.s 0
      have fS := blk_frozen hm.s 0
      simp only [List.getElem?_toArray, List.getElem?_cons_zero, List.getElem?_cons_succ] at cS
      have HMM := Aside0.mk hm
      clear hm hfx
      gi_wp2
      have hstep : svStep fr t q pre.length = { q with st := 1 } := by unfold svStep; rw [if_neg (by rw [HST.out]; decide), if_pos hm0]
      refine ⟨keepsFrom_set _ _ _ _, .inr ⟨rfl, ?_, HLEN.out, ?_⟩⟩
      · rw [HNX.out, hstep]
      · rw [HNX.out, hstep]
        exact HMM.out.setS HAT.out true
    · have e1m : (q.m == 0) = false := by rw [beq_eq_false_iff_ne]; exact hm0
      obtain ⟨b', u', e1, hd⟩ : ∃ b' u' e1, deedV fr t pre.length q.b q.u = (b', u', e1) := ⟨_, _, _, rfl⟩
      have HSTEP := Aside0.mk (show svStep fr t q pre.length = if e1 ≠ 0 then { q with st := 2, e := e1 } else ⟨0, b', u', wrap64 (q.m - 1), 0⟩ by unfold svStep; rw [if_neg (by rw [HST.out]; decide), if_neg hm0, hd])
      obtain ⟨A6, c6, A7, c7, hN, hP6, hP7⟩ := hm.n
      have cA := blk_cell hN 0
      have cB := blk_cell hN 1
      simp only [List.getElem?_toArray, List.getElem?_cons_zero, List.getElem?_cons_succ] at cA cB
      rcases x with _ | ⟨bi, bf⟩
      · have HC := Aside0.mk (disk_Sync.calls A6 c6 q.b A7 c7 q.u b' u' e1 W2 (Kd.R_reads' hP6).2.2 (Kd.R_reads' hP6).2.1 (Kd.R_reads' hP7).2.2 (Kd.R_reads' hP7).2.1 (by unfold deedV at hd; rw [if_neg (by have h_ : pre.length = t.length := hfx; omega)] at hd; exact congrArg some hd))
        have hcf2 := enters_of Try.func34 (by kernel_rfl) rfl
        have hcf3 := True.intro
        clear hd hN hP6 hP7 hfx hm0
        simp only [valD]
        gi_wp2
        refine ⟨trivial, (CallsIn.inRound lo (callsIn_wide.2 HC.out)).mono ?_⟩
        rintro e W3 ⟨v0, v1, rfl, hR0, hR1, hb⟩
        have hm3 := hm.below hb
        obtain ⟨A4, c4, rfl⟩ := Kd.R_slice hR0
        obtain ⟨A5, c5, rfl⟩ := Kd.R_slice hR1
        have hm4 := hm3.setN HAT.out (Kd.R_lower hR0 hm.bel.size) (Kd.R_lower hR1 hm.bel.size)
        have hm5 := hm4.setX HAT.out e1
        obtain ⟨_, _, _, _, hN3, _, _⟩ := hm3.n
        have HB3 := Aside0.mk hb
        have n0 := blk_cell hN3 0
        have n1 := blk_cell hN3 1
        have fn0 := blk_frozen hN3 0
        have fn1 := blk_frozen hN3 1
        have x0 := blk_cell hm4.x 0
        have fx0 := blk_frozen hm4.x 0
        have x1 := blk_cell hm5.x 0
        simp only [List.getElem?_toArray, List.getElem?_cons_zero, List.getElem?_cons_succ] at n0 n1 x0 x1
        have HM5 := Aside0.mk hm5
        clear hR0 hR1 hb hm3 hm4 hm5 hN3 cA cB cM hcf2 hcf3
        by_cases he1 : e1 = 0
        · subst he1
          have k0 := blk_cell HM5.out.m 0
          have fk0 := blk_frozen HM5.out.m 0
          simp only [List.getElem?_toArray, List.getElem?_cons_zero, List.getElem?_cons_succ] at k0
          gi_wp2
          have hstep : svStep fr t q pre.length = ⟨0, b', u', wrap64 (q.m - 1), 0⟩ := by rw [HSTEP.out, if_neg (by decide)]
          refine ⟨((((keepsFrom_below HB3.out).trans (keepsFrom_set _ _ _ _)).trans (keepsFrom_set _ _ _ _)).trans (keepsFrom_set _ _ _ _)).trans (keepsFrom_set _ _ _ _), ?_, ?_, ?_⟩
          · exact ((((HB3.out.mono HBL.out).setCell (p := ⟨gn, 0, none⟩) (by have h_ := HAT.out.g; show w.heap.size ≤ gn; omega) _).setCell (p := ⟨gn, 1, none⟩) (by have h_ := HAT.out.g; show w.heap.size ≤ gn; omega) _).setCell (p := ⟨w1.heap.size, 0, none⟩) (by have h_ := HAT.out.x; show w.heap.size ≤ w1.heap.size; omega) _).setCell (p := ⟨w.heap.size + 1, 0, none⟩) (by show w.heap.size ≤ w.heap.size + 1; omega) _
          · rw [HNX.out, hstep]
          · rw [HNX.out, hstep]
            exact HM5.out.setM HAT.out (wrap64 (q.m - 1))
        · have hne1 : (e1 != 0) = true := by rw [bne_iff_ne]; exact he1
          have hstep : svStep fr t q pre.length = { q with st := 2, e := e1 } := by rw [HSTEP.out, if_pos he1]
          gi_wp2
          have HNX2 := Aside0.mk (HNX.out.trans hstep)
          clear hstep
          have HK5 := Aside0.mk ((((keepsFrom_below HB3.out).trans (keepsFrom_set w17.heap.size _ ⟨gn, 0, none⟩ (.slice A4 b'.length c4))).trans (keepsFrom_set _ _ ⟨gn, 1, none⟩ (.slice A5 u'.length c5))).trans (keepsFrom_set _ _ ⟨w1.heap.size, 0, none⟩ (.int .i64 e1)))
          clear n0 n1 fn0 fn1 x0 fx0
          generalize ((W3.setCell ⟨gn, 0, none⟩ (.slice A4 b'.length c4)).setCell ⟨gn, 1, none⟩ (.slice A5 u'.length c5)).setCell ⟨w1.heap.size, 0, none⟩ (.int .i64 e1) = W5 at HM5 HK5 x1 ⊢
          have z0 := blk_cell HM5.out.z 0
          have z1 := blk_cell HM5.out.z 1
          have k0 := blk_cell HM5.out.k 0
          have e0 := blk_cell HM5.out.e 0
          have fz0 := blk_frozen HM5.out.z 0
          have fz1 := blk_frozen HM5.out.z 1
          have fk0 := blk_frozen HM5.out.k 0
          have fe0 := blk_frozen HM5.out.e 0
          simp only [List.getElem?_toArray, List.getElem?_cons_zero, List.getElem?_cons_succ] at z0 z1 k0 e0
          have hx_ := HAT.out.x
          have d1 : ¬ w1.heap.size = w.heap.size + 1 + 1 := by omega
          have d2 : ¬ w1.heap.size = w.heap.size + 1 + 1 + 1 := by omega
          have d3 : ¬ w1.heap.size = w.heap.size + 1 + 1 + 1 + 1 := by omega
          have d4 : ¬ w.heap.size + 1 + 1 = w1.heap.size := by omega
          have d5 : ¬ w.heap.size + 1 + 1 + 1 = w1.heap.size := by omega
          have d6 : ¬ w.heap.size + 1 + 1 + 1 + 1 = w1.heap.size := by omega
          have mixed : Try.prog.follows .mixedOrders = true := by kernel_rfl
          clear hx_
          gi_region_with_o (fail)
          all_goals
            gi_wp2
            obtain ⟨f1, f2, f3, f4⟩ := HM5.out.fail e1
            refine ⟨?_, .inl ⟨rfl, ?_, ?_, ?_, ?_, ?_, ?_⟩⟩
            · have h_ := ((((HK5.out.trans (keepsFrom_set _ _ ⟨w.heap.size + 1 + 1, 0, none⟩ (.slice none 0 0))).trans (keepsFrom_set _ _ ⟨w.heap.size + 1 + 1, 1, none⟩ (.slice none 0 0))).trans (keepsFrom_set _ _ ⟨w.heap.size + 1 + 1 + 1, 0, none⟩ (.bool false))).trans (keepsFrom_set _ _ ⟨w.heap.size + 1 + 1 + 1 + 1, 0, none⟩ (.int .i64 e1)))
              exact ⟨h_.size, h_.same⟩
            · rw [HNX2.out]
            · exact HLEN.out
            · exact f1
            · exact f2
            · rw [HNX2.out]; exact f3
            · exact ⟨f4.os, f4.tape, f4.output, f4.size, f4.block⟩
      · have HC := Aside0.mk (slot_deed_calls A6 c6 q.b A7 c7 q.u AF fr cF (pre.length : Int) (frameOf (rdOf ByteArray.empty t (pre.length : Int))) b' u' e1 (w15.heap.size + 1 + 1) bi bf W2 (Kd.R_reads' hP6).2.2 (Kd.R_reads' hP6).2.1 (Kd.R_reads' hP7).2.2 (Kd.R_reads' hP7).2.1 (Kd.R_reads' hm.f).2.2 (by omega) (by have h_ := hfx.1; have h2_ := HLE.out; omega) (by unfold deedV at hd; rw [if_pos hfx.1] at hd; exact hd) hm.t hfx.2.1 hfx.2.2)
        have hcf2 := enters_of Try.func60 (by kernel_rfl) rfl
        have hcf3 := True.intro
        clear hd hN hP6 hP7 hfx hm0
        simp only [valD]
        gi_wp2
        refine ⟨trivial, (CallsIn.inRound lo (callsIn_wide.2 HC.out)).mono ?_⟩
        rintro e W3 ⟨v0, v1, rfl, hR0, hR1, hb⟩
        have hm3 := hm.below hb
        obtain ⟨A4, c4, rfl⟩ := Kd.R_slice hR0
        obtain ⟨A5, c5, rfl⟩ := Kd.R_slice hR1
        have hm4 := hm3.setN HAT.out (Kd.R_lower hR0 hm.bel.size) (Kd.R_lower hR1 hm.bel.size)
        have hm5 := hm4.setX HAT.out e1
        obtain ⟨_, _, _, _, hN3, _, _⟩ := hm3.n
        have HB3 := Aside0.mk hb
        have n0 := blk_cell hN3 0
        have n1 := blk_cell hN3 1
        have fn0 := blk_frozen hN3 0
        have fn1 := blk_frozen hN3 1
        have x0 := blk_cell hm4.x 0
        have fx0 := blk_frozen hm4.x 0
        have x1 := blk_cell hm5.x 0
        simp only [List.getElem?_toArray, List.getElem?_cons_zero, List.getElem?_cons_succ] at n0 n1 x0 x1
        have HM5 := Aside0.mk hm5
        clear hR0 hR1 hb hm3 hm4 hm5 hN3 cA cB cM hcf2 hcf3
        by_cases he1 : e1 = 0
        · subst he1
          have k0 := blk_cell HM5.out.m 0
          have fk0 := blk_frozen HM5.out.m 0
          simp only [List.getElem?_toArray, List.getElem?_cons_zero, List.getElem?_cons_succ] at k0
          gi_wp2
          have hstep : svStep fr t q pre.length = ⟨0, b', u', wrap64 (q.m - 1), 0⟩ := by rw [HSTEP.out, if_neg (by decide)]
          refine ⟨((((keepsFrom_below HB3.out).trans (keepsFrom_set _ _ _ _)).trans (keepsFrom_set _ _ _ _)).trans (keepsFrom_set _ _ _ _)).trans (keepsFrom_set _ _ _ _), ?_, ?_, ?_⟩
          · exact ((((HB3.out.mono HBL.out).setCell (p := ⟨gn, 0, none⟩) (by have h_ := HAT.out.g; show w.heap.size ≤ gn; omega) _).setCell (p := ⟨gn, 1, none⟩) (by have h_ := HAT.out.g; show w.heap.size ≤ gn; omega) _).setCell (p := ⟨w1.heap.size, 0, none⟩) (by have h_ := HAT.out.x; show w.heap.size ≤ w1.heap.size; omega) _).setCell (p := ⟨w.heap.size + 1, 0, none⟩) (by show w.heap.size ≤ w.heap.size + 1; omega) _
          · rw [HNX.out, hstep]
          · rw [HNX.out, hstep]
            exact HM5.out.setM HAT.out (wrap64 (q.m - 1))
        · have hne1 : (e1 != 0) = true := by rw [bne_iff_ne]; exact he1
          have hstep : svStep fr t q pre.length = { q with st := 2, e := e1 } := by rw [HSTEP.out, if_pos he1]
          gi_wp2
          have HNX2 := Aside0.mk (HNX.out.trans hstep)
          clear hstep
          have HK5 := Aside0.mk ((((keepsFrom_below HB3.out).trans (keepsFrom_set w17.heap.size _ ⟨gn, 0, none⟩ (.slice A4 b'.length c4))).trans (keepsFrom_set _ _ ⟨gn, 1, none⟩ (.slice A5 u'.length c5))).trans (keepsFrom_set _ _ ⟨w1.heap.size, 0, none⟩ (.int .i64 e1)))
          clear n0 n1 fn0 fn1 x0 fx0
          generalize ((W3.setCell ⟨gn, 0, none⟩ (.slice A4 b'.length c4)).setCell ⟨gn, 1, none⟩ (.slice A5 u'.length c5)).setCell ⟨w1.heap.size, 0, none⟩ (.int .i64 e1) = W5 at HM5 HK5 x1 ⊢
          have z0 := blk_cell HM5.out.z 0
          have z1 := blk_cell HM5.out.z 1
          have k0 := blk_cell HM5.out.k 0
          have e0 := blk_cell HM5.out.e 0
          have fz0 := blk_frozen HM5.out.z 0
          have fz1 := blk_frozen HM5.out.z 1
          have fk0 := blk_frozen HM5.out.k 0
          have fe0 := blk_frozen HM5.out.e 0
          simp only [List.getElem?_toArray, List.getElem?_cons_zero, List.getElem?_cons_succ] at z0 z1 k0 e0
          have hx_ := HAT.out.x
          have d1 : ¬ w1.heap.size = w.heap.size + 1 + 1 := by omega
          have d2 : ¬ w1.heap.size = w.heap.size + 1 + 1 + 1 := by omega
          have d3 : ¬ w1.heap.size = w.heap.size + 1 + 1 + 1 + 1 := by omega
          have d4 : ¬ w.heap.size + 1 + 1 = w1.heap.size := by omega
          have d5 : ¬ w.heap.size + 1 + 1 + 1 = w1.heap.size := by omega
          have d6 : ¬ w.heap.size + 1 + 1 + 1 + 1 = w1.heap.size := by omega
          have mixed : Try.prog.follows .mixedOrders = true := by kernel_rfl
          clear hx_
          gi_region_with_o (fail)
          all_goals
            gi_wp2
            obtain ⟨f1, f2, f3, f4⟩ := HM5.out.fail e1
            refine ⟨?_, .inl ⟨rfl, ?_, ?_, ?_, ?_, ?_, ?_⟩⟩
            · have h_ := ((((HK5.out.trans (keepsFrom_set _ _ ⟨w.heap.size + 1 + 1, 0, none⟩ (.slice none 0 0))).trans (keepsFrom_set _ _ ⟨w.heap.size + 1 + 1, 1, none⟩ (.slice none 0 0))).trans (keepsFrom_set _ _ ⟨w.heap.size + 1 + 1 + 1, 0, none⟩ (.bool false))).trans (keepsFrom_set _ _ ⟨w.heap.size + 1 + 1 + 1 + 1, 0, none⟩ (.int .i64 e1)))
              exact ⟨h_.size, h_.same⟩
            · rw [HNX2.out]
            · exact HLEN.out
            · exact f1
            · exact f2
            · rw [HNX2.out]; exact f3
            · exact ⟨f4.os, f4.tape, f4.output, f4.size, f4.block⟩
  case done =>
    intro D xs W hD hxs hI hkD
    obtain ⟨hst, hm⟩ := hI
    rw [show xs.length = t.length + 1 from hxs] at hst hm
    have hRR := HRQ.out
    unfold endV at hRR
    rw [if_neg (by rw [hst]; decide), if_neg (by rw [hst]; decide)] at hRR
    obtain ⟨q, hq⟩ : ∃ q, q = svN fr t ⟨0, l, u, m, 0⟩ (t.length + 1) := ⟨_, rfl⟩
    rw [← hq] at hst hm hRR
    obtain ⟨rb, ru, rd_, re⟩ := R
    simp only
    obtain ⟨A6, c6, A7, c7, hN, hP6, hP7⟩ := hm.n
    have HSTOP := Aside0.mk (twin_Stop.calls A6 c6 q.b A7 c7 q.u 0 nt q.m rb ru rd_ re W (Kd.R_reads' hP6).2.2 (Kd.R_reads' hP6).2.1 (Kd.R_reads' hP7).2.2 (Kd.R_reads' hP7).2.1 (by unfold twin_Stop.f; rw [if_pos (by decide), hRR]))
    have cM := blk_cell hm.m 0
    have cS := blk_cell hm.s 0
    have cA := blk_cell hN 0
    have cB := blk_cell hN 1
    simp only [List.getElem?_toArray, List.getElem?_cons_zero, List.getElem?_cons_succ] at cM cS cA cB
    have HMd := Aside0.mk hm
    have HDd := Aside0.mk hD
    have HKD := Aside0.mk hkD
    have HS17 := Aside0.mk (show w.heap.size + 5 ≤ w17.heap.size by have h1 := HZ1.out; have h2 := blk_lt HSV.out.x; omega)
    clear hm hst hN hP6 hP7 hRR hq hxs hD hkD
    go_wp2_with (go_at_call 15; ((with_reducible refine HSTOP.out.mono ?_); rintro e W3 ⟨v0, v1, rfl, hR0, hR1, hb⟩; obtain ⟨A8, c8, rfl⟩ := Kd.R_slice hR0; obtain ⟨A9, c9, rfl⟩ := Kd.R_slice hR1; have HM3 := Aside0.mk (HMd.out.below hb); have HP3 := Aside0.mk (Kd.R_lower hR0 HMd.out.bel.size); have HQ3 := Aside0.mk (Kd.R_lower hR1 HMd.out.bel.size); have HK3 := Aside0.mk ((hb.block D (Array.getElem?_eq_some_iff.1 HKD.out).1).trans HKD.out); clear hb hR0 hR1 cM cS cA cB; have z0 := blk_cell HM3.out.z 0; have z1 := blk_cell HM3.out.z 1; have k0 := blk_cell HM3.out.k 0; have e0 := blk_cell HM3.out.e 0; have fz0 := blk_frozen HM3.out.z 0; have fz1 := blk_frozen HM3.out.z 1; have fk0 := blk_frozen HM3.out.k 0; have fe0 := blk_frozen HM3.out.e 0; simp only [List.getElem?_toArray, List.getElem?_cons_zero, List.getElem?_cons_succ] at z0 z1 k0 e0))
    obtain ⟨hk9, g1_, g2_, g3_, hpost⟩ := HM3.out.give HP3.out HQ3.out rd_ re (by have h1 := HS17.out; have h2 := HDd.out; omega) HK3.out rfl
    have g0 := blk_cell g1_ 0
    have g1 := blk_cell g1_ 1
    have g2 := blk_cell g2_ 0
    have g3 := blk_cell g3_ 0
    simp only [List.getElem?_toArray, List.getElem?_cons_zero, List.getElem?_cons_succ] at g0 g1 g2 g3
    try rw [Exit.noGoto_ret]
    refine ⟨by simp, .inl ⟨_, _, rfl, run_takeDeferred hk9, ?_⟩⟩
    refine ⟨.tuple #[.agg #[.slice A8 rb.length c8, .slice A9 ru.length c9], .bool rd_, .int .i64 re], ?_, hpost⟩
    simp [results, Try.results21, go_sem, g0, g1, g2, g3]
  case stop =>
    intro D c pre W hD hX hkD
    have hD5 : w.heap.size + 5 ≤ D := by have h1 := HZ1.out; have h2 := blk_lt HSV.out.x; omega
    have hRR := HRQ.out
    rcases hX with ⟨rfl, hst, hle_, hz, hk2, he2, hB2⟩ | ⟨rfl, hst, hle_, hm⟩
    · have hov := svN_over fr t ⟨0, l, u, m, 0⟩ pre.length (by rw [hst]; decide) (t.length + 1 - pre.length)
      rw [show pre.length + (t.length + 1 - pre.length) = t.length + 1 by omega] at hov
      unfold endV at hRR
      rw [hov, if_neg (by rw [hst]; decide), if_pos hst] at hRR
      obtain ⟨q, hq⟩ : ∃ q, q = svN fr t ⟨0, l, u, m, 0⟩ pre.length := ⟨_, rfl⟩
      rw [← hq] at he2 hRR
      subst hRR
      simp only
      obtain ⟨g1_, g2_, g3_, hpost⟩ := save_shut hD5 hkD hz hk2 he2 (Kd.R_nil Kd.string 9 W w.heap.size (fun _ => True)) (Kd.R_nil k73 73 W w.heap.size (fun _ => True)) hB2
      clear hov hst hq hle_
      gi_wp2
      have g0 := blk_cell g1_ 0
      have g1 := blk_cell g1_ 1
      have g2 := blk_cell g2_ 0
      have g3 := blk_cell g3_ 0
      simp only [List.getElem?_toArray, List.getElem?_cons_zero, List.getElem?_cons_succ] at g0 g1 g2 g3
      try rw [Exit.noGoto_ret]
      refine ⟨by simp, .inl ⟨_, _, rfl, run_takeDeferred hkD, ?_⟩⟩
      refine ⟨.tuple #[.agg #[.slice none 0 0, .slice none 0 0], .bool false, .int .i64 q.e], ?_, hpost⟩
      simp [results, Try.results21, go_sem, g0, g1, g2, g3]
    · have hov := svN_over fr t ⟨0, l, u, m, 0⟩ pre.length (by rw [hst]; decide) (t.length + 1 - pre.length)
      rw [show pre.length + (t.length + 1 - pre.length) = t.length + 1 by omega] at hov
      unfold endV at hRR
      rw [hov, if_pos hst] at hRR
      obtain ⟨q, hq⟩ : ∃ q, q = svN fr t ⟨0, l, u, m, 0⟩ pre.length := ⟨_, rfl⟩
      rw [← hq] at hm hRR
      subst hRR
      simp only
      obtain ⟨A6, c6, A7, c7, hN, hP6, hP7⟩ := hm.n
      have cS := blk_cell hm.s 0
      have cA := blk_cell hN 0
      have cB := blk_cell hN 1
      simp only [List.getElem?_toArray, List.getElem?_cons_zero, List.getElem?_cons_succ] at cS cA cB
      have HM3 := Aside0.mk hm
      have HP3 := Aside0.mk hP6
      have HQ3 := Aside0.mk hP7
      have z0 := blk_cell HM3.out.z 0
      have z1 := blk_cell HM3.out.z 1
      have k0 := blk_cell HM3.out.k 0
      have e0 := blk_cell HM3.out.e 0
      have fz0 := blk_frozen HM3.out.z 0
      have fz1 := blk_frozen HM3.out.z 1
      have fk0 := blk_frozen HM3.out.k 0
      have fe0 := blk_frozen HM3.out.e 0
      simp only [List.getElem?_toArray, List.getElem?_cons_zero, List.getElem?_cons_succ] at z0 z1 k0 e0
      clear hm hN hP6 hP7 hov hst hq hle_
      gi_wp2
      go_wp2
      obtain ⟨hk9, g1_, g2_, g3_, hpost⟩ := HM3.out.give HP3.out HQ3.out false 0 hD5 hkD rfl
      have g0 := blk_cell g1_ 0
      have g1 := blk_cell g1_ 1
      have g2 := blk_cell g2_ 0
      have g3 := blk_cell g3_ 0
      simp only [List.getElem?_toArray, List.getElem?_cons_zero, List.getElem?_cons_succ] at g0 g1 g2 g3
      try rw [Exit.noGoto_ret]
      refine ⟨by simp, .inl ⟨_, _, rfl, run_takeDeferred hk9, ?_⟩⟩
      refine ⟨.tuple #[.agg #[.slice A6 q.b.length c6, .slice A7 q.u.length c7], .bool false, .int .i64 0], ?_, hpost⟩
      simp [results, Try.results21, go_sem, g0, g1, g2, g3]
end Go.Proofs.Ytkgcaheddhfpgaa.P
/-
  slot.Save, by hand: what it answers.
-/
namespace Go.Proofs.Ytkgcaheddhfpgaa.P
open Go.RowKit Go.Shelf Go.Proofs Go.Proofs.CodecPlain Go.Proofs.YtkgcaheddhfpgaaW.PrintWords Go.Proofs.YtkgcaheddhfpgaaW.PrintLast Go.Proofs.YtkgcaheddhfpgaaW.PrintMore

def slot_Save.f (l : List ByteArray) (u : List S73) (t : List ByteArray) (m : Int) : Option (List ByteArray × List S73 × Bool × Int) := some (saveV l u t m)
theorem slot_Save.calls (A0_0 : Option Addr) (c0_0 : Nat) (l0_0 : List ByteArray) (A0_1 : Option Addr) (c0_1 : Nat) (l0_1 : List S73) (A1 : Option Addr) (c1 : Nat) (l1 : List ByteArray) (a2 : Int) (r1 : List ByteArray) (r2 : List S73) (r3 : Bool) (r4 : Int) (w : World) (hr0_0 : Kd.C Kd.string w A0_0 l0_0.length l0_0) (hc0_0 : l0_0.length ≤ c0_0) (hr0_1 : Kd.C k73 w A0_1 l0_1.length l0_1) (hc0_1 : l0_1.length ≤ c0_1) (hr1 : Kd.C Kd.string w A1 l1.length l1) (hc1 : l1.length ≤ c1) (h : slot_Save.f l0_0 l0_1 l1 a2 = some (r1, r2, r3, r4)) :
    Calls Try.prog 21 #[.agg #[.slice A0_0 l0_0.length c0_0, .slice A0_1 l0_1.length c0_1], .slice A1 l1.length c1, .int .i64 a2] w fun e w' => ∃ v0_ v1_ : Value, e = .returned (.tuple #[.agg #[v0_, v1_], .bool r3, .int .i64 r4]) ∧ Kd.R Kd.string 9 w' w.heap.size (fun _ => True) v0_ r1 ∧ Kd.R k73 73 w' w.heap.size (fun _ => True) v1_ r2 ∧ Below w.heap.size w w' := by
  have hv : saveV l0_0 l0_1 l1 a2 = (r1, r2, r3, r4) := by simpa [slot_Save.f] using h
  clear h
  unfold saveV at hv
  by_cases h1 : (loadV l0_0 l0_1).2.2.2 = 0
  rotate_left
  · rw [if_pos h1] at hv
    cases hv
    exact slot_Save_A A0_0 c0_0 l0_0 A0_1 c0_1 l0_1 A1 c1 l1 a2 w hr0_0 hc0_0 hr0_1 hc0_1 hr1 hc1 h1
  rw [if_neg (fun q => q h1)] at hv
  by_cases h2 : l1.any (fun s => decide (200 < s.size)) = true
  · rw [if_pos h2] at hv
    cases hv
    exact slot_Save_B A0_0 c0_0 l0_0 A0_1 c0_1 l0_1 A1 c1 l1 a2 w hr0_0 hc0_0 hr0_1 hc0_1 hr1 hc1 h1 h2
  rw [if_neg h2] at hv
  have h2' : l1.any (fun s => decide (200 < s.size)) = false := by simpa using h2
  by_cases h3 : (freeK (loadV l0_0 l0_1).2.1 l0_0.length).length < l1.length
  · rw [if_pos h3] at hv
    cases hv
    exact slot_Save_C A0_0 c0_0 l0_0 A0_1 c0_1 l0_1 A1 c1 l1 a2 w hr0_0 hc0_0 hr0_1 hc0_1 hr1 hc1 h1 h2' h3
  rw [if_neg h3] at hv
  by_cases h4 : (namedV ((freeK (loadV l0_0 l0_1).2.1 l0_0.length).take l1.length)).2 = 0
  rotate_left
  · rw [if_pos h4] at hv
    cases hv
    exact slot_Save_D A0_0 c0_0 l0_0 A0_1 c0_1 l0_1 A1 c1 l1 a2 w hr0_0 hc0_0 hr0_1 hc0_1 hr1 hc1 h1 h2' h3 h4
  rw [if_neg (fun q => q h4)] at hv
  exact slot_Save_E A0_0 c0_0 l0_0 A0_1 c0_1 l0_1 A1 c1 l1 a2 w hr0_0 hc0_0 hr0_1 hc0_1 hr1 hc1 h1 h2' h3 h4 (r1, r2, r3, r4) hv.symm
end Go.Proofs.Ytkgcaheddhfpgaa.P
-- Written by a program of this session (xprint.py) over the kit's print.py.
namespace Go.Proofs.Ytkgcaheddhfpgaa.P
open Go.RowKit Go.Proofs.YtkgcaheddhfpgaaW.PrintWords Go.Proofs.YtkgcaheddhfpgaaW.PrintLast Go.Proofs.YtkgcaheddhfpgaaW.PrintMore
attribute [local go_sem] max2_int min2_int max_two min_two max_three min_three max_four min_four   -- for this text's walks alone
set_option linter.unusedVariables false
set_option linter.unusedSimpArgs false

/-! ### disk_New: function 17 -/
def disk_New.f (a0 : Int) : Option (List ByteArray × (List (S73)) × Int) := if a0 < 1 then (some (([] : List ByteArray), ([] : List (S73)), 1)) else (if a0 > 200 then (some (([] : List ByteArray), ([] : List (S73)), 1)) else (if 0 ≤ a0 then (if (a0 : Int).toNat ≤ 17592186044416 then (some ((List.replicate (a0 : Int).toNat (⟨#[]⟩ : ByteArray)), ([] : List (S73)), 0)) else (none)) else (none)))
set_option maxHeartbeats 8000000 in
set_option maxRecDepth 100000 in
theorem disk_New.calls (a0 : Int) (r1 : List ByteArray) (r2 : List (S73)) (r3 : Int) (w : World) (h : disk_New.f a0 = some (r1, r2, r3)) :
    Calls Try.prog 17 #[.int .i64 a0] w fun e w' => ∃ v0_ v1_ : Value, e = .returned (.tuple #[.agg #[v0_, v1_], .int .i64 r3]) ∧ Kd.R Kd.string 9 w' w.heap.size (fun _ => True) v0_ r1 ∧ Kd.R k73 73 w' w.heap.size (fun _ => True) v1_ r2 ∧ Below w.heap.size w w' := by
  have hu25 := Try.underlying25
  have HB := Aside0.mk (Below.refl w.heap.size w)
  have H : (if a0 < 1 then (some (([] : List ByteArray), ([] : List (S73)), 1)) else (if a0 > 200 then (some (([] : List ByteArray), ([] : List (S73)), 1)) else (if 0 ≤ a0 then (if (a0 : Int).toNat ≤ 17592186044416 then (some ((List.replicate (a0 : Int).toNat (⟨#[]⟩ : ByteArray)), ([] : List (S73)), 0)) else (none)) else (none)))) = some (r1, r2, r3) := h
  clear h
  by_cases c2 : a0 < 1
  · rw [if_pos c2] at H
    have c2b0 : decide (a0 < 1) = true := decide_eq_true c2
    clear c2
    simp only [Option.some.injEq, Prod.mk.injEq] at H
    obtain ⟨rfl, rfl, rfl⟩ := H
    go_enter Try.func17, Try.ntmps17
    go_wp2_with (first | ((with_reducible refine gate_dst (N := 2) rfl ?_); refine box_event ?hg (N := 2) ?hd (cs := #[.slice none 0 0, .slice none 0 0]) (t := 25) ?hr ?_; (case hd => rfl); (case hg => rfl); (case hr => first | (go_simp; done) | (go_simp; rfl)); intro gb152 hg w3 hbox hb; have n0_ := Aside0.mk (below_step (by repeat (first | (with_reducible first | exact HB.out | apply below_alloc | apply pw_below_drewN | apply below_drew1) | exact HB.out)) hb); have n1_ := Aside0.mk (hbox); have n2_ := Aside0.mk ((by rw [hg]; exact (below_size (by repeat (first | (with_reducible first | exact HB.out | apply below_alloc | apply pw_below_drewN | apply below_drew1) | exact HB.out))) : w.heap.size ≤ gb152)); have n3_ := Aside0.mk ((by rw [hg]; exact (below_size (by repeat (first | (with_reducible first | exact HB.out | apply below_alloc | apply pw_below_drewN | apply below_drew1) | exact HB.out))) : w.heap.size ≤ gb152)); clear HB; have HB := n0_; have BK152 := n1_; have GW152 := n2_; have GE152 := n3_; clear n0_ n1_ n2_ n3_; clear hb hbox hg; have hcz4_0 : w3.cell? ⟨gb152, 0, none⟩ = some (.slice none 0 0) := (blk_cell BK152.out 0).trans rfl; have hcz4_1 : w3.cell? ⟨gb152, 1, none⟩ = some (.slice none 0 0) := (blk_cell BK152.out 1).trans rfl; have hfz4_0 := blk_frozen BK152.out 0; have hfz4_1 := blk_frozen BK152.out 1))
    refine bodyPost_ret (results_ct rfl _ _ gb152 25 #[.slice none 0 0, .slice none 0 0] (0, 0) _ rfl (by (with_reducible repeat (first | refine blk_drewN ?_ _ | refine blk_drew ?_ | refine blk_alloc ?_ _)); refine blk_put (cs := #[.slice none 0 0, .slice none 0 0]) ?_ 1 _ rfl; (with_reducible repeat (first | refine blk_drewN ?_ _ | refine blk_drew ?_ | refine blk_alloc ?_ _)); refine blk_put (cs := #[.slice none 0 0, .slice none 0 0]) ?_ 0 _ rfl; (with_reducible repeat (first | refine blk_drewN ?_ _ | refine blk_drew ?_ | refine blk_alloc ?_ _)); exact BK152.out) Try.underlying25 rfl (by kernel_rfl)) rfl ?_
    exact ⟨_, _, by first | rfl | (simp [errW_none, errW_some] <;> rfl) | (simp [*, errW_none, errW_some] <;> rfl), by first | exact Kd.R_nil _ _ _ _ _ | exact Kd.N_nil _ _ _ _ _ | exact Kd.V_nil _ _ _ _ _ | exact Kd.Q_nil _ _ _ _ _ | exact Kd.S_nil _ _ _ _ _, by first | exact Kd.R_nil _ _ _ _ _ | exact Kd.N_nil _ _ _ _ _ | exact Kd.V_nil _ _ _ _ _ | exact Kd.Q_nil _ _ _ _ _ | exact Kd.S_nil _ _ _ _ _, by repeat (first | (with_reducible first | exact HB.out | apply below_alloc | apply pw_below_drewN | apply below_drew1 | refine below_set ?_ GE152.out) | exact HB.out)⟩
  · rw [if_neg c2] at H
    have c2b0 : decide (a0 < 1) = false := decide_eq_false c2
    clear c2
    by_cases c5 : a0 > 200
    · rw [if_pos c5] at H
      have c5b0 : decide (200 < a0) = true := decide_eq_true c5
      clear c5
      simp only [Option.some.injEq, Prod.mk.injEq] at H
      obtain ⟨rfl, rfl, rfl⟩ := H
      go_enter Try.func17, Try.ntmps17
      go_wp2_with (first | ((with_reducible refine gate_dst (N := 2) rfl ?_); refine box_event ?hg (N := 2) ?hd (cs := #[.slice none 0 0, .slice none 0 0]) (t := 25) ?hr ?_; (case hd => rfl); (case hg => rfl); (case hr => first | (go_simp; done) | (go_simp; rfl)); intro gb152 hg w6 hbox hb; have n0_ := Aside0.mk (below_step (by repeat (first | (with_reducible first | exact HB.out | apply below_alloc | apply pw_below_drewN | apply below_drew1) | exact HB.out)) hb); have n1_ := Aside0.mk (hbox); have n2_ := Aside0.mk ((by rw [hg]; exact (below_size (by repeat (first | (with_reducible first | exact HB.out | apply below_alloc | apply pw_below_drewN | apply below_drew1) | exact HB.out))) : w.heap.size ≤ gb152)); have n3_ := Aside0.mk ((by rw [hg]; exact (below_size (by repeat (first | (with_reducible first | exact HB.out | apply below_alloc | apply pw_below_drewN | apply below_drew1) | exact HB.out))) : w.heap.size ≤ gb152)); clear HB; have HB := n0_; have BK152 := n1_; have GW152 := n2_; have GE152 := n3_; clear n0_ n1_ n2_ n3_; clear hb hbox hg; have hcz7_0 : w6.cell? ⟨gb152, 0, none⟩ = some (.slice none 0 0) := (blk_cell BK152.out 0).trans rfl; have hcz7_1 : w6.cell? ⟨gb152, 1, none⟩ = some (.slice none 0 0) := (blk_cell BK152.out 1).trans rfl; have hfz7_0 := blk_frozen BK152.out 0; have hfz7_1 := blk_frozen BK152.out 1))
      refine bodyPost_ret (results_ct rfl _ _ gb152 25 #[.slice none 0 0, .slice none 0 0] (0, 0) _ rfl (by (with_reducible repeat (first | refine blk_drewN ?_ _ | refine blk_drew ?_ | refine blk_alloc ?_ _)); refine blk_put (cs := #[.slice none 0 0, .slice none 0 0]) ?_ 1 _ rfl; (with_reducible repeat (first | refine blk_drewN ?_ _ | refine blk_drew ?_ | refine blk_alloc ?_ _)); refine blk_put (cs := #[.slice none 0 0, .slice none 0 0]) ?_ 0 _ rfl; (with_reducible repeat (first | refine blk_drewN ?_ _ | refine blk_drew ?_ | refine blk_alloc ?_ _)); exact BK152.out) Try.underlying25 rfl (by kernel_rfl)) rfl ?_
      exact ⟨_, _, by first | rfl | (simp [errW_none, errW_some] <;> rfl) | (simp [*, errW_none, errW_some] <;> rfl), by first | exact Kd.R_nil _ _ _ _ _ | exact Kd.N_nil _ _ _ _ _ | exact Kd.V_nil _ _ _ _ _ | exact Kd.Q_nil _ _ _ _ _ | exact Kd.S_nil _ _ _ _ _, by first | exact Kd.R_nil _ _ _ _ _ | exact Kd.N_nil _ _ _ _ _ | exact Kd.V_nil _ _ _ _ _ | exact Kd.Q_nil _ _ _ _ _ | exact Kd.S_nil _ _ _ _ _, by repeat (first | (with_reducible first | exact HB.out | apply below_alloc | apply pw_below_drewN | apply below_drew1 | refine below_set ?_ GE152.out) | exact HB.out)⟩
    · rw [if_neg c5] at H
      have c5b0 : decide (200 < a0) = false := decide_eq_false c5
      clear c5
      by_cases c8 : 0 ≤ a0
      · rw [if_pos c8] at H
        have c8b0 := eq_true c8
        have c8b1 : decide (0 ≤ a0) = true := decide_eq_true c8
        clear c8
        by_cases c9 : (a0 : Int).toNat ≤ 17592186044416
        · rw [if_pos c9] at H
          have c9b0 := eq_true c9
          have c9b1 : decide ((a0 : Int).toNat ≤ 17592186044416) = true := decide_eq_true c9
          clear c9
          obtain ⟨y153, hy153⟩ : ∃ y_ : List ByteArray, y_ = (List.replicate (a0 : Int).toNat (⟨#[]⟩ : ByteArray)) := ⟨_, rfl⟩
          replace H : (some (y153, ([] : List (S73)), 0)) = some (r1, r2, r3) := by first | (rw [hy153]; with_reducible exact H) | (have H2_ := (Option.bind_some _ _).symm.trans H; rw [hy153]; with_reducible exact H2_) | (have H2_ := (Option.bind_some _ _).symm.trans H; with_reducible exact H2_) | with_reducible exact H | (rw [hy153]; exact H) | exact H
          have Ny153 := Aside0.mk hy153
          clear hy153
          simp only [Option.some.injEq, Prod.mk.injEq] at H
          obtain ⟨rfl, rfl, rfl⟩ := H
          go_enter Try.func17, Try.ntmps17
          go_wp2_with (first | ((with_reducible refine gate_dst (N := 2) rfl ?_); refine box_event ?hg (N := 2) ?hd (cs := #[.slice none 0 0, .slice none 0 0]) (t := 25) ?hr ?_; (case hd => rfl); (case hg => rfl); (case hr => first | (go_simp; done) | (go_simp; rfl)); intro gb152 hg w10 hbox hb; have n0_ := Aside0.mk (below_step (by repeat (first | (with_reducible first | exact HB.out | apply below_alloc | apply pw_below_drewN | apply below_drew1) | exact HB.out)) hb); have n1_ := Aside0.mk (hbox); have n2_ := Aside0.mk ((by rw [hg]; exact (below_size (by repeat (first | (with_reducible first | exact HB.out | apply below_alloc | apply pw_below_drewN | apply below_drew1) | exact HB.out))) : w.heap.size ≤ gb152)); have n3_ := Aside0.mk ((by rw [hg]; exact (below_size (by repeat (first | (with_reducible first | exact HB.out | apply below_alloc | apply pw_below_drewN | apply below_drew1) | exact HB.out))) : w.heap.size ≤ gb152)); clear HB; have HB := n0_; have BK152 := n1_; have GW152 := n2_; have GE152 := n3_; clear n0_ n1_ n2_ n3_; clear hb hbox hg) | ((with_reducible refine gate_dst (N := 12) rfl ?_); refine Kd.R_make Kd.string _ 9 rfl (N := 12) rfl 22 _ _ rfl a0 rfl rfl Try.underlying22 (.string ⟨#[]⟩) 16 info9 rfl (by decide) (by omega) (⟨#[]⟩ : ByteArray) (ok := fun _ => True) (okp := fun _ => True) rfl (fun _ hk => hk) trivial (of_decide_eq_true (by first | (with_reducible assumption) | assumption)) (Nat.le_trans (Nat.mul_le_mul_right _ (of_decide_eq_true (by first | (with_reducible assumption) | assumption) : a0.toNat ≤ 17592186044416)) (by omega)) (Below.refl _ _) (Nat.le_refl _) ?_; intro v154 w11 ho12 hb hg_ hnew_; clear hg_ hnew_; (first | rw [← Ny153.out] at ho12 | (simp only [Int.reduceToNat] at ho12; rw [← Ny153.out] at ho12)); have n0_ := Aside0.mk (Kd.R_lower ho12 (below_size (by repeat (first | (with_reducible first | exact HB.out | apply below_alloc | apply pw_below_drewN | apply below_drew1 | refine below_set ?_ GE152.out) | exact HB.out)))); have n1_ := Aside0.mk (blk_below (g := gb152) (o := .cells #[.slice none 0 0, .slice none 0 0] 25 (0, 0)) (by (with_reducible repeat (first | refine blk_drewN ?_ _ | refine blk_drew ?_ | refine blk_alloc ?_ _)); exact BK152.out) hb); have n2_ := Aside0.mk (below_step (by repeat (first | (with_reducible first | exact HB.out | apply below_alloc | apply pw_below_drewN | apply below_drew1 | refine below_set ?_ GE152.out) | exact HB.out)) hb); clear BK152; clear HB; have HO155 := n0_; have BK152 := n1_; have HB := n2_; clear n0_ n1_ n2_; clear hb ho12; obtain ⟨Ao13, co13, eo13⟩ := Kd.R_slice HO155.out; subst eo13; have hcz14_0 : w11.cell? ⟨gb152, 0, none⟩ = some (.slice none 0 0) := (blk_cell BK152.out 0).trans rfl; have hcz14_1 : w11.cell? ⟨gb152, 1, none⟩ = some (.slice none 0 0) := (blk_cell BK152.out 1).trans rfl; have hfz14_0 := blk_frozen BK152.out 0; have hfz14_1 := blk_frozen BK152.out 1))
          refine bodyPost_ret (results_ct rfl _ _ gb152 25 #[.slice Ao13 y153.length co13, .slice none 0 0] (0, 0) _ rfl (by (with_reducible repeat (first | refine blk_drewN ?_ _ | refine blk_drew ?_ | refine blk_alloc ?_ _)); refine blk_put (cs := #[.slice Ao13 y153.length co13, .slice none 0 0]) ?_ 1 _ rfl; (with_reducible repeat (first | refine blk_drewN ?_ _ | refine blk_drew ?_ | refine blk_alloc ?_ _)); refine blk_put (cs := #[.slice none 0 0, .slice none 0 0]) ?_ 0 _ rfl; (with_reducible repeat (first | refine blk_drewN ?_ _ | refine blk_drew ?_ | refine blk_alloc ?_ _)); exact BK152.out) Try.underlying25 rfl (by kernel_rfl)) rfl ?_
          exact ⟨_, _, by first | rfl | (simp [errW_none, errW_some] <;> rfl) | (simp [*, errW_none, errW_some] <;> rfl), by (with_reducible repeat (first | apply Kd.R_alloc | apply Kd.R_drewN | apply Kd.R_drew)); exact Kd.R_mono (Kd.R_far (p := ⟨gb152, 1, none⟩) (Kd.R_far (p := ⟨gb152, 0, none⟩) (Kd.R_types HO155.out BK152.out (by decide)) (fun _ hk => hk.2) (.slice Ao13 y153.length co13)) (fun _ hk => hk.2) (.slice none 0 0)) (fun _ hk => trivial), by first | exact Kd.R_nil _ _ _ _ _ | exact Kd.N_nil _ _ _ _ _ | exact Kd.V_nil _ _ _ _ _ | exact Kd.Q_nil _ _ _ _ _ | exact Kd.S_nil _ _ _ _ _, by repeat (first | (with_reducible first | exact HB.out | apply below_alloc | apply pw_below_drewN | apply below_drew1 | refine below_set ?_ GE152.out) | exact HB.out)⟩
        · rw [if_neg c9] at H
          exact absurd H (by simp)
      · rw [if_neg c8] at H
        exact absurd H (by simp)

end Go.Proofs.Ytkgcaheddhfpgaa.P
-- Written by a program of this session (xprint.py) over the kit's print.py.
namespace Go.Proofs.Ytkgcaheddhfpgaa.P
open Go.RowKit Go.Proofs.YtkgcaheddhfpgaaW.PrintWords Go.Proofs.YtkgcaheddhfpgaaW.PrintLast Go.Proofs.YtkgcaheddhfpgaaW.PrintMore
attribute [local go_sem] max2_int min2_int max_two min_two max_three min_three max_four min_four   -- for this text's walks alone
set_option linter.unusedVariables false
set_option linter.unusedSimpArgs false

/-! ### slot_Format: function 25 -/
def slot_Format.f (a0 : Int) : Option (List ByteArray × (List (S73)) × Int) := if a0 < 3 then (some (([] : List ByteArray), ([] : List (S73)), 1)) else ((disk_New.f a0).bind fun bt316 => (some (bt316.1, bt316.2.1, bt316.2.2)))
set_option maxHeartbeats 8000000 in
set_option maxRecDepth 100000 in
theorem slot_Format.calls (a0 : Int) (r1 : List ByteArray) (r2 : List (S73)) (r3 : Int) (w : World) (h : slot_Format.f a0 = some (r1, r2, r3)) :
    Calls Try.prog 25 #[.int .i64 a0] w fun e w' => ∃ v0_ v1_ : Value, e = .returned (.tuple #[.agg #[v0_, v1_], .int .i64 r3]) ∧ Kd.R Kd.string 9 w' w.heap.size (fun _ => True) v0_ r1 ∧ Kd.R k73 73 w' w.heap.size (fun _ => True) v1_ r2 ∧ Below w.heap.size w w' := by
  have hu25 := Try.underlying25
  have HB := Aside0.mk (Below.refl w.heap.size w)
  have H : (if a0 < 3 then (some (([] : List ByteArray), ([] : List (S73)), 1)) else ((disk_New.f a0).bind fun bt316 => (some (bt316.1, bt316.2.1, bt316.2.2)))) = some (r1, r2, r3) := h
  clear h
  by_cases c2 : a0 < 3
  · rw [if_pos c2] at H
    have c2b0 : decide (a0 < 3) = true := decide_eq_true c2
    clear c2
    simp only [Option.some.injEq, Prod.mk.injEq] at H
    obtain ⟨rfl, rfl, rfl⟩ := H
    go_enter Try.func25, Try.ntmps25
    go_wp2_with (first | ((with_reducible refine gate_dst (N := 2) rfl ?_); refine box_event ?hg (N := 2) ?hd (cs := #[.slice none 0 0, .slice none 0 0]) (t := 25) ?hr ?_; (case hd => rfl); (case hg => rfl); (case hr => first | (go_simp; done) | (go_simp; rfl)); intro gb315 hg w3 hbox hb; have n0_ := Aside0.mk (below_step (by repeat (first | (with_reducible first | exact HB.out | apply below_alloc | apply pw_below_drewN | apply below_drew1) | exact HB.out)) hb); have n1_ := Aside0.mk (hbox); have n2_ := Aside0.mk ((by rw [hg]; exact (below_size (by repeat (first | (with_reducible first | exact HB.out | apply below_alloc | apply pw_below_drewN | apply below_drew1) | exact HB.out))) : w.heap.size ≤ gb315)); have n3_ := Aside0.mk ((by rw [hg]; exact (below_size (by repeat (first | (with_reducible first | exact HB.out | apply below_alloc | apply pw_below_drewN | apply below_drew1) | exact HB.out))) : w.heap.size ≤ gb315)); clear HB; have HB := n0_; have BK315 := n1_; have GW315 := n2_; have GE315 := n3_; clear n0_ n1_ n2_ n3_; clear hb hbox hg; have hcz4_0 : w3.cell? ⟨gb315, 0, none⟩ = some (.slice none 0 0) := (blk_cell BK315.out 0).trans rfl; have hcz4_1 : w3.cell? ⟨gb315, 1, none⟩ = some (.slice none 0 0) := (blk_cell BK315.out 1).trans rfl; have hfz4_0 := blk_frozen BK315.out 0; have hfz4_1 := blk_frozen BK315.out 1))
    refine bodyPost_ret (results_ct rfl _ _ gb315 25 #[.slice none 0 0, .slice none 0 0] (0, 0) _ rfl (by (with_reducible repeat (first | refine blk_drewN ?_ _ | refine blk_drew ?_ | refine blk_alloc ?_ _)); refine blk_put (cs := #[.slice none 0 0, .slice none 0 0]) ?_ 1 _ rfl; (with_reducible repeat (first | refine blk_drewN ?_ _ | refine blk_drew ?_ | refine blk_alloc ?_ _)); refine blk_put (cs := #[.slice none 0 0, .slice none 0 0]) ?_ 0 _ rfl; (with_reducible repeat (first | refine blk_drewN ?_ _ | refine blk_drew ?_ | refine blk_alloc ?_ _)); exact BK315.out) Try.underlying25 rfl (by kernel_rfl)) rfl ?_
    exact ⟨_, _, by first | rfl | (simp [errW_none, errW_some] <;> rfl) | (simp [*, errW_none, errW_some] <;> rfl), by first | exact Kd.R_nil _ _ _ _ _ | exact Kd.N_nil _ _ _ _ _ | exact Kd.V_nil _ _ _ _ _ | exact Kd.Q_nil _ _ _ _ _ | exact Kd.S_nil _ _ _ _ _, by first | exact Kd.R_nil _ _ _ _ _ | exact Kd.N_nil _ _ _ _ _ | exact Kd.V_nil _ _ _ _ _ | exact Kd.Q_nil _ _ _ _ _ | exact Kd.S_nil _ _ _ _ _, by repeat (first | (with_reducible first | exact HB.out | apply below_alloc | apply pw_below_drewN | apply below_drew1 | refine below_set ?_ GE315.out) | exact HB.out)⟩
  · rw [if_neg c2] at H
    have c2b0 : decide (a0 < 3) = false := decide_eq_false c2
    clear c2
    replace H := Option.bind_eq_some_iff.mp H
    obtain ⟨⟨t316, t319, t322⟩, A50, H⟩ := H
    replace H : (some (t316, t319, t322)) = some (r1, r2, r3) := H
    have A5 := Aside0.mk A50
    clear A50
    simp only [Option.some.injEq, Prod.mk.injEq] at H
    obtain ⟨rfl, rfl, rfl⟩ := H
    go_enter Try.func25, Try.ntmps25
    go_wp2_with (first | ((with_reducible refine gate_dst (N := 2) rfl ?_); refine box_event ?hg (N := 2) ?hd (cs := #[.slice none 0 0, .slice none 0 0]) (t := 25) ?hr ?_; (case hd => rfl); (case hg => rfl); (case hr => first | (go_simp; done) | (go_simp; rfl)); intro gb315 hg w6 hbox hb; have n0_ := Aside0.mk (below_step (by repeat (first | (with_reducible first | exact HB.out | apply below_alloc | apply pw_below_drewN | apply below_drew1) | exact HB.out)) hb); have n1_ := Aside0.mk (hbox); have n2_ := Aside0.mk ((by rw [hg]; exact (below_size (by repeat (first | (with_reducible first | exact HB.out | apply below_alloc | apply pw_below_drewN | apply below_drew1) | exact HB.out))) : w.heap.size ≤ gb315)); have n3_ := Aside0.mk ((by rw [hg]; exact (below_size (by repeat (first | (with_reducible first | exact HB.out | apply below_alloc | apply pw_below_drewN | apply below_drew1) | exact HB.out))) : w.heap.size ≤ gb315)); clear HB; have HB := n0_; have BK315 := n1_; have GW315 := n2_; have GE315 := n3_; clear n0_ n1_ n2_ n3_; clear hb hbox hg) | ((with_reducible refine gate_callee (f := 17) rfl ?_); refine goesL_ (some 8) rfl rfl Try.func17 (by kernel_rfl) rfl #[.int .i64 a0] rfl (by (try simp only [List.map_toArray, List.map_cons, List.map_nil]); first | done | rfl | (simp only [List.length_drop, List.length_take]; rfl)) ?_; (with_reducible refine (disk_New.calls a0 t316 t319 t322 _ A5.out).mono ?_); rintro e w7 ⟨v317, v320, rfl, ho0, ho1, hb⟩; refine ⟨_, rfl, ?_⟩; have n0_ := Aside0.mk (Kd.R_lower ho0 (below_size (by repeat (first | (with_reducible first | exact HB.out | apply below_alloc | apply pw_below_drewN | apply below_drew1 | refine below_set ?_ GE315.out) | exact HB.out)))); have n1_ := Aside0.mk (Kd.R_lower ho1 (below_size (by repeat (first | (with_reducible first | exact HB.out | apply below_alloc | apply pw_below_drewN | apply below_drew1 | refine below_set ?_ GE315.out) | exact HB.out)))); have n2_ := Aside0.mk (blk_below (g := gb315) (o := .cells #[.slice none 0 0, .slice none 0 0] 25 (0, 0)) (by (with_reducible repeat (first | refine blk_drewN ?_ _ | refine blk_drew ?_ | refine blk_alloc ?_ _)); exact BK315.out) hb); have n3_ := Aside0.mk (below_step (by repeat (first | (with_reducible first | exact HB.out | apply below_alloc | apply pw_below_drewN | apply below_drew1 | refine below_set ?_ GE315.out) | exact HB.out)) hb); clear BK315; clear HB; have HO318 := n0_; have HO321 := n1_; have BK315 := n2_; have HB := n3_; clear n0_ n1_ n2_ n3_; (try clear hb); (try clear hb2); (try clear hk); (try clear hi); (try clear ho0); (try clear ho1); obtain ⟨Ao8, co8, eo8⟩ := Kd.R_slice HO318.out; subst eo8; have hcz9_0 : w7.cell? ⟨gb315, 0, none⟩ = some (.slice none 0 0) := (blk_cell BK315.out 0).trans rfl; have hcz9_1 : w7.cell? ⟨gb315, 1, none⟩ = some (.slice none 0 0) := (blk_cell BK315.out 1).trans rfl; have hfz9_0 := blk_frozen BK315.out 0; have hfz9_1 := blk_frozen BK315.out 1; obtain ⟨Ao10, co10, eo10⟩ := Kd.R_slice HO321.out; subst eo10))
    refine bodyPost_ret (results_ct rfl _ _ gb315 25 #[.slice Ao8 t316.length co8, .slice Ao10 t319.length co10] (0, 0) _ rfl (by (with_reducible repeat (first | refine blk_drewN ?_ _ | refine blk_drew ?_ | refine blk_alloc ?_ _)); refine blk_put (cs := #[.slice Ao8 t316.length co8, .slice none 0 0]) ?_ 1 _ rfl; (with_reducible repeat (first | refine blk_drewN ?_ _ | refine blk_drew ?_ | refine blk_alloc ?_ _)); refine blk_put (cs := #[.slice none 0 0, .slice none 0 0]) ?_ 0 _ rfl; (with_reducible repeat (first | refine blk_drewN ?_ _ | refine blk_drew ?_ | refine blk_alloc ?_ _)); exact BK315.out) Try.underlying25 rfl (by kernel_rfl)) rfl ?_
    exact ⟨_, _, by first | rfl | (simp [errW_none, errW_some] <;> rfl) | (simp [*, errW_none, errW_some] <;> rfl), by (with_reducible repeat (first | apply Kd.R_alloc | apply Kd.R_drewN | apply Kd.R_drew)); exact Kd.R_mono (Kd.R_far (p := ⟨gb315, 1, none⟩) (Kd.R_far (p := ⟨gb315, 0, none⟩) (Kd.R_types HO318.out BK315.out (by decide)) (fun _ hk => hk.2) (.slice Ao8 t316.length co8)) (fun _ hk => hk.2) (.slice Ao10 t319.length co10)) (fun _ hk => trivial), by (with_reducible repeat (first | apply Kd.R_alloc | apply Kd.R_drewN | apply Kd.R_drew)); exact Kd.R_mono (Kd.R_far (p := ⟨gb315, 1, none⟩) (Kd.R_far (p := ⟨gb315, 0, none⟩) (Kd.R_types HO321.out BK315.out (by decide)) (fun _ hk => hk.2) (.slice Ao8 t316.length co8)) (fun _ hk => hk.2) (.slice Ao10 t319.length co10)) (fun _ hk => trivial), by repeat (first | (with_reducible first | exact HB.out | apply below_alloc | apply pw_below_drewN | apply below_drew1 | refine below_set ?_ GE315.out) | exact HB.out)⟩

end Go.Proofs.Ytkgcaheddhfpgaa.P
-- Written by a program of this session (xprint.py) over the kit's print.py.
namespace Go.Proofs.Ytkgcaheddhfpgaa.P
open Go.RowKit Go.Proofs.YtkgcaheddhfpgaaW.PrintWords Go.Proofs.YtkgcaheddhfpgaaW.PrintLast Go.Proofs.YtkgcaheddhfpgaaW.PrintMore
attribute [local go_sem] max2_int min2_int max_two min_two max_three min_three max_four min_four   -- for this text's walks alone
set_option linter.unusedVariables false
set_option linter.unusedSimpArgs false

/-! ### sextonref01_Ints: function 46 -/
def sextonref01_Ints.l0 : Nat → List Int → List Int → Int → Option (Bool)
  | 0, _, _, _ => none
  | k + 1, x0, x1, x5 => if x5 < (x0.length : Int) then (if 0 ≤ x5 then (if x5 < (x1.length : Int) then (if (rd x0 x5) = (rd x1 x5) then (sextonref01_Ints.l0 k x0 x1 (wrap64 (x5 + 1))) else (some false)) else (none)) else (none)) else (some true)
def sextonref01_Ints.f (k : Nat) (l0 : List Int) (l1 : List Int) : Option (Bool) := if (l0.length : Int) = (l1.length : Int) then (sextonref01_Ints.l0 k l0 l1 0) else (some false)
set_option maxHeartbeats 8000000 in
set_option maxRecDepth 100000 in
theorem sextonref01_Ints.calls (k : Nat) (A0 : Option Addr) (c0 : Nat) (l0 : List Int) (A1 : Option Addr) (c1 : Nat) (l1 : List Int) (r : Bool) (w : World) (hr0 : Kd.C (Kd.int .i64) w A0 l0.length l0) (hc0 : l0.length ≤ c0) (hr1 : Kd.C (Kd.int .i64) w A1 l1.length l1) (hc1 : l1.length ≤ c1) (h : sextonref01_Ints.f k l0 l1 = some r) :
    Calls Try.prog 46 #[.slice A0 l0.length c0, .slice A1 l1.length c1] w fun e w' => e = .returned (.bool r) ∧ Drawn0 w w' := by
  have HR0 := Aside0.mk hr0
  have HC0 := Aside0.mk hc0
  clear hr0 hc0
  have HR1 := Aside0.mk hr1
  have HC1 := Aside0.mk hc1
  clear hr1 hc1
  have H : (if (l0.length : Int) = (l1.length : Int) then (sextonref01_Ints.l0 k l0 l1 0) else (some false)) = some r := h
  clear h
  by_cases c3 : (l0.length : Int) = (l1.length : Int)
  · rw [if_pos c3] at H
    have c3b0 : ((l0.length : Int) == (l1.length : Int)) = true := beq_iff_eq.mpr c3
    have c3b1 : ((l0.length : Int) != (l1.length : Int)) = false := bne_eq_false_iff_eq.mpr c3
    have c3b2 : (l0.length == l1.length) = true := by first | simpa using c3 | (simp at c3 ⊢; omega)
    clear c3
    have H' := Aside0.mk H
    clear H
    go_enter Try.func46, Try.ntmps46
    go_wp2
    repeat (go_quiet (fail); try go_wp2)
    go_loopg [5] k (fun kq v5 w' => ∃ (x5_1 : Int), v5 = .int .i64 x5_1 ∧ Aside0 (sextonref01_Ints.l0 kq l0 l1 x5_1 = some r) ∧ Aside0 (kq ≤ k) ∧ Drawn0 w w')
    case atStart => exact ⟨(0), (by first | rfl | (simp; done) | (simp [*]; done)), H', ⟨Nat.le_refl _⟩, by repeat (first | exact Drawn0.refl _ | apply Drawn0.step)⟩
    case round =>
      clear H'
      try clear c1
      try clear p2
      try clear c3
      try clear c3b0
      try clear c3b1
      try clear c3b2
      obtain ⟨x5_1, rfl, HA, HK1, ⟨m1, rfl⟩⟩ := hrel
      cases gk with
      | zero => exact absurd HA.out (by simp [sextonref01_Ints.l0])
      | succ k1 =>
        have H := HA.out
        clear HA
        simp only [sextonref01_Ints.l0] at H
        by_cases c4 : x5_1 < (l0.length : Int)
        · rw [if_pos c4] at H
          have c4b0 : decide (x5_1 < (l0.length : Int)) = true := decide_eq_true c4
          clear c4
          by_cases c5 : 0 ≤ x5_1
          · rw [if_pos c5] at H
            have c5b0 : decide (0 ≤ x5_1) = true := decide_eq_true c5
            clear c5
            by_cases c6 : x5_1 < (l1.length : Int)
            · rw [if_pos c6] at H
              have c6b0 : decide (x5_1 < (l1.length : Int)) = true := decide_eq_true c6
              clear c6
              by_cases c7 : (rd l0 x5_1) = (rd l1 x5_1)
              · rw [if_pos c7] at H
                have c7b0 : ((rd l0 x5_1) == (rd l1 x5_1)) = true := beq_iff_eq.mpr c7
                have c7b1 : ((rd l0 x5_1) != (rd l1 x5_1)) = false := bne_eq_false_iff_eq.mpr c7
                clear c7
                have H' := Aside0.mk H
                clear H
                have p323 : 0 ≤ (x5_1 : Int) := of_decide_eq_true (by first | (with_reducible assumption) | assumption)
                have q323 : x5_1 < (l0.length : Int) := of_decide_eq_true (by first | (with_reducible assumption) | assumption)
                obtain ⟨ad323, e323, hx323_0⟩ := Kd.at_int HR0.out x5_1 p323 q323
                cases e323
                replace p323 := eq_true p323
                replace q323 := eq_true q323
                have p324 : 0 ≤ (x5_1 : Int) := of_decide_eq_true (by first | (with_reducible assumption) | assumption)
                have q324 : x5_1 < (l1.length : Int) := of_decide_eq_true (by first | (with_reducible assumption) | assumption)
                obtain ⟨ad324, e324, hx324_0⟩ := Kd.at_int HR1.out x5_1 p324 q324
                cases e324
                replace p324 := eq_true p324
                replace q324 := eq_true q324
                go_wp2
                repeat (go_quiet (fail); try go_wp2)
                go_roundg k1
                case measure => have := HK1.out; omega
                case rel => exact ⟨(wrap64 (x5_1 + 1)), (by first | rfl | (simp; done) | (simp [*]; done)), H', ⟨by have := HK1.out; omega⟩, by repeat (first | exact Drawn0.refl _ | apply Drawn0.step)⟩
              · rw [if_neg c7] at H
                have c7b0 : ((rd l0 x5_1) == (rd l1 x5_1)) = false := beq_eq_false_iff_ne.mpr c7
                have c7b1 : ((rd l0 x5_1) != (rd l1 x5_1)) = true := bne_iff_ne.mpr c7
                obtain rfl := Option.some.inj H
                have p323 : 0 ≤ (x5_1 : Int) := of_decide_eq_true (by first | (with_reducible assumption) | assumption)
                have q323 : x5_1 < (l0.length : Int) := of_decide_eq_true (by first | (with_reducible assumption) | assumption)
                obtain ⟨ad323, e323, hx323_0⟩ := Kd.at_int HR0.out x5_1 p323 q323
                cases e323
                replace p323 := eq_true p323
                replace q323 := eq_true q323
                have p324 : 0 ≤ (x5_1 : Int) := of_decide_eq_true (by first | (with_reducible assumption) | assumption)
                have q324 : x5_1 < (l1.length : Int) := of_decide_eq_true (by first | (with_reducible assumption) | assumption)
                obtain ⟨ad324, e324, hx324_0⟩ := Kd.at_int HR1.out x5_1 p324 q324
                cases e324
                replace p324 := eq_true p324
                replace q324 := eq_true q324
                go_wp2
                repeat (go_quiet (fail); try go_wp2)
                go_ret
                exact ⟨by first | rfl | (simp; done) | (simp [*]; done), by repeat (first | exact Drawn0.refl _ | apply Drawn0.step)⟩
            · rw [if_neg c6] at H
              exact absurd H (by simp)
          · rw [if_neg c5] at H
            exact absurd H (by simp)
        · rw [if_neg c4] at H
          have c4b0 : decide (x5_1 < (l0.length : Int)) = false := decide_eq_false c4
          clear c4
          obtain rfl := Option.some.inj H
          go_wp2
          repeat (go_quiet (fail); try go_wp2)
          go_ret
          exact ⟨by first | rfl | (simp; done) | (simp [*]; done), by repeat (first | exact Drawn0.refl _ | apply Drawn0.step)⟩
  · rw [if_neg c3] at H
    have c3b0 : ((l0.length : Int) == (l1.length : Int)) = false := beq_eq_false_iff_ne.mpr c3
    have c3b1 : ((l0.length : Int) != (l1.length : Int)) = true := bne_iff_ne.mpr c3
    have c3b2 : (l0.length == l1.length) = false := by first | simpa using c3 | (simp at c3 ⊢; omega)
    obtain rfl := Option.some.inj H
    go_enter Try.func46, Try.ntmps46
    go_wp2
    repeat (go_quiet (fail); try go_wp2)
    go_ret
    exact ⟨by first | rfl | (simp; done) | (simp [*]; done), by repeat (first | exact Drawn0.refl _ | apply Drawn0.step)⟩

end Go.Proofs.Ytkgcaheddhfpgaa.P
