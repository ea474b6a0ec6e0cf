/-
  Texts that the claims of this chapter share, joined.
-/
import Derived.Test.YtoibofhmlokglaaC07b
import Derived.Test.YtoibofhmlokglaaPx0
import Derived.Test.YtoibofhmlokglaaC07a
set_option linter.unusedVariables false
set_option linter.unusedSimpArgs false
/-
  wal.Append, by hand.
-/
namespace Go.Proofs.Ytoibofhmlokglaa.P
open Go.RowKit Go.Shelf Go.Proofs.CodecPlain Go.Proofs.YtoibofhmlokglaaW.PrintWords Go.Proofs.YtoibofhmlokglaaW.PrintLast Go.Proofs.YtoibofhmlokglaaW.PrintMore

attribute [local go_sem] Oper.semAt_some

/-- No panic. -/
def calmQ (Q : Exit → Act → World → Prop) : Exit → Act → World → Prop
  | .panic _, _, _ => False
  | .normal, a, w => Q .normal a w
  | .ret, a, w => Q .ret a w
  | .exit i, a, w => Q (.exit i) a w
  | .goto i, a, w => Q (.goto i) a w
  | .outgrown, a, w => Q .outgrown a w
theorem calmQ_le (Q : Exit → Act → World → Prop) : ∀ e a w, calmQ Q e a w → Q e a w
  | .panic _, _, _, h => h.elim
  | .normal, _, _, h => h
  | .ret, _, _, h => h
  | .exit _, _, _, h => h
  | .goto _, _, _, h => h
  | .outgrown, _, _, h => h
/-- What wal.Append answers. -/
def appendV (l : List ByteArray) (u : List S40) (fr ep : Int) (s : ByteArray) : List ByteArray × List S40 × Int :=
  if ¬ openE l u fr ep = 0 then ([], [], openE l u fr ep) else if 200 < s.size then ([], [], 2) else
  if (l.length : Int) ≤ fr + ((recsV ep 0 ((contV l u).drop fr.toNat)).length : Int) then ([], [], 41) else
  writeV l u (fr + ((recsV ep 0 ((contV l u).drop fr.toNat)).length : Int)) (frameOf ((numStr ep ++ numStr ((recsV ep 0 ((contV l u).drop fr.toNat)).length : Int)) ++ s))
def wal_Append.f (l : List ByteArray) (u : List S40) (fr ep : Int) (s : ByteArray) : Option (List ByteArray × List S40 × Int) := some (appendV l u fr ep s)
def AppPost (w : World) (b : List ByteArray) (u : List S40) (er : Int) (e : Ending) (w' : World) : Prop := ∃ v0_ v1_ : Value, e = .returned (.tuple #[.agg #[v0_, v1_], .int .i64 er]) ∧ Kd.R Kd.string 9 w' w.heap.size (fun _ => True) v0_ b ∧ Kd.R k40 40 w' w.heap.size (fun _ => True) v1_ u ∧ Below w.heap.size w w'
theorem recsV_len (ep : Int) : ∀ (l : List ByteArray) (a : Int), (recsV ep a l).length ≤ l.length := by
  intro l
  induction l with
  | nil => intro a; simp [recsV]
  | cons s l ih => intro a; unfold recsV; split <;> simp; exact ih _
theorem put_mark {ep n : Int} {s : ByteArray} (h0 : 0 ≤ ep) (h1 : ep ≤ 1000000000) (h2 : 0 ≤ n) (h3 : n ≤ 1000) (hs : s.size ≤ 200) : wal_mark_put.f ep n s = some (frameOf ((numStr ep ++ numStr n) ++ s)) := by
  have z1 := numStr_size ep
  have z2 := numStr_size n
  unfold wal_mark_put.f codec_Number.f
  rw [if_pos (by omega), if_pos (by omega), Option.bind_some, Option.bind_some]
  simp only
  rw [if_pos (by omega), if_pos (by rw [CodecPlain.size_append]; omega), put_f, if_pos (by rw [CodecPlain.size_append, CodecPlain.size_append]; omega)]
  rfl
theorem R_kept0 {W W' : World} {α : Type} {d : Kd α} {e : Nat} {base : Nat} {ok : Nat → Prop} {v : Value} {xs : List α} (h : d.R e W base ok v xs) {row : Option Nat} (hg : W.grownBy W' row) (hr : ∀ k, row = some k → ∃ o : Obj, W.heap[k]? = some o ∧ o.isCells = false) : d.R e W' base ok v xs :=
  Kd.R_mono (Kd.R_move (Kd.R_bound h) (fun k hk => by
    obtain ⟨_, _, hlt, q, _, cells, hc⟩ := hk
    exact hg.block k hlt (fun e => by
      obtain ⟨o, ho, hn⟩ := hr k e.symm
      rw [hc] at ho
      cases ho
      cases hn))) (fun _ hk => hk.1)
/-- What an Append ends with, behind the marks. -/
theorem app_shut {w0 W : World} {v0 v1 : Value} {er : Int} {D : Nat} {b : List ByteArray} {u : List S40} (hD : w0.heap.size + 2 ≤ D) (hk : W.heap[D]? = some (.deferred (some [])))
    (hz : W.heap[w0.heap.size + 1]? = some (.cells #[v0, v1] 25 (0, 0))) (hP : Kd.R Kd.string 9 W w0.heap.size (fun _ => True) v0 b) (hQ : Kd.R k40 40 W w0.heap.size (fun _ => True) v1 u) (hB : Below w0.heap.size w0 W) :
    (W.putObj D (.deferred none)).heap[w0.heap.size + 1]? = some (.cells #[v0, v1] 25 (0, 0)) ∧ AppPost w0 b u er (.returned (.tuple #[.agg #[v0, v1], .int .i64 er])) (W.putObj D (.deferred none)) := by
  have hc : ∀ k, some D = some k → ∃ o : Obj, W.heap[k]? = some o ∧ o.isCells = false := fun k e => by
    injection e with e
    subst e
    exact ⟨_, hk, rfl⟩
  exact ⟨(World.putObj_heap_other (by omega)).trans hz, _, _, rfl, R_kept0 hP (grownBy_putObj' W D _) hc, R_kept0 hQ (grownBy_putObj' W D _) hc, hB.grown (grownBy_putObj' W D _) hB.size (fun k e => by injection e with e; omega)⟩
/-- The blocks of an Append. -/
structure ApMem (w0 : World) (Dc : Array Value) (Bm : Nat) (ep n : Int) (W : World) : Prop where
  d : W.heap[w0.heap.size]? = some (.cells Dc 25 (0, 0))
  z : W.heap[w0.heap.size + 1]? = some (.cells #[.slice none 0 0, .slice none 0 0] 25 (0, 0))
  m : W.heap[Bm]? = some (.cells #[.int .i64 ep, .int .i64 n] 75 (0, 0))
  bel : Below w0.heap.size w0 W
theorem ApMem.grown {w0 : World} {Dc : Array Value} {Bm : Nat} {ep n : Int} {W W' : World} (h : ApMem w0 Dc Bm ep n W) {row : Option Nat} (hg : W.grownBy W' row) (hlo : ∀ k, row = some k → w0.heap.size ≤ k) (hr : ∀ k, row = some k → ∃ o : Obj, W.heap[k]? = some o ∧ o.isCells = false) : ApMem w0 Dc Bm ep n W' := by
  have hk : ∀ {i : Nat} {a : Array Value} {ty : TypeId}, W.heap[i]? = some (.cells a ty (0, 0)) → W'.heap[i]? = some (.cells a ty (0, 0)) := fun hi => (grownBy_keeps_cells hg hr hi rfl).trans hi
  exact ⟨hk h.d, hk h.z, hk h.m, h.bel.grown hg h.bel.size hlo⟩
theorem ApMem.below {w0 : World} {Dc : Array Value} {Bm : Nat} {ep n : Int} {W W' : World} (h : ApMem w0 Dc Bm ep n W) (hb : Below W.heap.size W W') : ApMem w0 Dc Bm ep n W' :=
  h.grown (grown_of_below0 hb) (fun _ e => by cases e) (fun _ e => by cases e)
theorem ApMem.own {w0 : World} {Dc : Array Value} {Bm : Nat} {ep : Int} {B : Nat} (hB : w0.heap.size ≤ B) : OwnFrom B (fun (pre : List ByteArray) W => ApMem w0 Dc Bm ep (pre.length : Int) W) := fun pre W W' row h hg hr =>
  h.grown hg (fun k e => Nat.le_trans hB (hr k e).1) (fun k e => (hr k e).2)
theorem keepOwn_mark {W : World} {B : Nat} {a b : Int} (h : W.heap[B]? = some (.cells #[.int .i64 a, .int .i64 b] 75 (0, 0))) (x : Int) : KeepOwn B W (W.setCell ⟨B, 1, none⟩ (.int .i64 x)) := by
  refine ⟨by simp [World.setCell], fun k o hk _ hn => (Below.heap_setCell W ⟨B, 1, none⟩ _ k (fun e => hn (.inl e))).trans hk, fun k _ q => ?_⟩
  rcases q with q | ⟨n, c, q⟩
  · exact .inl q
  · have h2 := blk_cell (blk_set h 1 (.int .i64 x)) 0
    rw [h2] at q
    simp at q
theorem own_mark {W : World} {B : Nat} {a b : Int} (h : W.heap[B]? = some (.cells #[.int .i64 a, .int .i64 b] 75 (0, 0))) {k : Nat} (q : OwnB B W k) : k = B := by
  rcases q with q | ⟨n, c, q⟩
  · exact q
  · rw [blk_cell h 0] at q
    simp at q

set_option maxHeartbeats 4000000 in
theorem wal_Append_E (A0 : Option Addr) (c0 : Nat) (l : List ByteArray) (A1 : Option Addr) (c1 : Nat) (u : List S40) (fr ep : Int) (s : ByteArray) (w : World) (hr0 : Kd.C Kd.string w A0 l.length l) (hc0 : l.length ≤ c0) (hr1 : Kd.C k40 w A1 u.length u) (hc1 : u.length ≤ c1) (he : ¬ openE l u fr ep = 0) :
    Calls Try.prog 31 #[.agg #[.slice A0 l.length c0, .slice A1 u.length c1], .int .i64 fr, .int .i64 ep, .string s] w (AppPost w [] [] (openE l u fr ep)) := by
  have HB0 := Aside0.mk (((Below.refl w.heap.size w).alloc (Nat.le_refl _) (.cells #[.slice A0 l.length c0, .slice A1 u.length c1] 25)).alloc (by simp) (.cells #[.slice none 0 0, .slice none 0 0] 25))
  have HD0 := Aside0.mk (blk_alloc (blk_new w (.cells #[.slice A0 l.length c0, .slice A1 u.length c1] 25)) (.cells #[.slice none 0 0, .slice none 0 0] 25))
  have HZ0 := Aside0.mk (show ((w.alloc (.cells #[.slice A0 l.length c0, .slice A1 u.length c1] 25)).alloc (.cells #[.slice none 0 0, .slice none 0 0] 25)).heap[w.heap.size + 1]? = some (.cells #[.slice none 0 0, .slice none 0 0] 25 (0, 0)) by have h_ := blk_new (w.alloc (.cells #[.slice A0 l.length c0, .slice A1 u.length c1] 25)) (.cells #[.slice none 0 0, .slice none 0 0] 25); rw [World.size_alloc] at h_; exact h_)
  have HOP := Aside0.mk (wal_open.calls 1 A0 c0 l A1 c1 u fr ep (openE l u fr ep) ((w.alloc (.cells #[.slice A0 l.length c0, .slice A1 u.length c1] 25)).alloc (.cells #[.slice none 0 0, .slice none 0 0] 25)) (Kd.C_below hr0 HB0.out) hc0 (Kd.C_below hr1 HB0.out) hc1 (open_e 0 _ _ _ _))
  obtain ⟨er, her⟩ : ∃ er, er = openE l u fr ep := ⟨_, rfl⟩
  rw [← her] at HOP he ⊢
  have hne : (er != 0) = true := by rw [bne_iff_ne]; exact he
  clear her he hr0 hr1
  go_enter Try.func31, Try.ntmps31
  go_wp2_with (go_at_call 50; (with_reducible refine HOP.out.mono ?_); rintro e w1 ⟨rfl, hb⟩; have HB1 := Aside0.mk (HB0.out.trans (hb.mono HB0.out.size)); have HD1 := Aside0.mk (blk_below HD0.out hb); have HZ1 := Aside0.mk (blk_below HZ0.out hb); clear hb; have z0 := blk_cell HZ1.out 0; have z1 := blk_cell HZ1.out 1; have fz0 := blk_frozen HZ1.out 0; have fz1 := blk_frozen HZ1.out 1; simp only [List.getElem?_toArray, List.getElem?_cons_zero, List.getElem?_cons_succ] at z0 z1)
  have HZ2 := blk_set (blk_set HZ1.out 0 (.slice none 0 0)) 1 (.slice none 0 0)
  have g0 := blk_cell HZ2 0
  have g1 := blk_cell HZ2 1
  refine bodyPost_ret (v := .tuple #[.agg #[.slice none 0 0, .slice none 0 0], .int .i64 er]) ?_ rfl ⟨_, _, rfl, Kd.R_nil _ _ _ _ _, Kd.R_nil _ _ _ _ _, (HB1.out.setCell (p := ⟨w.heap.size + 1, 0, none⟩) (by show w.heap.size ≤ w.heap.size + 1; omega) _).setCell (p := ⟨w.heap.size + 1, 1, none⟩) (by show w.heap.size ≤ w.heap.size + 1; omega) _⟩
  simp [results, Try.results31, go_sem, g0, g1]
set_option maxRecDepth 100000 in
set_option maxHeartbeats 8000000 in
theorem wal_Append_F (A0 : Option Addr) (c0 : Nat) (l : List ByteArray) (A1 : Option Addr) (c1 : Nat) (u : List S40) (fr ep : Int) (s : ByteArray) (w : World) (hr0 : Kd.C Kd.string w A0 l.length l) (hc0 : l.length ≤ c0) (hr1 : Kd.C k40 w A1 u.length u) (hc1 : u.length ≤ c1) (he : openE l u fr ep = 0) (R : List ByteArray × List S40 × Int) (hR : R = appendV l u fr ep s) :
    Calls Try.prog 31 #[.agg #[.slice A0 l.length c0, .slice A1 u.length c1], .int .i64 fr, .int .i64 ep, .string s] w (AppPost w R.1 R.2.1 R.2.2) := by
  have HB0 := Aside0.mk (((Below.refl w.heap.size w).alloc (Nat.le_refl _) (.cells #[.slice A0 l.length c0, .slice A1 u.length c1] 25)).alloc (by simp) (.cells #[.slice none 0 0, .slice none 0 0] 25))
  have HD0 := Aside0.mk (blk_alloc (blk_new w (.cells #[.slice A0 l.length c0, .slice A1 u.length c1] 25)) (.cells #[.slice none 0 0, .slice none 0 0] 25))
  have HZ0 := Aside0.mk (show ((w.alloc (.cells #[.slice A0 l.length c0, .slice A1 u.length c1] 25)).alloc (.cells #[.slice none 0 0, .slice none 0 0] 25)).heap[w.heap.size + 1]? = some (.cells #[.slice none 0 0, .slice none 0 0] 25 (0, 0)) by have h_ := blk_new (w.alloc (.cells #[.slice A0 l.length c0, .slice A1 u.length c1] 25)) (.cells #[.slice none 0 0, .slice none 0 0] 25); rw [World.size_alloc] at h_; exact h_)
  have HOP := Aside0.mk (wal_open.calls 1 A0 c0 l A1 c1 u fr ep (openE l u fr ep) ((w.alloc (.cells #[.slice A0 l.length c0, .slice A1 u.length c1] 25)).alloc (.cells #[.slice none 0 0, .slice none 0 0] 25)) (Kd.C_below hr0 HB0.out) hc0 (Kd.C_below hr1 HB0.out) hc1 (open_e 0 _ _ _ _))
  obtain ⟨hck, hf0, hf1, he0, he1⟩ := openE_ok he
  obtain ⟨X, hX⟩ : ∃ X, X = recsV ep 0 ((contV l u).drop fr.toNat) := ⟨_, rfl⟩
  unfold appendV at hR
  rw [if_neg (fun q => q he), ← hX] at hR
  rw [he] at HOP
  have hl200 := (check_len hck).2.1
  have hX200 : X.length ≤ 200 := by
    have h3 := recsV_len ep ((contV l u).drop fr.toNat) 0
    have h4 : (contV l u).length = l.length := applyW_length _ _ _ _
    rw [← hX, List.length_drop] at h3
    omega
  have HRC := Aside0.mk (fun W => show Calls Try.prog _ _ W _ by have h_ := (callsIn_wide (n := 3)).1 (wal_records_in 3 A0 l.length c0 A1 u.length c1 fr ep W); exact h_)
  have hcf := enters_of Try.func62 (by kernel_rfl) rfl
  have HIT := Aside0.mk (fun (W : World) (B lo Bd Bf Be : Nat) (J Jx : List ByteArray → World → Prop) hW hst hJ hY hBd hBf hBe h0 => wal_records1_in 8 (by omega) w A0 c0 l A1 c1 u hr0 hc0 hr1 hc1 fr ep hck hf0 hf1 B lo Bd Bf Be J Jx W hW hst hJ hY hBd hBf hBe h0)
  rw [← hX] at HIT
  have HWR := Aside0.mk (fun (W : World) (hb : Below w.heap.size w W) (at_ : Int) (f : ByteArray) (b' : List ByteArray) (u' : List S40) (e' : Int) (hw : writeV l u at_ f = (b', u', e')) => disk_Write.calls A0 c0 l A1 c1 u at_ f b' u' e' W (Kd.C_below hr0 hb) hc0 (Kd.C_below hr1 hb) hc1 (congrArg some hw))
  have HRQ := Aside0.mk hR
  clear hr0 hr1 hck he hX hR
  refine (callsIn_wide (n := 9)).1 (callsIn_of_wp_marks Try.func31 rfl trivial (wpIn_mono ((wpIn_wide (n := 9)).2 ?_) (calmQ_le _)) rfl)
  simp only [Try.ntmps31, List.size_toArray, List.length_cons, List.length_nil, Nat.reduceAdd, Nat.reduceSub, Array.replicate_succ, Array.replicate_zero, List.push_toArray, List.append_toArray, List.nil_append, List.cons_append]
  go_wp2_with (first | (go_at_call 50; (with_reducible refine HOP.out.mono ?_); rintro e w1 ⟨rfl, hb⟩; have HB1 := Aside0.mk (HB0.out.trans (hb.mono HB0.out.size)); have HD1 := Aside0.mk (blk_below HD0.out hb); have HZ1 := Aside0.mk (blk_below HZ0.out hb); clear hb; have HD1a := blk_alloc HD1.out (.cells #[.int .i64 ep, .int .i64 0] 75); have d0 := blk_cell HD1a 0; have d1 := blk_cell HD1a 1; simp only [List.getElem?_toArray, List.getElem?_cons_zero, List.getElem?_cons_succ] at d0 d1; clear HD1a) | (go_at_call 52; (with_reducible refine (HRC.out _).mono ?_); rintro e w2 ⟨rfl, hw2⟩; have HX := Aside0.mk (show Below w1.heap.size w1 w2 by rw [hw2]; exact ((((Below.refl _ w1).alloc (Nat.le_refl _) _).alloc (by simp) _).alloc (by simp; omega) _).alloc (by simp; omega) _); have HAM := Aside0.mk (show ApMem w #[.slice A0 l.length c0, .slice A1 u.length c1] w1.heap.size ep 0 w2 by rw [hw2]; exact ⟨blk_alloc (blk_alloc (blk_alloc (blk_alloc HD1.out _) _) _) _, blk_alloc (blk_alloc (blk_alloc (blk_alloc HZ1.out _) _) _) _, blk_alloc (blk_alloc (blk_alloc (blk_new w1 _) _) _) _, (((HB1.out.alloc HB1.out.size _).alloc (by have := HB1.out.size; simp; omega) _).alloc (by have := HB1.out.size; simp; omega) _).alloc (by have := HB1.out.size; simp; omega) _⟩); have HBD := Aside0.mk (show w2.heap[w1.heap.size + 1]? = some (.cells #[.slice A0 l.length c0, .slice A1 u.length c1] 25 (0, 0)) by rw [hw2]; have h_ := blk_new (w1.alloc (.cells #[.int .i64 ep, .int .i64 0] 75)) (.cells #[.slice A0 l.length c0, .slice A1 u.length c1] 25); rw [World.size_alloc] at h_; exact blk_alloc (blk_alloc h_ _) _); have HBF := Aside0.mk (show Boxed w2 (w1.heap.size + 1 + 1) 3 (.int .i64 fr) by rw [hw2]; have h_ := rec_box1 (w1.alloc (.cells #[.int .i64 ep, .int .i64 0] 75)) (.cells #[.slice A0 l.length c0, .slice A1 u.length c1] 25) (.int .i64 fr) (.cells #[.int .i64 ep] 3); rw [World.size_alloc] at h_; exact h_); have HBE := Aside0.mk (show Boxed w2 (w1.heap.size + 1 + 1 + 1) 3 (.int .i64 ep) by rw [hw2]; have h_ := rec_box2 (w1.alloc (.cells #[.int .i64 ep, .int .i64 0] 75)) (.cells #[.slice A0 l.length c0, .slice A1 u.length c1] 25) (.cells #[.int .i64 fr] 3) (.int .i64 ep); rw [World.size_alloc] at h_; exact h_); have HS2 := Aside0.mk (show w1.heap.size + 4 ≤ w2.heap.size by rw [hw2]; simp); clear hw2 d0 d1))
  refine (wpIn_wide (n := 9)).1 ?_
  have HSZ := Aside0.mk (show w.heap.size + 2 ≤ w1.heap.size by have h_ := HB0.out; have h2_ := blk_lt HZ1.out; omega)
  have hseq : SeqSt (9 - 1) Try.prog 62 #[.pointer (some ⟨w1.heap.size + 1, 0, none⟩), .pointer (some ⟨w1.heap.size + 1 + 1, 0, none⟩), .pointer (some ⟨w1.heap.size + 1 + 1 + 1, 0, none⟩)] (fun x : ByteArray => #[Value.string x]) (KeepOwn w1.heap.size) (fun xs => xs = X) (StW w1.heap.size (w1.heap.size + 1 + 1 + 1)) 200 w2 := by
    intro lo J Jx W hb hst hJ _ hY h0
    exact HIT.out W w1.heap.size lo (w1.heap.size + 1) (w1.heap.size + 1 + 1) (w1.heap.size + 1 + 1 + 1) J Jx (HAM.out.bel.trans (hb.mono HAM.out.bel.size)) hst hJ hY (blk_below HBD.out hb) ((hb.block _ HBF.out.lt).trans HBF.out) ((hb.block _ HBE.out.lt).trans HBE.out) h0
  refine wpIn_rangeSt (n := 9) (by omega) (gf := 62) (lb := #[.pointer (some ⟨w1.heap.size + 1, 0, none⟩), .pointer (some ⟨w1.heap.size + 1 + 1, 0, none⟩), .pointer (some ⟨w1.heap.size + 1 + 1 + 1, 0, none⟩)]) rfl hcf hseq ?hst (fun h k => h.trans k) ?hkb (Below.refl _ _) (fun _ => rfl)
    (fun pre W => ApMem w #[.slice A0 l.length c0, .slice A1 u.length c1] w1.heap.size ep (pre.length : Int) W) (fun _ _ _ => False) (ApMem.own HAM.out.bel.size) (fun _ _ _ _ _ hs _ _ => hs) HAM.out ?round ?done ?stop
  case hst =>
    intro W' hb
    have hm := blk_below HAM.out.m hb
    have hs := hb.size
    have h4 := HS2.out
    exact ⟨by omega, fun q => by have := own_mark hm q; omega, fun k q => by have := own_mark hm q; omega⟩
  case hkb => exact fun W l o o' hl h ho _ => KeepOwn.putObj o' h ho (by have := HS2.out; omega)
  case stop => exact fun _ _ _ _ _ h _ => h.elim
  case round =>
    clear hseq
    intro lo pre x W hm hlt
    rw [zip1w]
    simp only [List.setIfInBounds_toArray, List.set_cons_zero, List.set_cons_succ]
    gi_wp2
    refine ⟨trivial, fun W2 hm => ?_⟩
    have c1_ := blk_cell hm.m 1
    have f1_ := blk_frozen hm.m 1
    simp only [List.getElem?_toArray, List.getElem?_cons_zero, List.getElem?_cons_succ] at c1_
    have HM := Aside0.mk hm
    clear hm
    gi_wp2
    refine ⟨(KeepsOthers.setCell _ _ _).from _, keepOwn_mark HM.out.m _, ?_⟩
    have hd := blk_far HM.out.d (p := ⟨w1.heap.size, 1, none⟩) (by have := HSZ.out; show w.heap.size ≠ w1.heap.size; omega) (.int .i64 ((pre.length : Int) + 1))
    have hz := blk_far HM.out.z (p := ⟨w1.heap.size, 1, none⟩) (by have := HSZ.out; show w.heap.size + 1 ≠ w1.heap.size; omega) (.int .i64 ((pre.length : Int) + 1))
    have hmm := blk_set HM.out.m 1 (.int .i64 ((pre.length : Int) + 1))
    show ApMem w #[.slice A0 l.length c0, .slice A1 u.length c1] w1.heap.size ep ((pre ++ [x]).length : Int) _
    rw [show ((pre ++ [x]).length : Int) = (pre.length : Int) + 1 by rw [List.length_append]; simp]
    exact ⟨hd, hz, hmm, HM.out.bel.setCell (p := ⟨w1.heap.size, 1, none⟩) (by have := HSZ.out; show w.heap.size ≤ w1.heap.size; omega) _⟩
  case done =>
    clear hseq
    rintro D_ ys W hD hys hm hK
    obtain rfl : ys = X := hys
    replace hm : ApMem w #[.slice A0 l.length c0, .slice A1 u.length c1] w1.heap.size ep (ys.length : Int) W := hm
    have hD5 : w.heap.size + 2 ≤ D_ := by have h1 := HSZ.out; have h2 := HS2.out; omega
    have hRR := HRQ.out
    have d0 := blk_cell hm.d 0
    have d1 := blk_cell hm.d 1
    simp only [List.getElem?_toArray, List.getElem?_cons_zero, List.getElem?_cons_succ] at d0 d1
    have m0 := blk_cell hm.m 0
    have m1 := blk_cell hm.m 1
    simp only [List.getElem?_toArray, List.getElem?_cons_zero, List.getElem?_cons_succ] at m0 m1
    have z0 := blk_cell hm.z 0
    have z1 := blk_cell hm.z 1
    have fz0 := blk_frozen hm.z 0
    have fz1 := blk_frozen hm.z 1
    simp only [List.getElem?_toArray, List.getElem?_cons_zero, List.getElem?_cons_succ] at z0 z1
    have k1_ : -9223372036854775808 ≤ fr + (ys.length : Int) := by omega
    have k2_ : fr + (ys.length : Int) ≤ 9223372036854775807 := by omega
    by_cases hs : 200 < s.size
    · rw [if_pos hs] at hRR
      subst hRR
      simp only
      have e1 : decide ((200 : Int) < (s.size : Int)) = true := decide_eq_true (by omega)
      have e2 : decide (200 < s.size) = true := decide_eq_true hs
      have HZ9 := blk_set (blk_set hm.z 0 (.slice none 0 0)) 1 (.slice none 0 0)
      have HB9 := (hm.bel.setCell (p := ⟨w.heap.size + 1, 0, none⟩) (by show w.heap.size ≤ w.heap.size + 1; omega) (.slice none 0 0)).setCell (p := ⟨w.heap.size + 1, 1, none⟩) (by show w.heap.size ≤ w.heap.size + 1; omega) (.slice none 0 0)
      have hK9 := (Below.heap_setCell (W.setCell ⟨w.heap.size + 1, 0, none⟩ (.slice none 0 0)) ⟨w.heap.size + 1, 1, none⟩ (.slice none 0 0) D_ (by show D_ ≠ w.heap.size + 1; omega)).trans ((Below.heap_setCell W ⟨w.heap.size + 1, 0, none⟩ (.slice none 0 0) D_ (by show D_ ≠ w.heap.size + 1; omega)).trans hK)
      clear hs hm
      go_wp2
      obtain ⟨g_, hpost⟩ := app_shut (er := 2) hD5 hK9 HZ9 (Kd.R_nil Kd.string 9 _ w.heap.size (fun _ => True)) (Kd.R_nil k40 40 _ w.heap.size (fun _ => True)) HB9
      have g0 := blk_cell g_ 0
      have g1 := blk_cell g_ 1
      simp only [List.getElem?_toArray, List.getElem?_cons_zero, List.getElem?_cons_succ] at g0 g1
      refine ⟨by simp, .inl ⟨_, _, rfl, run_takeDeferred hK9, ?_⟩⟩
      refine ⟨.tuple #[.agg #[.slice none 0 0, .slice none 0 0], .int .i64 2], ?_, hpost⟩
      simp [results, Try.results31, go_sem, g0, g1]
    rw [if_neg hs] at hRR
    have e1 : decide ((200 : Int) < (s.size : Int)) = false := decide_eq_false (by omega)
    have e2 : decide (200 < s.size) = false := decide_eq_false hs
    have hwf : wrap64 (fr + (ys.length : Int)) = fr + (ys.length : Int) := wrap_at k1_ k2_
    by_cases hsp : (l.length : Int) ≤ fr + (ys.length : Int)
    · rw [if_pos hsp] at hRR
      subst hRR
      simp only
      have e3 : decide ((l.length : Int) ≤ fr + (ys.length : Int)) = true := decide_eq_true hsp
      have HZ9 := blk_set (blk_set hm.z 0 (.slice none 0 0)) 1 (.slice none 0 0)
      have HB9 := (hm.bel.setCell (p := ⟨w.heap.size + 1, 0, none⟩) (by show w.heap.size ≤ w.heap.size + 1; omega) (.slice none 0 0)).setCell (p := ⟨w.heap.size + 1, 1, none⟩) (by show w.heap.size ≤ w.heap.size + 1; omega) (.slice none 0 0)
      have hK9 := (Below.heap_setCell (W.setCell ⟨w.heap.size + 1, 0, none⟩ (.slice none 0 0)) ⟨w.heap.size + 1, 1, none⟩ (.slice none 0 0) D_ (by show D_ ≠ w.heap.size + 1; omega)).trans ((Below.heap_setCell W ⟨w.heap.size + 1, 0, none⟩ (.slice none 0 0) D_ (by show D_ ≠ w.heap.size + 1; omega)).trans hK)
      clear hs hm hsp
      go_wp2
      obtain ⟨g_, hpost⟩ := app_shut (er := 41) hD5 hK9 HZ9 (Kd.R_nil Kd.string 9 _ w.heap.size (fun _ => True)) (Kd.R_nil k40 40 _ w.heap.size (fun _ => True)) HB9
      have g0 := blk_cell g_ 0
      have g1 := blk_cell g_ 1
      simp only [List.getElem?_toArray, List.getElem?_cons_zero, List.getElem?_cons_succ] at g0 g1
      refine ⟨by simp, .inl ⟨_, _, rfl, run_takeDeferred hK9, ?_⟩⟩
      refine ⟨.tuple #[.agg #[.slice none 0 0, .slice none 0 0], .int .i64 41], ?_, hpost⟩
      simp [results, Try.results31, go_sem, g0, g1]
    rw [if_neg hsp] at hRR
    have e3 : decide ((l.length : Int) ≤ fr + (ys.length : Int)) = false := decide_eq_false hsp
    have HSS := Aside0.mk hs
    clear hs hsp z0 z1 fz0 fz1
    go_wp2
    obtain ⟨f, hf⟩ : ∃ f, f = frameOf ((numStr ep ++ numStr (ys.length : Int)) ++ s) := ⟨_, rfl⟩
    obtain ⟨b', u', e', hwv⟩ : ∃ b' u' e', writeV l u (fr + (ys.length : Int)) f = (b', u', e') := ⟨_, _, _, rfl⟩
    rw [← hf, hwv] at hRR
    subst hRR
    simp only
    have HMP := Aside0.mk (fun W => wal_mark_put.calls ep (ys.length : Int) s f W (by rw [hf]; exact put_mark he0 he1 (by omega) (by omega) (by have := HSS.out; omega)))
    have HWV := Aside0.mk hwv
    have HD_10 := Aside0.mk (blk_drew hm.d)
    have HM_10 := Aside0.mk (blk_drew hm.m)
    have HZ_10 := Aside0.mk (blk_drew hm.z)
    have B_10 := Aside0.mk (below_drew1 hm.bel)
    have HK_10 := Aside0.mk (show W.drew.heap[D_]? = some (.deferred (some [])) from hK)
    have hw1 : IntKind.i64.wrap (fr + (ys.length : Int)) = fr + (ys.length : Int) := by rw [i64_w]; exact hwf
    clear hf hwv hm hK d0 d1 m0 m1
    refine start_ (n := 13) (S := fun w' => w'.cell? ⟨w.heap.size, 0, none⟩ = some (.slice A0 l.length c0) ∧ w'.cell? ⟨w.heap.size, 1, none⟩ = some (.slice A1 u.length c1) ∧ w'.cell? ⟨w1.heap.size, 0, none⟩ = some (.int .i64 ep) ∧ w'.cell? ⟨w1.heap.size, 1, none⟩ = some (.int .i64 (ys.length : Int))) (ds := [11]) #[false, false, false, false, false, false, false, false, false, false, false, false, false] (by kernel_rfl) rfl rfl ⟨(blk_cell HD_10.out 0).trans rfl, (blk_cell HD_10.out 1).trans rfl, (blk_cell HM_10.out 0).trans rfl, (blk_cell HM_10.out 1).trans rfl⟩ (fun hHeld => ?_)
    generalize World.drew W = w10 at HD_10 HM_10 HZ_10 B_10 HK_10 hHeld ⊢
    refine pure_ (i := 1) (N := some 47) (v := ?_) (a' := ?_) #[false, true, false, false, false, false, false, false, false, false, false, false, false] rfl rfl (by kernel_rfl) (fun _ _ _ h => h) (Or.inl ⟨by rfl, ?_⟩) ?_ ?_
    rotate_left
    · intro w'
      go_simp
      with_reducible rfl
    rotate_left
    · simp only [Act.put, List.setIfInBounds_toArray, List.set_cons_zero, List.set_cons_succ, i64_w, i32_w]
      rfl
    refine pure_ (i := 2) (N := some 48) (v := ?_) (a' := ?_) #[false, true, true, false, false, false, false, false, false, false, false, false, false] rfl rfl (by kernel_rfl) (fun _ _ _ h => h) (Or.inl ⟨by rfl, ?_⟩) ?_ ?_
    rotate_left
    · intro w'
      go_simp
      with_reducible rfl
    rotate_left
    · simp only [Act.put, List.setIfInBounds_toArray, List.set_cons_zero, List.set_cons_succ, i64_w, i32_w]
      rfl
    refine pure_ (i := 6) (N := some 52) (v := ?_) (a' := ?_) #[false, true, true, false, false, false, true, false, false, false, false, false, false] rfl rfl (by kernel_rfl) (fun _ _ _ h => h) (Or.inl ⟨by rfl, ?_⟩) ?_ ?_
    rotate_left
    · intro w'
      go_simp
      with_reducible rfl
    rotate_left
    · simp only [Act.put, List.setIfInBounds_toArray, List.set_cons_zero, List.set_cons_succ, i64_w, i32_w]
      rfl
    refine take_ (i := 0) (N := some 46) (v := ?_) (a' := ?_) #[true, true, true, false, false, false, true, false, false, false, false, false, false] rfl rfl (by kernel_rfl) (fun _ _ _ h => h) (Or.inl ⟨by rfl, ?_⟩) hHeld ?_ ?_
    rotate_left
    · rintro w' ⟨s0, s1, s2, s3⟩
      go_simp
      with_reducible rfl
    rotate_left
    · simp only [Act.put, List.setIfInBounds_toArray, List.set_cons_zero, List.set_cons_succ, i64_w, i32_w]
      rfl
    refine take_ (i := 3) (N := some 49) (v := ?_) (a' := ?_) #[true, true, true, true, false, false, true, false, false, false, false, false, false] rfl rfl (by kernel_rfl) (fun _ _ _ h => h) (Or.inl ⟨by rfl, ?_⟩) hHeld ?_ ?_
    rotate_left
    · rintro w' ⟨s0, s1, s2, s3⟩
      go_simp
      with_reducible rfl
    rotate_left
    · simp only [Act.put, List.setIfInBounds_toArray, List.set_cons_zero, List.set_cons_succ, i64_w, i32_w]
      rfl
    refine pure_ (i := 4) (N := some 50) (v := ?_) (a' := ?_) #[true, true, true, true, true, false, true, false, false, false, false, false, false] rfl rfl (by kernel_rfl) (fun _ _ _ h => h) (Or.inl ⟨by rfl, ?_⟩) ?_ ?_
    rotate_left
    · intro w'
      go_simp
      with_reducible rfl
    rotate_left
    · simp only [Act.put, List.setIfInBounds_toArray, List.set_cons_zero, List.set_cons_succ, i64_w, i32_w]
      rfl
    refine take_ (i := 5) (N := some 51) (v := ?_) (a' := ?_) #[true, true, true, true, true, true, true, false, false, false, false, false, false] rfl rfl (by kernel_rfl) (fun _ _ _ h => h) (Or.inl ⟨by rfl, ?_⟩) hHeld ?_ ?_
    rotate_left
    · rintro w' ⟨s0, s1, s2, s3⟩
      go_simp
      with_reducible rfl
    rotate_left
    · simp only [Act.put, List.setIfInBounds_toArray, List.set_cons_zero, List.set_cons_succ, i64_w, i32_w]
      rfl
    refine one_ (i := 7) (N := some 53) #[true, true, true, true, true, true, true, true, false, false, false, false, false] rfl rfl (by kernel_rfl) (by decide) (fun K hK => ?_)
    refine goes_ Try.func55 (by kernel_rfl) rfl #[.agg #[.int .i64 ep, .int .i64 (ys.length : Int)], .string s] (by rfl) rfl rfl (by (try simp only [List.map_toArray, List.map_cons, List.map_nil]); first | done | rfl) ?_
    refine (HMP.out w10).mono ?_
    rintro e w11 ⟨rfl, hb⟩
    refine ⟨_, rfl, ?_⟩
    have HD_11 := Aside0.mk (blk_below HD_10.out hb)
    have HM_11 := Aside0.mk (blk_below HM_10.out hb)
    have HZ_11 := Aside0.mk (blk_below HZ_10.out hb)
    have B_11 := Aside0.mk (B_10.out.trans (hb.mono B_10.out.size))
    have HK_11 := Aside0.mk ((hb.block D_ (Array.getElem?_eq_some_iff.1 HK_10.out).1).trans HK_10.out)
    clear hb
    refine hK.out _ _ ⟨(blk_cell HD_11.out 0).trans rfl, (blk_cell HD_11.out 1).trans rfl, (blk_cell HM_11.out 0).trans rfl, (blk_cell HM_11.out 1).trans rfl⟩ (fun hHeld => ?_)
    clear hK K
    refine norm_ (a' := ?_) ?_ ?_
    rotate_left
    · show Act.put _ (some 53) _ = _
      simp only [Act.put, List.setIfInBounds_toArray, List.set_cons_zero, List.set_cons_succ, i64_w, i32_w]
      rfl
    refine one_ (i := 8) (N := some 54) #[true, true, true, true, true, true, true, true, true, false, false, false, false] rfl rfl (by kernel_rfl) (by decide) (fun K hK => ?_)
    refine goes_ Try.func13 (by kernel_rfl) rfl #[.agg #[.slice A0 l.length c0, .slice A1 u.length c1], .int .i64 (fr + (ys.length : Int)), .string f] (by rfl) rfl rfl (by (try simp only [List.map_toArray, List.map_cons, List.map_nil]); first | done | rfl) ?_
    refine (HWR.out w11 B_11.out (fr + (ys.length : Int)) f b' u' e' HWV.out).mono ?_
    rintro e w12 ⟨v0, v1, rfl, hR0, hR1, hb⟩
    refine ⟨_, rfl, ?_⟩
    obtain ⟨A4, c4, rfl⟩ := Kd.R_slice hR0
    obtain ⟨A5, c5, rfl⟩ := Kd.R_slice hR1
    have HP12 := Aside0.mk (Kd.R_lower hR0 B_11.out.size)
    have HQ12 := Aside0.mk (Kd.R_lower hR1 B_11.out.size)
    have HD_12 := Aside0.mk (blk_below HD_11.out hb)
    have HM_12 := Aside0.mk (blk_below HM_11.out hb)
    have HZ_12 := Aside0.mk (blk_below HZ_11.out hb)
    have B_12 := Aside0.mk (B_11.out.trans (hb.mono B_11.out.size))
    have HK_12 := Aside0.mk ((hb.block D_ (Array.getElem?_eq_some_iff.1 HK_11.out).1).trans HK_11.out)
    clear hb hR0 hR1
    have z0 := blk_cell HZ_12.out 0
    have z1 := blk_cell HZ_12.out 1
    have fz0 := blk_frozen HZ_12.out 0
    have fz1 := blk_frozen HZ_12.out 1
    refine hK.out _ _ ⟨(blk_cell HD_12.out 0).trans rfl, (blk_cell HD_12.out 1).trans rfl, (blk_cell HM_12.out 0).trans rfl, (blk_cell HM_12.out 1).trans rfl⟩ (fun hHeld => ?_)
    clear hK K
    refine norm_ (a' := ?_) ?_ ?_
    rotate_left
    · show Act.put _ (some 54) _ = _
      simp only [Act.put, List.setIfInBounds_toArray, List.set_cons_zero, List.set_cons_succ, i64_w, i32_w]
      rfl
    refine pure_ (i := 9) (N := some 55) (v := ?_) (a' := ?_) #[true, true, true, true, true, true, true, true, true, true, false, false, false] rfl rfl (by kernel_rfl) (fun _ _ _ h => h) (Or.inl ⟨by rfl, ?_⟩) ?_ ?_
    rotate_left
    · intro w'
      go_simp
      with_reducible rfl
    rotate_left
    · simp only [Act.put, List.setIfInBounds_toArray, List.set_cons_zero, List.set_cons_succ, i64_w, i32_w]
      rfl
    refine pure_ (i := 10) (N := some 56) (v := ?_) (a' := ?_) #[true, true, true, true, true, true, true, true, true, true, true, false, false] rfl rfl (by kernel_rfl) (fun _ _ _ h => h) (Or.inl ⟨by rfl, ?_⟩) ?_ ?_
    rotate_left
    · intro w'
      go_simp
      with_reducible rfl
    rotate_left
    · simp only [Act.put, List.setIfInBounds_toArray, List.set_cons_zero, List.set_cons_succ, i64_w, i32_w]
      rfl
    refine last_ (i := 11) (N := none) #[true, true, true, true, true, true, true, true, true, true, true, true, false] rfl rfl (by kernel_rfl) (by decide) (fun K hK => ?_)
    refine skip_ (w1 := ?_) (by rfl) rfl ?_ ?_
    rotate_left
    · go_simp
      rfl
    refine hK.out _ _ ?_
    clear hK K
    refine pure_ (i := 12) (N := some 9) (v := ?_) (a' := ?_) #[true, true, true, true, true, true, true, true, true, true, true, true, true] rfl rfl (by kernel_rfl) (fun _ _ _ h => h) (Or.inl ⟨by rfl, ?_⟩) ?_ ?_
    rotate_left
    · intro w'
      go_simp
      with_reducible rfl
    rotate_left
    · simp only [Act.put, List.setIfInBounds_toArray, List.set_cons_zero, List.set_cons_succ, i64_w, i32_w]
      rfl
    refine done_ (by kernel_rfl) ?_
    have HZ13 := blk_set (blk_set HZ_12.out 0 (.slice A4 b'.length c4)) 1 (.slice A5 u'.length c5)
    have HP13 := Kd.R_set (Kd.R_set HP12.out HZ_12.out (by intro q hq; simp [Kd.iso, Kd.pair, Kd.int, Kd.string, Kd.scalar] at hq; subst hq; decide) 0 (.slice A4 b'.length c4)) (blk_set HZ_12.out 0 (.slice A4 b'.length c4)) (by intro q hq; simp [Kd.iso, Kd.pair, Kd.int, Kd.string, Kd.scalar] at hq; subst hq; decide) 1 (.slice A5 u'.length c5)
    have HQ13 := Kd.R_set (Kd.R_set HQ12.out HZ_12.out (by intro q hq; simp [k40, Kd.iso, Kd.pair, Kd.int, Kd.string, Kd.scalar] at hq; subst hq; decide) 0 (.slice A4 b'.length c4)) (blk_set HZ_12.out 0 (.slice A4 b'.length c4)) (by intro q hq; simp [k40, Kd.iso, Kd.pair, Kd.int, Kd.string, Kd.scalar] at hq; subst hq; decide) 1 (.slice A5 u'.length c5)
    have HB13 := (B_12.out.setCell (p := ⟨w.heap.size + 1, 0, none⟩) (by show w.heap.size ≤ w.heap.size + 1; omega) (.slice A4 b'.length c4)).setCell (p := ⟨w.heap.size + 1, 1, none⟩) (by show w.heap.size ≤ w.heap.size + 1; omega) (.slice A5 u'.length c5)
    have HK13 := (Below.heap_setCell (w12.setCell ⟨w.heap.size + 1, 0, none⟩ (.slice A4 b'.length c4)) ⟨w.heap.size + 1, 1, none⟩ (.slice A5 u'.length c5) D_ (by show D_ ≠ w.heap.size + 1; omega)).trans ((Below.heap_setCell w12 ⟨w.heap.size + 1, 0, none⟩ (.slice A4 b'.length c4) D_ (by show D_ ≠ w.heap.size + 1; omega)).trans HK_12.out)
    obtain ⟨g_, hpost⟩ := app_shut (er := e') hD5 HK13 HZ13 HP13 HQ13 HB13
    have g0 := blk_cell g_ 0
    have g1 := blk_cell g_ 1
    simp only [List.getElem?_toArray, List.getElem?_cons_zero, List.getElem?_cons_succ] at g0 g1
    clear HZ13 HP13 HQ13 HB13 g_
    go_wp2
    refine ⟨by simp, .inl ⟨_, _, rfl, run_takeDeferred HK13, ?_⟩⟩
    refine ⟨.tuple #[.agg #[.slice A4 b'.length c4, .slice A5 u'.length c5], .int .i64 e'], ?_, hpost⟩
    simp [results, Try.results31, go_sem, g0, g1]
theorem wal_Append.calls (A0_0 : Option Addr) (c0_0 : Nat) (l0_0 : List ByteArray) (A0_1 : Option Addr) (c0_1 : Nat) (l0_1 : List S40) (a1 : Int) (a2 : Int) (a3 : ByteArray) (r1 : List ByteArray) (r2 : List S40) (r3 : Int) (w : World) (hr0_0 : Kd.C Kd.string w A0_0 l0_0.length l0_0) (hc0_0 : l0_0.length ≤ c0_0) (hr0_1 : Kd.C k40 w A0_1 l0_1.length l0_1) (hc0_1 : l0_1.length ≤ c0_1) (h : wal_Append.f l0_0 l0_1 a1 a2 a3 = some (r1, r2, r3)) :
    Calls Try.prog 31 #[.agg #[.slice A0_0 l0_0.length c0_0, .slice A0_1 l0_1.length c0_1], .int .i64 a1, .int .i64 a2, .string a3] w fun e w' => ∃ v0_ v1_ : Value, e = .returned (.tuple #[.agg #[v0_, v1_], .int .i64 r3]) ∧ Kd.R Kd.string 9 w' w.heap.size (fun _ => True) v0_ r1 ∧ Kd.R k40 40 w' w.heap.size (fun _ => True) v1_ r2 ∧ Below w.heap.size w w' := by
  have hv : appendV l0_0 l0_1 a1 a2 a3 = (r1, r2, r3) := by simpa [wal_Append.f] using h
  by_cases he : openE l0_0 l0_1 a1 a2 = 0
  · exact wal_Append_F A0_0 c0_0 l0_0 A0_1 c0_1 l0_1 a1 a2 a3 w hr0_0 hc0_0 hr0_1 hc0_1 he (r1, r2, r3) hv.symm
  · have h2 := wal_Append_E A0_0 c0_0 l0_0 A0_1 c0_1 l0_1 a1 a2 a3 w hr0_0 hc0_0 hr0_1 hc0_1 he
    unfold appendV at hv
    rw [if_pos he] at hv
    simp only [Prod.mk.injEq] at hv
    obtain ⟨e1, e2, e3⟩ := hv
    rw [e3] at h2
    rw [← e1, ← e2]
    exact h2
end Go.Proofs.Ytoibofhmlokglaa.P
-- Written by a program of this session (xprint.py) over the kit's print.py.
namespace Go.Proofs.Ytoibofhmlokglaa.P
open Go.RowKit Go.Proofs.YtoibofhmlokglaaW.PrintWords Go.Proofs.YtoibofhmlokglaaW.PrintLast Go.Proofs.YtoibofhmlokglaaW.PrintMore
attribute [local go_sem] max2_int min2_int max_two min_two max_three min_three max_four min_four   -- for this text's walks alone
set_option linter.unusedVariables false
set_option linter.unusedSimpArgs false

/-! ### wal_All: function 33 -/
def wal_All.l0 : Nat → Int → Int → Int → List ByteArray → Int → Int → List ByteArray → List (S40) → Option (List ByteArray × (List (S40)) × Bool × Int)
  | 0, _, _, _, _, _, _, _, _ => none
  | k + 1, x1, x2, x4, x42, x43, x44, x469000, x469001 => if x44 < x43 then (if 0 ≤ x44 then (if x44 < (x42.length : Int) then (if x4 = 0 then (some (x469000, x469001, false, 0)) else ((wal_Append.f x469000 x469001 x1 x2 (rdOf ByteArray.empty x42 x44)).bind fun bt478 => (if bt478.2.2 = 0 then (if x4 > 0 then (wal_All.l0 k x1 x2 (wrap64 (x4 - 1)) x42 x43 (wrap64 (x44 + 1)) bt478.1 bt478.2.1) else (wal_All.l0 k x1 x2 x4 x42 x43 (wrap64 (x44 + 1)) bt478.1 bt478.2.1)) else (some (([] : List ByteArray), ([] : List (S40)), false, bt478.2.2))))) else (none)) else (none)) else (if x4 = 0 then (some (x469000, x469001, false, 0)) else ((disk_Sync.f x469000 x469001).bind fun bt469 => (some (bt469.1, bt469.2.1, true, bt469.2.2))))
def wal_All.f (k : Nat) (l0_0 : List ByteArray) (l0_1 : List (S40)) (a1 : Int) (a2 : Int) (l3 : List ByteArray) (a4 : Int) : Option (List ByteArray × (List (S40)) × Bool × Int) := (wal_open.f k l0_0 l0_1 a1 a2).bind fun t461 => (if t461 = 0 then ((slices_Clone_string_string.f l0_0).bind fun t462 => ((slices_Clone_WN.f l0_1).bind fun t465 => (wal_All.l0 k a1 a2 (mn (mx a4 (-1)) (wrap64 ((l3.length : Int) + 1))) l3 (l3.length : Int) 0 t462 t465))) else (some (([] : List ByteArray), ([] : List (S40)), false, t461)))
theorem wal_All.mono_l : ∀ k, (∀ y0 y1 y2 y3 y4 y5 y6 y7, LeO (wal_All.l0 k y0 y1 y2 y3 y4 y5 y6 y7) (wal_All.l0 (k + 1) y0 y1 y2 y3 y4 y5 y6 y7))
  | 0 => fun _ _ _ _ _ _ _ _ r h => by simp [wal_All.l0] at h
  | k + 1 => by
    have ih0 := wal_All.mono_l k
    · intro y0 y1 y2 y3 y4 y5 y6 y7
      unfold wal_All.l0
      repeat' first
      | (with_reducible exact ih0 _ _ _ _ _ _ _ _)
      | (with_reducible exact wal_open.mono _ _ _ _ _)
      | (with_reducible exact LeO.refl _)
      | (with_reducible exact LeO.none _)
      | (with_reducible refine LeO.ite ?_ ?_)
      | (with_reducible refine LeO.bind ?_ (fun _ => ?_))
      | exact ih0 _ _ _ _ _ _ _ _
      | exact wal_open.mono _ _ _ _ _
      | exact LeO.none _
      | refine LeO.ite ?_ ?_
      | refine LeO.bind ?_ (fun _ => ?_)
theorem wal_All.mono : ∀ a0 a1 a2 a3 a4 a5 k, LeO (wal_All.f k a0 a1 a2 a3 a4 a5) (wal_All.f (k + 1) a0 a1 a2 a3 a4 a5) := by
  intro a0 a1 a2 a3 a4 a5 k
  have ih0 := wal_All.mono_l k
  unfold wal_All.f
  repeat' first
      | (with_reducible exact ih0 _ _ _ _ _ _ _ _)
      | (with_reducible exact wal_open.mono _ _ _ _ _)
      | (with_reducible exact LeO.refl _)
      | (with_reducible exact LeO.none _)
      | (with_reducible refine LeO.ite ?_ ?_)
      | (with_reducible refine LeO.bind ?_ (fun _ => ?_))
      | exact ih0 _ _ _ _ _ _ _ _
      | exact wal_open.mono _ _ _ _ _
      | exact LeO.none _
      | refine LeO.ite ?_ ?_
      | refine LeO.bind ?_ (fun _ => ?_)
def wal_All.T4 : Bool × List (List Nat × List Nat) := (true, [([], []), ([0], [0]), ([1], [1]), ([], []), ([3], [3]), ([4, 2], [4]), ([2, 5], [2, 5]), ([], []), ([7, 6, 5, 0, 1, 2, 3, 4, 5, 6, 7], [6, 7])])
def wal_All.B4 : List Nat := [0, 1, 3, 0, 8, 31, 63, 0, 255]
theorem wal_All.tab4 : rtab .any (opsOf Try.f33 4) = wal_All.T4 := by kernel_rfl
theorem wal_All.bits4 : waitsOk wal_All.T4.2 wal_All.B4 = true := by kernel_rfl
set_option maxHeartbeats 8000000 in
set_option maxRecDepth 100000 in
theorem wal_All.calls (k : Nat) (A0_0 : Option Addr) (c0_0 : Nat) (l0_0 : List ByteArray) (A0_1 : Option Addr) (c0_1 : Nat) (l0_1 : List (S40)) (a1 : Int) (a2 : Int) (A3 : Option Addr) (c3 : Nat) (l3 : List ByteArray) (a4 : Int) (r1 : List ByteArray) (r2 : List (S40)) (r3 : Bool) (r4 : Int) (w : World) (hr0_0 : Kd.C Kd.string w A0_0 l0_0.length l0_0) (hc0_0 : l0_0.length ≤ c0_0) (hr0_1 : Kd.C k40 w A0_1 l0_1.length l0_1) (hc0_1 : l0_1.length ≤ c0_1) (hr3 : Kd.C Kd.string w A3 l3.length l3) (hc3 : l3.length ≤ c3) (h : wal_All.f k l0_0 l0_1 a1 a2 l3 a4 = some (r1, r2, r3, r4)) :
    Calls Try.prog 33 #[.agg #[.slice A0_0 l0_0.length c0_0, .slice A0_1 l0_1.length c0_1], .int .i64 a1, .int .i64 a2, .slice A3 l3.length c3, .int .i64 a4] w fun e w' => ∃ v0_ v1_ : Value, e = .returned (.tuple #[.agg #[v0_, v1_], .bool r3, .int .i64 r4]) ∧ Kd.R Kd.string 9 w' w.heap.size (fun _ => True) v0_ r1 ∧ Kd.R k40 40 w' w.heap.size (fun _ => True) v1_ r2 ∧ Below w.heap.size w w' := by
  have hu25 := Try.underlying25
  have HR0_0 := Aside0.mk hr0_0
  have HC0_0 := Aside0.mk hc0_0
  clear hr0_0 hc0_0
  have HR0_1 := Aside0.mk hr0_1
  have HC0_1 := Aside0.mk hc0_1
  clear hr0_1 hc0_1
  have HR3 := Aside0.mk hr3
  have HC3 := Aside0.mk hc3
  clear hr3 hc3
  have HB := Aside0.mk (Below.refl w.heap.size w)
  have H : ((wal_open.f k l0_0 l0_1 a1 a2).bind fun t461 => (if t461 = 0 then ((slices_Clone_string_string.f l0_0).bind fun t462 => ((slices_Clone_WN.f l0_1).bind fun t465 => (wal_All.l0 k a1 a2 (mn (mx a4 (-1)) (wrap64 ((l3.length : Int) + 1))) l3 (l3.length : Int) 0 t462 t465))) else (some (([] : List ByteArray), ([] : List (S40)), false, t461)))) = some (r1, r2, r3, r4) := h
  clear h
  replace H := Option.bind_eq_some_iff.mp H
  obtain ⟨t461, A60, H⟩ := H
  replace H : (if t461 = 0 then ((slices_Clone_string_string.f l0_0).bind fun t462 => ((slices_Clone_WN.f l0_1).bind fun t465 => (wal_All.l0 k a1 a2 (mn (mx a4 (-1)) (wrap64 ((l3.length : Int) + 1))) l3 (l3.length : Int) 0 t462 t465))) else (some (([] : List ByteArray), ([] : List (S40)), false, t461))) = some (r1, r2, r3, r4) := H
  have A6 := Aside0.mk A60
  clear A60
  by_cases c7 : t461 = 0
  · rw [if_pos c7] at H
    have c7b0 : (t461 == 0) = true := beq_iff_eq.mpr c7
    have c7b1 : (t461 != 0) = false := bne_eq_false_iff_eq.mpr c7
    clear c7
    replace H := Option.bind_eq_some_iff.mp H
    obtain ⟨t462, A80, H⟩ := H
    replace H : ((slices_Clone_WN.f l0_1).bind fun t465 => (wal_All.l0 k a1 a2 (mn (mx a4 (-1)) (wrap64 ((l3.length : Int) + 1))) l3 (l3.length : Int) 0 t462 t465)) = some (r1, r2, r3, r4) := H
    have A8 := Aside0.mk A80
    clear A80
    replace H := Option.bind_eq_some_iff.mp H
    obtain ⟨t465, A90, H⟩ := H
    replace H : (wal_All.l0 k a1 a2 (mn (mx a4 (-1)) (wrap64 ((l3.length : Int) + 1))) l3 (l3.length : Int) 0 t462 t465) = some (r1, r2, r3, r4) := H
    have A9 := Aside0.mk A90
    clear A90
    obtain ⟨ji10, hji10⟩ : ∃ j_ : Int, (mx a4 (-1)) = j_ := ⟨_, rfl⟩
    replace H : (wal_All.l0 k a1 a2 (mn (ji10) (wrap64 ((l3.length : Int) + 1))) l3 (l3.length : Int) 0 t462 t465) = some (r1, r2, r3, r4) := by first | (rw [hji10] at H; exact H) | (simp only [hji10] at H ⊢; exact H)
    (try rw [hji10] at A6)
    (try rw [hji10] at A8)
    (try rw [hji10] at A9)
    have hji10_ : (if a4 < (-1) then (-1) else a4) = ji10 := hji10
    obtain ⟨ji11, hji11⟩ : ∃ j_ : Int, (mn (ji10) (wrap64 ((l3.length : Int) + 1))) = j_ := ⟨_, rfl⟩
    replace H : (wal_All.l0 k a1 a2 ji11 l3 (l3.length : Int) 0 t462 t465) = some (r1, r2, r3, r4) := by first | (rw [hji11] at H; exact H) | (simp only [hji11] at H ⊢; exact H)
    (try rw [hji11] at A6)
    (try rw [hji11] at A8)
    (try rw [hji11] at A9)
    have hji11_ : (if (wrap64 ((l3.length : Int) + 1)) < (ji10) then (wrap64 ((l3.length : Int) + 1)) else (ji10)) = ji11 := hji11
    have H' := Aside0.mk H
    clear H
    go_enter Try.func33, Try.ntmps33
    try go_wp2_with (first | ((with_reducible refine gate_dst (N := 5) rfl ?_); refine box_event ?hg (N := 5) ?hd (cs := #[.slice A0_0 l0_0.length c0_0, .slice A0_1 l0_1.length c0_1]) (t := 25) ?hr ?_; (case hd => rfl); (case hg => rfl); (case hr => first | (go_simp; done) | (go_simp; rfl)); intro gb459 hg w12 hbox hb; have n0_ := Aside0.mk (below_step (by repeat (first | (with_reducible first | exact HB.out | apply below_alloc | apply pw_below_drewN | apply below_drew1) | exact HB.out)) hb); have n1_ := Aside0.mk (hbox); have n2_ := Aside0.mk ((by rw [hg]; exact (below_size (by repeat (first | (with_reducible first | exact HB.out | apply below_alloc | apply pw_below_drewN | apply below_drew1) | exact HB.out))) : w.heap.size ≤ gb459)); have n3_ := Aside0.mk ((by rw [hg]; exact (below_size (by repeat (first | (with_reducible first | exact HB.out | apply below_alloc | apply pw_below_drewN | apply below_drew1) | exact HB.out))) : w.heap.size ≤ gb459)); clear HB; have HB := n0_; have BK459 := n1_; have GW459 := n2_; have GE459 := n3_; clear n0_ n1_ n2_ n3_; clear hb hbox hg) | ((with_reducible refine gate_dst (N := 10) rfl ?_); refine box_event ?hg (N := 10) ?hd (cs := #[.slice none 0 0, .slice none 0 0]) (t := 25) ?hr ?_; (case hd => rfl); (case hg => rfl); (case hr => first | (go_simp; done) | (go_simp; rfl)); intro gb460 hg w13 hbox hb; have n0_ := Aside0.mk (blk_below (g := gb459) (o := .cells #[.slice A0_0 l0_0.length c0_0, .slice A0_1 l0_1.length c0_1] 25 (0, 0)) (by (with_reducible repeat (first | refine blk_drewN ?_ _ | refine blk_drew ?_ | refine blk_alloc ?_ _)); exact BK459.out) hb); have n1_ := Aside0.mk (below_step (by repeat (first | (with_reducible first | exact HB.out | apply below_alloc | apply pw_below_drewN | apply below_drew1 | refine below_set ?_ GE459.out) | exact HB.out)) hb); have n2_ := Aside0.mk (hbox); have n3_ := Aside0.mk ((by rw [hg]; exact (below_size (by repeat (first | (with_reducible first | exact HB.out | apply below_alloc | apply pw_below_drewN | apply below_drew1 | refine below_set ?_ GE459.out) | exact HB.out))) : w.heap.size ≤ gb460)); have n4_ := Aside0.mk ((by rw [hg]; exact (below_size (by repeat (first | (with_reducible first | exact HB.out | apply below_alloc | apply pw_below_drewN | apply below_drew1 | refine below_set ?_ GE459.out) | exact HB.out))) : w.heap.size ≤ gb460)); have n5_ := Aside0.mk ((by rw [hg]; exact Nat.ne_of_lt (blk_lt (g := gb459) (o := .cells #[.slice A0_0 l0_0.length c0_0, .slice A0_1 l0_1.length c0_1] 25 (0, 0)) (by (with_reducible repeat (first | refine blk_drewN ?_ _ | refine blk_drew ?_ | refine blk_alloc ?_ _)); exact BK459.out)) : gb459 ≠ gb460)); have n6_ := Aside0.mk ((by rw [hg]; exact Nat.ne_of_gt (blk_lt (g := gb459) (o := .cells #[.slice A0_0 l0_0.length c0_0, .slice A0_1 l0_1.length c0_1] 25 (0, 0)) (by (with_reducible repeat (first | refine blk_drewN ?_ _ | refine blk_drew ?_ | refine blk_alloc ?_ _)); exact BK459.out)) : gb460 ≠ gb459)); clear BK459; clear HB; have BK459 := n0_; have HB := n1_; have BK460 := n2_; have GW460 := n3_; have GE460 := n4_; have NB459_460 := n5_; have NB460_459 := n6_; clear n0_ n1_ n2_ n3_ n4_ n5_ n6_; clear hb hbox hg; have hnb14 := NB459_460.out; have hnc14 := NB460_459.out; have hcz15_0 : w13.cell? ⟨gb459, 0, none⟩ = some (.slice A0_0 l0_0.length c0_0) := (blk_cell BK459.out 0).trans rfl; have hcz15_1 : w13.cell? ⟨gb459, 1, none⟩ = some (.slice A0_1 l0_1.length c0_1) := (blk_cell BK459.out 1).trans rfl; have hfz15_0 := blk_frozen BK459.out 0; have hfz15_1 := blk_frozen BK459.out 1) | ((with_reducible refine gate_callee (f := 50) rfl ?_); refine goesL_ (some 24) rfl rfl Try.func50 (by kernel_rfl) rfl #[.agg #[.slice A0_0 l0_0.length c0_0, .slice A0_1 l0_1.length c0_1], .int .i64 a1, .int .i64 a2] rfl (by (try simp only [List.map_toArray, List.map_cons, List.map_nil]); first | done | rfl | (simp only [List.length_drop, List.length_take]; rfl)) ?_; (with_reducible refine (wal_open.calls k _ _ l0_0 _ _ l0_1 a1 a2 t461 _ ?side1 ?side2 ?side3 ?side4 A6.out).mono ?_); (case side1 => repeat (first | exact (Kd.C_below HR0_0.out HB.out) | (with_reducible refine Kd.C_alloc ?_ _) | (with_reducible refine Kd.C_drewN ?_ _) | (with_reducible refine Kd.C_drew ?_))); (case side2 => exact HC0_0.out); (case side3 => repeat (first | exact (Kd.C_below HR0_1.out HB.out) | (with_reducible refine Kd.C_alloc ?_ _) | (with_reducible refine Kd.C_drewN ?_ _) | (with_reducible refine Kd.C_drew ?_))); (case side4 => exact HC0_1.out); rintro e w16 ⟨rfl, hb⟩; refine ⟨_, rfl, ?_⟩; have n0_ := Aside0.mk (blk_below (g := gb459) (o := .cells #[.slice A0_0 l0_0.length c0_0, .slice A0_1 l0_1.length c0_1] 25 (0, 0)) (by (with_reducible repeat (first | refine blk_drewN ?_ _ | refine blk_drew ?_ | refine blk_alloc ?_ _)); exact BK459.out) hb); have n1_ := Aside0.mk (blk_below (g := gb460) (o := .cells #[.slice none 0 0, .slice none 0 0] 25 (0, 0)) (by (with_reducible repeat (first | refine blk_drewN ?_ _ | refine blk_drew ?_ | refine blk_alloc ?_ _)); exact BK460.out) hb); have n2_ := Aside0.mk (below_step (by repeat (first | (with_reducible first | exact HB.out | apply below_alloc | apply pw_below_drewN | apply below_drew1 | refine below_set ?_ GE459.out | refine below_set ?_ GE460.out) | exact HB.out)) hb); clear BK459; clear BK460; clear HB; have BK459 := n0_; have BK460 := n1_; have HB := n2_; clear n0_ n1_ n2_; (try clear hb); (try clear hb2); (try clear hk); (try clear hi)))
    have n0_ := Aside0.mk (blk_drew BK459.out)
    have n1_ := Aside0.mk (blk_drew BK460.out)
    have n2_ := Aside0.mk (below_drew1 HB.out)
    clear BK459
    clear BK460
    clear HB
    have BK459 := n0_
    have BK460 := n1_
    have HB := n2_
    clear n0_ n1_ n2_
    refine start_ (n := 9) (S := fun w' => w'.cell? ⟨gb459, 0, none⟩ = some (.slice A0_0 l0_0.length c0_0) ∧ w'.cell? ⟨gb459, 1, none⟩ = some (.slice A0_1 l0_1.length c0_1)) (ds := []) #[false, false, false, false, false, false, false, false, false] (by kernel_rfl) rfl rfl ⟨(blk_cell BK459.out 0).trans rfl, (blk_cell BK459.out 1).trans rfl⟩ (fun hHeld => ?_); refine with_tabW wal_All.tab4 wal_All.bits4 (fun HT_ HW_ => ?_)
    generalize w16.drew = w17 at BK459 BK460 HB hHeld ⊢
    refine pure_ (i := 0) (N := some 29) (v := ?_) (a' := ?_) #[true, false, false, false, false, false, false, false, false] rfl rfl (any_of HT_.out (by kernel_rfl)) (fun _ _ _ h => h) (Or.inl ⟨by rfl, ?_⟩) ?_ ?_
    rotate_left
    · intro w'
      go_simp
      with_reducible rfl
    rotate_left
    · simp only [Act.put, List.setIfInBounds_toArray, List.set_cons_zero, List.set_cons_succ, i64_w, i32_w]
      rfl
    refine pure_ (i := 3) (N := some 32) (v := ?_) (a' := ?_) #[true, false, false, true, false, false, false, false, false] rfl rfl (any_of HT_.out (by kernel_rfl)) (fun _ _ _ h => h) (Or.inl ⟨by rfl, ?_⟩) ?_ ?_
    rotate_left
    · intro w'
      go_simp
      with_reducible rfl
    rotate_left
    · simp only [Act.put, List.setIfInBounds_toArray, List.set_cons_zero, List.set_cons_succ, i64_w, i32_w]
      rfl
    refine take_ (i := 1) (N := some 30) (v := ?_) (a' := ?_) #[true, true, false, true, false, false, false, false, false] rfl rfl (take_ofW HT_.out HW_.out (by kernel_rfl)) (fun _ _ _ h => h) (Or.inl ⟨by rfl, ?_⟩) hHeld ?_ ?_
    rotate_left
    · rintro w' ⟨s0, s1⟩
      go_simp
      with_reducible rfl
    rotate_left
    · simp only [Act.put, List.setIfInBounds_toArray, List.set_cons_zero, List.set_cons_succ, i64_w, i32_w]
      rfl
    refine take_ (i := 4) (N := some 33) (v := ?_) (a' := ?_) #[true, true, false, true, true, false, false, false, false] rfl rfl (take_ofW HT_.out HW_.out (by kernel_rfl)) (fun _ _ _ h => h) (Or.inl ⟨by rfl, ?_⟩) hHeld ?_ ?_
    rotate_left
    · rintro w' ⟨s0, s1⟩
      go_simp
      with_reducible rfl
    rotate_left
    · simp only [Act.put, List.setIfInBounds_toArray, List.set_cons_zero, List.set_cons_succ, i64_w, i32_w]
      rfl
    refine join_ (σ := Value × Value × Nat) 1 #[true, true, true, true, true, true, true, true, false] (fun s_ => [(31, s_.1), (34, s_.2.1), (14, .pointer (some ⟨s_.2.2, 0, none⟩)), (35, .agg #[s_.1, s_.2.1])]) (fun s_ w' => (w'.cell? ⟨gb459, 0, none⟩ = some (.slice A0_0 l0_0.length c0_0) ∧ w'.cell? ⟨gb459, 1, none⟩ = some (.slice A0_1 l0_1.length c0_1)) ∧ (Kd.R Kd.string 9 w' w.heap.size (fun _ => True) s_.1 t462) ∧ (Kd.R k40 40 w' w.heap.size (fun _ => True) s_.2.1 t465) ∧ (w'.heap[gb459]? = some (.cells #[.slice A0_0 l0_0.length c0_0, .slice A0_1 l0_1.length c0_1] 25 (0, 0))) ∧ (w'.heap[gb460]? = some (.cells #[.slice none 0 0, .slice none 0 0] 25 (0, 0))) ∧ (w'.heap[s_.2.2]? = some (.cells #[.slice none 0 0, .slice none 0 0] 25 (0, 0))) ∧ (w.heap.size ≤ s_.2.2) ∧ (w.heap.size ≤ s_.2.2) ∧ (gb459 ≠ s_.2.2) ∧ (s_.2.2 ≠ gb459) ∧ (gb460 ≠ s_.2.2) ∧ (s_.2.2 ≠ gb460) ∧ (Below w.heap.size w w')) ?_ ?_
    rotate_left
    · intro hCont
      refine two_ (i := 2) (j := 7) (Ni := some 31) (Nj := some 14) #[true, true, true, true, true, false, false, false, false] #[true, true, false, true, true, false, false, true, false] rfl rfl rfl rfl (two_of HT_.out (by kernel_rfl)) (by decide) (by decide) (fun K hK => ?_) (fun K hK => ?_)
      · skip
        refine goes_ Try.func57 (by kernel_rfl) rfl #[.slice A0_0 l0_0.length c0_0] (by rfl) rfl rfl (by (try simp only [List.map_toArray, List.map_cons, List.map_nil]); first | done | rfl | (simp only [List.length_drop, List.length_take]; rfl)) ?_
        with_reducible refine (slices_Clone_string_string.calls _ _ l0_0 t462 _ ?side1 ?side2 A8.out).mono ?_
        (case side1 => repeat (first | exact (Kd.C_below HR0_0.out HB.out) | (with_reducible refine Kd.C_alloc ?_ _) | (with_reducible refine Kd.C_drewN ?_ _) | (with_reducible refine Kd.C_drew ?_)))
        (case side2 => exact HC0_0.out)
        rintro e w18 ⟨v463, rfl, ho0, hb⟩
        refine ⟨_, rfl, ?_⟩
        have n0_ := Aside0.mk (Kd.R_lower ho0 (below_size (by repeat (first | (with_reducible first | exact HB.out | apply below_alloc | apply pw_below_drewN | apply below_drew1 | refine below_set ?_ GE459.out | refine below_set ?_ GE460.out) | exact HB.out))))
        have n1_ := Aside0.mk (blk_below (g := gb459) (o := .cells #[.slice A0_0 l0_0.length c0_0, .slice A0_1 l0_1.length c0_1] 25 (0, 0)) (by (with_reducible repeat (first | refine blk_drewN ?_ _ | refine blk_drew ?_ | refine blk_alloc ?_ _)); exact BK459.out) hb)
        have n2_ := Aside0.mk (blk_below (g := gb460) (o := .cells #[.slice none 0 0, .slice none 0 0] 25 (0, 0)) (by (with_reducible repeat (first | refine blk_drewN ?_ _ | refine blk_drew ?_ | refine blk_alloc ?_ _)); exact BK460.out) hb)
        have n3_ := Aside0.mk (below_step (by repeat (first | (with_reducible first | exact HB.out | apply below_alloc | apply pw_below_drewN | apply below_drew1 | refine below_set ?_ GE459.out | refine below_set ?_ GE460.out) | exact HB.out)) hb)
        clear BK459
        clear BK460
        clear HB
        have HO464 := n0_
        have BK459 := n1_
        have BK460 := n2_
        have HB := n3_
        clear n0_ n1_ n2_ n3_
        (try clear hb)
        (try clear hb2)
        (try clear hk)
        (try clear hi)
        (try clear ho0)
        refine hK.out _ _ ⟨(blk_cell BK459.out 0).trans rfl, (blk_cell BK459.out 1).trans rfl⟩ (fun hHeld => ?_)
        clear hK K
        refine norm_ (a' := ?_) ?_ ?_
        rotate_left
        · show Act.put _ (some 31) _ = _
          simp only [Act.put, List.setIfInBounds_toArray, List.set_cons_zero, List.set_cons_succ, i64_w, i32_w]
          rfl
        refine two_ (i := 5) (j := 7) (Ni := some 34) (Nj := some 14) #[true, true, true, true, true, true, false, false, false] #[true, true, true, true, true, false, false, true, false] rfl rfl rfl rfl (two_of HT_.out (by kernel_rfl)) (by decide) (by decide) (fun K hK => ?_) (fun K hK => ?_)
        · skip
          refine goes_ Try.func43 (by kernel_rfl) rfl #[.slice A0_1 l0_1.length c0_1] (by rfl) rfl rfl (by (try simp only [List.map_toArray, List.map_cons, List.map_nil]); first | done | rfl | (simp only [List.length_drop, List.length_take]; rfl)) ?_
          with_reducible refine (slices_Clone_WN.calls _ _ l0_1 t465 _ ?side1 ?side2 A9.out).mono ?_
          (case side1 => repeat (first | exact (Kd.C_below HR0_1.out HB.out) | (with_reducible refine Kd.C_alloc ?_ _) | (with_reducible refine Kd.C_drewN ?_ _) | (with_reducible refine Kd.C_drew ?_)))
          (case side2 => exact HC0_1.out)
          rintro e w19 ⟨v466, rfl, ho0, hb⟩
          refine ⟨_, rfl, ?_⟩
          have n0_ := Aside0.mk (Kd.R_below (by (with_reducible repeat (first | apply Kd.R_alloc | apply Kd.R_drewN | apply Kd.R_drew)); exact HO464.out) hb)
          have n1_ := Aside0.mk (Kd.R_lower ho0 (below_size (by repeat (first | (with_reducible first | exact HB.out | apply below_alloc | apply pw_below_drewN | apply below_drew1 | refine below_set ?_ GE459.out | refine below_set ?_ GE460.out) | exact HB.out))))
          have n2_ := Aside0.mk (blk_below (g := gb459) (o := .cells #[.slice A0_0 l0_0.length c0_0, .slice A0_1 l0_1.length c0_1] 25 (0, 0)) (by (with_reducible repeat (first | refine blk_drewN ?_ _ | refine blk_drew ?_ | refine blk_alloc ?_ _)); exact BK459.out) hb)
          have n3_ := Aside0.mk (blk_below (g := gb460) (o := .cells #[.slice none 0 0, .slice none 0 0] 25 (0, 0)) (by (with_reducible repeat (first | refine blk_drewN ?_ _ | refine blk_drew ?_ | refine blk_alloc ?_ _)); exact BK460.out) hb)
          have n4_ := Aside0.mk (below_step (by repeat (first | (with_reducible first | exact HB.out | apply below_alloc | apply pw_below_drewN | apply below_drew1 | refine below_set ?_ GE459.out | refine below_set ?_ GE460.out) | exact HB.out)) hb)
          clear HO464
          clear BK459
          clear BK460
          clear HB
          have HO464 := n0_
          have HO467 := n1_
          have BK459 := n2_
          have BK460 := n3_
          have HB := n4_
          clear n0_ n1_ n2_ n3_ n4_
          (try clear hb)
          (try clear hb2)
          (try clear hk)
          (try clear hi)
          (try clear ho0)
          obtain ⟨Ao20, co20, eo20⟩ := Kd.R_slice HO467.out
          (first | subst eo20 | (injection eo20 with f1_ f2_ f3_; have f4_ := f1_.symm; have f5_ := f3_.symm; clear f1_ f2_ f3_; subst f4_; subst f5_))
          obtain ⟨Ao21, co21, eo21⟩ := Kd.R_slice HO464.out
          (first | subst eo21 | (injection eo21 with f1_ f2_ f3_; have f4_ := f1_.symm; have f5_ := f3_.symm; clear f1_ f2_ f3_; subst f4_; subst f5_))
          refine hK.out _ _ ⟨(blk_cell BK459.out 0).trans rfl, (blk_cell BK459.out 1).trans rfl⟩ (fun hHeld => ?_)
          clear hK K
          refine norm_ (a' := ?_) ?_ ?_
          rotate_left
          · show Act.put _ (some 34) _ = _
            simp only [Act.put, List.setIfInBounds_toArray, List.set_cons_zero, List.set_cons_succ, i64_w, i32_w]
            rfl
          refine pure_ (i := 6) (N := some 35) (v := ?_) (a' := ?_) #[true, true, true, true, true, true, true, false, false] rfl rfl (any_of HT_.out (by kernel_rfl)) (fun _ _ _ h => h) (Or.inl ⟨by rfl, ?_⟩) ?_ ?_
          rotate_left
          · intro w'
            go_simp
            with_reducible rfl
          rotate_left
          · simp only [Act.put, List.setIfInBounds_toArray, List.set_cons_zero, List.set_cons_succ, i64_w, i32_w]
            rfl
          refine one_ (i := 7) (N := some 14) #[true, true, true, true, true, true, true, true, false] rfl rfl (one_of HT_.out (by kernel_rfl)) (by decide) (fun K hK => ?_)
          refine box_step ?hg (N := 14) ?hd (cs := #[.slice none 0 0, .slice none 0 0]) (t := 25) ?hr ?_; (case hd => rfl); (case hg => rfl); (case hr => first | (go_simp; done) | (go_simp; rfl))
          intro gb468 hg w22 hbox hb
          have n0_ := Aside0.mk (Kd.R_below (by (with_reducible repeat (first | apply Kd.R_alloc | apply Kd.R_drewN | apply Kd.R_drew)); exact HO464.out) hb)
          have n1_ := Aside0.mk (Kd.R_below (by (with_reducible repeat (first | apply Kd.R_alloc | apply Kd.R_drewN | apply Kd.R_drew)); exact HO467.out) hb)
          have n2_ := Aside0.mk (blk_below (g := gb459) (o := .cells #[.slice A0_0 l0_0.length c0_0, .slice A0_1 l0_1.length c0_1] 25 (0, 0)) (by (with_reducible repeat (first | refine blk_drewN ?_ _ | refine blk_drew ?_ | refine blk_alloc ?_ _)); exact BK459.out) hb)
          have n3_ := Aside0.mk (blk_below (g := gb460) (o := .cells #[.slice none 0 0, .slice none 0 0] 25 (0, 0)) (by (with_reducible repeat (first | refine blk_drewN ?_ _ | refine blk_drew ?_ | refine blk_alloc ?_ _)); exact BK460.out) hb)
          have n4_ := Aside0.mk (below_step (by repeat (first | (with_reducible first | exact HB.out | apply below_alloc | apply pw_below_drewN | apply below_drew1 | refine below_set ?_ GE459.out | refine below_set ?_ GE460.out) | exact HB.out)) hb)
          have n5_ := Aside0.mk (hbox)
          have n6_ := Aside0.mk ((by rw [hg]; exact (below_size (by repeat (first | (with_reducible first | exact HB.out | apply below_alloc | apply pw_below_drewN | apply below_drew1 | refine below_set ?_ GE459.out | refine below_set ?_ GE460.out) | exact HB.out))) : w.heap.size ≤ gb468))
          have n7_ := Aside0.mk ((by rw [hg]; exact (below_size (by repeat (first | (with_reducible first | exact HB.out | apply below_alloc | apply pw_below_drewN | apply below_drew1 | refine below_set ?_ GE459.out | refine below_set ?_ GE460.out) | exact HB.out))) : w.heap.size ≤ gb468))
          have n8_ := Aside0.mk ((by rw [hg]; exact Nat.ne_of_lt (blk_lt (g := gb459) (o := .cells #[.slice A0_0 l0_0.length c0_0, .slice A0_1 l0_1.length c0_1] 25 (0, 0)) (by (with_reducible repeat (first | refine blk_drewN ?_ _ | refine blk_drew ?_ | refine blk_alloc ?_ _)); exact BK459.out)) : gb459 ≠ gb468))
          have n9_ := Aside0.mk ((by rw [hg]; exact Nat.ne_of_gt (blk_lt (g := gb459) (o := .cells #[.slice A0_0 l0_0.length c0_0, .slice A0_1 l0_1.length c0_1] 25 (0, 0)) (by (with_reducible repeat (first | refine blk_drewN ?_ _ | refine blk_drew ?_ | refine blk_alloc ?_ _)); exact BK459.out)) : gb468 ≠ gb459))
          have n10_ := Aside0.mk ((by rw [hg]; exact Nat.ne_of_lt (blk_lt (g := gb460) (o := .cells #[.slice none 0 0, .slice none 0 0] 25 (0, 0)) (by (with_reducible repeat (first | refine blk_drewN ?_ _ | refine blk_drew ?_ | refine blk_alloc ?_ _)); exact BK460.out)) : gb460 ≠ gb468))
          have n11_ := Aside0.mk ((by rw [hg]; exact Nat.ne_of_gt (blk_lt (g := gb460) (o := .cells #[.slice none 0 0, .slice none 0 0] 25 (0, 0)) (by (with_reducible repeat (first | refine blk_drewN ?_ _ | refine blk_drew ?_ | refine blk_alloc ?_ _)); exact BK460.out)) : gb468 ≠ gb460))
          clear HO464
          clear HO467
          clear BK459
          clear BK460
          clear HB
          have HO464 := n0_
          have HO467 := n1_
          have BK459 := n2_
          have BK460 := n3_
          have HB := n4_
          have BK468 := n5_
          have GW468 := n6_
          have GE468 := n7_
          have NB459_468 := n8_
          have NB468_459 := n9_
          have NB460_468 := n10_
          have NB468_460 := n11_
          clear n0_ n1_ n2_ n3_ n4_ n5_ n6_ n7_ n8_ n9_ n10_ n11_
          clear hb hbox hg
          refine hK.out _ _ ⟨(blk_cell BK459.out 0).trans rfl, (blk_cell BK459.out 1).trans rfl⟩ (fun hHeld => ?_)
          clear hK K
          refine norm_ (a' := ?_) ?_ ?_
          rotate_left
          · show Act.put _ (some 14) _ = _
            simp only [Act.put, List.setIfInBounds_toArray, List.set_cons_zero, List.set_cons_succ, i64_w, i32_w]
            rfl
          exact norm_ (by simp only [putAll, Act.put, List.setIfInBounds_toArray, List.set_cons_zero, List.set_cons_succ]) (hCont (.slice Ao21 t462.length co21, .slice Ao20 t465.length co20, gb468) _ ⟨hHeld, (by (with_reducible repeat (first | apply Kd.R_alloc | apply Kd.R_drewN | apply Kd.R_drew)); exact HO464.out), (by (with_reducible repeat (first | apply Kd.R_alloc | apply Kd.R_drewN | apply Kd.R_drew)); exact HO467.out), (by (with_reducible repeat (first | refine blk_drewN ?_ _ | refine blk_drew ?_ | refine blk_alloc ?_ _)); exact BK459.out), (by (with_reducible repeat (first | refine blk_drewN ?_ _ | refine blk_drew ?_ | refine blk_alloc ?_ _)); exact BK460.out), (by (with_reducible repeat (first | refine blk_drewN ?_ _ | refine blk_drew ?_ | refine blk_alloc ?_ _)); exact BK468.out), GW468.out, GE468.out, NB459_468.out, NB468_459.out, NB460_468.out, NB468_460.out, (by repeat (first | (with_reducible first | exact HB.out | apply below_alloc | apply pw_below_drewN | apply below_drew1 | refine below_set ?_ GE459.out | refine below_set ?_ GE460.out | refine below_set ?_ GE468.out) | exact HB.out))⟩)
        · skip
          refine box_step ?hg (N := 14) ?hd (cs := #[.slice none 0 0, .slice none 0 0]) (t := 25) ?hr ?_; (case hd => rfl); (case hg => rfl); (case hr => first | (go_simp; done) | (go_simp; rfl))
          intro gb468 hg w19 hbox hb
          have n0_ := Aside0.mk (Kd.R_below (by (with_reducible repeat (first | apply Kd.R_alloc | apply Kd.R_drewN | apply Kd.R_drew)); exact HO464.out) hb)
          have n1_ := Aside0.mk (blk_below (g := gb459) (o := .cells #[.slice A0_0 l0_0.length c0_0, .slice A0_1 l0_1.length c0_1] 25 (0, 0)) (by (with_reducible repeat (first | refine blk_drewN ?_ _ | refine blk_drew ?_ | refine blk_alloc ?_ _)); exact BK459.out) hb)
          have n2_ := Aside0.mk (blk_below (g := gb460) (o := .cells #[.slice none 0 0, .slice none 0 0] 25 (0, 0)) (by (with_reducible repeat (first | refine blk_drewN ?_ _ | refine blk_drew ?_ | refine blk_alloc ?_ _)); exact BK460.out) hb)
          have n3_ := Aside0.mk (below_step (by repeat (first | (with_reducible first | exact HB.out | apply below_alloc | apply pw_below_drewN | apply below_drew1 | refine below_set ?_ GE459.out | refine below_set ?_ GE460.out) | exact HB.out)) hb)
          have n4_ := Aside0.mk (hbox)
          have n5_ := Aside0.mk ((by rw [hg]; exact (below_size (by repeat (first | (with_reducible first | exact HB.out | apply below_alloc | apply pw_below_drewN | apply below_drew1 | refine below_set ?_ GE459.out | refine below_set ?_ GE460.out) | exact HB.out))) : w.heap.size ≤ gb468))
          have n6_ := Aside0.mk ((by rw [hg]; exact (below_size (by repeat (first | (with_reducible first | exact HB.out | apply below_alloc | apply pw_below_drewN | apply below_drew1 | refine below_set ?_ GE459.out | refine below_set ?_ GE460.out) | exact HB.out))) : w.heap.size ≤ gb468))
          have n7_ := Aside0.mk ((by rw [hg]; exact Nat.ne_of_lt (blk_lt (g := gb459) (o := .cells #[.slice A0_0 l0_0.length c0_0, .slice A0_1 l0_1.length c0_1] 25 (0, 0)) (by (with_reducible repeat (first | refine blk_drewN ?_ _ | refine blk_drew ?_ | refine blk_alloc ?_ _)); exact BK459.out)) : gb459 ≠ gb468))
          have n8_ := Aside0.mk ((by rw [hg]; exact Nat.ne_of_gt (blk_lt (g := gb459) (o := .cells #[.slice A0_0 l0_0.length c0_0, .slice A0_1 l0_1.length c0_1] 25 (0, 0)) (by (with_reducible repeat (first | refine blk_drewN ?_ _ | refine blk_drew ?_ | refine blk_alloc ?_ _)); exact BK459.out)) : gb468 ≠ gb459))
          have n9_ := Aside0.mk ((by rw [hg]; exact Nat.ne_of_lt (blk_lt (g := gb460) (o := .cells #[.slice none 0 0, .slice none 0 0] 25 (0, 0)) (by (with_reducible repeat (first | refine blk_drewN ?_ _ | refine blk_drew ?_ | refine blk_alloc ?_ _)); exact BK460.out)) : gb460 ≠ gb468))
          have n10_ := Aside0.mk ((by rw [hg]; exact Nat.ne_of_gt (blk_lt (g := gb460) (o := .cells #[.slice none 0 0, .slice none 0 0] 25 (0, 0)) (by (with_reducible repeat (first | refine blk_drewN ?_ _ | refine blk_drew ?_ | refine blk_alloc ?_ _)); exact BK460.out)) : gb468 ≠ gb460))
          clear HO464
          clear BK459
          clear BK460
          clear HB
          have HO464 := n0_
          have BK459 := n1_
          have BK460 := n2_
          have HB := n3_
          have BK468 := n4_
          have GW468 := n5_
          have GE468 := n6_
          have NB459_468 := n7_
          have NB468_459 := n8_
          have NB460_468 := n9_
          have NB468_460 := n10_
          clear n0_ n1_ n2_ n3_ n4_ n5_ n6_ n7_ n8_ n9_ n10_
          clear hb hbox hg
          refine hK.out _ _ ⟨(blk_cell BK459.out 0).trans rfl, (blk_cell BK459.out 1).trans rfl⟩ (fun hHeld => ?_)
          clear hK K
          refine norm_ (a' := ?_) ?_ ?_
          rotate_left
          · show Act.put _ (some 14) _ = _
            simp only [Act.put, List.setIfInBounds_toArray, List.set_cons_zero, List.set_cons_succ, i64_w, i32_w]
            rfl
          refine one_ (i := 5) (N := some 34) #[true, true, true, true, true, true, false, true, false] rfl rfl (one_of HT_.out (by kernel_rfl)) (by decide) (fun K hK => ?_)
          refine goes_ Try.func43 (by kernel_rfl) rfl #[.slice A0_1 l0_1.length c0_1] (by rfl) rfl rfl (by (try simp only [List.map_toArray, List.map_cons, List.map_nil]); first | done | rfl | (simp only [List.length_drop, List.length_take]; rfl)) ?_
          with_reducible refine (slices_Clone_WN.calls _ _ l0_1 t465 _ ?side1 ?side2 A9.out).mono ?_
          (case side1 => repeat (first | exact (Kd.C_below HR0_1.out HB.out) | (with_reducible refine Kd.C_alloc ?_ _) | (with_reducible refine Kd.C_drewN ?_ _) | (with_reducible refine Kd.C_drew ?_)))
          (case side2 => exact HC0_1.out)
          rintro e w20 ⟨v466, rfl, ho0, hb⟩
          refine ⟨_, rfl, ?_⟩
          have n0_ := Aside0.mk (Kd.R_below (by (with_reducible repeat (first | apply Kd.R_alloc | apply Kd.R_drewN | apply Kd.R_drew)); exact HO464.out) hb)
          have n1_ := Aside0.mk (Kd.R_lower ho0 (below_size (by repeat (first | (with_reducible first | exact HB.out | apply below_alloc | apply pw_below_drewN | apply below_drew1 | refine below_set ?_ GE459.out | refine below_set ?_ GE460.out | refine below_set ?_ GE468.out) | exact HB.out))))
          have n2_ := Aside0.mk (blk_below (g := gb459) (o := .cells #[.slice A0_0 l0_0.length c0_0, .slice A0_1 l0_1.length c0_1] 25 (0, 0)) (by (with_reducible repeat (first | refine blk_drewN ?_ _ | refine blk_drew ?_ | refine blk_alloc ?_ _)); exact BK459.out) hb)
          have n3_ := Aside0.mk (blk_below (g := gb460) (o := .cells #[.slice none 0 0, .slice none 0 0] 25 (0, 0)) (by (with_reducible repeat (first | refine blk_drewN ?_ _ | refine blk_drew ?_ | refine blk_alloc ?_ _)); exact BK460.out) hb)
          have n4_ := Aside0.mk (blk_below (g := gb468) (o := .cells #[.slice none 0 0, .slice none 0 0] 25 (0, 0)) (by (with_reducible repeat (first | refine blk_drewN ?_ _ | refine blk_drew ?_ | refine blk_alloc ?_ _)); exact BK468.out) hb)
          have n5_ := Aside0.mk (below_step (by repeat (first | (with_reducible first | exact HB.out | apply below_alloc | apply pw_below_drewN | apply below_drew1 | refine below_set ?_ GE459.out | refine below_set ?_ GE460.out | refine below_set ?_ GE468.out) | exact HB.out)) hb)
          clear HO464
          clear BK459
          clear BK460
          clear BK468
          clear HB
          have HO464 := n0_
          have HO467 := n1_
          have BK459 := n2_
          have BK460 := n3_
          have BK468 := n4_
          have HB := n5_
          clear n0_ n1_ n2_ n3_ n4_ n5_
          (try clear hb)
          (try clear hb2)
          (try clear hk)
          (try clear hi)
          (try clear ho0)
          obtain ⟨Ao21, co21, eo21⟩ := Kd.R_slice HO467.out
          (first | subst eo21 | (injection eo21 with f1_ f2_ f3_; have f4_ := f1_.symm; have f5_ := f3_.symm; clear f1_ f2_ f3_; subst f4_; subst f5_))
          obtain ⟨Ao22, co22, eo22⟩ := Kd.R_slice HO464.out
          (first | subst eo22 | (injection eo22 with f1_ f2_ f3_; have f4_ := f1_.symm; have f5_ := f3_.symm; clear f1_ f2_ f3_; subst f4_; subst f5_))
          refine hK.out _ _ ⟨(blk_cell BK459.out 0).trans rfl, (blk_cell BK459.out 1).trans rfl⟩ (fun hHeld => ?_)
          clear hK K
          refine norm_ (a' := ?_) ?_ ?_
          rotate_left
          · show Act.put _ (some 34) _ = _
            simp only [Act.put, List.setIfInBounds_toArray, List.set_cons_zero, List.set_cons_succ, i64_w, i32_w]
            rfl
          refine pure_ (i := 6) (N := some 35) (v := ?_) (a' := ?_) #[true, true, true, true, true, true, true, true, false] rfl rfl (any_of HT_.out (by kernel_rfl)) (fun _ _ _ h => h) (Or.inl ⟨by rfl, ?_⟩) ?_ ?_
          rotate_left
          · intro w'
            go_simp
            with_reducible rfl
          rotate_left
          · simp only [Act.put, List.setIfInBounds_toArray, List.set_cons_zero, List.set_cons_succ, i64_w, i32_w]
            rfl
          exact norm_ (by simp only [putAll, Act.put, List.setIfInBounds_toArray, List.set_cons_zero, List.set_cons_succ]) (hCont (.slice Ao22 t462.length co22, .slice Ao21 t465.length co21, gb468) _ ⟨hHeld, (by (with_reducible repeat (first | apply Kd.R_alloc | apply Kd.R_drewN | apply Kd.R_drew)); exact HO464.out), (by (with_reducible repeat (first | apply Kd.R_alloc | apply Kd.R_drewN | apply Kd.R_drew)); exact HO467.out), (by (with_reducible repeat (first | refine blk_drewN ?_ _ | refine blk_drew ?_ | refine blk_alloc ?_ _)); exact BK459.out), (by (with_reducible repeat (first | refine blk_drewN ?_ _ | refine blk_drew ?_ | refine blk_alloc ?_ _)); exact BK460.out), (by (with_reducible repeat (first | refine blk_drewN ?_ _ | refine blk_drew ?_ | refine blk_alloc ?_ _)); exact BK468.out), GW468.out, GE468.out, NB459_468.out, NB468_459.out, NB460_468.out, NB468_460.out, (by repeat (first | (with_reducible first | exact HB.out | apply below_alloc | apply pw_below_drewN | apply below_drew1 | refine below_set ?_ GE459.out | refine below_set ?_ GE460.out | refine below_set ?_ GE468.out) | exact HB.out))⟩)
      · skip
        refine box_step ?hg (N := 14) ?hd (cs := #[.slice none 0 0, .slice none 0 0]) (t := 25) ?hr ?_; (case hd => rfl); (case hg => rfl); (case hr => first | (go_simp; done) | (go_simp; rfl))
        intro gb468 hg w18 hbox hb
        have n0_ := Aside0.mk (blk_below (g := gb459) (o := .cells #[.slice A0_0 l0_0.length c0_0, .slice A0_1 l0_1.length c0_1] 25 (0, 0)) (by (with_reducible repeat (first | refine blk_drewN ?_ _ | refine blk_drew ?_ | refine blk_alloc ?_ _)); exact BK459.out) hb)
        have n1_ := Aside0.mk (blk_below (g := gb460) (o := .cells #[.slice none 0 0, .slice none 0 0] 25 (0, 0)) (by (with_reducible repeat (first | refine blk_drewN ?_ _ | refine blk_drew ?_ | refine blk_alloc ?_ _)); exact BK460.out) hb)
        have n2_ := Aside0.mk (below_step (by repeat (first | (with_reducible first | exact HB.out | apply below_alloc | apply pw_below_drewN | apply below_drew1 | refine below_set ?_ GE459.out | refine below_set ?_ GE460.out) | exact HB.out)) hb)
        have n3_ := Aside0.mk (hbox)
        have n4_ := Aside0.mk ((by rw [hg]; exact (below_size (by repeat (first | (with_reducible first | exact HB.out | apply below_alloc | apply pw_below_drewN | apply below_drew1 | refine below_set ?_ GE459.out | refine below_set ?_ GE460.out) | exact HB.out))) : w.heap.size ≤ gb468))
        have n5_ := Aside0.mk ((by rw [hg]; exact (below_size (by repeat (first | (with_reducible first | exact HB.out | apply below_alloc | apply pw_below_drewN | apply below_drew1 | refine below_set ?_ GE459.out | refine below_set ?_ GE460.out) | exact HB.out))) : w.heap.size ≤ gb468))
        have n6_ := Aside0.mk ((by rw [hg]; exact Nat.ne_of_lt (blk_lt (g := gb459) (o := .cells #[.slice A0_0 l0_0.length c0_0, .slice A0_1 l0_1.length c0_1] 25 (0, 0)) (by (with_reducible repeat (first | refine blk_drewN ?_ _ | refine blk_drew ?_ | refine blk_alloc ?_ _)); exact BK459.out)) : gb459 ≠ gb468))
        have n7_ := Aside0.mk ((by rw [hg]; exact Nat.ne_of_gt (blk_lt (g := gb459) (o := .cells #[.slice A0_0 l0_0.length c0_0, .slice A0_1 l0_1.length c0_1] 25 (0, 0)) (by (with_reducible repeat (first | refine blk_drewN ?_ _ | refine blk_drew ?_ | refine blk_alloc ?_ _)); exact BK459.out)) : gb468 ≠ gb459))
        have n8_ := Aside0.mk ((by rw [hg]; exact Nat.ne_of_lt (blk_lt (g := gb460) (o := .cells #[.slice none 0 0, .slice none 0 0] 25 (0, 0)) (by (with_reducible repeat (first | refine blk_drewN ?_ _ | refine blk_drew ?_ | refine blk_alloc ?_ _)); exact BK460.out)) : gb460 ≠ gb468))
        have n9_ := Aside0.mk ((by rw [hg]; exact Nat.ne_of_gt (blk_lt (g := gb460) (o := .cells #[.slice none 0 0, .slice none 0 0] 25 (0, 0)) (by (with_reducible repeat (first | refine blk_drewN ?_ _ | refine blk_drew ?_ | refine blk_alloc ?_ _)); exact BK460.out)) : gb468 ≠ gb460))
        clear BK459
        clear BK460
        clear HB
        have BK459 := n0_
        have BK460 := n1_
        have HB := n2_
        have BK468 := n3_
        have GW468 := n4_
        have GE468 := n5_
        have NB459_468 := n6_
        have NB468_459 := n7_
        have NB460_468 := n8_
        have NB468_460 := n9_
        clear n0_ n1_ n2_ n3_ n4_ n5_ n6_ n7_ n8_ n9_
        clear hb hbox hg
        refine hK.out _ _ ⟨(blk_cell BK459.out 0).trans rfl, (blk_cell BK459.out 1).trans rfl⟩ (fun hHeld => ?_)
        clear hK K
        refine norm_ (a' := ?_) ?_ ?_
        rotate_left
        · show Act.put _ (some 14) _ = _
          simp only [Act.put, List.setIfInBounds_toArray, List.set_cons_zero, List.set_cons_succ, i64_w, i32_w]
          rfl
        refine one_ (i := 2) (N := some 31) #[true, true, true, true, true, false, false, true, false] rfl rfl (one_of HT_.out (by kernel_rfl)) (by decide) (fun K hK => ?_)
        refine goes_ Try.func57 (by kernel_rfl) rfl #[.slice A0_0 l0_0.length c0_0] (by rfl) rfl rfl (by (try simp only [List.map_toArray, List.map_cons, List.map_nil]); first | done | rfl | (simp only [List.length_drop, List.length_take]; rfl)) ?_
        with_reducible refine (slices_Clone_string_string.calls _ _ l0_0 t462 _ ?side1 ?side2 A8.out).mono ?_
        (case side1 => repeat (first | exact (Kd.C_below HR0_0.out HB.out) | (with_reducible refine Kd.C_alloc ?_ _) | (with_reducible refine Kd.C_drewN ?_ _) | (with_reducible refine Kd.C_drew ?_)))
        (case side2 => exact HC0_0.out)
        rintro e w19 ⟨v463, rfl, ho0, hb⟩
        refine ⟨_, rfl, ?_⟩
        have n0_ := Aside0.mk (Kd.R_lower ho0 (below_size (by repeat (first | (with_reducible first | exact HB.out | apply below_alloc | apply pw_below_drewN | apply below_drew1 | refine below_set ?_ GE459.out | refine below_set ?_ GE460.out | refine below_set ?_ GE468.out) | exact HB.out))))
        have n1_ := Aside0.mk (blk_below (g := gb459) (o := .cells #[.slice A0_0 l0_0.length c0_0, .slice A0_1 l0_1.length c0_1] 25 (0, 0)) (by (with_reducible repeat (first | refine blk_drewN ?_ _ | refine blk_drew ?_ | refine blk_alloc ?_ _)); exact BK459.out) hb)
        have n2_ := Aside0.mk (blk_below (g := gb460) (o := .cells #[.slice none 0 0, .slice none 0 0] 25 (0, 0)) (by (with_reducible repeat (first | refine blk_drewN ?_ _ | refine blk_drew ?_ | refine blk_alloc ?_ _)); exact BK460.out) hb)
        have n3_ := Aside0.mk (blk_below (g := gb468) (o := .cells #[.slice none 0 0, .slice none 0 0] 25 (0, 0)) (by (with_reducible repeat (first | refine blk_drewN ?_ _ | refine blk_drew ?_ | refine blk_alloc ?_ _)); exact BK468.out) hb)
        have n4_ := Aside0.mk (below_step (by repeat (first | (with_reducible first | exact HB.out | apply below_alloc | apply pw_below_drewN | apply below_drew1 | refine below_set ?_ GE459.out | refine below_set ?_ GE460.out | refine below_set ?_ GE468.out) | exact HB.out)) hb)
        clear BK459
        clear BK460
        clear BK468
        clear HB
        have HO464 := n0_
        have BK459 := n1_
        have BK460 := n2_
        have BK468 := n3_
        have HB := n4_
        clear n0_ n1_ n2_ n3_ n4_
        (try clear hb)
        (try clear hb2)
        (try clear hk)
        (try clear hi)
        (try clear ho0)
        refine hK.out _ _ ⟨(blk_cell BK459.out 0).trans rfl, (blk_cell BK459.out 1).trans rfl⟩ (fun hHeld => ?_)
        clear hK K
        refine norm_ (a' := ?_) ?_ ?_
        rotate_left
        · show Act.put _ (some 31) _ = _
          simp only [Act.put, List.setIfInBounds_toArray, List.set_cons_zero, List.set_cons_succ, i64_w, i32_w]
          rfl
        refine one_ (i := 5) (N := some 34) #[true, true, true, true, true, true, false, true, false] rfl rfl (one_of HT_.out (by kernel_rfl)) (by decide) (fun K hK => ?_)
        refine goes_ Try.func43 (by kernel_rfl) rfl #[.slice A0_1 l0_1.length c0_1] (by rfl) rfl rfl (by (try simp only [List.map_toArray, List.map_cons, List.map_nil]); first | done | rfl | (simp only [List.length_drop, List.length_take]; rfl)) ?_
        with_reducible refine (slices_Clone_WN.calls _ _ l0_1 t465 _ ?side1 ?side2 A9.out).mono ?_
        (case side1 => repeat (first | exact (Kd.C_below HR0_1.out HB.out) | (with_reducible refine Kd.C_alloc ?_ _) | (with_reducible refine Kd.C_drewN ?_ _) | (with_reducible refine Kd.C_drew ?_)))
        (case side2 => exact HC0_1.out)
        rintro e w20 ⟨v466, rfl, ho0, hb⟩
        refine ⟨_, rfl, ?_⟩
        have n0_ := Aside0.mk (Kd.R_below (by (with_reducible repeat (first | apply Kd.R_alloc | apply Kd.R_drewN | apply Kd.R_drew)); exact HO464.out) hb)
        have n1_ := Aside0.mk (Kd.R_lower ho0 (below_size (by repeat (first | (with_reducible first | exact HB.out | apply below_alloc | apply pw_below_drewN | apply below_drew1 | refine below_set ?_ GE459.out | refine below_set ?_ GE460.out | refine below_set ?_ GE468.out) | exact HB.out))))
        have n2_ := Aside0.mk (blk_below (g := gb459) (o := .cells #[.slice A0_0 l0_0.length c0_0, .slice A0_1 l0_1.length c0_1] 25 (0, 0)) (by (with_reducible repeat (first | refine blk_drewN ?_ _ | refine blk_drew ?_ | refine blk_alloc ?_ _)); exact BK459.out) hb)
        have n3_ := Aside0.mk (blk_below (g := gb460) (o := .cells #[.slice none 0 0, .slice none 0 0] 25 (0, 0)) (by (with_reducible repeat (first | refine blk_drewN ?_ _ | refine blk_drew ?_ | refine blk_alloc ?_ _)); exact BK460.out) hb)
        have n4_ := Aside0.mk (blk_below (g := gb468) (o := .cells #[.slice none 0 0, .slice none 0 0] 25 (0, 0)) (by (with_reducible repeat (first | refine blk_drewN ?_ _ | refine blk_drew ?_ | refine blk_alloc ?_ _)); exact BK468.out) hb)
        have n5_ := Aside0.mk (below_step (by repeat (first | (with_reducible first | exact HB.out | apply below_alloc | apply pw_below_drewN | apply below_drew1 | refine below_set ?_ GE459.out | refine below_set ?_ GE460.out | refine below_set ?_ GE468.out) | exact HB.out)) hb)
        clear HO464
        clear BK459
        clear BK460
        clear BK468
        clear HB
        have HO464 := n0_
        have HO467 := n1_
        have BK459 := n2_
        have BK460 := n3_
        have BK468 := n4_
        have HB := n5_
        clear n0_ n1_ n2_ n3_ n4_ n5_
        (try clear hb)
        (try clear hb2)
        (try clear hk)
        (try clear hi)
        (try clear ho0)
        obtain ⟨Ao21, co21, eo21⟩ := Kd.R_slice HO467.out
        (first | subst eo21 | (injection eo21 with f1_ f2_ f3_; have f4_ := f1_.symm; have f5_ := f3_.symm; clear f1_ f2_ f3_; subst f4_; subst f5_))
        obtain ⟨Ao22, co22, eo22⟩ := Kd.R_slice HO464.out
        (first | subst eo22 | (injection eo22 with f1_ f2_ f3_; have f4_ := f1_.symm; have f5_ := f3_.symm; clear f1_ f2_ f3_; subst f4_; subst f5_))
        refine hK.out _ _ ⟨(blk_cell BK459.out 0).trans rfl, (blk_cell BK459.out 1).trans rfl⟩ (fun hHeld => ?_)
        clear hK K
        refine norm_ (a' := ?_) ?_ ?_
        rotate_left
        · show Act.put _ (some 34) _ = _
          simp only [Act.put, List.setIfInBounds_toArray, List.set_cons_zero, List.set_cons_succ, i64_w, i32_w]
          rfl
        refine pure_ (i := 6) (N := some 35) (v := ?_) (a' := ?_) #[true, true, true, true, true, true, true, true, false] rfl rfl (any_of HT_.out (by kernel_rfl)) (fun _ _ _ h => h) (Or.inl ⟨by rfl, ?_⟩) ?_ ?_
        rotate_left
        · intro w'
          go_simp
          with_reducible rfl
        rotate_left
        · simp only [Act.put, List.setIfInBounds_toArray, List.set_cons_zero, List.set_cons_succ, i64_w, i32_w]
          rfl
        exact norm_ (by simp only [putAll, Act.put, List.setIfInBounds_toArray, List.set_cons_zero, List.set_cons_succ]) (hCont (.slice Ao22 t462.length co22, .slice Ao21 t465.length co21, gb468) _ ⟨hHeld, (by (with_reducible repeat (first | apply Kd.R_alloc | apply Kd.R_drewN | apply Kd.R_drew)); exact HO464.out), (by (with_reducible repeat (first | apply Kd.R_alloc | apply Kd.R_drewN | apply Kd.R_drew)); exact HO467.out), (by (with_reducible repeat (first | refine blk_drewN ?_ _ | refine blk_drew ?_ | refine blk_alloc ?_ _)); exact BK459.out), (by (with_reducible repeat (first | refine blk_drewN ?_ _ | refine blk_drew ?_ | refine blk_alloc ?_ _)); exact BK460.out), (by (with_reducible repeat (first | refine blk_drewN ?_ _ | refine blk_drew ?_ | refine blk_alloc ?_ _)); exact BK468.out), GW468.out, GE468.out, NB459_468.out, NB468_459.out, NB460_468.out, NB468_460.out, (by repeat (first | (with_reducible first | exact HB.out | apply below_alloc | apply pw_below_drewN | apply below_drew1 | refine below_set ?_ GE459.out | refine below_set ?_ GE460.out | refine below_set ?_ GE468.out) | exact HB.out))⟩)
    rintro ⟨v463, v466, gb468⟩ w23 ⟨hS_, h0_, h1_, h2_, h3_, h4_, h5_, h6_, h7_, h8_, h9_, h10_, h11_⟩
    have n0_ : Aside0 (Kd.R Kd.string 9 w23 w.heap.size (fun _ => True) v463 t462) := ⟨h0_⟩
    have n1_ : Aside0 (Kd.R k40 40 w23 w.heap.size (fun _ => True) v466 t465) := ⟨h1_⟩
    have n2_ : Aside0 (w23.heap[gb459]? = some (.cells #[.slice A0_0 l0_0.length c0_0, .slice A0_1 l0_1.length c0_1] 25 (0, 0))) := ⟨h2_⟩
    have n3_ : Aside0 (w23.heap[gb460]? = some (.cells #[.slice none 0 0, .slice none 0 0] 25 (0, 0))) := ⟨h3_⟩
    have n4_ : Aside0 (w23.heap[gb468]? = some (.cells #[.slice none 0 0, .slice none 0 0] 25 (0, 0))) := ⟨h4_⟩
    have n5_ : Aside0 (w.heap.size ≤ gb468) := ⟨h5_⟩
    have n6_ : Aside0 (w.heap.size ≤ gb468) := ⟨h6_⟩
    have n7_ : Aside0 (gb459 ≠ gb468) := ⟨h7_⟩
    have n8_ : Aside0 (gb468 ≠ gb459) := ⟨h8_⟩
    have n9_ : Aside0 (gb460 ≠ gb468) := ⟨h9_⟩
    have n10_ : Aside0 (gb468 ≠ gb460) := ⟨h10_⟩
    have n11_ : Aside0 (Below w.heap.size w w23) := ⟨h11_⟩
    clear BK459
    clear BK460
    clear HB
    clear h0_ h1_ h2_ h3_ h4_ h5_ h6_ h7_ h8_ h9_ h10_ h11_
    have HO464 := n0_
    have HO467 := n1_
    have BK459 := n2_
    have BK460 := n3_
    have BK468 := n4_
    have GW468 := n5_
    have GE468 := n6_
    have NB459_468 := n7_
    have NB468_459 := n8_
    have NB460_468 := n9_
    have NB468_460 := n10_
    have HB := n11_
    clear n0_ n1_ n2_ n3_ n4_ n5_ n6_ n7_ n8_ n9_ n10_ n11_
    have hHeld : w23.cell? ⟨gb459, 0, none⟩ = some (.slice A0_0 l0_0.length c0_0) ∧ w23.cell? ⟨gb459, 1, none⟩ = some (.slice A0_1 l0_1.length c0_1) := hS_
    obtain ⟨Ao24, co24, eo24⟩ := Kd.R_slice HO467.out
    (first | subst eo24 | (injection eo24 with f1_ f2_ f3_; have f4_ := f1_.symm; have f5_ := f3_.symm; clear f1_ f2_ f3_; subst f4_; subst f5_))
    obtain ⟨Ao25, co25, eo25⟩ := Kd.R_slice HO464.out
    (first | subst eo25 | (injection eo25 with f1_ f2_ f3_; have f4_ := f1_.symm; have f5_ := f3_.symm; clear f1_ f2_ f3_; subst f4_; subst f5_))
    refine norm_ (a' := ?_) ?_ ?_
    rotate_left
    · simp only [putAll, Act.put, List.setIfInBounds_toArray, List.set_cons_zero, List.set_cons_succ]
      rfl
    refine one_ (i := 8) (N := none) #[true, true, true, true, true, true, true, true, true] rfl rfl (one_of HT_.out (by kernel_rfl)) (by decide) (fun K hK => ?_)
    have hs26 : w23.cell? ⟨gb468, 0, none⟩ = some (.slice none 0 0) := (blk_cell BK468.out 0).trans rfl
    have hfs26 := blk_frozen BK468.out 0
    have hns26_0 := NB459_468.out
    have hns26_1 := NB460_468.out
    have hms26_0 := NB468_459.out
    have hms26_1 := NB468_460.out
    have hs27 : w23.cell? ⟨gb468, 1, none⟩ = some (.slice none 0 0) := (blk_cell BK468.out 1).trans rfl
    have hfs27 := blk_frozen BK468.out 1
    have hns27_0 := NB459_468.out
    have hns27_1 := NB460_468.out
    have hms27_0 := NB468_459.out
    have hms27_1 := NB468_460.out
    refine skip_ (w1 := ?_) (by rfl) rfl ?_ ?_
    rotate_left
    · go_simp
      rfl
    refine hK.out _ _ ⟨((cell_far (p := ⟨gb468, _, none⟩) NB459_468.out _).trans (((cell_far (p := ⟨gb468, _, none⟩) NB459_468.out _).trans (hHeld.1)))), ((cell_far (p := ⟨gb468, _, none⟩) NB459_468.out _).trans (((cell_far (p := ⟨gb468, _, none⟩) NB459_468.out _).trans (hHeld.2))))⟩ (fun hHeld => ?_)
    clear hK K
    refine done_ (done_of HT_.out (by kernel_rfl)) ?_
    try go_wp2
    go_loopg [4, 44] k (fun kq v4 v44 w' => ∃ (x4_1 : Int) (x44_1 : Int) (x469000_1 : List ByteArray) (x469001_1 : List (S40)) (u469000 : Value) (u469001 : Value), v4 = .int .i64 x4_1 ∧ v44 = .int .i64 x44_1 ∧ Aside0 (wal_All.l0 kq a1 a2 x4_1 l3 (l3.length : Int) x44_1 x469000_1 x469001_1 = some (r1, r2, r3, r4)) ∧ Aside0 (kq ≤ k) ∧ Aside0 (Kd.R Kd.string 9 w' w.heap.size (fun _ => True) u469000 x469000_1) ∧ Aside0 (Kd.R k40 40 w' w.heap.size (fun _ => True) u469001 x469001_1) ∧ Aside0 (w'.heap[gb459]? = some (.cells #[(.slice A0_0 l0_0.length c0_0), (.slice A0_1 l0_1.length c0_1)] 25 (0, 0))) ∧ Aside0 (w'.heap[gb460]? = some (.cells #[(.slice none 0 0), (.slice none 0 0)] 25 (0, 0))) ∧ Aside0 (w'.heap[gb468]? = some (.cells #[u469000, u469001] 25 (0, 0))) ∧ Aside0 (Below w.heap.size w w'))
    case atStart => exact ⟨(ji11), (0), (t462), (t465), (.slice Ao25 t462.length co25), (.slice Ao24 t465.length co24), (by first | rfl | (simp; done) | (simp only [← hji11] <;> (first | rfl | simp)) | (simp [*]; done)), (by first | rfl | (simp; done) | (simp [*]; done)), H', ⟨Nat.le_refl _⟩, ⟨by (with_reducible repeat (first | apply Kd.R_alloc | apply Kd.R_drewN | apply Kd.R_drew)); exact Kd.R_mono (Kd.R_far (p := ⟨gb468, 1, none⟩) (Kd.R_far (p := ⟨gb468, 0, none⟩) (Kd.R_types HO464.out BK468.out (by decide)) (fun _ hk => hk.2) (.slice Ao25 t462.length co25)) (fun _ hk => hk.2) (.slice Ao24 t465.length co24)) (fun _ hk => trivial)⟩, ⟨by (with_reducible repeat (first | apply Kd.R_alloc | apply Kd.R_drewN | apply Kd.R_drew)); exact Kd.R_mono (Kd.R_far (p := ⟨gb468, 1, none⟩) (Kd.R_far (p := ⟨gb468, 0, none⟩) (Kd.R_types HO467.out BK468.out (by decide)) (fun _ hk => hk.2) (.slice Ao25 t462.length co25)) (fun _ hk => hk.2) (.slice Ao24 t465.length co24)) (fun _ hk => trivial)⟩, ⟨by (with_reducible repeat (first | refine blk_drewN ?_ _ | refine blk_drew ?_ | refine blk_alloc ?_ _)); refine blk_far ?_ NB459_468.out _; (with_reducible repeat (first | refine blk_drewN ?_ _ | refine blk_drew ?_ | refine blk_alloc ?_ _)); refine blk_far ?_ NB459_468.out _; (with_reducible repeat (first | refine blk_drewN ?_ _ | refine blk_drew ?_ | refine blk_alloc ?_ _)); exact BK459.out⟩, ⟨by (with_reducible repeat (first | refine blk_drewN ?_ _ | refine blk_drew ?_ | refine blk_alloc ?_ _)); refine blk_far ?_ NB460_468.out _; (with_reducible repeat (first | refine blk_drewN ?_ _ | refine blk_drew ?_ | refine blk_alloc ?_ _)); refine blk_far ?_ NB460_468.out _; (with_reducible repeat (first | refine blk_drewN ?_ _ | refine blk_drew ?_ | refine blk_alloc ?_ _)); exact BK460.out⟩, ⟨by (with_reducible repeat (first | refine blk_drewN ?_ _ | refine blk_drew ?_ | refine blk_alloc ?_ _)); refine blk_put (cs := #[.slice Ao25 t462.length co25, .slice none 0 0]) ?_ 1 _ rfl; (with_reducible repeat (first | refine blk_drewN ?_ _ | refine blk_drew ?_ | refine blk_alloc ?_ _)); refine blk_put (cs := #[.slice none 0 0, .slice none 0 0]) ?_ 0 _ rfl; (with_reducible repeat (first | refine blk_drewN ?_ _ | refine blk_drew ?_ | refine blk_alloc ?_ _)); exact BK468.out⟩, ⟨by repeat (first | (with_reducible first | exact HB.out | apply below_alloc | apply pw_below_drewN | apply below_drew1 | refine below_set ?_ GE459.out | refine below_set ?_ GE460.out | refine below_set ?_ GE468.out) | exact HB.out)⟩⟩
    case round =>
      clear H'
      try clear c1
      try clear p2
      try clear c3
      try clear c4
      try clear c5
      try clear p6
      try clear c7
      try clear c7b0
      try clear c7b1
      try clear c14
      try clear hcz15_0
      try clear hcz15_1
      try clear hfz15_0
      try clear hfz15_1
      obtain ⟨x4_1, x44_1, x469000_1, x469001_1, u469000, u469001, rfl, rfl, HA, HK1, HO_469000, HO_469001, BK459, BK460, BK468, HB⟩ := hrel
      cases gk with
      | zero => exact absurd HA.out (by simp [wal_All.l0])
      | succ k1 =>
        have H := HA.out
        clear HA
        simp only [wal_All.l0] at H
        by_cases c28 : x44_1 < (l3.length : Int)
        · rw [if_pos c28] at H
          have c28b0 : decide (x44_1 < (l3.length : Int)) = true := decide_eq_true c28
          clear c28
          by_cases c29 : 0 ≤ x44_1
          · rw [if_pos c29] at H
            have c29b0 : decide (0 ≤ x44_1) = true := decide_eq_true c29
            clear c29
            by_cases c30 : x44_1 < (l3.length : Int)
            · rw [if_pos c30] at H
              have c30b0 : decide (x44_1 < (l3.length : Int)) = true := decide_eq_true c30
              clear c30
              by_cases c31 : x4_1 = 0
              · rw [if_pos c31] at H
                have c31b0 : (x4_1 == 0) = true := beq_iff_eq.mpr c31
                have c31b1 : (x4_1 != 0) = false := bne_eq_false_iff_eq.mpr c31
                clear c31
                simp only [Option.some.injEq, Prod.mk.injEq] at H
                obtain ⟨rfl, rfl, rfl, rfl⟩ := H
                have p477 : 0 ≤ (x44_1 : Int) := of_decide_eq_true (by first | (with_reducible assumption) | assumption)
                have q477 : x44_1 < (l3.length : Int) := of_decide_eq_true (by first | (with_reducible assumption) | assumption)
                obtain ⟨ad477, e477, hx477_0⟩ := Kd.at_string HR3.out x44_1 p477 q477
                cases e477
                replace hx477_0 := (HB.out.cell (World.block_lt_of_cell? w _ hx477_0)).trans hx477_0
                replace p477 := eq_true p477
                replace q477 := eq_true q477
                have hnb32 := NB468_459.out
                have hnc32 := NB459_468.out
                have hnb33 := NB468_460.out
                have hnc33 := NB460_468.out
                have hcz34_0 : wr.cell? ⟨gb468, 0, none⟩ = some (u469000) := (blk_cell BK468.out 0).trans rfl
                have hcz34_1 : wr.cell? ⟨gb468, 1, none⟩ = some (u469001) := (blk_cell BK468.out 1).trans rfl
                have hfz34_0 := blk_frozen BK468.out 0
                have hfz34_1 := blk_frozen BK468.out 1
                obtain ⟨Ao35, co35, eo35⟩ := Kd.R_slice HO_469000.out
                subst eo35
                have hnb36 := NB460_459.out
                have hnc36 := NB459_460.out
                have hcz37_0 : wr.cell? ⟨gb460, 0, none⟩ = some (.slice none 0 0) := (blk_cell BK460.out 0).trans rfl
                have hcz37_1 : wr.cell? ⟨gb460, 1, none⟩ = some (.slice none 0 0) := (blk_cell BK460.out 1).trans rfl
                have hfz37_0 := blk_frozen BK460.out 0
                have hfz37_1 := blk_frozen BK460.out 1
                obtain ⟨Ao38, co38, eo38⟩ := Kd.R_slice HO_469001.out
                subst eo38
                go_wp2
                refine bodyPost_ret (results_ctt rfl _ _ gb460 25 #[.slice Ao35 x469000_1.length co35, .slice Ao38 x469001_1.length co38] (0, 0) _ rfl (by (with_reducible repeat (first | refine blk_drewN ?_ _ | refine blk_drew ?_ | refine blk_alloc ?_ _)); refine blk_put (cs := #[.slice Ao35 x469000_1.length co35, .slice none 0 0]) ?_ 1 _ rfl; (with_reducible repeat (first | refine blk_drewN ?_ _ | refine blk_drew ?_ | refine blk_alloc ?_ _)); refine blk_put (cs := #[.slice none 0 0, .slice none 0 0]) ?_ 0 _ rfl; (with_reducible repeat (first | refine blk_drewN ?_ _ | refine blk_drew ?_ | refine blk_alloc ?_ _)); exact BK460.out) Try.underlying25 rfl (by kernel_rfl)) rfl ?_
                exact ⟨_, _, by first | rfl | (simp [errW_none, errW_some] <;> rfl) | (simp only [← hji10, ← hji11]; first | rfl | (simp [errW_none, errW_some] <;> rfl)) | (simp [*, errW_none, errW_some] <;> rfl), by (with_reducible repeat (first | apply Kd.R_alloc | apply Kd.R_drewN | apply Kd.R_drew)); exact Kd.R_mono (Kd.R_far (p := ⟨gb460, 1, none⟩) (Kd.R_far (p := ⟨gb460, 0, none⟩) (Kd.R_types HO_469000.out BK460.out (by decide)) (fun _ hk => hk.2) (.slice Ao35 x469000_1.length co35)) (fun _ hk => hk.2) (.slice Ao38 x469001_1.length co38)) (fun _ hk => trivial), by (with_reducible repeat (first | apply Kd.R_alloc | apply Kd.R_drewN | apply Kd.R_drew)); exact Kd.R_mono (Kd.R_far (p := ⟨gb460, 1, none⟩) (Kd.R_far (p := ⟨gb460, 0, none⟩) (Kd.R_types HO_469001.out BK460.out (by decide)) (fun _ hk => hk.2) (.slice Ao35 x469000_1.length co35)) (fun _ hk => hk.2) (.slice Ao38 x469001_1.length co38)) (fun _ hk => trivial), by repeat (first | (with_reducible first | exact HB.out | apply below_alloc | apply pw_below_drewN | apply below_drew1 | refine below_set ?_ GE459.out | refine below_set ?_ GE460.out | refine below_set ?_ GE468.out) | exact HB.out)⟩
              · rw [if_neg c31] at H
                have c31b0 : (x4_1 == 0) = false := beq_eq_false_iff_ne.mpr c31
                have c31b1 : (x4_1 != 0) = true := bne_iff_ne.mpr c31
                replace H := Option.bind_eq_some_iff.mp H
                obtain ⟨⟨t478, t481, t484⟩, A390, H⟩ := H
                replace H : (if t484 = 0 then (if x4_1 > 0 then (wal_All.l0 k1 a1 a2 (wrap64 (x4_1 - 1)) l3 (l3.length : Int) (wrap64 (x44_1 + 1)) t478 t481) else (wal_All.l0 k1 a1 a2 x4_1 l3 (l3.length : Int) (wrap64 (x44_1 + 1)) t478 t481)) else (some (([] : List ByteArray), ([] : List (S40)), false, t484))) = some (r1, r2, r3, r4) := H
                have A39 := Aside0.mk A390
                clear A390
                by_cases c40 : t484 = 0
                · rw [if_pos c40] at H
                  have c40b0 : (t484 == 0) = true := beq_iff_eq.mpr c40
                  have c40b1 : (t484 != 0) = false := bne_eq_false_iff_eq.mpr c40
                  clear c40
                  by_cases c41 : x4_1 > 0
                  · rw [if_pos c41] at H
                    have c41b0 : decide (0 < x4_1) = true := decide_eq_true c41
                    clear c41
                    have H' := Aside0.mk H
                    clear H
                    have p477 : 0 ≤ (x44_1 : Int) := of_decide_eq_true (by first | (with_reducible assumption) | assumption)
                    have q477 : x44_1 < (l3.length : Int) := of_decide_eq_true (by first | (with_reducible assumption) | assumption)
                    obtain ⟨ad477, e477, hx477_0⟩ := Kd.at_string HR3.out x44_1 p477 q477
                    cases e477
                    replace hx477_0 := (HB.out.cell (World.block_lt_of_cell? w _ hx477_0)).trans hx477_0
                    replace p477 := eq_true p477
                    replace q477 := eq_true q477
                    have hnb42 := NB468_459.out
                    have hnc42 := NB459_468.out
                    have hnb43 := NB468_460.out
                    have hnc43 := NB460_468.out
                    have hcz44_0 : wr.cell? ⟨gb468, 0, none⟩ = some (u469000) := (blk_cell BK468.out 0).trans rfl
                    have hcz44_1 : wr.cell? ⟨gb468, 1, none⟩ = some (u469001) := (blk_cell BK468.out 1).trans rfl
                    have hfz44_0 := blk_frozen BK468.out 0
                    have hfz44_1 := blk_frozen BK468.out 1
                    obtain ⟨Ao45, co45, eo45⟩ := Kd.R_slice HO_469000.out
                    subst eo45
                    obtain ⟨Ao46, co46, eo46⟩ := Kd.R_slice HO_469001.out
                    subst eo46
                    go_wp2_with (first | ((with_reducible refine gate_callee (f := 31) rfl ?_); refine goesL_ (some 56) rfl rfl Try.func31 (by kernel_rfl) rfl #[.agg #[.slice Ao45 x469000_1.length co45, .slice Ao46 x469001_1.length co46], .int .i64 a1, .int .i64 a2, .string (rdOf ByteArray.empty l3 x44_1)] rfl (by (try simp only [List.map_toArray, List.map_cons, List.map_nil]); first | done | rfl | (simp only [List.length_drop, List.length_take]; rfl)) ?_; (with_reducible refine (wal_Append.calls _ _ x469000_1 _ _ x469001_1 a1 a2 (rdOf ByteArray.empty l3 x44_1) t478 t481 t484 _ ?side1 ?side2 ?side3 ?side4 A39.out).mono ?_); (case side1 => repeat (first | exact (Kd.R_reads' HO_469000.out).2.2 | (with_reducible refine Kd.C_alloc ?_ _) | (with_reducible refine Kd.C_drewN ?_ _) | (with_reducible refine Kd.C_drew ?_))); (case side2 => exact (Kd.R_reads' HO_469000.out).2.1); (case side3 => repeat (first | exact (Kd.R_reads' HO_469001.out).2.2 | (with_reducible refine Kd.C_alloc ?_ _) | (with_reducible refine Kd.C_drewN ?_ _) | (with_reducible refine Kd.C_drew ?_))); (case side4 => exact (Kd.R_reads' HO_469001.out).2.1); rintro e w47 ⟨v479, v482, rfl, ho0, ho1, hb⟩; refine ⟨_, rfl, ?_⟩; have n0_ := Aside0.mk (Kd.R_elder' (by (with_reducible repeat (first | apply Kd.R_alloc | apply Kd.R_drewN | apply Kd.R_drew)); exact HO_469000.out) (Kd.R_base ho0) hb); have n1_ := Aside0.mk (Kd.R_elder' (by (with_reducible repeat (first | apply Kd.R_alloc | apply Kd.R_drewN | apply Kd.R_drew)); exact HO_469001.out) (Kd.R_base ho1) hb); have n2_ := Aside0.mk (Kd.R_lower (Kd.R_new' ho0 (Kd.R_lt (by (with_reducible repeat (first | apply Kd.R_alloc | apply Kd.R_drewN | apply Kd.R_drew)); exact HO_469000.out))) (below_size (by repeat (first | (with_reducible first | exact HB.out | apply below_alloc | apply pw_below_drewN | apply below_drew1 | refine below_set ?_ GE459.out | refine below_set ?_ GE460.out | refine below_set ?_ GE468.out) | exact HB.out)))); have n3_ := Aside0.mk (Kd.R_lower (Kd.R_new' ho1 (Kd.R_lt (by (with_reducible repeat (first | apply Kd.R_alloc | apply Kd.R_drewN | apply Kd.R_drew)); exact HO_469001.out))) (below_size (by repeat (first | (with_reducible first | exact HB.out | apply below_alloc | apply pw_below_drewN | apply below_drew1 | refine below_set ?_ GE459.out | refine below_set ?_ GE460.out | refine below_set ?_ GE468.out) | exact HB.out)))); have n4_ := Aside0.mk (blk_below (g := gb459) (o := .cells #[.slice A0_0 l0_0.length c0_0, .slice A0_1 l0_1.length c0_1] 25 (0, 0)) (by (with_reducible repeat (first | refine blk_drewN ?_ _ | refine blk_drew ?_ | refine blk_alloc ?_ _)); exact BK459.out) hb); have n5_ := Aside0.mk (blk_below (g := gb460) (o := .cells #[.slice none 0 0, .slice none 0 0] 25 (0, 0)) (by (with_reducible repeat (first | refine blk_drewN ?_ _ | refine blk_drew ?_ | refine blk_alloc ?_ _)); exact BK460.out) hb); have n6_ := Aside0.mk (blk_below (g := gb468) (o := .cells #[.slice Ao45 x469000_1.length co45, .slice Ao46 x469001_1.length co46] 25 (0, 0)) (by (with_reducible repeat (first | refine blk_drewN ?_ _ | refine blk_drew ?_ | refine blk_alloc ?_ _)); exact BK468.out) hb); have n7_ := Aside0.mk (below_step (by repeat (first | (with_reducible first | exact HB.out | apply below_alloc | apply pw_below_drewN | apply below_drew1 | refine below_set ?_ GE459.out | refine below_set ?_ GE460.out | refine below_set ?_ GE468.out) | exact HB.out)) hb); clear HO_469000; clear HO_469001; clear BK459; clear BK460; clear BK468; clear HB; have HO_469000 := n0_; have HO_469001 := n1_; have HO480 := n2_; have HO483 := n3_; have BK459 := n4_; have BK460 := n5_; have BK468 := n6_; have HB := n7_; clear n0_ n1_ n2_ n3_ n4_ n5_ n6_ n7_; (try clear hb); (try clear hb2); (try clear hk); (try clear hi); (try clear ho0); (try clear ho1)) | ((with_reducible refine gate_dst (N := 17) rfl ?_); refine box_event ?hg (N := 17) ?hd (cs := #[.slice none 0 0, .slice none 0 0]) (t := 25) ?hr ?_; (case hd => rfl); (case hg => rfl); (case hr => first | (go_simp; done) | (go_simp; rfl)); intro gb485 hg w48 hbox hb; have n0_ := Aside0.mk (Kd.R_below (by (with_reducible repeat (first | apply Kd.R_alloc | apply Kd.R_drewN | apply Kd.R_drew)); exact HO_469000.out) hb); have n1_ := Aside0.mk (Kd.R_below (by (with_reducible repeat (first | apply Kd.R_alloc | apply Kd.R_drewN | apply Kd.R_drew)); exact HO_469001.out) hb); have n2_ := Aside0.mk (Kd.R_below (by (with_reducible repeat (first | apply Kd.R_alloc | apply Kd.R_drewN | apply Kd.R_drew)); exact HO480.out) hb); have n3_ := Aside0.mk (Kd.R_below (by (with_reducible repeat (first | apply Kd.R_alloc | apply Kd.R_drewN | apply Kd.R_drew)); exact HO483.out) hb); have n4_ := Aside0.mk (blk_below (g := gb459) (o := .cells #[.slice A0_0 l0_0.length c0_0, .slice A0_1 l0_1.length c0_1] 25 (0, 0)) (by (with_reducible repeat (first | refine blk_drewN ?_ _ | refine blk_drew ?_ | refine blk_alloc ?_ _)); exact BK459.out) hb); have n5_ := Aside0.mk (blk_below (g := gb460) (o := .cells #[.slice none 0 0, .slice none 0 0] 25 (0, 0)) (by (with_reducible repeat (first | refine blk_drewN ?_ _ | refine blk_drew ?_ | refine blk_alloc ?_ _)); exact BK460.out) hb); have n6_ := Aside0.mk (blk_below (g := gb468) (o := .cells #[.slice Ao45 x469000_1.length co45, .slice Ao46 x469001_1.length co46] 25 (0, 0)) (by (with_reducible repeat (first | refine blk_drewN ?_ _ | refine blk_drew ?_ | refine blk_alloc ?_ _)); exact BK468.out) hb); have n7_ := Aside0.mk (below_step (by repeat (first | (with_reducible first | exact HB.out | apply below_alloc | apply pw_below_drewN | apply below_drew1 | refine below_set ?_ GE459.out | refine below_set ?_ GE460.out | refine below_set ?_ GE468.out) | exact HB.out)) hb); have n8_ := Aside0.mk (hbox); have n9_ := Aside0.mk ((by rw [hg]; exact (below_size (by repeat (first | (with_reducible first | exact HB.out | apply below_alloc | apply pw_below_drewN | apply below_drew1 | refine below_set ?_ GE459.out | refine below_set ?_ GE460.out | refine below_set ?_ GE468.out) | exact HB.out))) : w.heap.size ≤ gb485)); have n10_ := Aside0.mk ((by rw [hg]; exact (below_size (by repeat (first | (with_reducible first | exact HB.out | apply below_alloc | apply pw_below_drewN | apply below_drew1 | refine below_set ?_ GE459.out | refine below_set ?_ GE460.out | refine below_set ?_ GE468.out) | exact HB.out))) : w.heap.size ≤ gb485)); have n11_ := Aside0.mk ((by rw [hg]; exact Nat.ne_of_lt (blk_lt (g := gb459) (o := .cells #[.slice A0_0 l0_0.length c0_0, .slice A0_1 l0_1.length c0_1] 25 (0, 0)) (by (with_reducible repeat (first | refine blk_drewN ?_ _ | refine blk_drew ?_ | refine blk_alloc ?_ _)); exact BK459.out)) : gb459 ≠ gb485)); have n12_ := Aside0.mk ((by rw [hg]; exact Nat.ne_of_gt (blk_lt (g := gb459) (o := .cells #[.slice A0_0 l0_0.length c0_0, .slice A0_1 l0_1.length c0_1] 25 (0, 0)) (by (with_reducible repeat (first | refine blk_drewN ?_ _ | refine blk_drew ?_ | refine blk_alloc ?_ _)); exact BK459.out)) : gb485 ≠ gb459)); have n13_ := Aside0.mk ((by rw [hg]; exact Nat.ne_of_lt (blk_lt (g := gb460) (o := .cells #[.slice none 0 0, .slice none 0 0] 25 (0, 0)) (by (with_reducible repeat (first | refine blk_drewN ?_ _ | refine blk_drew ?_ | refine blk_alloc ?_ _)); exact BK460.out)) : gb460 ≠ gb485)); have n14_ := Aside0.mk ((by rw [hg]; exact Nat.ne_of_gt (blk_lt (g := gb460) (o := .cells #[.slice none 0 0, .slice none 0 0] 25 (0, 0)) (by (with_reducible repeat (first | refine blk_drewN ?_ _ | refine blk_drew ?_ | refine blk_alloc ?_ _)); exact BK460.out)) : gb485 ≠ gb460)); have n15_ := Aside0.mk ((by rw [hg]; exact Nat.ne_of_lt (blk_lt (g := gb468) (o := .cells #[.slice Ao45 x469000_1.length co45, .slice Ao46 x469001_1.length co46] 25 (0, 0)) (by (with_reducible repeat (first | refine blk_drewN ?_ _ | refine blk_drew ?_ | refine blk_alloc ?_ _)); exact BK468.out)) : gb468 ≠ gb485)); have n16_ := Aside0.mk ((by rw [hg]; exact Nat.ne_of_gt (blk_lt (g := gb468) (o := .cells #[.slice Ao45 x469000_1.length co45, .slice Ao46 x469001_1.length co46] 25 (0, 0)) (by (with_reducible repeat (first | refine blk_drewN ?_ _ | refine blk_drew ?_ | refine blk_alloc ?_ _)); exact BK468.out)) : gb485 ≠ gb468)); clear HO_469000; clear HO_469001; clear HO480; clear HO483; clear BK459; clear BK460; clear BK468; clear HB; have HO_469000 := n0_; have HO_469001 := n1_; have HO480 := n2_; have HO483 := n3_; have BK459 := n4_; have BK460 := n5_; have BK468 := n6_; have HB := n7_; have BK485 := n8_; have GW485 := n9_; have GE485 := n10_; have NB459_485 := n11_; have NB485_459 := n12_; have NB460_485 := n13_; have NB485_460 := n14_; have NB468_485 := n15_; have NB485_468 := n16_; clear n0_ n1_ n2_ n3_ n4_ n5_ n6_ n7_ n8_ n9_ n10_ n11_ n12_ n13_ n14_ n15_ n16_; clear hb hbox hg; obtain ⟨Ao49, co49, eo49⟩ := Kd.R_slice HO480.out; subst eo49; have hnb50 := NB485_459.out; have hnc50 := NB459_485.out; have hnb51 := NB485_460.out; have hnc51 := NB460_485.out; have hnb52 := NB485_468.out; have hnc52 := NB468_485.out; have hcz53_0 : w48.cell? ⟨gb485, 0, none⟩ = some (.slice none 0 0) := (blk_cell BK485.out 0).trans rfl; have hcz53_1 : w48.cell? ⟨gb485, 1, none⟩ = some (.slice none 0 0) := (blk_cell BK485.out 1).trans rfl; have hfz53_0 := blk_frozen BK485.out 0; have hfz53_1 := blk_frozen BK485.out 1; obtain ⟨Ao54, co54, eo54⟩ := Kd.R_slice HO483.out; subst eo54; have hcz55_0 : w48.cell? ⟨gb468, 0, none⟩ = some (.slice Ao45 x469000_1.length co45) := (blk_cell BK468.out 0).trans rfl; have hcz55_1 : w48.cell? ⟨gb468, 1, none⟩ = some (.slice Ao46 x469001_1.length co46) := (blk_cell BK468.out 1).trans rfl; have hfz55_0 := blk_frozen BK468.out 0; have hfz55_1 := blk_frozen BK468.out 1))
                    go_roundg k1
                    case measure => have := HK1.out; omega
                    case rel => exact ⟨(wrap64 (x4_1 - 1)), (wrap64 (x44_1 + 1)), (t478), (t481), (.slice Ao49 t478.length co49), (.slice Ao54 t481.length co54), (by first | rfl | (simp; done) | (simp [*]; done)), (by first | rfl | (simp; done) | (simp [*]; done)), H', ⟨by have := HK1.out; omega⟩, ⟨by (with_reducible repeat (first | apply Kd.R_alloc | apply Kd.R_drewN | apply Kd.R_drew)); exact Kd.R_mono (Kd.R_far (p := ⟨gb468, 1, none⟩) (Kd.R_far (p := ⟨gb468, 0, none⟩) (Kd.R_far (p := ⟨gb485, 1, none⟩) (Kd.R_far (p := ⟨gb485, 0, none⟩) (Kd.R_types (Kd.R_types HO480.out BK485.out (by decide)) BK468.out (by decide)) (fun _ hk => hk.1.2) (.slice Ao49 t478.length co49)) (fun _ hk => hk.1.2) (.slice Ao54 t481.length co54)) (fun _ hk => hk.2) (.slice Ao49 t478.length co49)) (fun _ hk => hk.2) (.slice Ao54 t481.length co54)) (fun _ hk => trivial)⟩, ⟨by (with_reducible repeat (first | apply Kd.R_alloc | apply Kd.R_drewN | apply Kd.R_drew)); exact Kd.R_mono (Kd.R_far (p := ⟨gb468, 1, none⟩) (Kd.R_far (p := ⟨gb468, 0, none⟩) (Kd.R_far (p := ⟨gb485, 1, none⟩) (Kd.R_far (p := ⟨gb485, 0, none⟩) (Kd.R_types (Kd.R_types HO483.out BK485.out (by decide)) BK468.out (by decide)) (fun _ hk => hk.1.2) (.slice Ao49 t478.length co49)) (fun _ hk => hk.1.2) (.slice Ao54 t481.length co54)) (fun _ hk => hk.2) (.slice Ao49 t478.length co49)) (fun _ hk => hk.2) (.slice Ao54 t481.length co54)) (fun _ hk => trivial)⟩, ⟨by (with_reducible repeat (first | refine blk_drewN ?_ _ | refine blk_drew ?_ | refine blk_alloc ?_ _)); refine blk_far ?_ NB459_468.out _; (with_reducible repeat (first | refine blk_drewN ?_ _ | refine blk_drew ?_ | refine blk_alloc ?_ _)); refine blk_far ?_ NB459_468.out _; (with_reducible repeat (first | refine blk_drewN ?_ _ | refine blk_drew ?_ | refine blk_alloc ?_ _)); refine blk_far ?_ NB459_485.out _; (with_reducible repeat (first | refine blk_drewN ?_ _ | refine blk_drew ?_ | refine blk_alloc ?_ _)); refine blk_far ?_ NB459_485.out _; (with_reducible repeat (first | refine blk_drewN ?_ _ | refine blk_drew ?_ | refine blk_alloc ?_ _)); exact BK459.out⟩, ⟨by (with_reducible repeat (first | refine blk_drewN ?_ _ | refine blk_drew ?_ | refine blk_alloc ?_ _)); refine blk_far ?_ NB460_468.out _; (with_reducible repeat (first | refine blk_drewN ?_ _ | refine blk_drew ?_ | refine blk_alloc ?_ _)); refine blk_far ?_ NB460_468.out _; (with_reducible repeat (first | refine blk_drewN ?_ _ | refine blk_drew ?_ | refine blk_alloc ?_ _)); refine blk_far ?_ NB460_485.out _; (with_reducible repeat (first | refine blk_drewN ?_ _ | refine blk_drew ?_ | refine blk_alloc ?_ _)); refine blk_far ?_ NB460_485.out _; (with_reducible repeat (first | refine blk_drewN ?_ _ | refine blk_drew ?_ | refine blk_alloc ?_ _)); exact BK460.out⟩, ⟨by (with_reducible repeat (first | refine blk_drewN ?_ _ | refine blk_drew ?_ | refine blk_alloc ?_ _)); refine blk_put (cs := #[.slice Ao49 t478.length co49, .slice Ao46 x469001_1.length co46]) ?_ 1 _ rfl; (with_reducible repeat (first | refine blk_drewN ?_ _ | refine blk_drew ?_ | refine blk_alloc ?_ _)); refine blk_put (cs := #[.slice Ao45 x469000_1.length co45, .slice Ao46 x469001_1.length co46]) ?_ 0 _ rfl; (with_reducible repeat (first | refine blk_drewN ?_ _ | refine blk_drew ?_ | refine blk_alloc ?_ _)); refine blk_far ?_ NB468_485.out _; (with_reducible repeat (first | refine blk_drewN ?_ _ | refine blk_drew ?_ | refine blk_alloc ?_ _)); refine blk_far ?_ NB468_485.out _; (with_reducible repeat (first | refine blk_drewN ?_ _ | refine blk_drew ?_ | refine blk_alloc ?_ _)); exact BK468.out⟩, ⟨by repeat (first | (with_reducible first | exact HB.out | apply below_alloc | apply pw_below_drewN | apply below_drew1 | refine below_set ?_ GE459.out | refine below_set ?_ GE460.out | refine below_set ?_ GE468.out | refine below_set ?_ GE485.out) | exact HB.out)⟩⟩
                  · rw [if_neg c41] at H
                    have c41b0 : decide (0 < x4_1) = false := decide_eq_false c41
                    clear c41
                    have H' := Aside0.mk H
                    clear H
                    have p477 : 0 ≤ (x44_1 : Int) := of_decide_eq_true (by first | (with_reducible assumption) | assumption)
                    have q477 : x44_1 < (l3.length : Int) := of_decide_eq_true (by first | (with_reducible assumption) | assumption)
                    obtain ⟨ad477, e477, hx477_0⟩ := Kd.at_string HR3.out x44_1 p477 q477
                    cases e477
                    replace hx477_0 := (HB.out.cell (World.block_lt_of_cell? w _ hx477_0)).trans hx477_0
                    replace p477 := eq_true p477
                    replace q477 := eq_true q477
                    have hnb56 := NB468_459.out
                    have hnc56 := NB459_468.out
                    have hnb57 := NB468_460.out
                    have hnc57 := NB460_468.out
                    have hcz58_0 : wr.cell? ⟨gb468, 0, none⟩ = some (u469000) := (blk_cell BK468.out 0).trans rfl
                    have hcz58_1 : wr.cell? ⟨gb468, 1, none⟩ = some (u469001) := (blk_cell BK468.out 1).trans rfl
                    have hfz58_0 := blk_frozen BK468.out 0
                    have hfz58_1 := blk_frozen BK468.out 1
                    obtain ⟨Ao59, co59, eo59⟩ := Kd.R_slice HO_469000.out
                    subst eo59
                    obtain ⟨Ao60, co60, eo60⟩ := Kd.R_slice HO_469001.out
                    subst eo60
                    go_wp2_with (first | ((with_reducible refine gate_callee (f := 31) rfl ?_); refine goesL_ (some 56) rfl rfl Try.func31 (by kernel_rfl) rfl #[.agg #[.slice Ao59 x469000_1.length co59, .slice Ao60 x469001_1.length co60], .int .i64 a1, .int .i64 a2, .string (rdOf ByteArray.empty l3 x44_1)] rfl (by (try simp only [List.map_toArray, List.map_cons, List.map_nil]); first | done | rfl | (simp only [List.length_drop, List.length_take]; rfl)) ?_; (with_reducible refine (wal_Append.calls _ _ x469000_1 _ _ x469001_1 a1 a2 (rdOf ByteArray.empty l3 x44_1) t478 t481 t484 _ ?side1 ?side2 ?side3 ?side4 A39.out).mono ?_); (case side1 => repeat (first | exact (Kd.R_reads' HO_469000.out).2.2 | (with_reducible refine Kd.C_alloc ?_ _) | (with_reducible refine Kd.C_drewN ?_ _) | (with_reducible refine Kd.C_drew ?_))); (case side2 => exact (Kd.R_reads' HO_469000.out).2.1); (case side3 => repeat (first | exact (Kd.R_reads' HO_469001.out).2.2 | (with_reducible refine Kd.C_alloc ?_ _) | (with_reducible refine Kd.C_drewN ?_ _) | (with_reducible refine Kd.C_drew ?_))); (case side4 => exact (Kd.R_reads' HO_469001.out).2.1); rintro e w61 ⟨v479, v482, rfl, ho0, ho1, hb⟩; refine ⟨_, rfl, ?_⟩; have n0_ := Aside0.mk (Kd.R_elder' (by (with_reducible repeat (first | apply Kd.R_alloc | apply Kd.R_drewN | apply Kd.R_drew)); exact HO_469000.out) (Kd.R_base ho0) hb); have n1_ := Aside0.mk (Kd.R_elder' (by (with_reducible repeat (first | apply Kd.R_alloc | apply Kd.R_drewN | apply Kd.R_drew)); exact HO_469001.out) (Kd.R_base ho1) hb); have n2_ := Aside0.mk (Kd.R_lower (Kd.R_new' ho0 (Kd.R_lt (by (with_reducible repeat (first | apply Kd.R_alloc | apply Kd.R_drewN | apply Kd.R_drew)); exact HO_469000.out))) (below_size (by repeat (first | (with_reducible first | exact HB.out | apply below_alloc | apply pw_below_drewN | apply below_drew1 | refine below_set ?_ GE459.out | refine below_set ?_ GE460.out | refine below_set ?_ GE468.out) | exact HB.out)))); have n3_ := Aside0.mk (Kd.R_lower (Kd.R_new' ho1 (Kd.R_lt (by (with_reducible repeat (first | apply Kd.R_alloc | apply Kd.R_drewN | apply Kd.R_drew)); exact HO_469001.out))) (below_size (by repeat (first | (with_reducible first | exact HB.out | apply below_alloc | apply pw_below_drewN | apply below_drew1 | refine below_set ?_ GE459.out | refine below_set ?_ GE460.out | refine below_set ?_ GE468.out) | exact HB.out)))); have n4_ := Aside0.mk (blk_below (g := gb459) (o := .cells #[.slice A0_0 l0_0.length c0_0, .slice A0_1 l0_1.length c0_1] 25 (0, 0)) (by (with_reducible repeat (first | refine blk_drewN ?_ _ | refine blk_drew ?_ | refine blk_alloc ?_ _)); exact BK459.out) hb); have n5_ := Aside0.mk (blk_below (g := gb460) (o := .cells #[.slice none 0 0, .slice none 0 0] 25 (0, 0)) (by (with_reducible repeat (first | refine blk_drewN ?_ _ | refine blk_drew ?_ | refine blk_alloc ?_ _)); exact BK460.out) hb); have n6_ := Aside0.mk (blk_below (g := gb468) (o := .cells #[.slice Ao59 x469000_1.length co59, .slice Ao60 x469001_1.length co60] 25 (0, 0)) (by (with_reducible repeat (first | refine blk_drewN ?_ _ | refine blk_drew ?_ | refine blk_alloc ?_ _)); exact BK468.out) hb); have n7_ := Aside0.mk (below_step (by repeat (first | (with_reducible first | exact HB.out | apply below_alloc | apply pw_below_drewN | apply below_drew1 | refine below_set ?_ GE459.out | refine below_set ?_ GE460.out | refine below_set ?_ GE468.out) | exact HB.out)) hb); clear HO_469000; clear HO_469001; clear BK459; clear BK460; clear BK468; clear HB; have HO_469000 := n0_; have HO_469001 := n1_; have HO480 := n2_; have HO483 := n3_; have BK459 := n4_; have BK460 := n5_; have BK468 := n6_; have HB := n7_; clear n0_ n1_ n2_ n3_ n4_ n5_ n6_ n7_; (try clear hb); (try clear hb2); (try clear hk); (try clear hi); (try clear ho0); (try clear ho1)) | ((with_reducible refine gate_dst (N := 17) rfl ?_); refine box_event ?hg (N := 17) ?hd (cs := #[.slice none 0 0, .slice none 0 0]) (t := 25) ?hr ?_; (case hd => rfl); (case hg => rfl); (case hr => first | (go_simp; done) | (go_simp; rfl)); intro gb485 hg w62 hbox hb; have n0_ := Aside0.mk (Kd.R_below (by (with_reducible repeat (first | apply Kd.R_alloc | apply Kd.R_drewN | apply Kd.R_drew)); exact HO_469000.out) hb); have n1_ := Aside0.mk (Kd.R_below (by (with_reducible repeat (first | apply Kd.R_alloc | apply Kd.R_drewN | apply Kd.R_drew)); exact HO_469001.out) hb); have n2_ := Aside0.mk (Kd.R_below (by (with_reducible repeat (first | apply Kd.R_alloc | apply Kd.R_drewN | apply Kd.R_drew)); exact HO480.out) hb); have n3_ := Aside0.mk (Kd.R_below (by (with_reducible repeat (first | apply Kd.R_alloc | apply Kd.R_drewN | apply Kd.R_drew)); exact HO483.out) hb); have n4_ := Aside0.mk (blk_below (g := gb459) (o := .cells #[.slice A0_0 l0_0.length c0_0, .slice A0_1 l0_1.length c0_1] 25 (0, 0)) (by (with_reducible repeat (first | refine blk_drewN ?_ _ | refine blk_drew ?_ | refine blk_alloc ?_ _)); exact BK459.out) hb); have n5_ := Aside0.mk (blk_below (g := gb460) (o := .cells #[.slice none 0 0, .slice none 0 0] 25 (0, 0)) (by (with_reducible repeat (first | refine blk_drewN ?_ _ | refine blk_drew ?_ | refine blk_alloc ?_ _)); exact BK460.out) hb); have n6_ := Aside0.mk (blk_below (g := gb468) (o := .cells #[.slice Ao59 x469000_1.length co59, .slice Ao60 x469001_1.length co60] 25 (0, 0)) (by (with_reducible repeat (first | refine blk_drewN ?_ _ | refine blk_drew ?_ | refine blk_alloc ?_ _)); exact BK468.out) hb); have n7_ := Aside0.mk (below_step (by repeat (first | (with_reducible first | exact HB.out | apply below_alloc | apply pw_below_drewN | apply below_drew1 | refine below_set ?_ GE459.out | refine below_set ?_ GE460.out | refine below_set ?_ GE468.out) | exact HB.out)) hb); have n8_ := Aside0.mk (hbox); have n9_ := Aside0.mk ((by rw [hg]; exact (below_size (by repeat (first | (with_reducible first | exact HB.out | apply below_alloc | apply pw_below_drewN | apply below_drew1 | refine below_set ?_ GE459.out | refine below_set ?_ GE460.out | refine below_set ?_ GE468.out) | exact HB.out))) : w.heap.size ≤ gb485)); have n10_ := Aside0.mk ((by rw [hg]; exact (below_size (by repeat (first | (with_reducible first | exact HB.out | apply below_alloc | apply pw_below_drewN | apply below_drew1 | refine below_set ?_ GE459.out | refine below_set ?_ GE460.out | refine below_set ?_ GE468.out) | exact HB.out))) : w.heap.size ≤ gb485)); have n11_ := Aside0.mk ((by rw [hg]; exact Nat.ne_of_lt (blk_lt (g := gb459) (o := .cells #[.slice A0_0 l0_0.length c0_0, .slice A0_1 l0_1.length c0_1] 25 (0, 0)) (by (with_reducible repeat (first | refine blk_drewN ?_ _ | refine blk_drew ?_ | refine blk_alloc ?_ _)); exact BK459.out)) : gb459 ≠ gb485)); have n12_ := Aside0.mk ((by rw [hg]; exact Nat.ne_of_gt (blk_lt (g := gb459) (o := .cells #[.slice A0_0 l0_0.length c0_0, .slice A0_1 l0_1.length c0_1] 25 (0, 0)) (by (with_reducible repeat (first | refine blk_drewN ?_ _ | refine blk_drew ?_ | refine blk_alloc ?_ _)); exact BK459.out)) : gb485 ≠ gb459)); have n13_ := Aside0.mk ((by rw [hg]; exact Nat.ne_of_lt (blk_lt (g := gb460) (o := .cells #[.slice none 0 0, .slice none 0 0] 25 (0, 0)) (by (with_reducible repeat (first | refine blk_drewN ?_ _ | refine blk_drew ?_ | refine blk_alloc ?_ _)); exact BK460.out)) : gb460 ≠ gb485)); have n14_ := Aside0.mk ((by rw [hg]; exact Nat.ne_of_gt (blk_lt (g := gb460) (o := .cells #[.slice none 0 0, .slice none 0 0] 25 (0, 0)) (by (with_reducible repeat (first | refine blk_drewN ?_ _ | refine blk_drew ?_ | refine blk_alloc ?_ _)); exact BK460.out)) : gb485 ≠ gb460)); have n15_ := Aside0.mk ((by rw [hg]; exact Nat.ne_of_lt (blk_lt (g := gb468) (o := .cells #[.slice Ao59 x469000_1.length co59, .slice Ao60 x469001_1.length co60] 25 (0, 0)) (by (with_reducible repeat (first | refine blk_drewN ?_ _ | refine blk_drew ?_ | refine blk_alloc ?_ _)); exact BK468.out)) : gb468 ≠ gb485)); have n16_ := Aside0.mk ((by rw [hg]; exact Nat.ne_of_gt (blk_lt (g := gb468) (o := .cells #[.slice Ao59 x469000_1.length co59, .slice Ao60 x469001_1.length co60] 25 (0, 0)) (by (with_reducible repeat (first | refine blk_drewN ?_ _ | refine blk_drew ?_ | refine blk_alloc ?_ _)); exact BK468.out)) : gb485 ≠ gb468)); clear HO_469000; clear HO_469001; clear HO480; clear HO483; clear BK459; clear BK460; clear BK468; clear HB; have HO_469000 := n0_; have HO_469001 := n1_; have HO480 := n2_; have HO483 := n3_; have BK459 := n4_; have BK460 := n5_; have BK468 := n6_; have HB := n7_; have BK485 := n8_; have GW485 := n9_; have GE485 := n10_; have NB459_485 := n11_; have NB485_459 := n12_; have NB460_485 := n13_; have NB485_460 := n14_; have NB468_485 := n15_; have NB485_468 := n16_; clear n0_ n1_ n2_ n3_ n4_ n5_ n6_ n7_ n8_ n9_ n10_ n11_ n12_ n13_ n14_ n15_ n16_; clear hb hbox hg; obtain ⟨Ao63, co63, eo63⟩ := Kd.R_slice HO480.out; subst eo63; have hnb64 := NB485_459.out; have hnc64 := NB459_485.out; have hnb65 := NB485_460.out; have hnc65 := NB460_485.out; have hnb66 := NB485_468.out; have hnc66 := NB468_485.out; have hcz67_0 : w62.cell? ⟨gb485, 0, none⟩ = some (.slice none 0 0) := (blk_cell BK485.out 0).trans rfl; have hcz67_1 : w62.cell? ⟨gb485, 1, none⟩ = some (.slice none 0 0) := (blk_cell BK485.out 1).trans rfl; have hfz67_0 := blk_frozen BK485.out 0; have hfz67_1 := blk_frozen BK485.out 1; obtain ⟨Ao68, co68, eo68⟩ := Kd.R_slice HO483.out; subst eo68; have hcz69_0 : w62.cell? ⟨gb468, 0, none⟩ = some (.slice Ao59 x469000_1.length co59) := (blk_cell BK468.out 0).trans rfl; have hcz69_1 : w62.cell? ⟨gb468, 1, none⟩ = some (.slice Ao60 x469001_1.length co60) := (blk_cell BK468.out 1).trans rfl; have hfz69_0 := blk_frozen BK468.out 0; have hfz69_1 := blk_frozen BK468.out 1))
                    go_roundg k1
                    case measure => have := HK1.out; omega
                    case rel => exact ⟨(x4_1), (wrap64 (x44_1 + 1)), (t478), (t481), (.slice Ao63 t478.length co63), (.slice Ao68 t481.length co68), (by first | rfl | (simp; done) | (simp [*]; done)), (by first | rfl | (simp; done) | (simp [*]; done)), H', ⟨by have := HK1.out; omega⟩, ⟨by (with_reducible repeat (first | apply Kd.R_alloc | apply Kd.R_drewN | apply Kd.R_drew)); exact Kd.R_mono (Kd.R_far (p := ⟨gb468, 1, none⟩) (Kd.R_far (p := ⟨gb468, 0, none⟩) (Kd.R_far (p := ⟨gb485, 1, none⟩) (Kd.R_far (p := ⟨gb485, 0, none⟩) (Kd.R_types (Kd.R_types HO480.out BK485.out (by decide)) BK468.out (by decide)) (fun _ hk => hk.1.2) (.slice Ao63 t478.length co63)) (fun _ hk => hk.1.2) (.slice Ao68 t481.length co68)) (fun _ hk => hk.2) (.slice Ao63 t478.length co63)) (fun _ hk => hk.2) (.slice Ao68 t481.length co68)) (fun _ hk => trivial)⟩, ⟨by (with_reducible repeat (first | apply Kd.R_alloc | apply Kd.R_drewN | apply Kd.R_drew)); exact Kd.R_mono (Kd.R_far (p := ⟨gb468, 1, none⟩) (Kd.R_far (p := ⟨gb468, 0, none⟩) (Kd.R_far (p := ⟨gb485, 1, none⟩) (Kd.R_far (p := ⟨gb485, 0, none⟩) (Kd.R_types (Kd.R_types HO483.out BK485.out (by decide)) BK468.out (by decide)) (fun _ hk => hk.1.2) (.slice Ao63 t478.length co63)) (fun _ hk => hk.1.2) (.slice Ao68 t481.length co68)) (fun _ hk => hk.2) (.slice Ao63 t478.length co63)) (fun _ hk => hk.2) (.slice Ao68 t481.length co68)) (fun _ hk => trivial)⟩, ⟨by (with_reducible repeat (first | refine blk_drewN ?_ _ | refine blk_drew ?_ | refine blk_alloc ?_ _)); refine blk_far ?_ NB459_468.out _; (with_reducible repeat (first | refine blk_drewN ?_ _ | refine blk_drew ?_ | refine blk_alloc ?_ _)); refine blk_far ?_ NB459_468.out _; (with_reducible repeat (first | refine blk_drewN ?_ _ | refine blk_drew ?_ | refine blk_alloc ?_ _)); refine blk_far ?_ NB459_485.out _; (with_reducible repeat (first | refine blk_drewN ?_ _ | refine blk_drew ?_ | refine blk_alloc ?_ _)); refine blk_far ?_ NB459_485.out _; (with_reducible repeat (first | refine blk_drewN ?_ _ | refine blk_drew ?_ | refine blk_alloc ?_ _)); exact BK459.out⟩, ⟨by (with_reducible repeat (first | refine blk_drewN ?_ _ | refine blk_drew ?_ | refine blk_alloc ?_ _)); refine blk_far ?_ NB460_468.out _; (with_reducible repeat (first | refine blk_drewN ?_ _ | refine blk_drew ?_ | refine blk_alloc ?_ _)); refine blk_far ?_ NB460_468.out _; (with_reducible repeat (first | refine blk_drewN ?_ _ | refine blk_drew ?_ | refine blk_alloc ?_ _)); refine blk_far ?_ NB460_485.out _; (with_reducible repeat (first | refine blk_drewN ?_ _ | refine blk_drew ?_ | refine blk_alloc ?_ _)); refine blk_far ?_ NB460_485.out _; (with_reducible repeat (first | refine blk_drewN ?_ _ | refine blk_drew ?_ | refine blk_alloc ?_ _)); exact BK460.out⟩, ⟨by (with_reducible repeat (first | refine blk_drewN ?_ _ | refine blk_drew ?_ | refine blk_alloc ?_ _)); refine blk_put (cs := #[.slice Ao63 t478.length co63, .slice Ao60 x469001_1.length co60]) ?_ 1 _ rfl; (with_reducible repeat (first | refine blk_drewN ?_ _ | refine blk_drew ?_ | refine blk_alloc ?_ _)); refine blk_put (cs := #[.slice Ao59 x469000_1.length co59, .slice Ao60 x469001_1.length co60]) ?_ 0 _ rfl; (with_reducible repeat (first | refine blk_drewN ?_ _ | refine blk_drew ?_ | refine blk_alloc ?_ _)); refine blk_far ?_ NB468_485.out _; (with_reducible repeat (first | refine blk_drewN ?_ _ | refine blk_drew ?_ | refine blk_alloc ?_ _)); refine blk_far ?_ NB468_485.out _; (with_reducible repeat (first | refine blk_drewN ?_ _ | refine blk_drew ?_ | refine blk_alloc ?_ _)); exact BK468.out⟩, ⟨by repeat (first | (with_reducible first | exact HB.out | apply below_alloc | apply pw_below_drewN | apply below_drew1 | refine below_set ?_ GE459.out | refine below_set ?_ GE460.out | refine below_set ?_ GE468.out | refine below_set ?_ GE485.out) | exact HB.out)⟩⟩
                · rw [if_neg c40] at H
                  have c40b0 : (t484 == 0) = false := beq_eq_false_iff_ne.mpr c40
                  have c40b1 : (t484 != 0) = true := bne_iff_ne.mpr c40
                  simp only [Option.some.injEq, Prod.mk.injEq] at H
                  obtain ⟨rfl, rfl, rfl, rfl⟩ := H
                  have p477 : 0 ≤ (x44_1 : Int) := of_decide_eq_true (by first | (with_reducible assumption) | assumption)
                  have q477 : x44_1 < (l3.length : Int) := of_decide_eq_true (by first | (with_reducible assumption) | assumption)
                  obtain ⟨ad477, e477, hx477_0⟩ := Kd.at_string HR3.out x44_1 p477 q477
                  cases e477
                  replace hx477_0 := (HB.out.cell (World.block_lt_of_cell? w _ hx477_0)).trans hx477_0
                  replace p477 := eq_true p477
                  replace q477 := eq_true q477
                  have hnb70 := NB468_459.out
                  have hnc70 := NB459_468.out
                  have hnb71 := NB468_460.out
                  have hnc71 := NB460_468.out
                  have hcz72_0 : wr.cell? ⟨gb468, 0, none⟩ = some (u469000) := (blk_cell BK468.out 0).trans rfl
                  have hcz72_1 : wr.cell? ⟨gb468, 1, none⟩ = some (u469001) := (blk_cell BK468.out 1).trans rfl
                  have hfz72_0 := blk_frozen BK468.out 0
                  have hfz72_1 := blk_frozen BK468.out 1
                  obtain ⟨Ao73, co73, eo73⟩ := Kd.R_slice HO_469000.out
                  subst eo73
                  obtain ⟨Ao74, co74, eo74⟩ := Kd.R_slice HO_469001.out
                  subst eo74
                  go_wp2_with (first | ((with_reducible refine gate_callee (f := 31) rfl ?_); refine goesL_ (some 56) rfl rfl Try.func31 (by kernel_rfl) rfl #[.agg #[.slice Ao73 x469000_1.length co73, .slice Ao74 x469001_1.length co74], .int .i64 a1, .int .i64 a2, .string (rdOf ByteArray.empty l3 x44_1)] rfl (by (try simp only [List.map_toArray, List.map_cons, List.map_nil]); first | done | rfl | (simp only [List.length_drop, List.length_take]; rfl)) ?_; (with_reducible refine (wal_Append.calls _ _ x469000_1 _ _ x469001_1 a1 a2 (rdOf ByteArray.empty l3 x44_1) t478 t481 t484 _ ?side1 ?side2 ?side3 ?side4 A39.out).mono ?_); (case side1 => repeat (first | exact (Kd.R_reads' HO_469000.out).2.2 | (with_reducible refine Kd.C_alloc ?_ _) | (with_reducible refine Kd.C_drewN ?_ _) | (with_reducible refine Kd.C_drew ?_))); (case side2 => exact (Kd.R_reads' HO_469000.out).2.1); (case side3 => repeat (first | exact (Kd.R_reads' HO_469001.out).2.2 | (with_reducible refine Kd.C_alloc ?_ _) | (with_reducible refine Kd.C_drewN ?_ _) | (with_reducible refine Kd.C_drew ?_))); (case side4 => exact (Kd.R_reads' HO_469001.out).2.1); rintro e w75 ⟨v479, v482, rfl, ho0, ho1, hb⟩; refine ⟨_, rfl, ?_⟩; have n0_ := Aside0.mk (Kd.R_elder' (by (with_reducible repeat (first | apply Kd.R_alloc | apply Kd.R_drewN | apply Kd.R_drew)); exact HO_469000.out) (Kd.R_base ho0) hb); have n1_ := Aside0.mk (Kd.R_elder' (by (with_reducible repeat (first | apply Kd.R_alloc | apply Kd.R_drewN | apply Kd.R_drew)); exact HO_469001.out) (Kd.R_base ho1) hb); have n2_ := Aside0.mk (Kd.R_lower (Kd.R_new' ho0 (Kd.R_lt (by (with_reducible repeat (first | apply Kd.R_alloc | apply Kd.R_drewN | apply Kd.R_drew)); exact HO_469000.out))) (below_size (by repeat (first | (with_reducible first | exact HB.out | apply below_alloc | apply pw_below_drewN | apply below_drew1 | refine below_set ?_ GE459.out | refine below_set ?_ GE460.out | refine below_set ?_ GE468.out) | exact HB.out)))); have n3_ := Aside0.mk (Kd.R_lower (Kd.R_new' ho1 (Kd.R_lt (by (with_reducible repeat (first | apply Kd.R_alloc | apply Kd.R_drewN | apply Kd.R_drew)); exact HO_469001.out))) (below_size (by repeat (first | (with_reducible first | exact HB.out | apply below_alloc | apply pw_below_drewN | apply below_drew1 | refine below_set ?_ GE459.out | refine below_set ?_ GE460.out | refine below_set ?_ GE468.out) | exact HB.out)))); have n4_ := Aside0.mk (blk_below (g := gb459) (o := .cells #[.slice A0_0 l0_0.length c0_0, .slice A0_1 l0_1.length c0_1] 25 (0, 0)) (by (with_reducible repeat (first | refine blk_drewN ?_ _ | refine blk_drew ?_ | refine blk_alloc ?_ _)); exact BK459.out) hb); have n5_ := Aside0.mk (blk_below (g := gb460) (o := .cells #[.slice none 0 0, .slice none 0 0] 25 (0, 0)) (by (with_reducible repeat (first | refine blk_drewN ?_ _ | refine blk_drew ?_ | refine blk_alloc ?_ _)); exact BK460.out) hb); have n6_ := Aside0.mk (blk_below (g := gb468) (o := .cells #[.slice Ao73 x469000_1.length co73, .slice Ao74 x469001_1.length co74] 25 (0, 0)) (by (with_reducible repeat (first | refine blk_drewN ?_ _ | refine blk_drew ?_ | refine blk_alloc ?_ _)); exact BK468.out) hb); have n7_ := Aside0.mk (below_step (by repeat (first | (with_reducible first | exact HB.out | apply below_alloc | apply pw_below_drewN | apply below_drew1 | refine below_set ?_ GE459.out | refine below_set ?_ GE460.out | refine below_set ?_ GE468.out) | exact HB.out)) hb); clear HO_469000; clear HO_469001; clear BK459; clear BK460; clear BK468; clear HB; have HO_469000 := n0_; have HO_469001 := n1_; have HO480 := n2_; have HO483 := n3_; have BK459 := n4_; have BK460 := n5_; have BK468 := n6_; have HB := n7_; clear n0_ n1_ n2_ n3_ n4_ n5_ n6_ n7_; (try clear hb); (try clear hb2); (try clear hk); (try clear hi); (try clear ho0); (try clear ho1)) | ((with_reducible refine gate_dst (N := 17) rfl ?_); refine box_event ?hg (N := 17) ?hd (cs := #[.slice none 0 0, .slice none 0 0]) (t := 25) ?hr ?_; (case hd => rfl); (case hg => rfl); (case hr => first | (go_simp; done) | (go_simp; rfl)); intro gb485 hg w76 hbox hb; have n0_ := Aside0.mk (Kd.R_below (by (with_reducible repeat (first | apply Kd.R_alloc | apply Kd.R_drewN | apply Kd.R_drew)); exact HO_469000.out) hb); have n1_ := Aside0.mk (Kd.R_below (by (with_reducible repeat (first | apply Kd.R_alloc | apply Kd.R_drewN | apply Kd.R_drew)); exact HO_469001.out) hb); have n2_ := Aside0.mk (Kd.R_below (by (with_reducible repeat (first | apply Kd.R_alloc | apply Kd.R_drewN | apply Kd.R_drew)); exact HO480.out) hb); have n3_ := Aside0.mk (Kd.R_below (by (with_reducible repeat (first | apply Kd.R_alloc | apply Kd.R_drewN | apply Kd.R_drew)); exact HO483.out) hb); have n4_ := Aside0.mk (blk_below (g := gb459) (o := .cells #[.slice A0_0 l0_0.length c0_0, .slice A0_1 l0_1.length c0_1] 25 (0, 0)) (by (with_reducible repeat (first | refine blk_drewN ?_ _ | refine blk_drew ?_ | refine blk_alloc ?_ _)); exact BK459.out) hb); have n5_ := Aside0.mk (blk_below (g := gb460) (o := .cells #[.slice none 0 0, .slice none 0 0] 25 (0, 0)) (by (with_reducible repeat (first | refine blk_drewN ?_ _ | refine blk_drew ?_ | refine blk_alloc ?_ _)); exact BK460.out) hb); have n6_ := Aside0.mk (blk_below (g := gb468) (o := .cells #[.slice Ao73 x469000_1.length co73, .slice Ao74 x469001_1.length co74] 25 (0, 0)) (by (with_reducible repeat (first | refine blk_drewN ?_ _ | refine blk_drew ?_ | refine blk_alloc ?_ _)); exact BK468.out) hb); have n7_ := Aside0.mk (below_step (by repeat (first | (with_reducible first | exact HB.out | apply below_alloc | apply pw_below_drewN | apply below_drew1 | refine below_set ?_ GE459.out | refine below_set ?_ GE460.out | refine below_set ?_ GE468.out) | exact HB.out)) hb); have n8_ := Aside0.mk (hbox); have n9_ := Aside0.mk ((by rw [hg]; exact (below_size (by repeat (first | (with_reducible first | exact HB.out | apply below_alloc | apply pw_below_drewN | apply below_drew1 | refine below_set ?_ GE459.out | refine below_set ?_ GE460.out | refine below_set ?_ GE468.out) | exact HB.out))) : w.heap.size ≤ gb485)); have n10_ := Aside0.mk ((by rw [hg]; exact (below_size (by repeat (first | (with_reducible first | exact HB.out | apply below_alloc | apply pw_below_drewN | apply below_drew1 | refine below_set ?_ GE459.out | refine below_set ?_ GE460.out | refine below_set ?_ GE468.out) | exact HB.out))) : w.heap.size ≤ gb485)); have n11_ := Aside0.mk ((by rw [hg]; exact Nat.ne_of_lt (blk_lt (g := gb459) (o := .cells #[.slice A0_0 l0_0.length c0_0, .slice A0_1 l0_1.length c0_1] 25 (0, 0)) (by (with_reducible repeat (first | refine blk_drewN ?_ _ | refine blk_drew ?_ | refine blk_alloc ?_ _)); exact BK459.out)) : gb459 ≠ gb485)); have n12_ := Aside0.mk ((by rw [hg]; exact Nat.ne_of_gt (blk_lt (g := gb459) (o := .cells #[.slice A0_0 l0_0.length c0_0, .slice A0_1 l0_1.length c0_1] 25 (0, 0)) (by (with_reducible repeat (first | refine blk_drewN ?_ _ | refine blk_drew ?_ | refine blk_alloc ?_ _)); exact BK459.out)) : gb485 ≠ gb459)); have n13_ := Aside0.mk ((by rw [hg]; exact Nat.ne_of_lt (blk_lt (g := gb460) (o := .cells #[.slice none 0 0, .slice none 0 0] 25 (0, 0)) (by (with_reducible repeat (first | refine blk_drewN ?_ _ | refine blk_drew ?_ | refine blk_alloc ?_ _)); exact BK460.out)) : gb460 ≠ gb485)); have n14_ := Aside0.mk ((by rw [hg]; exact Nat.ne_of_gt (blk_lt (g := gb460) (o := .cells #[.slice none 0 0, .slice none 0 0] 25 (0, 0)) (by (with_reducible repeat (first | refine blk_drewN ?_ _ | refine blk_drew ?_ | refine blk_alloc ?_ _)); exact BK460.out)) : gb485 ≠ gb460)); have n15_ := Aside0.mk ((by rw [hg]; exact Nat.ne_of_lt (blk_lt (g := gb468) (o := .cells #[.slice Ao73 x469000_1.length co73, .slice Ao74 x469001_1.length co74] 25 (0, 0)) (by (with_reducible repeat (first | refine blk_drewN ?_ _ | refine blk_drew ?_ | refine blk_alloc ?_ _)); exact BK468.out)) : gb468 ≠ gb485)); have n16_ := Aside0.mk ((by rw [hg]; exact Nat.ne_of_gt (blk_lt (g := gb468) (o := .cells #[.slice Ao73 x469000_1.length co73, .slice Ao74 x469001_1.length co74] 25 (0, 0)) (by (with_reducible repeat (first | refine blk_drewN ?_ _ | refine blk_drew ?_ | refine blk_alloc ?_ _)); exact BK468.out)) : gb485 ≠ gb468)); clear HO_469000; clear HO_469001; clear HO480; clear HO483; clear BK459; clear BK460; clear BK468; clear HB; have HO_469000 := n0_; have HO_469001 := n1_; have HO480 := n2_; have HO483 := n3_; have BK459 := n4_; have BK460 := n5_; have BK468 := n6_; have HB := n7_; have BK485 := n8_; have GW485 := n9_; have GE485 := n10_; have NB459_485 := n11_; have NB485_459 := n12_; have NB460_485 := n13_; have NB485_460 := n14_; have NB468_485 := n15_; have NB485_468 := n16_; clear n0_ n1_ n2_ n3_ n4_ n5_ n6_ n7_ n8_ n9_ n10_ n11_ n12_ n13_ n14_ n15_ n16_; clear hb hbox hg; obtain ⟨Ao77, co77, eo77⟩ := Kd.R_slice HO480.out; subst eo77; have hnb78 := NB485_459.out; have hnc78 := NB459_485.out; have hnb79 := NB485_460.out; have hnc79 := NB460_485.out; have hnb80 := NB485_468.out; have hnc80 := NB468_485.out; have hcz81_0 : w76.cell? ⟨gb485, 0, none⟩ = some (.slice none 0 0) := (blk_cell BK485.out 0).trans rfl; have hcz81_1 : w76.cell? ⟨gb485, 1, none⟩ = some (.slice none 0 0) := (blk_cell BK485.out 1).trans rfl; have hfz81_0 := blk_frozen BK485.out 0; have hfz81_1 := blk_frozen BK485.out 1; obtain ⟨Ao82, co82, eo82⟩ := Kd.R_slice HO483.out; subst eo82; have hnb83 := NB460_459.out; have hnc83 := NB459_460.out; have hcz84_0 : w76.cell? ⟨gb460, 0, none⟩ = some (.slice none 0 0) := (blk_cell BK460.out 0).trans rfl; have hcz84_1 : w76.cell? ⟨gb460, 1, none⟩ = some (.slice none 0 0) := (blk_cell BK460.out 1).trans rfl; have hfz84_0 := blk_frozen BK460.out 0; have hfz84_1 := blk_frozen BK460.out 1))
                  refine bodyPost_ret (results_ctt rfl _ _ gb460 25 #[.slice none 0 0, .slice none 0 0] (0, 0) _ rfl (by (with_reducible repeat (first | refine blk_drewN ?_ _ | refine blk_drew ?_ | refine blk_alloc ?_ _)); refine blk_put (cs := #[.slice none 0 0, .slice none 0 0]) ?_ 1 _ rfl; (with_reducible repeat (first | refine blk_drewN ?_ _ | refine blk_drew ?_ | refine blk_alloc ?_ _)); refine blk_put (cs := #[.slice none 0 0, .slice none 0 0]) ?_ 0 _ rfl; (with_reducible repeat (first | refine blk_drewN ?_ _ | refine blk_drew ?_ | refine blk_alloc ?_ _)); refine blk_far ?_ NB460_485.out _; (with_reducible repeat (first | refine blk_drewN ?_ _ | refine blk_drew ?_ | refine blk_alloc ?_ _)); refine blk_far ?_ NB460_485.out _; (with_reducible repeat (first | refine blk_drewN ?_ _ | refine blk_drew ?_ | refine blk_alloc ?_ _)); exact BK460.out) Try.underlying25 rfl (by kernel_rfl)) rfl ?_
                  exact ⟨_, _, by first | rfl | (simp [errW_none, errW_some] <;> rfl) | (simp only [← hji10, ← hji11]; first | rfl | (simp [errW_none, errW_some] <;> rfl)) | (simp [*, errW_none, errW_some] <;> rfl), by first | exact Kd.R_nil _ _ _ _ _ | exact Kd.N_nil _ _ _ _ _ | exact Kd.V_nil _ _ _ _ _ | exact Kd.Q_nil _ _ _ _ _ | exact Kd.S_nil _ _ _ _ _, by first | exact Kd.R_nil _ _ _ _ _ | exact Kd.N_nil _ _ _ _ _ | exact Kd.V_nil _ _ _ _ _ | exact Kd.Q_nil _ _ _ _ _ | exact Kd.S_nil _ _ _ _ _, by repeat (first | (with_reducible first | exact HB.out | apply below_alloc | apply pw_below_drewN | apply below_drew1 | refine below_set ?_ GE459.out | refine below_set ?_ GE460.out | refine below_set ?_ GE468.out | refine below_set ?_ GE485.out) | exact HB.out)⟩
            · rw [if_neg c30] at H
              exact absurd H (by simp)
          · rw [if_neg c29] at H
            exact absurd H (by simp)
        · rw [if_neg c28] at H
          have c28b0 : decide (x44_1 < (l3.length : Int)) = false := decide_eq_false c28
          clear c28
          by_cases c85 : x4_1 = 0
          · rw [if_pos c85] at H
            have c85b0 : (x4_1 == 0) = true := beq_iff_eq.mpr c85
            have c85b1 : (x4_1 != 0) = false := bne_eq_false_iff_eq.mpr c85
            clear c85
            simp only [Option.some.injEq, Prod.mk.injEq] at H
            obtain ⟨rfl, rfl, rfl, rfl⟩ := H
            have hnb86 := NB468_459.out
            have hnc86 := NB459_468.out
            have hnb87 := NB468_460.out
            have hnc87 := NB460_468.out
            have hcz88_0 : wr.cell? ⟨gb468, 0, none⟩ = some (u469000) := (blk_cell BK468.out 0).trans rfl
            have hcz88_1 : wr.cell? ⟨gb468, 1, none⟩ = some (u469001) := (blk_cell BK468.out 1).trans rfl
            have hfz88_0 := blk_frozen BK468.out 0
            have hfz88_1 := blk_frozen BK468.out 1
            obtain ⟨Ao89, co89, eo89⟩ := Kd.R_slice HO_469000.out
            subst eo89
            have hnb90 := NB460_459.out
            have hnc90 := NB459_460.out
            have hcz91_0 : wr.cell? ⟨gb460, 0, none⟩ = some (.slice none 0 0) := (blk_cell BK460.out 0).trans rfl
            have hcz91_1 : wr.cell? ⟨gb460, 1, none⟩ = some (.slice none 0 0) := (blk_cell BK460.out 1).trans rfl
            have hfz91_0 := blk_frozen BK460.out 0
            have hfz91_1 := blk_frozen BK460.out 1
            obtain ⟨Ao92, co92, eo92⟩ := Kd.R_slice HO_469001.out
            subst eo92
            go_wp2
            refine bodyPost_ret (results_ctt rfl _ _ gb460 25 #[.slice Ao89 x469000_1.length co89, .slice Ao92 x469001_1.length co92] (0, 0) _ rfl (by (with_reducible repeat (first | refine blk_drewN ?_ _ | refine blk_drew ?_ | refine blk_alloc ?_ _)); refine blk_put (cs := #[.slice Ao89 x469000_1.length co89, .slice none 0 0]) ?_ 1 _ rfl; (with_reducible repeat (first | refine blk_drewN ?_ _ | refine blk_drew ?_ | refine blk_alloc ?_ _)); refine blk_put (cs := #[.slice none 0 0, .slice none 0 0]) ?_ 0 _ rfl; (with_reducible repeat (first | refine blk_drewN ?_ _ | refine blk_drew ?_ | refine blk_alloc ?_ _)); exact BK460.out) Try.underlying25 rfl (by kernel_rfl)) rfl ?_
            exact ⟨_, _, by first | rfl | (simp [errW_none, errW_some] <;> rfl) | (simp only [← hji10, ← hji11]; first | rfl | (simp [errW_none, errW_some] <;> rfl)) | (simp [*, errW_none, errW_some] <;> rfl), by (with_reducible repeat (first | apply Kd.R_alloc | apply Kd.R_drewN | apply Kd.R_drew)); exact Kd.R_mono (Kd.R_far (p := ⟨gb460, 1, none⟩) (Kd.R_far (p := ⟨gb460, 0, none⟩) (Kd.R_types HO_469000.out BK460.out (by decide)) (fun _ hk => hk.2) (.slice Ao89 x469000_1.length co89)) (fun _ hk => hk.2) (.slice Ao92 x469001_1.length co92)) (fun _ hk => trivial), by (with_reducible repeat (first | apply Kd.R_alloc | apply Kd.R_drewN | apply Kd.R_drew)); exact Kd.R_mono (Kd.R_far (p := ⟨gb460, 1, none⟩) (Kd.R_far (p := ⟨gb460, 0, none⟩) (Kd.R_types HO_469001.out BK460.out (by decide)) (fun _ hk => hk.2) (.slice Ao89 x469000_1.length co89)) (fun _ hk => hk.2) (.slice Ao92 x469001_1.length co92)) (fun _ hk => trivial), by repeat (first | (with_reducible first | exact HB.out | apply below_alloc | apply pw_below_drewN | apply below_drew1 | refine below_set ?_ GE459.out | refine below_set ?_ GE460.out | refine below_set ?_ GE468.out) | exact HB.out)⟩
          · rw [if_neg c85] at H
            have c85b0 : (x4_1 == 0) = false := beq_eq_false_iff_ne.mpr c85
            have c85b1 : (x4_1 != 0) = true := bne_iff_ne.mpr c85
            replace H := Option.bind_eq_some_iff.mp H
            obtain ⟨⟨t469, t472, t475⟩, A930, H⟩ := H
            replace H : (some (t469, t472, true, t475)) = some (r1, r2, r3, r4) := H
            have A93 := Aside0.mk A930
            clear A930
            simp only [Option.some.injEq, Prod.mk.injEq] at H
            obtain ⟨rfl, rfl, rfl, rfl⟩ := H
            have hnb94 := NB468_459.out
            have hnc94 := NB459_468.out
            have hnb95 := NB468_460.out
            have hnc95 := NB460_468.out
            have hcz96_0 : wr.cell? ⟨gb468, 0, none⟩ = some (u469000) := (blk_cell BK468.out 0).trans rfl
            have hcz96_1 : wr.cell? ⟨gb468, 1, none⟩ = some (u469001) := (blk_cell BK468.out 1).trans rfl
            have hfz96_0 := blk_frozen BK468.out 0
            have hfz96_1 := blk_frozen BK468.out 1
            obtain ⟨Ao97, co97, eo97⟩ := Kd.R_slice HO_469000.out
            subst eo97
            obtain ⟨Ao98, co98, eo98⟩ := Kd.R_slice HO_469001.out
            subst eo98
            go_wp2_with (first | ((with_reducible refine gate_callee (f := 17) rfl ?_); refine goesL_ (some 74) rfl rfl Try.func17 (by kernel_rfl) rfl #[.agg #[.slice Ao97 x469000_1.length co97, .slice Ao98 x469001_1.length co98]] rfl (by (try simp only [List.map_toArray, List.map_cons, List.map_nil]); first | done | rfl | (simp only [List.length_drop, List.length_take]; rfl)) ?_; (with_reducible refine (disk_Sync.calls _ _ x469000_1 _ _ x469001_1 t469 t472 t475 _ ?side1 ?side2 ?side3 ?side4 A93.out).mono ?_); (case side1 => repeat (first | exact (Kd.R_reads' HO_469000.out).2.2 | (with_reducible refine Kd.C_alloc ?_ _) | (with_reducible refine Kd.C_drewN ?_ _) | (with_reducible refine Kd.C_drew ?_))); (case side2 => exact (Kd.R_reads' HO_469000.out).2.1); (case side3 => repeat (first | exact (Kd.R_reads' HO_469001.out).2.2 | (with_reducible refine Kd.C_alloc ?_ _) | (with_reducible refine Kd.C_drewN ?_ _) | (with_reducible refine Kd.C_drew ?_))); (case side4 => exact (Kd.R_reads' HO_469001.out).2.1); rintro e w99 ⟨v470, v473, rfl, ho0, ho1, hb⟩; refine ⟨_, rfl, ?_⟩; have n0_ := Aside0.mk (Kd.R_elder' (by (with_reducible repeat (first | apply Kd.R_alloc | apply Kd.R_drewN | apply Kd.R_drew)); exact HO_469000.out) (Kd.R_base ho0) hb); have n1_ := Aside0.mk (Kd.R_elder' (by (with_reducible repeat (first | apply Kd.R_alloc | apply Kd.R_drewN | apply Kd.R_drew)); exact HO_469001.out) (Kd.R_base ho1) hb); have n2_ := Aside0.mk (Kd.R_lower (Kd.R_new' ho0 (Kd.R_lt (by (with_reducible repeat (first | apply Kd.R_alloc | apply Kd.R_drewN | apply Kd.R_drew)); exact HO_469000.out))) (below_size (by repeat (first | (with_reducible first | exact HB.out | apply below_alloc | apply pw_below_drewN | apply below_drew1 | refine below_set ?_ GE459.out | refine below_set ?_ GE460.out | refine below_set ?_ GE468.out) | exact HB.out)))); have n3_ := Aside0.mk (Kd.R_lower (Kd.R_new' ho1 (Kd.R_lt (by (with_reducible repeat (first | apply Kd.R_alloc | apply Kd.R_drewN | apply Kd.R_drew)); exact HO_469001.out))) (below_size (by repeat (first | (with_reducible first | exact HB.out | apply below_alloc | apply pw_below_drewN | apply below_drew1 | refine below_set ?_ GE459.out | refine below_set ?_ GE460.out | refine below_set ?_ GE468.out) | exact HB.out)))); have n4_ := Aside0.mk (blk_below (g := gb459) (o := .cells #[.slice A0_0 l0_0.length c0_0, .slice A0_1 l0_1.length c0_1] 25 (0, 0)) (by (with_reducible repeat (first | refine blk_drewN ?_ _ | refine blk_drew ?_ | refine blk_alloc ?_ _)); exact BK459.out) hb); have n5_ := Aside0.mk (blk_below (g := gb460) (o := .cells #[.slice none 0 0, .slice none 0 0] 25 (0, 0)) (by (with_reducible repeat (first | refine blk_drewN ?_ _ | refine blk_drew ?_ | refine blk_alloc ?_ _)); exact BK460.out) hb); have n6_ := Aside0.mk (blk_below (g := gb468) (o := .cells #[.slice Ao97 x469000_1.length co97, .slice Ao98 x469001_1.length co98] 25 (0, 0)) (by (with_reducible repeat (first | refine blk_drewN ?_ _ | refine blk_drew ?_ | refine blk_alloc ?_ _)); exact BK468.out) hb); have n7_ := Aside0.mk (below_step (by repeat (first | (with_reducible first | exact HB.out | apply below_alloc | apply pw_below_drewN | apply below_drew1 | refine below_set ?_ GE459.out | refine below_set ?_ GE460.out | refine below_set ?_ GE468.out) | exact HB.out)) hb); clear HO_469000; clear HO_469001; clear BK459; clear BK460; clear BK468; clear HB; have HO_469000 := n0_; have HO_469001 := n1_; have HO471 := n2_; have HO474 := n3_; have BK459 := n4_; have BK460 := n5_; have BK468 := n6_; have HB := n7_; clear n0_ n1_ n2_ n3_ n4_ n5_ n6_ n7_; (try clear hb); (try clear hb2); (try clear hk); (try clear hi); (try clear ho0); (try clear ho1)) | ((with_reducible refine gate_dst (N := 19) rfl ?_); refine box_event ?hg (N := 19) ?hd (cs := #[.slice none 0 0, .slice none 0 0]) (t := 25) ?hr ?_; (case hd => rfl); (case hg => rfl); (case hr => first | (go_simp; done) | (go_simp; rfl)); intro gb476 hg w100 hbox hb; have n0_ := Aside0.mk (Kd.R_below (by (with_reducible repeat (first | apply Kd.R_alloc | apply Kd.R_drewN | apply Kd.R_drew)); exact HO_469000.out) hb); have n1_ := Aside0.mk (Kd.R_below (by (with_reducible repeat (first | apply Kd.R_alloc | apply Kd.R_drewN | apply Kd.R_drew)); exact HO_469001.out) hb); have n2_ := Aside0.mk (Kd.R_below (by (with_reducible repeat (first | apply Kd.R_alloc | apply Kd.R_drewN | apply Kd.R_drew)); exact HO471.out) hb); have n3_ := Aside0.mk (Kd.R_below (by (with_reducible repeat (first | apply Kd.R_alloc | apply Kd.R_drewN | apply Kd.R_drew)); exact HO474.out) hb); have n4_ := Aside0.mk (blk_below (g := gb459) (o := .cells #[.slice A0_0 l0_0.length c0_0, .slice A0_1 l0_1.length c0_1] 25 (0, 0)) (by (with_reducible repeat (first | refine blk_drewN ?_ _ | refine blk_drew ?_ | refine blk_alloc ?_ _)); exact BK459.out) hb); have n5_ := Aside0.mk (blk_below (g := gb460) (o := .cells #[.slice none 0 0, .slice none 0 0] 25 (0, 0)) (by (with_reducible repeat (first | refine blk_drewN ?_ _ | refine blk_drew ?_ | refine blk_alloc ?_ _)); exact BK460.out) hb); have n6_ := Aside0.mk (blk_below (g := gb468) (o := .cells #[.slice Ao97 x469000_1.length co97, .slice Ao98 x469001_1.length co98] 25 (0, 0)) (by (with_reducible repeat (first | refine blk_drewN ?_ _ | refine blk_drew ?_ | refine blk_alloc ?_ _)); exact BK468.out) hb); have n7_ := Aside0.mk (below_step (by repeat (first | (with_reducible first | exact HB.out | apply below_alloc | apply pw_below_drewN | apply below_drew1 | refine below_set ?_ GE459.out | refine below_set ?_ GE460.out | refine below_set ?_ GE468.out) | exact HB.out)) hb); have n8_ := Aside0.mk (hbox); have n9_ := Aside0.mk ((by rw [hg]; exact (below_size (by repeat (first | (with_reducible first | exact HB.out | apply below_alloc | apply pw_below_drewN | apply below_drew1 | refine below_set ?_ GE459.out | refine below_set ?_ GE460.out | refine below_set ?_ GE468.out) | exact HB.out))) : w.heap.size ≤ gb476)); have n10_ := Aside0.mk ((by rw [hg]; exact (below_size (by repeat (first | (with_reducible first | exact HB.out | apply below_alloc | apply pw_below_drewN | apply below_drew1 | refine below_set ?_ GE459.out | refine below_set ?_ GE460.out | refine below_set ?_ GE468.out) | exact HB.out))) : w.heap.size ≤ gb476)); have n11_ := Aside0.mk ((by rw [hg]; exact Nat.ne_of_lt (blk_lt (g := gb459) (o := .cells #[.slice A0_0 l0_0.length c0_0, .slice A0_1 l0_1.length c0_1] 25 (0, 0)) (by (with_reducible repeat (first | refine blk_drewN ?_ _ | refine blk_drew ?_ | refine blk_alloc ?_ _)); exact BK459.out)) : gb459 ≠ gb476)); have n12_ := Aside0.mk ((by rw [hg]; exact Nat.ne_of_gt (blk_lt (g := gb459) (o := .cells #[.slice A0_0 l0_0.length c0_0, .slice A0_1 l0_1.length c0_1] 25 (0, 0)) (by (with_reducible repeat (first | refine blk_drewN ?_ _ | refine blk_drew ?_ | refine blk_alloc ?_ _)); exact BK459.out)) : gb476 ≠ gb459)); have n13_ := Aside0.mk ((by rw [hg]; exact Nat.ne_of_lt (blk_lt (g := gb460) (o := .cells #[.slice none 0 0, .slice none 0 0] 25 (0, 0)) (by (with_reducible repeat (first | refine blk_drewN ?_ _ | refine blk_drew ?_ | refine blk_alloc ?_ _)); exact BK460.out)) : gb460 ≠ gb476)); have n14_ := Aside0.mk ((by rw [hg]; exact Nat.ne_of_gt (blk_lt (g := gb460) (o := .cells #[.slice none 0 0, .slice none 0 0] 25 (0, 0)) (by (with_reducible repeat (first | refine blk_drewN ?_ _ | refine blk_drew ?_ | refine blk_alloc ?_ _)); exact BK460.out)) : gb476 ≠ gb460)); have n15_ := Aside0.mk ((by rw [hg]; exact Nat.ne_of_lt (blk_lt (g := gb468) (o := .cells #[.slice Ao97 x469000_1.length co97, .slice Ao98 x469001_1.length co98] 25 (0, 0)) (by (with_reducible repeat (first | refine blk_drewN ?_ _ | refine blk_drew ?_ | refine blk_alloc ?_ _)); exact BK468.out)) : gb468 ≠ gb476)); have n16_ := Aside0.mk ((by rw [hg]; exact Nat.ne_of_gt (blk_lt (g := gb468) (o := .cells #[.slice Ao97 x469000_1.length co97, .slice Ao98 x469001_1.length co98] 25 (0, 0)) (by (with_reducible repeat (first | refine blk_drewN ?_ _ | refine blk_drew ?_ | refine blk_alloc ?_ _)); exact BK468.out)) : gb476 ≠ gb468)); clear HO_469000; clear HO_469001; clear HO471; clear HO474; clear BK459; clear BK460; clear BK468; clear HB; have HO_469000 := n0_; have HO_469001 := n1_; have HO471 := n2_; have HO474 := n3_; have BK459 := n4_; have BK460 := n5_; have BK468 := n6_; have HB := n7_; have BK476 := n8_; have GW476 := n9_; have GE476 := n10_; have NB459_476 := n11_; have NB476_459 := n12_; have NB460_476 := n13_; have NB476_460 := n14_; have NB468_476 := n15_; have NB476_468 := n16_; clear n0_ n1_ n2_ n3_ n4_ n5_ n6_ n7_ n8_ n9_ n10_ n11_ n12_ n13_ n14_ n15_ n16_; clear hb hbox hg; obtain ⟨Ao101, co101, eo101⟩ := Kd.R_slice HO471.out; subst eo101; have hnb102 := NB476_459.out; have hnc102 := NB459_476.out; have hnb103 := NB476_460.out; have hnc103 := NB460_476.out; have hnb104 := NB476_468.out; have hnc104 := NB468_476.out; have hcz105_0 : w100.cell? ⟨gb476, 0, none⟩ = some (.slice none 0 0) := (blk_cell BK476.out 0).trans rfl; have hcz105_1 : w100.cell? ⟨gb476, 1, none⟩ = some (.slice none 0 0) := (blk_cell BK476.out 1).trans rfl; have hfz105_0 := blk_frozen BK476.out 0; have hfz105_1 := blk_frozen BK476.out 1; obtain ⟨Ao106, co106, eo106⟩ := Kd.R_slice HO474.out; subst eo106; have hnb107 := NB460_459.out; have hnc107 := NB459_460.out; have hcz108_0 : w100.cell? ⟨gb460, 0, none⟩ = some (.slice none 0 0) := (blk_cell BK460.out 0).trans rfl; have hcz108_1 : w100.cell? ⟨gb460, 1, none⟩ = some (.slice none 0 0) := (blk_cell BK460.out 1).trans rfl; have hfz108_0 := blk_frozen BK460.out 0; have hfz108_1 := blk_frozen BK460.out 1))
            refine bodyPost_ret (results_ctt rfl _ _ gb460 25 #[.slice Ao101 t469.length co101, .slice Ao106 t472.length co106] (0, 0) _ rfl (by (with_reducible repeat (first | refine blk_drewN ?_ _ | refine blk_drew ?_ | refine blk_alloc ?_ _)); refine blk_put (cs := #[.slice Ao101 t469.length co101, .slice none 0 0]) ?_ 1 _ rfl; (with_reducible repeat (first | refine blk_drewN ?_ _ | refine blk_drew ?_ | refine blk_alloc ?_ _)); refine blk_put (cs := #[.slice none 0 0, .slice none 0 0]) ?_ 0 _ rfl; (with_reducible repeat (first | refine blk_drewN ?_ _ | refine blk_drew ?_ | refine blk_alloc ?_ _)); refine blk_far ?_ NB460_476.out _; (with_reducible repeat (first | refine blk_drewN ?_ _ | refine blk_drew ?_ | refine blk_alloc ?_ _)); refine blk_far ?_ NB460_476.out _; (with_reducible repeat (first | refine blk_drewN ?_ _ | refine blk_drew ?_ | refine blk_alloc ?_ _)); exact BK460.out) Try.underlying25 rfl (by kernel_rfl)) rfl ?_
            exact ⟨_, _, by first | rfl | (simp [errW_none, errW_some] <;> rfl) | (simp only [← hji10, ← hji11]; first | rfl | (simp [errW_none, errW_some] <;> rfl)) | (simp [*, errW_none, errW_some] <;> rfl), by (with_reducible repeat (first | apply Kd.R_alloc | apply Kd.R_drewN | apply Kd.R_drew)); exact Kd.R_mono (Kd.R_far (p := ⟨gb460, 1, none⟩) (Kd.R_far (p := ⟨gb460, 0, none⟩) (Kd.R_far (p := ⟨gb476, 1, none⟩) (Kd.R_far (p := ⟨gb476, 0, none⟩) (Kd.R_types (Kd.R_types HO471.out BK476.out (by decide)) BK460.out (by decide)) (fun _ hk => hk.1.2) (.slice Ao101 t469.length co101)) (fun _ hk => hk.1.2) (.slice Ao106 t472.length co106)) (fun _ hk => hk.2) (.slice Ao101 t469.length co101)) (fun _ hk => hk.2) (.slice Ao106 t472.length co106)) (fun _ hk => trivial), by (with_reducible repeat (first | apply Kd.R_alloc | apply Kd.R_drewN | apply Kd.R_drew)); exact Kd.R_mono (Kd.R_far (p := ⟨gb460, 1, none⟩) (Kd.R_far (p := ⟨gb460, 0, none⟩) (Kd.R_far (p := ⟨gb476, 1, none⟩) (Kd.R_far (p := ⟨gb476, 0, none⟩) (Kd.R_types (Kd.R_types HO474.out BK476.out (by decide)) BK460.out (by decide)) (fun _ hk => hk.1.2) (.slice Ao101 t469.length co101)) (fun _ hk => hk.1.2) (.slice Ao106 t472.length co106)) (fun _ hk => hk.2) (.slice Ao101 t469.length co101)) (fun _ hk => hk.2) (.slice Ao106 t472.length co106)) (fun _ hk => trivial), by repeat (first | (with_reducible first | exact HB.out | apply below_alloc | apply pw_below_drewN | apply below_drew1 | refine below_set ?_ GE459.out | refine below_set ?_ GE460.out | refine below_set ?_ GE468.out | refine below_set ?_ GE476.out) | exact HB.out)⟩
  · rw [if_neg c7] at H
    have c7b0 : (t461 == 0) = false := beq_eq_false_iff_ne.mpr c7
    have c7b1 : (t461 != 0) = true := bne_iff_ne.mpr c7
    simp only [Option.some.injEq, Prod.mk.injEq] at H
    obtain ⟨rfl, rfl, rfl, rfl⟩ := H
    go_enter Try.func33, Try.ntmps33
    go_wp2_with (first | ((with_reducible refine gate_dst (N := 5) rfl ?_); refine box_event ?hg (N := 5) ?hd (cs := #[.slice A0_0 l0_0.length c0_0, .slice A0_1 l0_1.length c0_1]) (t := 25) ?hr ?_; (case hd => rfl); (case hg => rfl); (case hr => first | (go_simp; done) | (go_simp; rfl)); intro gb459 hg w109 hbox hb; have n0_ := Aside0.mk (below_step (by repeat (first | (with_reducible first | exact HB.out | apply below_alloc | apply pw_below_drewN | apply below_drew1) | exact HB.out)) hb); have n1_ := Aside0.mk (hbox); have n2_ := Aside0.mk ((by rw [hg]; exact (below_size (by repeat (first | (with_reducible first | exact HB.out | apply below_alloc | apply pw_below_drewN | apply below_drew1) | exact HB.out))) : w.heap.size ≤ gb459)); have n3_ := Aside0.mk ((by rw [hg]; exact (below_size (by repeat (first | (with_reducible first | exact HB.out | apply below_alloc | apply pw_below_drewN | apply below_drew1) | exact HB.out))) : w.heap.size ≤ gb459)); clear HB; have HB := n0_; have BK459 := n1_; have GW459 := n2_; have GE459 := n3_; clear n0_ n1_ n2_ n3_; clear hb hbox hg) | ((with_reducible refine gate_dst (N := 10) rfl ?_); refine box_event ?hg (N := 10) ?hd (cs := #[.slice none 0 0, .slice none 0 0]) (t := 25) ?hr ?_; (case hd => rfl); (case hg => rfl); (case hr => first | (go_simp; done) | (go_simp; rfl)); intro gb460 hg w110 hbox hb; have n0_ := Aside0.mk (blk_below (g := gb459) (o := .cells #[.slice A0_0 l0_0.length c0_0, .slice A0_1 l0_1.length c0_1] 25 (0, 0)) (by (with_reducible repeat (first | refine blk_drewN ?_ _ | refine blk_drew ?_ | refine blk_alloc ?_ _)); exact BK459.out) hb); have n1_ := Aside0.mk (below_step (by repeat (first | (with_reducible first | exact HB.out | apply below_alloc | apply pw_below_drewN | apply below_drew1 | refine below_set ?_ GE459.out) | exact HB.out)) hb); have n2_ := Aside0.mk (hbox); have n3_ := Aside0.mk ((by rw [hg]; exact (below_size (by repeat (first | (with_reducible first | exact HB.out | apply below_alloc | apply pw_below_drewN | apply below_drew1 | refine below_set ?_ GE459.out) | exact HB.out))) : w.heap.size ≤ gb460)); have n4_ := Aside0.mk ((by rw [hg]; exact (below_size (by repeat (first | (with_reducible first | exact HB.out | apply below_alloc | apply pw_below_drewN | apply below_drew1 | refine below_set ?_ GE459.out) | exact HB.out))) : w.heap.size ≤ gb460)); have n5_ := Aside0.mk ((by rw [hg]; exact Nat.ne_of_lt (blk_lt (g := gb459) (o := .cells #[.slice A0_0 l0_0.length c0_0, .slice A0_1 l0_1.length c0_1] 25 (0, 0)) (by (with_reducible repeat (first | refine blk_drewN ?_ _ | refine blk_drew ?_ | refine blk_alloc ?_ _)); exact BK459.out)) : gb459 ≠ gb460)); have n6_ := Aside0.mk ((by rw [hg]; exact Nat.ne_of_gt (blk_lt (g := gb459) (o := .cells #[.slice A0_0 l0_0.length c0_0, .slice A0_1 l0_1.length c0_1] 25 (0, 0)) (by (with_reducible repeat (first | refine blk_drewN ?_ _ | refine blk_drew ?_ | refine blk_alloc ?_ _)); exact BK459.out)) : gb460 ≠ gb459)); clear BK459; clear HB; have BK459 := n0_; have HB := n1_; have BK460 := n2_; have GW460 := n3_; have GE460 := n4_; have NB459_460 := n5_; have NB460_459 := n6_; clear n0_ n1_ n2_ n3_ n4_ n5_ n6_; clear hb hbox hg; have hnb111 := NB459_460.out; have hnc111 := NB460_459.out; have hcz112_0 : w110.cell? ⟨gb459, 0, none⟩ = some (.slice A0_0 l0_0.length c0_0) := (blk_cell BK459.out 0).trans rfl; have hcz112_1 : w110.cell? ⟨gb459, 1, none⟩ = some (.slice A0_1 l0_1.length c0_1) := (blk_cell BK459.out 1).trans rfl; have hfz112_0 := blk_frozen BK459.out 0; have hfz112_1 := blk_frozen BK459.out 1) | ((with_reducible refine gate_callee (f := 50) rfl ?_); refine goesL_ (some 24) rfl rfl Try.func50 (by kernel_rfl) rfl #[.agg #[.slice A0_0 l0_0.length c0_0, .slice A0_1 l0_1.length c0_1], .int .i64 a1, .int .i64 a2] rfl (by (try simp only [List.map_toArray, List.map_cons, List.map_nil]); first | done | rfl | (simp only [List.length_drop, List.length_take]; rfl)) ?_; (with_reducible refine (wal_open.calls k _ _ l0_0 _ _ l0_1 a1 a2 t461 _ ?side1 ?side2 ?side3 ?side4 A6.out).mono ?_); (case side1 => repeat (first | exact (Kd.C_below HR0_0.out HB.out) | (with_reducible refine Kd.C_alloc ?_ _) | (with_reducible refine Kd.C_drewN ?_ _) | (with_reducible refine Kd.C_drew ?_))); (case side2 => exact HC0_0.out); (case side3 => repeat (first | exact (Kd.C_below HR0_1.out HB.out) | (with_reducible refine Kd.C_alloc ?_ _) | (with_reducible refine Kd.C_drewN ?_ _) | (with_reducible refine Kd.C_drew ?_))); (case side4 => exact HC0_1.out); rintro e w113 ⟨rfl, hb⟩; refine ⟨_, rfl, ?_⟩; have n0_ := Aside0.mk (blk_below (g := gb459) (o := .cells #[.slice A0_0 l0_0.length c0_0, .slice A0_1 l0_1.length c0_1] 25 (0, 0)) (by (with_reducible repeat (first | refine blk_drewN ?_ _ | refine blk_drew ?_ | refine blk_alloc ?_ _)); exact BK459.out) hb); have n1_ := Aside0.mk (blk_below (g := gb460) (o := .cells #[.slice none 0 0, .slice none 0 0] 25 (0, 0)) (by (with_reducible repeat (first | refine blk_drewN ?_ _ | refine blk_drew ?_ | refine blk_alloc ?_ _)); exact BK460.out) hb); have n2_ := Aside0.mk (below_step (by repeat (first | (with_reducible first | exact HB.out | apply below_alloc | apply pw_below_drewN | apply below_drew1 | refine below_set ?_ GE459.out | refine below_set ?_ GE460.out) | exact HB.out)) hb); clear BK459; clear BK460; clear HB; have BK459 := n0_; have BK460 := n1_; have HB := n2_; clear n0_ n1_ n2_; (try clear hb); (try clear hb2); (try clear hk); (try clear hi); have hcz114_0 : w113.cell? ⟨gb460, 0, none⟩ = some (.slice none 0 0) := (blk_cell BK460.out 0).trans rfl; have hcz114_1 : w113.cell? ⟨gb460, 1, none⟩ = some (.slice none 0 0) := (blk_cell BK460.out 1).trans rfl; have hfz114_0 := blk_frozen BK460.out 0; have hfz114_1 := blk_frozen BK460.out 1))
    refine bodyPost_ret (results_ctt rfl _ _ gb460 25 #[.slice none 0 0, .slice none 0 0] (0, 0) _ rfl (by (with_reducible repeat (first | refine blk_drewN ?_ _ | refine blk_drew ?_ | refine blk_alloc ?_ _)); refine blk_put (cs := #[.slice none 0 0, .slice none 0 0]) ?_ 1 _ rfl; (with_reducible repeat (first | refine blk_drewN ?_ _ | refine blk_drew ?_ | refine blk_alloc ?_ _)); refine blk_put (cs := #[.slice none 0 0, .slice none 0 0]) ?_ 0 _ rfl; (with_reducible repeat (first | refine blk_drewN ?_ _ | refine blk_drew ?_ | refine blk_alloc ?_ _)); exact BK460.out) Try.underlying25 rfl (by kernel_rfl)) rfl ?_
    exact ⟨_, _, by first | rfl | (simp [errW_none, errW_some] <;> rfl) | (simp [*, errW_none, errW_some] <;> rfl), by first | exact Kd.R_nil _ _ _ _ _ | exact Kd.N_nil _ _ _ _ _ | exact Kd.V_nil _ _ _ _ _ | exact Kd.Q_nil _ _ _ _ _ | exact Kd.S_nil _ _ _ _ _, by first | exact Kd.R_nil _ _ _ _ _ | exact Kd.N_nil _ _ _ _ _ | exact Kd.V_nil _ _ _ _ _ | exact Kd.Q_nil _ _ _ _ _ | exact Kd.S_nil _ _ _ _ _, by repeat (first | (with_reducible first | exact HB.out | apply below_alloc | apply pw_below_drewN | apply below_drew1 | refine below_set ?_ GE459.out | refine below_set ?_ GE460.out) | exact HB.out)⟩

end Go.Proofs.Ytoibofhmlokglaa.P
-- Written by a program of this session (xprint.py) over the kit's print.py.
namespace Go.Proofs.Ytoibofhmlokglaa.P
open Go.RowKit Go.Proofs.YtoibofhmlokglaaW.PrintWords Go.Proofs.YtoibofhmlokglaaW.PrintLast Go.Proofs.YtoibofhmlokglaaW.PrintMore
attribute [local go_sem] max2_int min2_int max_two min_two max_three min_three max_four min_four   -- for this text's walks alone
set_option linter.unusedVariables false
set_option linter.unusedSimpArgs false

/-! ### disk_New: function 21 -/
def disk_New.f (a0 : Int) : Option (List ByteArray × (List (S40)) × Int) := if a0 < 1 then (some (([] : List ByteArray), ([] : List (S40)), 1)) else (if a0 > 200 then (some (([] : List ByteArray), ([] : List (S40)), 1)) else (if 0 ≤ a0 then (if (a0 : Int).toNat ≤ 17592186044416 then (some ((List.replicate (a0 : Int).toNat (⟨#[]⟩ : ByteArray)), ([] : List (S40)), 0)) else (none)) else (none)))
set_option maxHeartbeats 8000000 in
set_option maxRecDepth 100000 in
theorem disk_New.calls (a0 : Int) (r1 : List ByteArray) (r2 : List (S40)) (r3 : Int) (w : World) (h : disk_New.f a0 = some (r1, r2, r3)) :
    Calls Try.prog 21 #[.int .i64 a0] w fun e w' => ∃ v0_ v1_ : Value, e = .returned (.tuple #[.agg #[v0_, v1_], .int .i64 r3]) ∧ Kd.R Kd.string 9 w' w.heap.size (fun _ => True) v0_ r1 ∧ Kd.R k40 40 w' w.heap.size (fun _ => True) v1_ r2 ∧ Below w.heap.size w w' := by
  have hu25 := Try.underlying25
  have HB := Aside0.mk (Below.refl w.heap.size w)
  have H : (if a0 < 1 then (some (([] : List ByteArray), ([] : List (S40)), 1)) else (if a0 > 200 then (some (([] : List ByteArray), ([] : List (S40)), 1)) else (if 0 ≤ a0 then (if (a0 : Int).toNat ≤ 17592186044416 then (some ((List.replicate (a0 : Int).toNat (⟨#[]⟩ : ByteArray)), ([] : List (S40)), 0)) else (none)) else (none)))) = some (r1, r2, r3) := h
  clear h
  by_cases c2 : a0 < 1
  · rw [if_pos c2] at H
    have c2b0 : decide (a0 < 1) = true := decide_eq_true c2
    clear c2
    simp only [Option.some.injEq, Prod.mk.injEq] at H
    obtain ⟨rfl, rfl, rfl⟩ := H
    go_enter Try.func21, Try.ntmps21
    go_wp2_with (first | ((with_reducible refine gate_dst (N := 2) rfl ?_); refine box_event ?hg (N := 2) ?hd (cs := #[.slice none 0 0, .slice none 0 0]) (t := 25) ?hr ?_; (case hd => rfl); (case hg => rfl); (case hr => first | (go_simp; done) | (go_simp; rfl)); intro gb174 hg w3 hbox hb; have n0_ := Aside0.mk (below_step (by repeat (first | (with_reducible first | exact HB.out | apply below_alloc | apply pw_below_drewN | apply below_drew1) | exact HB.out)) hb); have n1_ := Aside0.mk (hbox); have n2_ := Aside0.mk ((by rw [hg]; exact (below_size (by repeat (first | (with_reducible first | exact HB.out | apply below_alloc | apply pw_below_drewN | apply below_drew1) | exact HB.out))) : w.heap.size ≤ gb174)); have n3_ := Aside0.mk ((by rw [hg]; exact (below_size (by repeat (first | (with_reducible first | exact HB.out | apply below_alloc | apply pw_below_drewN | apply below_drew1) | exact HB.out))) : w.heap.size ≤ gb174)); clear HB; have HB := n0_; have BK174 := n1_; have GW174 := n2_; have GE174 := n3_; clear n0_ n1_ n2_ n3_; clear hb hbox hg; have hcz4_0 : w3.cell? ⟨gb174, 0, none⟩ = some (.slice none 0 0) := (blk_cell BK174.out 0).trans rfl; have hcz4_1 : w3.cell? ⟨gb174, 1, none⟩ = some (.slice none 0 0) := (blk_cell BK174.out 1).trans rfl; have hfz4_0 := blk_frozen BK174.out 0; have hfz4_1 := blk_frozen BK174.out 1))
    refine bodyPost_ret (results_ct rfl _ _ gb174 25 #[.slice none 0 0, .slice none 0 0] (0, 0) _ rfl (by (with_reducible repeat (first | refine blk_drewN ?_ _ | refine blk_drew ?_ | refine blk_alloc ?_ _)); refine blk_put (cs := #[.slice none 0 0, .slice none 0 0]) ?_ 1 _ rfl; (with_reducible repeat (first | refine blk_drewN ?_ _ | refine blk_drew ?_ | refine blk_alloc ?_ _)); refine blk_put (cs := #[.slice none 0 0, .slice none 0 0]) ?_ 0 _ rfl; (with_reducible repeat (first | refine blk_drewN ?_ _ | refine blk_drew ?_ | refine blk_alloc ?_ _)); exact BK174.out) Try.underlying25 rfl (by kernel_rfl)) rfl ?_
    exact ⟨_, _, by first | rfl | (simp [errW_none, errW_some] <;> rfl) | (simp [*, errW_none, errW_some] <;> rfl), by first | exact Kd.R_nil _ _ _ _ _ | exact Kd.N_nil _ _ _ _ _ | exact Kd.V_nil _ _ _ _ _ | exact Kd.Q_nil _ _ _ _ _ | exact Kd.S_nil _ _ _ _ _, by first | exact Kd.R_nil _ _ _ _ _ | exact Kd.N_nil _ _ _ _ _ | exact Kd.V_nil _ _ _ _ _ | exact Kd.Q_nil _ _ _ _ _ | exact Kd.S_nil _ _ _ _ _, by repeat (first | (with_reducible first | exact HB.out | apply below_alloc | apply pw_below_drewN | apply below_drew1 | refine below_set ?_ GE174.out) | exact HB.out)⟩
  · rw [if_neg c2] at H
    have c2b0 : decide (a0 < 1) = false := decide_eq_false c2
    clear c2
    by_cases c5 : a0 > 200
    · rw [if_pos c5] at H
      have c5b0 : decide (200 < a0) = true := decide_eq_true c5
      clear c5
      simp only [Option.some.injEq, Prod.mk.injEq] at H
      obtain ⟨rfl, rfl, rfl⟩ := H
      go_enter Try.func21, Try.ntmps21
      go_wp2_with (first | ((with_reducible refine gate_dst (N := 2) rfl ?_); refine box_event ?hg (N := 2) ?hd (cs := #[.slice none 0 0, .slice none 0 0]) (t := 25) ?hr ?_; (case hd => rfl); (case hg => rfl); (case hr => first | (go_simp; done) | (go_simp; rfl)); intro gb174 hg w6 hbox hb; have n0_ := Aside0.mk (below_step (by repeat (first | (with_reducible first | exact HB.out | apply below_alloc | apply pw_below_drewN | apply below_drew1) | exact HB.out)) hb); have n1_ := Aside0.mk (hbox); have n2_ := Aside0.mk ((by rw [hg]; exact (below_size (by repeat (first | (with_reducible first | exact HB.out | apply below_alloc | apply pw_below_drewN | apply below_drew1) | exact HB.out))) : w.heap.size ≤ gb174)); have n3_ := Aside0.mk ((by rw [hg]; exact (below_size (by repeat (first | (with_reducible first | exact HB.out | apply below_alloc | apply pw_below_drewN | apply below_drew1) | exact HB.out))) : w.heap.size ≤ gb174)); clear HB; have HB := n0_; have BK174 := n1_; have GW174 := n2_; have GE174 := n3_; clear n0_ n1_ n2_ n3_; clear hb hbox hg; have hcz7_0 : w6.cell? ⟨gb174, 0, none⟩ = some (.slice none 0 0) := (blk_cell BK174.out 0).trans rfl; have hcz7_1 : w6.cell? ⟨gb174, 1, none⟩ = some (.slice none 0 0) := (blk_cell BK174.out 1).trans rfl; have hfz7_0 := blk_frozen BK174.out 0; have hfz7_1 := blk_frozen BK174.out 1))
      refine bodyPost_ret (results_ct rfl _ _ gb174 25 #[.slice none 0 0, .slice none 0 0] (0, 0) _ rfl (by (with_reducible repeat (first | refine blk_drewN ?_ _ | refine blk_drew ?_ | refine blk_alloc ?_ _)); refine blk_put (cs := #[.slice none 0 0, .slice none 0 0]) ?_ 1 _ rfl; (with_reducible repeat (first | refine blk_drewN ?_ _ | refine blk_drew ?_ | refine blk_alloc ?_ _)); refine blk_put (cs := #[.slice none 0 0, .slice none 0 0]) ?_ 0 _ rfl; (with_reducible repeat (first | refine blk_drewN ?_ _ | refine blk_drew ?_ | refine blk_alloc ?_ _)); exact BK174.out) Try.underlying25 rfl (by kernel_rfl)) rfl ?_
      exact ⟨_, _, by first | rfl | (simp [errW_none, errW_some] <;> rfl) | (simp [*, errW_none, errW_some] <;> rfl), by first | exact Kd.R_nil _ _ _ _ _ | exact Kd.N_nil _ _ _ _ _ | exact Kd.V_nil _ _ _ _ _ | exact Kd.Q_nil _ _ _ _ _ | exact Kd.S_nil _ _ _ _ _, by first | exact Kd.R_nil _ _ _ _ _ | exact Kd.N_nil _ _ _ _ _ | exact Kd.V_nil _ _ _ _ _ | exact Kd.Q_nil _ _ _ _ _ | exact Kd.S_nil _ _ _ _ _, by repeat (first | (with_reducible first | exact HB.out | apply below_alloc | apply pw_below_drewN | apply below_drew1 | refine below_set ?_ GE174.out) | exact HB.out)⟩
    · rw [if_neg c5] at H
      have c5b0 : decide (200 < a0) = false := decide_eq_false c5
      clear c5
      by_cases c8 : 0 ≤ a0
      · rw [if_pos c8] at H
        have c8b0 := eq_true c8
        have c8b1 : decide (0 ≤ a0) = true := decide_eq_true c8
        clear c8
        by_cases c9 : (a0 : Int).toNat ≤ 17592186044416
        · rw [if_pos c9] at H
          have c9b0 := eq_true c9
          have c9b1 : decide ((a0 : Int).toNat ≤ 17592186044416) = true := decide_eq_true c9
          clear c9
          obtain ⟨y175, hy175⟩ : ∃ y_ : List ByteArray, y_ = (List.replicate (a0 : Int).toNat (⟨#[]⟩ : ByteArray)) := ⟨_, rfl⟩
          replace H : (some (y175, ([] : List (S40)), 0)) = some (r1, r2, r3) := by first | (rw [hy175]; with_reducible exact H) | (have H2_ := (Option.bind_some _ _).symm.trans H; rw [hy175]; with_reducible exact H2_) | (have H2_ := (Option.bind_some _ _).symm.trans H; with_reducible exact H2_) | with_reducible exact H | (rw [hy175]; exact H) | exact H
          have Ny175 := Aside0.mk hy175
          clear hy175
          simp only [Option.some.injEq, Prod.mk.injEq] at H
          obtain ⟨rfl, rfl, rfl⟩ := H
          go_enter Try.func21, Try.ntmps21
          go_wp2_with (first | ((with_reducible refine gate_dst (N := 2) rfl ?_); refine box_event ?hg (N := 2) ?hd (cs := #[.slice none 0 0, .slice none 0 0]) (t := 25) ?hr ?_; (case hd => rfl); (case hg => rfl); (case hr => first | (go_simp; done) | (go_simp; rfl)); intro gb174 hg w10 hbox hb; have n0_ := Aside0.mk (below_step (by repeat (first | (with_reducible first | exact HB.out | apply below_alloc | apply pw_below_drewN | apply below_drew1) | exact HB.out)) hb); have n1_ := Aside0.mk (hbox); have n2_ := Aside0.mk ((by rw [hg]; exact (below_size (by repeat (first | (with_reducible first | exact HB.out | apply below_alloc | apply pw_below_drewN | apply below_drew1) | exact HB.out))) : w.heap.size ≤ gb174)); have n3_ := Aside0.mk ((by rw [hg]; exact (below_size (by repeat (first | (with_reducible first | exact HB.out | apply below_alloc | apply pw_below_drewN | apply below_drew1) | exact HB.out))) : w.heap.size ≤ gb174)); clear HB; have HB := n0_; have BK174 := n1_; have GW174 := n2_; have GE174 := n3_; clear n0_ n1_ n2_ n3_; clear hb hbox hg) | ((with_reducible refine gate_dst (N := 12) rfl ?_); refine Kd.R_make Kd.string _ 9 rfl (N := 12) rfl 22 _ _ rfl a0 rfl rfl Try.underlying22 (.string ⟨#[]⟩) 16 info9 rfl (by decide) (by omega) (⟨#[]⟩ : ByteArray) (ok := fun _ => True) (okp := fun _ => True) rfl (fun _ hk => hk) trivial (of_decide_eq_true (by first | (with_reducible assumption) | assumption)) (Nat.le_trans (Nat.mul_le_mul_right _ (of_decide_eq_true (by first | (with_reducible assumption) | assumption) : a0.toNat ≤ 17592186044416)) (by omega)) (Below.refl _ _) (Nat.le_refl _) ?_; intro v176 w11 ho12 hb hg_ hnew_; clear hg_ hnew_; (first | rw [← Ny175.out] at ho12 | (simp only [Int.reduceToNat] at ho12; rw [← Ny175.out] at ho12)); have n0_ := Aside0.mk (Kd.R_lower ho12 (below_size (by repeat (first | (with_reducible first | exact HB.out | apply below_alloc | apply pw_below_drewN | apply below_drew1 | refine below_set ?_ GE174.out) | exact HB.out)))); have n1_ := Aside0.mk (blk_below (g := gb174) (o := .cells #[.slice none 0 0, .slice none 0 0] 25 (0, 0)) (by (with_reducible repeat (first | refine blk_drewN ?_ _ | refine blk_drew ?_ | refine blk_alloc ?_ _)); exact BK174.out) hb); have n2_ := Aside0.mk (below_step (by repeat (first | (with_reducible first | exact HB.out | apply below_alloc | apply pw_below_drewN | apply below_drew1 | refine below_set ?_ GE174.out) | exact HB.out)) hb); clear BK174; clear HB; have HO177 := n0_; have BK174 := n1_; have HB := n2_; clear n0_ n1_ n2_; clear hb ho12; obtain ⟨Ao13, co13, eo13⟩ := Kd.R_slice HO177.out; subst eo13; have hcz14_0 : w11.cell? ⟨gb174, 0, none⟩ = some (.slice none 0 0) := (blk_cell BK174.out 0).trans rfl; have hcz14_1 : w11.cell? ⟨gb174, 1, none⟩ = some (.slice none 0 0) := (blk_cell BK174.out 1).trans rfl; have hfz14_0 := blk_frozen BK174.out 0; have hfz14_1 := blk_frozen BK174.out 1))
          refine bodyPost_ret (results_ct rfl _ _ gb174 25 #[.slice Ao13 y175.length co13, .slice none 0 0] (0, 0) _ rfl (by (with_reducible repeat (first | refine blk_drewN ?_ _ | refine blk_drew ?_ | refine blk_alloc ?_ _)); refine blk_put (cs := #[.slice Ao13 y175.length co13, .slice none 0 0]) ?_ 1 _ rfl; (with_reducible repeat (first | refine blk_drewN ?_ _ | refine blk_drew ?_ | refine blk_alloc ?_ _)); refine blk_put (cs := #[.slice none 0 0, .slice none 0 0]) ?_ 0 _ rfl; (with_reducible repeat (first | refine blk_drewN ?_ _ | refine blk_drew ?_ | refine blk_alloc ?_ _)); exact BK174.out) Try.underlying25 rfl (by kernel_rfl)) rfl ?_
          exact ⟨_, _, by first | rfl | (simp [errW_none, errW_some] <;> rfl) | (simp [*, errW_none, errW_some] <;> rfl), by (with_reducible repeat (first | apply Kd.R_alloc | apply Kd.R_drewN | apply Kd.R_drew)); exact Kd.R_mono (Kd.R_far (p := ⟨gb174, 1, none⟩) (Kd.R_far (p := ⟨gb174, 0, none⟩) (Kd.R_types HO177.out BK174.out (by decide)) (fun _ hk => hk.2) (.slice Ao13 y175.length co13)) (fun _ hk => hk.2) (.slice none 0 0)) (fun _ hk => trivial), by first | exact Kd.R_nil _ _ _ _ _ | exact Kd.N_nil _ _ _ _ _ | exact Kd.V_nil _ _ _ _ _ | exact Kd.Q_nil _ _ _ _ _ | exact Kd.S_nil _ _ _ _ _, by repeat (first | (with_reducible first | exact HB.out | apply below_alloc | apply pw_below_drewN | apply below_drew1 | refine below_set ?_ GE174.out) | exact HB.out)⟩
        · rw [if_neg c9] at H
          exact absurd H (by simp)
      · rw [if_neg c8] at H
        exact absurd H (by simp)

end Go.Proofs.Ytoibofhmlokglaa.P
-- Written by a program of this session (xprint.py) over the kit's print.py.
namespace Go.Proofs.Ytoibofhmlokglaa.P
open Go.RowKit Go.Proofs.YtoibofhmlokglaaW.PrintWords Go.Proofs.YtoibofhmlokglaaW.PrintLast Go.Proofs.YtoibofhmlokglaaW.PrintMore
attribute [local go_sem] max2_int min2_int max_two min_two max_three min_three max_four min_four   -- for this text's walks alone
set_option linter.unusedVariables false
set_option linter.unusedSimpArgs false

/-! ### sextonref01_Texts: function 38 -/
def sextonref01_Texts.l0 : Nat → List ByteArray → List ByteArray → Int → Option (Bool)
  | 0, _, _, _ => none
  | k + 1, x0, x1, x5 => if x5 < (x0.length : Int) then (if 0 ≤ x5 then (if x5 < (x1.length : Int) then (if (rdOf ByteArray.empty x0 x5).toList = (rdOf ByteArray.empty x1 x5).toList then (sextonref01_Texts.l0 k x0 x1 (wrap64 (x5 + 1))) else (some false)) else (none)) else (none)) else (some true)
def sextonref01_Texts.f (k : Nat) (l0 : List ByteArray) (l1 : List ByteArray) : Option (Bool) := if (l0.length : Int) = (l1.length : Int) then (sextonref01_Texts.l0 k l0 l1 0) else (some false)
theorem sextonref01_Texts.mono_l : ∀ k, (∀ y0 y1 y2, LeO (sextonref01_Texts.l0 k y0 y1 y2) (sextonref01_Texts.l0 (k + 1) y0 y1 y2))
  | 0 => fun _ _ _ r h => by simp [sextonref01_Texts.l0] at h
  | k + 1 => by
    have ih0 := sextonref01_Texts.mono_l k
    · intro y0 y1 y2
      unfold sextonref01_Texts.l0
      repeat' first
      | (with_reducible exact ih0 _ _ _)
      | (with_reducible exact LeO.refl _)
      | (with_reducible exact LeO.none _)
      | (with_reducible refine LeO.ite ?_ ?_)
      | (with_reducible refine LeO.bind ?_ (fun _ => ?_))
      | exact ih0 _ _ _
      | exact LeO.none _
      | refine LeO.ite ?_ ?_
      | refine LeO.bind ?_ (fun _ => ?_)
theorem sextonref01_Texts.mono : ∀ a0 a1 k, LeO (sextonref01_Texts.f k a0 a1) (sextonref01_Texts.f (k + 1) a0 a1) := by
  intro a0 a1 k
  have ih0 := sextonref01_Texts.mono_l k
  unfold sextonref01_Texts.f
  repeat' first
      | (with_reducible exact ih0 _ _ _)
      | (with_reducible exact LeO.refl _)
      | (with_reducible exact LeO.none _)
      | (with_reducible refine LeO.ite ?_ ?_)
      | (with_reducible refine LeO.bind ?_ (fun _ => ?_))
      | exact ih0 _ _ _
      | exact LeO.none _
      | refine LeO.ite ?_ ?_
      | refine LeO.bind ?_ (fun _ => ?_)
set_option maxHeartbeats 8000000 in
set_option maxRecDepth 100000 in
theorem sextonref01_Texts.calls (k : Nat) (A0 : Option Addr) (c0 : Nat) (l0 : List ByteArray) (A1 : Option Addr) (c1 : Nat) (l1 : List ByteArray) (r : Bool) (w : World) (hr0 : Kd.C Kd.string w A0 l0.length l0) (hc0 : l0.length ≤ c0) (hr1 : Kd.C Kd.string w A1 l1.length l1) (hc1 : l1.length ≤ c1) (h : sextonref01_Texts.f k l0 l1 = some r) :
    Calls Try.prog 38 #[.slice A0 l0.length c0, .slice A1 l1.length c1] w fun e w' => e = .returned (.bool r) ∧ Drawn0 w w' := by
  have HR0 := Aside0.mk hr0
  have HC0 := Aside0.mk hc0
  clear hr0 hc0
  have HR1 := Aside0.mk hr1
  have HC1 := Aside0.mk hc1
  clear hr1 hc1
  have H : (if (l0.length : Int) = (l1.length : Int) then (sextonref01_Texts.l0 k l0 l1 0) else (some false)) = some r := h
  clear h
  by_cases c3 : (l0.length : Int) = (l1.length : Int)
  · rw [if_pos c3] at H
    have c3b0 : ((l0.length : Int) == (l1.length : Int)) = true := beq_iff_eq.mpr c3
    have c3b1 : ((l0.length : Int) != (l1.length : Int)) = false := bne_eq_false_iff_eq.mpr c3
    have c3b2 : (l0.length == l1.length) = true := by first | simpa using c3 | (simp at c3 ⊢; omega)
    clear c3
    have H' := Aside0.mk H
    clear H
    go_enter Try.func38, Try.ntmps38
    go_wp2
    repeat (go_quiet (fail); try go_wp2)
    go_loopg [5] k (fun kq v5 w' => ∃ (x5_1 : Int), v5 = .int .i64 x5_1 ∧ Aside0 (sextonref01_Texts.l0 kq l0 l1 x5_1 = some r) ∧ Aside0 (kq ≤ k) ∧ Drawn0 w w')
    case atStart => exact ⟨(0), (by first | rfl | (simp; done) | (simp [*]; done)), H', ⟨Nat.le_refl _⟩, by repeat (first | exact Drawn0.refl _ | apply Drawn0.step)⟩
    case round =>
      clear H'
      try clear c1
      try clear p2
      try clear c3
      try clear c3b0
      try clear c3b1
      try clear c3b2
      obtain ⟨x5_1, rfl, HA, HK1, ⟨m1, rfl⟩⟩ := hrel
      cases gk with
      | zero => exact absurd HA.out (by simp [sextonref01_Texts.l0])
      | succ k1 =>
        have H := HA.out
        clear HA
        simp only [sextonref01_Texts.l0] at H
        by_cases c4 : x5_1 < (l0.length : Int)
        · rw [if_pos c4] at H
          have c4b0 : decide (x5_1 < (l0.length : Int)) = true := decide_eq_true c4
          clear c4
          by_cases c5 : 0 ≤ x5_1
          · rw [if_pos c5] at H
            have c5b0 : decide (0 ≤ x5_1) = true := decide_eq_true c5
            clear c5
            by_cases c6 : x5_1 < (l1.length : Int)
            · rw [if_pos c6] at H
              have c6b0 : decide (x5_1 < (l1.length : Int)) = true := decide_eq_true c6
              clear c6
              by_cases c7 : (rdOf ByteArray.empty l0 x5_1).toList = (rdOf ByteArray.empty l1 x5_1).toList
              · rw [if_pos c7] at H
                have c7b0 : ((rdOf ByteArray.empty l0 x5_1).toList == (rdOf ByteArray.empty l1 x5_1).toList) = true := beq_iff_eq.mpr c7
                have c7b1 : ((rdOf ByteArray.empty l0 x5_1).toList != (rdOf ByteArray.empty l1 x5_1).toList) = false := bne_eq_false_iff_eq.mpr c7
                clear c7
                have H' := Aside0.mk H
                clear H
                have p182 : 0 ≤ (x5_1 : Int) := of_decide_eq_true (by first | (with_reducible assumption) | assumption)
                have q182 : x5_1 < (l0.length : Int) := of_decide_eq_true (by first | (with_reducible assumption) | assumption)
                obtain ⟨ad182, e182, hx182_0⟩ := Kd.at_string HR0.out x5_1 p182 q182
                cases e182
                replace p182 := eq_true p182
                replace q182 := eq_true q182
                have p183 : 0 ≤ (x5_1 : Int) := of_decide_eq_true (by first | (with_reducible assumption) | assumption)
                have q183 : x5_1 < (l1.length : Int) := of_decide_eq_true (by first | (with_reducible assumption) | assumption)
                obtain ⟨ad183, e183, hx183_0⟩ := Kd.at_string HR1.out x5_1 p183 q183
                cases e183
                replace p183 := eq_true p183
                replace q183 := eq_true q183
                go_wp2
                repeat (go_quiet (fail); try go_wp2)
                go_roundg k1
                case measure => have := HK1.out; omega
                case rel => exact ⟨(wrap64 (x5_1 + 1)), (by first | rfl | (simp; done) | (simp [*]; done)), H', ⟨by have := HK1.out; omega⟩, by repeat (first | exact Drawn0.refl _ | apply Drawn0.step)⟩
              · rw [if_neg c7] at H
                have c7b0 : ((rdOf ByteArray.empty l0 x5_1).toList == (rdOf ByteArray.empty l1 x5_1).toList) = false := beq_eq_false_iff_ne.mpr c7
                have c7b1 : ((rdOf ByteArray.empty l0 x5_1).toList != (rdOf ByteArray.empty l1 x5_1).toList) = true := bne_iff_ne.mpr c7
                obtain rfl := Option.some.inj H
                have p182 : 0 ≤ (x5_1 : Int) := of_decide_eq_true (by first | (with_reducible assumption) | assumption)
                have q182 : x5_1 < (l0.length : Int) := of_decide_eq_true (by first | (with_reducible assumption) | assumption)
                obtain ⟨ad182, e182, hx182_0⟩ := Kd.at_string HR0.out x5_1 p182 q182
                cases e182
                replace p182 := eq_true p182
                replace q182 := eq_true q182
                have p183 : 0 ≤ (x5_1 : Int) := of_decide_eq_true (by first | (with_reducible assumption) | assumption)
                have q183 : x5_1 < (l1.length : Int) := of_decide_eq_true (by first | (with_reducible assumption) | assumption)
                obtain ⟨ad183, e183, hx183_0⟩ := Kd.at_string HR1.out x5_1 p183 q183
                cases e183
                replace p183 := eq_true p183
                replace q183 := eq_true q183
                go_wp2
                repeat (go_quiet (fail); try go_wp2)
                go_ret
                exact ⟨by first | rfl | (simp; done) | (simp [*]; done), by repeat (first | exact Drawn0.refl _ | apply Drawn0.step)⟩
            · rw [if_neg c6] at H
              exact absurd H (by simp)
          · rw [if_neg c5] at H
            exact absurd H (by simp)
        · rw [if_neg c4] at H
          have c4b0 : decide (x5_1 < (l0.length : Int)) = false := decide_eq_false c4
          clear c4
          obtain rfl := Option.some.inj H
          go_wp2
          repeat (go_quiet (fail); try go_wp2)
          go_ret
          exact ⟨by first | rfl | (simp; done) | (simp [*]; done), by repeat (first | exact Drawn0.refl _ | apply Drawn0.step)⟩
  · rw [if_neg c3] at H
    have c3b0 : ((l0.length : Int) == (l1.length : Int)) = false := beq_eq_false_iff_ne.mpr c3
    have c3b1 : ((l0.length : Int) != (l1.length : Int)) = true := bne_iff_ne.mpr c3
    have c3b2 : (l0.length == l1.length) = false := by first | simpa using c3 | (simp at c3 ⊢; omega)
    obtain rfl := Option.some.inj H
    go_enter Try.func38, Try.ntmps38
    go_wp2
    repeat (go_quiet (fail); try go_wp2)
    go_ret
    exact ⟨by first | rfl | (simp; done) | (simp [*]; done), by repeat (first | exact Drawn0.refl _ | apply Drawn0.step)⟩

end Go.Proofs.Ytoibofhmlokglaa.P
-- Written by a program of this session (xprint.py) over the kit's print.py.
namespace Go.Proofs.Ytoibofhmlokglaa.P
open Go.RowKit Go.Proofs.YtoibofhmlokglaaW.PrintWords Go.Proofs.YtoibofhmlokglaaW.PrintLast Go.Proofs.YtoibofhmlokglaaW.PrintMore
attribute [local go_sem] max2_int min2_int max_two min_two max_three min_three max_four min_four   -- for this text's walks alone
set_option linter.unusedVariables false
set_option linter.unusedSimpArgs false

/-! ### sextonlaw07_front: function 39 -/
def sextonlaw07_front.f (k : Nat) (l0 : List ByteArray) (l1 : List ByteArray) : Option (Bool) := if (l0.length : Int) ≤ (l1.length : Int) then (if 0 ≤ (l0.length : Int) then ((sextonref01_Texts.f k l0 (l1.take ((l0.length : Int) : Int).toNat)).bind fun t589 => (some t589)) else (none)) else (some false)
theorem sextonlaw07_front.mono : ∀ a0 a1 k, LeO (sextonlaw07_front.f k a0 a1) (sextonlaw07_front.f (k + 1) a0 a1) := by
  intro a0 a1 k
  unfold sextonlaw07_front.f
  repeat' first
      | (with_reducible exact sextonref01_Texts.mono _ _ _)
      | (with_reducible exact LeO.refl _)
      | (with_reducible exact LeO.none _)
      | (with_reducible refine LeO.ite ?_ ?_)
      | (with_reducible refine LeO.bind ?_ (fun _ => ?_))
      | exact sextonref01_Texts.mono _ _ _
      | exact LeO.none _
      | refine LeO.ite ?_ ?_
      | refine LeO.bind ?_ (fun _ => ?_)
set_option maxHeartbeats 8000000 in
set_option maxRecDepth 100000 in
theorem sextonlaw07_front.calls (k : Nat) (A0 : Option Addr) (c0 : Nat) (l0 : List ByteArray) (A1 : Option Addr) (c1 : Nat) (l1 : List ByteArray) (r : Bool) (w : World) (hr0 : Kd.C Kd.string w A0 l0.length l0) (hc0 : l0.length ≤ c0) (hr1 : Kd.C Kd.string w A1 l1.length l1) (hc1 : l1.length ≤ c1) (h : sextonlaw07_front.f k l0 l1 = some r) :
    Calls Try.prog 39 #[.slice A0 l0.length c0, .slice A1 l1.length c1] w fun e w' => e = .returned (.bool r) ∧ Drawn0 w w' := by
  have HR0 := Aside0.mk hr0
  have HC0 := Aside0.mk hc0
  clear hr0 hc0
  have HR1 := Aside0.mk hr1
  have HC1 := Aside0.mk hc1
  clear hr1 hc1
  have H : (if (l0.length : Int) ≤ (l1.length : Int) then (if 0 ≤ (l0.length : Int) then ((sextonref01_Texts.f k l0 (l1.take ((l0.length : Int) : Int).toNat)).bind fun t589 => (some t589)) else (none)) else (some false)) = some r := h
  clear h
  by_cases c3 : (l0.length : Int) ≤ (l1.length : Int)
  · rw [if_pos c3] at H
    have c3b0 : decide ((l0.length : Int) ≤ (l1.length : Int)) = true := decide_eq_true c3
    have c3b1 : decide (l0.length ≤ l1.length) = true := decide_eq_true (Int.ofNat_le.mp c3)
    clear c3
    by_cases c4 : 0 ≤ (l0.length : Int)
    · rw [if_pos c4] at H
      have c4b0 := eq_true c4
      have c4b1 : decide (0 ≤ (l0.length : Int)) = true := decide_eq_true c4
      clear c4
      have c5b0 := eq_true (of_decide_eq_true (by first | (with_reducible assumption) | assumption) : (l0.length : Int) ≤ (l1.length : Int))
      replace H := Option.bind_eq_some_iff.mp H
      obtain ⟨t589, A60, H⟩ := H
      replace H : (some t589) = some r := H
      have A6 := Aside0.mk A60
      clear A60
      obtain rfl := Option.some.inj H
      obtain ⟨i07, hi07, _, hsz7, _⟩ := info_parts info9
      obtain ⟨hcut7, hA7, hC7⟩ := print_take_of (P := Try.prog) Value.string (⟨#[]⟩ : ByteArray) 22 9 .i64 Try.underlying22 hi07 hsz7 A1 c1 l1 (l0.length : Int) (of_decide_eq_true (by first | (with_reducible assumption) | assumption)) (of_decide_eq_true (by first | (with_reducible assumption) | assumption)) HC1.out
      have HR588 := Aside0.mk (Kd.C_of_reads (h1 := fun _ => rfl) (hA7 _ (Kd.reads_of_C HR1.out)))
      have HC588 := Aside0.mk hC7
      clear hA7 hC7 hi07 hsz7
      go_enter Try.func39, Try.ntmps39
      have hl8 : (l1.take ((l0.length : Int) : Int).toNat).length = min l0.length l1.length := by rw [List.length_take, Int.toNat_natCast]
      have HT8 := Aside0.mk (sextonref01_Texts.calls k A0 c0 l0 A1 c1 (l1.take ((l0.length : Int) : Int).toNat) t589 w HR0.out HC0.out HR588.out HC588.out A6.out)
      rw [hl8] at HT8
      clear hl8
      go_wp2_with (first | (go_at_call 38; (with_reducible refine HT8.out.mono ?_); rintro e w' ⟨rfl, ⟨nd, rfl⟩⟩))
      go_ret
      exact ⟨by first | rfl | (simp; done) | (simp [*]; done), by repeat (first | exact Drawn0.refl _ | apply Drawn0.step)⟩
    · rw [if_neg c4] at H
      exact absurd H (by simp)
  · rw [if_neg c3] at H
    have c3b0 : decide ((l0.length : Int) ≤ (l1.length : Int)) = false := decide_eq_false c3
    have c3b1 : decide (l0.length ≤ l1.length) = false := decide_eq_false (fun h => c3 (Int.ofNat_le.mpr h))
    clear c3
    obtain rfl := Option.some.inj H
    go_enter Try.func39, Try.ntmps39
    go_wp2
    go_ret
    exact ⟨by first | rfl | (simp; done) | (simp [*]; done), by repeat (first | exact Drawn0.refl _ | apply Drawn0.step)⟩

end Go.Proofs.Ytoibofhmlokglaa.P
