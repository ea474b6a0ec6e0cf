/-
  The walk and the plain statement of TreeOld, joined.
-/
import Derived.Maps.AppendAt
import Derived.Test.YtoiohlmiofplcaaCn6df
set_option linter.unusedVariables false
set_option linter.unusedSimpArgs false
/-
  TreeOld (chapter 10): rows of trees, and rows of rows.
-/
namespace Go.Proofs.Ytoiohlmiofplcaa.P
open Go.RowKit Go.Shelf Go.Proofs.YtoiohlmiofplcaaW.PrintWords Go.Proofs.YtoiohlmiofplcaaW.PrintLast Go.Proofs.YtoiohlmiofplcaaW.PrintMore Go.Proofs.Plain

/-- A pointer or a slice. -/
def isPS : Value → Bool
  | .pointer _ => true
  | .slice _ _ _ => true
  | _ => false
/-- Each cell that holds no pointer and no slice stays. -/
def KK (w w1 : World) : Prop := ∀ a u, w.cell? a = some u → isPS u = false → w1.cell? a = some u
theorem KK.refl (w : World) : KK w w := fun _ _ h _ => h
theorem KK.below {w w1 : World} (h : Below w.heap.size w w1) : KK w w1 := fun _ _ hc _ => pw_cell_below h hc
theorem KK.trans {w w1 w2 : World} (h : KK w w1) (h2 : KK w1 w2) : KK w w2 := fun a u hc hp => h2 a u (h a u hc hp) hp
theorem row26_kk {w w1 : World} {A : Option Addr} {n : Nat} {l : List S26} (hr : Kd.C k26 w A n l) (h : KK w w1) : Kd.C k26 w1 A n l := by
  refine ⟨hr.1, hr.2.1, fun hn => ?_⟩
  obtain ⟨ad, e, hx⟩ := hr.2.2 hn
  refine ⟨ad, e, fun j p hj => ?_⟩
  obtain ⟨cs, hl, hK, hc⟩ := hx j p hj
  have ho := k26_open hK
  subst ho
  refine ⟨_, hl, k26_mk w1 p, fun i u hu => h _ _ (hc i u hu) ?_⟩
  match i, hu with
  | 0, hu => cases hu; rfl
  | 1, hu => cases hu; rfl
  | 2, hu => cases hu; rfl
theorem repU_kk {w w1 : World} (hk : KK w w1) : ∀ (h : Nat) (t : T h) (u : Value), RepU w h t u → RepU w1 h t u
  | 0, _, _, ⟨A, c, e, hc, hr⟩ => ⟨A, c, e, hc, row26_kk hr hk⟩
  | h + 1, ks, _, ⟨A, c, e, hc, hr⟩ => by
    refine ⟨A, c, e, hc, hr.1, hr.2.1, fun hn => ?_⟩
    obtain ⟨ad, e2, hx⟩ := hr.2.2 hn
    refine ⟨ad, e2, fun j p hj => ?_⟩
    obtain ⟨cs, hl, ⟨u', hu, hU⟩, hc2⟩ := hx j p hj
    subst hu
    refine ⟨_, hl, ⟨u', rfl, repU_kk hk h _ _ hU⟩, fun i x hx2 => hk _ _ (hc2 i x hx2) ?_⟩
    match i, hx2 with
    | 0, hx2 => cases hx2; rfl
theorem TreeOf.kk {w w1 : World} {l : List S26} {v : Value} (hr : TreeOf w l v) (hk : KK w w1) : TreeOf w1 l v := by
  obtain ⟨h, t, h1, h2, h3⟩ := hr
  refine ⟨h, t, ?_, h2, h3⟩
  rcases h1 with h1 | ⟨b, u, e, hc, hu⟩
  · exact .inl h1
  · exact .inr ⟨b, u, e, hk _ _ hc rfl, repU_kk hk h t u hu⟩
/-- A row of pointers, or of slices, of one's own: block g. -/
def PRow (w : World) (ty g cap : Nat) (xs : List Value) : Prop := ∃ cur : Array Value, w.heap[g]? = some (.cells cur ty (0, 0)) ∧ cur.size = cap ∧ xs.length ≤ cap ∧ cap ≤ maxLen ∧ cur.toList.take xs.length = xs ∧ ∀ u ∈ cur.toList, isPS u = true
theorem PRow.lt {w : World} {ty g cap : Nat} {xs : List Value} (h : PRow w ty g cap xs) : g < w.heap.size := by
  obtain ⟨cur, hg, _⟩ := h
  exact blk_lt hg
theorem PRow.step {w w1 : World} {ty g cap : Nat} {xs : List Value} (h : PRow w ty g cap xs) (he : w1.heap[g]? = w.heap[g]?) : PRow w1 ty g cap xs := by
  obtain ⟨cur, hg, hr⟩ := h
  exact ⟨cur, he.trans hg, hr⟩
theorem PRow.below {w w1 : World} {ty g cap : Nat} {xs : List Value} (h : PRow w ty g cap xs) (hb : Below w.heap.size w w1) : PRow w1 ty g cap xs := h.step (hb.block g h.lt)
theorem PRow.at_ {w : World} {ty g cap : Nat} {xs : List Value} (h : PRow w ty g cap xs) (i : Nat) (hi : i < xs.length) : w.cell? ⟨g, i, none⟩ = some xs[i] := by
  obtain ⟨cur, hg, hs, hl, hm, ht, hp⟩ := h
  rw [blk_cell hg i]
  have : cur.toList[i]? = some xs[i] := by
    have h1 : (cur.toList.take xs.length)[i]? = some xs[i] := by rw [ht]; exact List.getElem?_eq_getElem hi
    rwa [List.getElem?_take_of_lt hi] at h1
  rwa [Array.getElem?_toList] at this
theorem prow_append {P : Program} {t e : TypeId} {i : TypeInfo} {z : Value} (ty : TypeId) (ht : P.underlying t = some (.slice e)) (hi : P.info? e = some i) (hz : i.zero = some z) (hsz : i.size = 1) (hzc : z.cells = #[z]) (hzp : isPS z = true) (hby : i.bytes ≤ 24)
    {W : World} {g cap : Nat} {xs : List Value} {x : Value} (hp : PRow W e g cap xs) (hx : isPS x = true) (hn : xs.length ≤ 1000) :
    ∃ g' cap' w1, (Builtin.append_ #[t, t] ty #[.slice (some ⟨g, 0, none⟩) xs.length cap, .slice (some ⟨W.heap.size, 0, none⟩) 1 1]).run P (W.alloc (.cells #[x] e)) = .ok (.slice (some ⟨g', 0, none⟩) (xs ++ [x]).length cap') w1 ∧
      PRow w1 e g' cap' (xs ++ [x]) ∧ KK W w1 ∧ (g' = g ∨ W.heap.size ≤ g') ∧ (W.alloc (.cells #[x] e)).grownBy w1 (some g) := by
  have hlt := hp.lt
  have hone : x.oneCell' = true := by
    cases x <;> first | rfl | cases hx
  have hb0 : Below W.heap.size W (W.alloc (.cells #[x] e)) := (Below.refl _ _).alloc (Nat.le_refl _) _
  have hp2 := hp.below hb0
  have hnew : ∀ j u, [x][j]? = some u → (W.alloc (.cells #[x] e)).cell? ((⟨W.heap.size, 0, none⟩ : Addr).add j) = some u := cell_one_new W x e
  have hlen : (xs ++ [x]).length = xs.length + 1 := by simp
  obtain ⟨cur, hg, hs, hl, hm, htk, hps⟩ := hp2
  rw [hlen]
  by_cases hroom : xs.length + 1 ≤ cap
  · have hr := run_append_room (P := P) (W.alloc (.cells #[x] e)) t ty e i ht hi g xs.length cap cur hg ⟨W.heap.size, 0, none⟩ 1 1 [x] (by rw [hsz]; rfl) hnew (fun u hu => by rw [List.mem_singleton.1 hu]; exact hone) hroom (by rw [hsz, hs]; simp; omega)
    rw [hsz, Nat.mul_one] at hr
    refine ⟨g, cap, _, hr, ⟨_, setRow_heap _ g cur _ e _ hg, ?_, by rw [hlen]; exact hroom, hm, ?_, ?_⟩, ?_, .inl rfl, ⟨rfl, rfl, rfl, by simp, fun k _ hk => setRow_other _ g k _ (fun e => hk (by rw [e]))⟩⟩
    · have : cur.toList.length = cap := by rw [Array.length_toList]; exact hs
      simp only [List.size_toArray, List.length_append, List.length_take, List.length_drop, List.length_singleton]
      omega
    · rw [htk, hlen]
      show List.take (xs.length + 1) (xs ++ [x] ++ _) = xs ++ [x]
      rw [← hlen]
      exact List.take_left
    · intro u hu
      rw [List.toList_toArray, List.mem_append, List.mem_append] at hu
      rcases hu with (hu | hu) | hu
      · exact hps u (List.mem_of_mem_take hu)
      · rw [List.mem_singleton.1 hu]; exact hx
      · exact hps u (List.mem_of_mem_drop hu)
    · intro a u hc hpu
      have hc2 := pw_cell_below hb0 hc
      by_cases hab : a.block = g
      · exfalso
        obtain ⟨b, o, f⟩ := a
        simp only at hab
        subst hab
        have hcc : (W.alloc (.cells #[x] e)).cell? ⟨b, o, f⟩ = cur[o]? := by
          unfold World.cell? at hc2 ⊢
          simp only [hg] at hc2 ⊢
          first | rfl | simp_all
        rw [hcc] at hc2
        have hmem : u ∈ cur.toList := by
          rw [← Array.getElem?_toList] at hc2
          exact List.mem_of_getElem? hc2
        rw [hps u hmem] at hpu
        cases hpu
      · rw [cell_setRow_other _ g _ a hab]; exact hc2
  · have holds : ∀ j u, xs[j]? = some u → (W.alloc (.cells #[x] e)).cell? ((⟨g, 0, none⟩ : Addr).add j) = some u := fun j u hj => by
      have hjl := (List.getElem?_eq_some_iff.1 hj).1
      have h1 := PRow.at_ (hp.below hb0) j hjl
      have e1 : (⟨g, 0, none⟩ : Addr).add j = ⟨g, j, none⟩ := by simp [Addr.add]; omega
      rw [e1, h1]
      exact (List.getElem?_eq_getElem hjl).symm.trans hj
    have hr := run_append_grow (P := P) (W.alloc (.cells #[x] e)) t ty e i z ht hi hz ⟨g, 0, none⟩ xs.length cap xs (by rw [hsz, Nat.mul_one]) holds ⟨W.heap.size, 0, none⟩ 1 1 [x] (by rw [hsz]; rfl) hnew (by omega) (by omega) (growslice_fits (by omega) (by have := Nat.mul_le_mul (show xs.length + 1 ≤ 1001 by omega) hby; omega))
    refine ⟨_, _, _, hr, ⟨_, heap_alloc_new _ _, ?_, by rw [hlen]; exact grownCap_ge _ _ _ _, grownCap_le_maxLen _ _ _ _ (by simp only [maxLen]; omega), ?_, ?_⟩, ?_, .inr (by rw [World.size_alloc]; omega), ⟨rfl, rfl, rfl, by simp, fun k hk _ => heap_alloc_old _ _ hk⟩⟩
    · have := grownCap_ge (W.alloc (.cells #[x] e)) (xs.length + 1) cap e
      simp only [Array.size_append, List.size_toArray, size_zeroCells, hzc, List.length_singleton]
      simp
      omega
    · simp only [Array.toList_append, List.toList_toArray, hlen]
      rw [← hlen]
      exact List.take_left
    · intro u hu
      simp only [Array.toList_append, List.toList_toArray, List.mem_append, List.mem_singleton] at hu
      rcases hu with (hu | hu) | hu
      · have : u ∈ cur.toList := by rw [← htk] at hu; exact List.mem_of_mem_take hu
        exact hps u this
      · rw [hu]; exact hx
      · rw [hzc] at hu
        have : u = z := by
          simp only [Builtin.zeroCells] at hu
          simp at hu
          obtain ⟨a, _, e⟩ := hu
          rw [Nat.mod_one] at e
          simpa using e.symm
        rw [this]; exact hzp
    · intro a u hc hpu
      have hb2 : Below W.heap.size W ((W.alloc (.cells #[x] e)).drew.alloc (.cells (xs.toArray ++ [x].toArray ++ Builtin.zeroCells z.cells (grownCap (W.alloc (.cells #[x] e)) (xs.length + 1) cap e - (xs.length + 1))) e)) := (below_drew hb0).alloc (below_drew hb0).size _
      exact pw_cell_below hb2 hc
theorem prow_step {P : Program} {ops : Array Oper} {rest : List Oper} {o : Oper} {a : Act} {Q : Exit → Act → World → Prop} (hgd : o.guard = none) (s x : Operand) (t e : TypeId) (z : Value) (bytes : Nat)
    (ho : o.op = .call { callee := .builtin .append, args := #[s, x], argTypes := #[t, t] }) (ht : P.underlying t = some (.slice e)) (hinfo : (P.info? e).map (fun i => (i.zero, i.size, i.bytes)) = some (some z, 1, bytes)) (hzc : z.cells = #[z]) (hzp : isPS z = true) (hby : bytes ≤ 24)
    {W : World} {g cap m : Nat} {xs : List Value} {v : Value} (hp : PRow W e g cap xs) (hm : xs.length = m) (hv : isPS v = true) (hn : m ≤ 1000) {ad : Addr} (had : ad = ⟨g, 0, none⟩) (hs : a.eval s = .slice (some ad) m cap) (hx : a.eval x = .slice (some ⟨W.heap.size, 0, none⟩) 1 1)
    (h : ∀ g' cap' w1, PRow w1 e g' cap' (xs ++ [v]) → KK W w1 → (g' = g ∨ W.heap.size ≤ g') → (W.alloc (.cells #[v] e)).grownBy w1 (some g) → wpList P ops Q rest (a.put o.dst (.slice (some ⟨g', 0, none⟩) (m + 1) cap')) w1) :
    wpList P ops Q (o :: rest) a (W.alloc (.cells #[v] e)) := by
  obtain ⟨i, hi, hzz⟩ := Option.map_eq_some_iff.1 hinfo
  simp only [Prod.mk.injEq] at hzz
  obtain ⟨hz0, hz1, hz2⟩ := hzz
  subst hm had
  obtain ⟨g', cap', w1, hr, h1, h2, h3, h4⟩ := prow_append (P := P) o.type ht hi hz0 hz1 hzc hzp (by omega) hp hv hn
  refine wpList_plain hgd fun K hK => ?_
  unfold Oper.wp execOp
  simp only [ho, resolve, invoke, builtin, Sem.run_bind, Sem.run_pure, Result.andThen_ok, List.map_toArray, List.map_cons, List.map_nil, hs, hx, hr]
  have := h g' cap' w1 h1 h2 h3 h4
  rw [show xs.length + 1 = (xs ++ [v]).length by simp] at this
  exact hK _ _ this
/-- The two rows of TreeOld: trees, and what they answered. -/
structure OldAt (l0 : List S51) (w : World) (m1 m2 g1 c1 g2 c2 : Nat) (tv rv : List Value) : Prop where
  p1 : PRow w 47 g1 c1 tv
  p2 : PRow w 22 g2 c2 rv
  n1 : tv.length = m1
  n2 : rv.length = m2
  tr : ∀ q v, tv[q]? = some v → TreeOf w (doAll (l0.take q)) v
  rr : ∀ q v, rv[q]? = some v → ∃ A c, v = .slice A (doAll (l0.take q)).length c ∧ (doAll (l0.take q)).length ≤ c ∧ Kd.C k26 w A (doAll (l0.take q)).length (doAll (l0.take q))
theorem OldAt.ne {l0 : List S51} {w : World} {m1 m2 g1 c1 g2 c2 : Nat} {tv rv : List Value} (h : OldAt l0 w m1 m2 g1 c1 g2 c2 tv rv) : g1 ≠ g2 := by
  obtain ⟨cur, hg, _⟩ := h.p1
  obtain ⟨cur2, hg2, _⟩ := h.p2
  exact blk_ne hg hg2 (by decide)
theorem OldAt.below {l0 : List S51} {w w' : World} {m1 m2 g1 c1 g2 c2 : Nat} {tv rv : List Value} (h : OldAt l0 w m1 m2 g1 c1 g2 c2 tv rv) (hb : Below w.heap.size w w') : OldAt l0 w' m1 m2 g1 c1 g2 c2 tv rv :=
  ⟨h.p1.below hb, h.p2.below hb, h.n1, h.n2, fun q v hq => (h.tr q v hq).below hb, fun q v hq => by obtain ⟨A, c, e, hc, hC⟩ := h.rr q v hq; exact ⟨A, c, e, hc, Kd.C_below hC hb⟩⟩
theorem OldAt.kk {l0 : List S51} {w w' : World} {m1 m2 g1 c1 g2 c2 : Nat} {tv rv : List Value} (h : OldAt l0 w m1 m2 g1 c1 g2 c2 tv rv) (hk : KK w w') : (∀ q v, tv[q]? = some v → TreeOf w' (doAll (l0.take q)) v) ∧ (∀ q v, rv[q]? = some v → ∃ A c, v = .slice A (doAll (l0.take q)).length c ∧ (doAll (l0.take q)).length ≤ c ∧ Kd.C k26 w' A (doAll (l0.take q)).length (doAll (l0.take q))) :=
  ⟨fun q v hq => (h.tr q v hq).kk hk, fun q v hq => by obtain ⟨A, c, e, hc, hC⟩ := h.rr q v hq; exact ⟨A, c, e, hc, row26_kk hC hk⟩⟩
/-- Behind an append to the trees. -/
theorem OldAt.push1 {l0 : List S51} {W w1 : World} {m1 m2 g1 c1 g2 c2 g' c' : Nat} {tv rv : List Value} {v : Value} {o : Obj} (h : OldAt l0 W m1 m2 g1 c1 g2 c2 tv rv) (hv : TreeOf W (doAll (l0.take m1)) v)
    (hp : PRow w1 47 g' c' (tv ++ [v])) (hk : KK W w1) (hg : (W.alloc o).grownBy w1 (some g1)) : OldAt l0 w1 (m1 + 1) m2 g' c' g2 c2 (tv ++ [v]) rv := by
  have hb0 : Below W.heap.size W (W.alloc o) := (Below.refl _ _).alloc (Nat.le_refl _) o
  obtain ⟨h1, h2⟩ := h.kk hk
  have hne := h.ne
  have hp2 := h.p2.below hb0
  refine ⟨hp, hp2.step (hg.block g2 hp2.lt (fun e => hne (by injection e with e; exact e.symm))), by rw [List.length_append, h.n1]; rfl, h.n2, fun q v' hq => ?_, h2⟩
  by_cases hlt : q < tv.length
  · rw [List.getElem?_append_left hlt] at hq
    exact h1 q v' hq
  · rw [List.getElem?_append_right (by omega)] at hq
    have hq0 : q - tv.length = 0 := by
      have := (List.getElem?_eq_some_iff.1 hq).1
      simp at this
      omega
    rw [hq0] at hq
    obtain rfl : v = v' := by simpa using hq
    have : q = m1 := by have := h.n1; omega
    rw [this]
    exact hv.kk hk
/-- Behind an append to the rows. -/
theorem OldAt.push2 {l0 : List S51} {W w1 : World} {m1 m2 g1 c1 g2 c2 g' c' : Nat} {tv rv : List Value} {A : Option Addr} {c : Nat} {o : Obj} (h : OldAt l0 W m1 m2 g1 c1 g2 c2 tv rv) (hc : (doAll (l0.take m2)).length ≤ c) (hC : Kd.C k26 W A (doAll (l0.take m2)).length (doAll (l0.take m2)))
    (hp : PRow w1 22 g' c' (rv ++ [.slice A (doAll (l0.take m2)).length c])) (hk : KK W w1) (hg : (W.alloc o).grownBy w1 (some g2)) : OldAt l0 w1 m1 (m2 + 1) g1 c1 g' c' tv (rv ++ [.slice A (doAll (l0.take m2)).length c]) := by
  have hb0 : Below W.heap.size W (W.alloc o) := (Below.refl _ _).alloc (Nat.le_refl _) o
  obtain ⟨h1, h2⟩ := h.kk hk
  have hne := h.ne
  have hp1 := h.p1.below hb0
  refine ⟨hp1.step (hg.block g1 hp1.lt (fun e => hne (by injection e with e))), hp, h.n1, by rw [List.length_append, h.n2]; rfl, h1, fun q v' hq => ?_⟩
  by_cases hlt : q < rv.length
  · rw [List.getElem?_append_left hlt] at hq
    exact h2 q v' hq
  · rw [List.getElem?_append_right (by omega)] at hq
    have hq0 : q - rv.length = 0 := by
      have := (List.getElem?_eq_some_iff.1 hq).1
      simp at this
      omega
    rw [hq0] at hq
    obtain rfl : _ = v' := by simpa using hq
    have : q = m2 := by have := h.n2; omega
    subst this
    exact ⟨A, c, rfl, hc, row26_kk hC hk⟩
/-! walk -/
theorem info47 : (Try.prog.info? 47).map (fun i => (i.zero, i.size, i.bytes)) = some (some (.pointer none), 1, 8) := by kernel_rfl
theorem infoR22 : (Try.prog.info? 22).map (fun i => (i.zero, i.size, i.bytes)) = some (some (.slice none 0 0), 1, 24) := by kernel_rfl
theorem TreeOf.ps {w : World} {l : List S26} {v : Value} (h : TreeOf w l v) : isPS v = true := by
  obtain ⟨h, t, h1, _, _⟩ := h
  rcases h1 with ⟨rfl, _⟩ | ⟨b, u, rfl, _⟩ <;> rfl
theorem TreeOf.ptr {w : World} {l : List S26} {v : Value} (h : TreeOf w l v) : ∃ pt, v = .pointer pt := by
  obtain ⟨h, t, h1, _, _⟩ := h
  rcases h1 with ⟨rfl, _⟩ | ⟨b, u, rfl, _⟩ <;> exact ⟨_, rfl⟩
theorem prow_lit {w : World} {g ty : Nat} {v : Value} (hg : w.heap[g]? = some (.cells #[v] ty (0, 0))) (hv : isPS v = true) : PRow w ty g 1 [v] :=
  ⟨_, hg, rfl, Nat.le_refl _, by decide, rfl, fun u hu => by have : u = v := by simpa using hu
                                                             rw [this]; exact hv⟩
theorem old_start {l0 : List S51} {w : World} {v : Value} (h : TreeOf w [] v) : OldAt l0 ((w.alloc (.cells #[v] 47)).alloc (.cells #[.slice none 0 0] 22)) 1 1 w.heap.size 1 (w.heap.size + 1) 1 [v] [.slice none 0 0] := by
  have hb1 : Below w.heap.size w (w.alloc (.cells #[v] 47)) := (Below.refl _ _).alloc (Nat.le_refl _) _
  have hb2 : Below w.heap.size w ((w.alloc (.cells #[v] 47)).alloc (.cells #[.slice none 0 0] 22)) := hb1.alloc hb1.size _
  have e0 : doAll (l0.take 0) = [] := rfl
  refine ⟨prow_lit (blk_below (blk_new w _) ((Below.refl _ _).alloc (Nat.le_refl _) _)) h.ps, prow_lit (by have := blk_new (w.alloc (.cells #[v] 47)) (.cells #[.slice none 0 0] 22); rwa [World.size_alloc] at this) rfl, rfl, rfl, fun q v' hq => ?_, fun q v' hq => ?_⟩
  · obtain rfl : q = 0 := by have := (List.getElem?_eq_some_iff.1 hq).1; simp at this; exact this
    obtain rfl : v = v' := by simpa using hq
    rw [e0]
    exact h.below hb2
  · obtain rfl : q = 0 := by have := (List.getElem?_eq_some_iff.1 hq).1; simp at this; exact this
    obtain rfl : _ = v' := by simpa using hq
    rw [e0]
    exact ⟨none, 0, rfl, Nat.le_refl _, Kd.C_nil k26 _⟩
theorem is_len (l : List S26) (n : Nat) (hn : l.length = n) (hl : n ≤ 10000) (hr : ND.Ris l) (W : World) (A : Option Addr) (c : Nat) (h0 : Kd.C k26 W A n l) (hc0 : n ≤ c) :
    Calls Try.prog 27 #[.slice A n c] W fun e w' => e = .returned (.bool true) ∧ Below W.heap.size W w' := by
  subst hn
  exact sextonref09_Is.calls (l.length + 2) A c l true W h0 hc0 (by rw [ND.refIs_f l (by omega) _ (by omega), (ND.risB_iff l).2 hr])
def sextonlaw10_TreeOld.f (_ : List S51) : Option Bool := some true
set_option maxHeartbeats 16000000 in
set_option maxRecDepth 100000 in
theorem sextonlaw10_TreeOld.calls (A0 : Option Addr) (c0 : Nat) (l0 : List (S51)) (r : Bool) (w : World) (hr0 : Kd.C k51 w A0 l0.length l0) (hc0 : l0.length ≤ c0) (h : sextonlaw10_TreeOld.f l0 = some r) :
    Calls Try.prog 9 #[.slice A0 l0.length c0] w fun e w' => e = .returned (.bool r) ∧ Below w.heap.size w w' := by
  obtain rfl : true = r := Option.some.inj h
  clear h
  have HR := Aside0.mk hr0
  obtain ⟨rb, hb, hle⟩ := big10_f l0
  have HBig := Aside0.mk (big10_calls rb l0 hb w A0 c0 HR.out hc0)
  have hmx := hr0.2.1
  clear hb hr0 hc0
  obtain ⟨n, hn⟩ : ∃ n, n = l0.length := ⟨_, rfl⟩
  have HN := Aside0.mk hn
  rw [← hn] at HBig hmx ⊢
  clear hn hle
  cases rb with
  | true =>
    go_enter Try.func9, Try.ntmps9
    go_wp2_with (first | (go_at_call 30; (with_reducible refine HBig.out.mono ?_); rintro e w3 ⟨rfl, hb⟩; have HB3 := Aside0.mk hb; clear hb) | fail)
    go_ret
    exact ⟨rfl, HB3.out⟩
  | false =>
    by_cases c1 : (60 : Int) < (n : Int)
    · go_enter Try.func9, Try.ntmps9
      go_wp2_with (first | (go_at_call 30; (with_reducible refine HBig.out.mono ?_); rintro e w3 ⟨rfl, hb⟩; have HB3 := Aside0.mk hb; clear hb) | fail)
      go_ret
      exact ⟨rfl, HB3.out⟩
    · have hl60 : n ≤ 60 := by omega
      go_enter Try.func9, Try.ntmps9
      go_wp2_with (first | (go_at_call 30; (with_reducible refine HBig.out.mono ?_); rintro e w2 ⟨rfl, hb⟩; have HB2 := Aside0.mk hb; clear hb) | (go_at_call 31; (with_reducible refine (new_calls _).mono ?_); rintro e w3 ⟨v3, rfl, ht, hb⟩; obtain ⟨pt3, rfl⟩ := ht.ptr; have HT3 := Aside0.mk ht; have HB3 := Aside0.mk (HB2.out.trans (hb.mono HB2.out.size)); clear ht hb) | fail)
      clear HB2 HBig
      go_loopw [3, 4, 5] (fun a b i wr => ∃ (j : Nat) (ad1 ad2 : Addr) (g1 c1 g2 c2 : Nat) (tv rv : List Value), j ≤ n ∧ a = .slice (some ad1) (j + 1) c1 ∧ b = .slice (some ad2) (j + 1) c2 ∧ i = .int .i64 j ∧ Aside0 (ad1 = ⟨g1, 0, none⟩ ∧ ad2 = ⟨g2, 0, none⟩ ∧ w.heap.size ≤ g1 ∧ w.heap.size ≤ g2) ∧ Aside0 (OldAt l0 wr (j + 1) (j + 1) g1 c1 g2 c2 tv rv) ∧ Aside0 (Below w.heap.size w wr))
        (fun _ _ i _ => n - (intOf i).toNat)
      case atStart =>
        refine ⟨0, ⟨w3.heap.size, 0, none⟩, ⟨w3.heap.size + 1, 0, none⟩, w3.heap.size, 1, w3.heap.size + 1, 1, [.pointer pt3], [.slice none 0 0], Nat.zero_le _, rfl, rfl, rfl, ⟨rfl, rfl, HB3.out.size, Nat.le_succ_of_le HB3.out.size⟩, ⟨old_start HT3.out⟩, ⟨?_⟩⟩
        have h1 := HB3.out.alloc HB3.out.size (.cells #[.pointer pt3] 47)
        exact h1.alloc h1.size _
      case round =>
        clear HT3 HB3
        obtain ⟨j, ad1, ad2, g1, c1, g2, c2, tv, rv, hj, rfl, rfl, rfl, HA, HO, HB⟩ := hrel
        by_cases hlt : j < n
        · have hltl : j < l0.length := by rw [← HN.out]; exact hlt
          obtain ⟨ad, hA0, x0, x1, x2, x3⟩ := step_at HR.out HB.out j hltl
          subst hA0
          have hjt : j < tv.length := by have := HO.out.n1; omega
          have hy := HO.out.p1.at_ j hjt
          have hy2 : wr.cell? (ad1.add j) = some tv[j] := by
            rw [HA.out.1, show (⟨g1, 0, none⟩ : Addr).add j = ⟨g1, j, none⟩ by simp [Addr.add]; omega]
            exact hy
          have hT0 := HO.out.tr j tv[j] (List.getElem?_eq_getElem hjt)
          obtain ⟨pt, hpt⟩ := hT0.ptr
          rw [hpt] at hy2 hT0
          have hpl := (doAll_ris (l0.take j) (by rw [List.length_take]; omega)).2
          rw [List.length_take] at hpl
          have hpl2 := (doAll_ris (l0.take (j + 1)) (by rw [List.length_take]; omega)).2
          rw [List.length_take] at hpl2
          have HDo := Aside0.mk (fun W (hW : Below wr.heap.size wr W) => do_calls (doAll (l0.take j)) (.pointer pt) l0[j].f0 l0[j].f1 W (hT0.below hW) (by omega))
          rw [← doAll_take l0 j hltl] at HDo
          have HAll := Aside0.mk (fun v W (hT : TreeOf W (doAll (l0.take (j + 1))) v) => all_len_calls (doAll (l0.take (j + 1))) _ rfl v W hT (by omega))
          have HS := Aside0.mk (And.intro hy2 (And.intro x0 (And.intro x1 (And.intro x2 x3))))
          have hj1 : (j : Int) < ((j : Int) + 1) := by omega
          have hjn : (j : Int) < (n : Int) := by omega
          have hj0 : (0 : Int) ≤ (j : Int) := by omega
          clear hy hy2 x0 x1 x2 x3 hT0 hpl hpt
          generalize l0[j] = p at *
          go_wp2
          go_region_held3 (fun W => W.cell? (ad1.add j) = some (.pointer pt) ∧ W.cell? (ad.add (j * 4)) = some (.int .i64 p.f0) ∧ W.cell? ⟨(ad.add (j * 4)).block, (ad.add (j * 4)).off + 1, none⟩ = some (.string p.f1.f0.f0) ∧ W.cell? ⟨(ad.add (j * 4)).block, (ad.add (j * 4)).off + 2, none⟩ = some (.int .i64 p.f1.f0.f1) ∧ W.cell? ⟨(ad.add (j * 4)).block, (ad.add (j * 4)).off + 3, none⟩ = some (.string p.f1.f1)) (first | exact HS6.out | exact cells5 (below_drew (Below.refl _ _)) HS.out | fail) (first | (go_at_call 32; (with_reducible refine (HDo.out _ (below_drew (Below.refl _ _))).mono ?_); rintro e w6 ⟨v6, rfl, ht, hb⟩; have hb' := below_step (below_drew (Below.refl _ _)) hb; obtain ⟨pt6, rfl⟩ := ht.ptr; have HT6 := Aside0.mk ht; have HO6 := Aside0.mk (HO.out.below hb'); have HS6 := Aside0.mk (cells5 hb' HS.out); have HB6 := Aside0.mk (HB.out.trans (hb'.mono HB.out.size)); clear ht hb hb') | fail)
          clear HS HS6 HB HDo
          go_wp2_with (first | ((with_reducible refine gate_builtin (b := .append) (xs := #[.tmp 35, .tmp 37]) rfl ?_); at_builtin; refine prow_step rfl (.tmp 35) (.tmp 37) 61 47 (.pointer none) 8 rfl Try.underlying61 info47 rfl rfl (by omega) HO6.out.p1 HO6.out.n1 rfl (by omega) HA.out.1 rfl rfl ?_; intro g1' c1' w7 hp hk hgg hgb; have HO7 := Aside0.mk (HO6.out.push1 HT6.out hp hk hgb); have HB7 := Aside0.mk (Below.grown (HB6.out.alloc HB6.out.size _) hgb (Nat.le_trans HB6.out.size (by rw [World.size_alloc]; omega)) (fun k hk => by injection hk with hk; rw [← hk]; exact HA.out.2.2.1)); have HT7 := Aside0.mk (HT6.out.kk hk); have HG7 := Aside0.mk (show w.heap.size ≤ g1' by have := HA.out.2.2.1; have := HB6.out.size; omega); clear hp hk hgg hgb; go_wp2_with (first | (go_at_call 38; (with_reducible refine (HAll.out _ _ HT7.out).mono ?_); rintro e w8 ⟨A8, c8, rfl, h8, hC8, hb⟩; have HC8 := Aside0.mk hC8; have HO8 := Aside0.mk (HO7.out.below hb); have HB8 := Aside0.mk (HB7.out.trans (hb.mono HB7.out.size)); clear hC8 hb) | ((with_reducible refine gate_builtin (b := .append) (xs := #[.tmp 39, .tmp 42]) rfl ?_); at_builtin; refine prow_step rfl (.tmp 39) (.tmp 42) 62 22 (.slice none 0 0) 24 rfl Try.underlying62 infoR22 rfl rfl (by omega) HO8.out.p2 HO8.out.n2 rfl (by omega) HA.out.2.1 rfl rfl ?_; intro g2' c2' w9 hp hk hgg hgb; have HO9 := Aside0.mk (HO8.out.push2 h8 HC8.out hp hk hgb); have HB9 := Aside0.mk (Below.grown (HB8.out.alloc HB8.out.size _) hgb (Nat.le_trans HB8.out.size (by rw [World.size_alloc]; omega)) (fun k hk => by injection hk with hk; rw [← hk]; exact HA.out.2.2.2)); have HG9 := Aside0.mk (show w.heap.size ≤ g2' by have := HA.out.2.2.2; have := HB8.out.size; omega); clear hp hk hgg hgb) | fail)) | fail)
          go_roundw
          case rel => exact ⟨j + 1, _, _, g1', c1', g2', c2', _, _, hlt, rfl, rfl, by go_num, ⟨rfl, rfl, HG7.out, HG9.out⟩, HO9, HB9⟩
          case measure => simp [intOf]; omega
        · obtain rfl : j = n := by omega
          obtain ⟨w0, hw0⟩ : ∃ w0, w0 = wr := ⟨_, rfl⟩
          subst hw0
          clear hlt hj
          go_wp2
          go_loopw [7] (fun i wr => ∃ q : Nat, q ≤ j ∧ i = .int .i64 q ∧ Aside0 (Below w0.heap.size w0 wr))
            (fun i _ => j - (intOf i).toNat)
          case atStart => exact ⟨0, Nat.zero_le _, rfl, ⟨Below.refl _ _⟩⟩
          case round =>
            obtain ⟨q, hq, rfl, HBq⟩ := hrel
            by_cases hlt : q < j
            · have hltl : q < l0.length := by rw [← HN.out]; exact hlt
              have hl0 : 0 < l0.length := by omega
              have HBw := HB.out.trans (HBq.out.mono HB.out.size)
              obtain ⟨ad, hA0, x0, x1, x2, x3⟩ := step_at HR.out HBw q hltl
              obtain ⟨ad', hA0', z0, z1, z2, z3⟩ := step_at HR.out HBw 0 hl0
              subst hA0
              obtain rfl : ad = ad' := Option.some.inj hA0'
              rw [show 0 * 4 = 0 from rfl, Addr.add_zero'] at z1 z2 z3
              have hOq := HO.out.below HBq.out
              have hjt : q < tv.length := by have := hOq.n1; omega
              have hy := hOq.p1.at_ q hjt
              have hy2 : wr.cell? (ad1.add q) = some tv[q] := by
                rw [HA.out.1, show (⟨g1, 0, none⟩ : Addr).add q = ⟨g1, q, none⟩ by simp [Addr.add]; omega]
                exact hy
              have hT0 := hOq.tr q tv[q] (List.getElem?_eq_getElem hjt)
              obtain ⟨pt, hpt⟩ := hT0.ptr
              rw [hpt] at hy2 hT0
              have hpl := (doAll_ris (l0.take q) (by rw [List.length_take]; omega)).2
              rw [List.length_take] at hpl
              have HDo1 := Aside0.mk (fun W (hW : Below wr.heap.size wr W) => do_calls (doAll (l0.take q)) (.pointer pt) 1 ⟨l0[q].f1.f0, ⟨#[115, 109, 117, 100, 103, 101]⟩⟩ W (hT0.below hW) (by omega))
              have HDo2 := Aside0.mk (fun W (hW : Below wr.heap.size wr W) => do_calls (doAll (l0.take q)) (.pointer pt) 2 l0[0].f1 W (hT0.below hW) (by omega))
              have HS := Aside0.mk (And.intro hy2 (And.intro x1 x2))
              have HZ := Aside0.mk (And.intro hy2 (And.intro z1 (And.intro z2 z3)))
              have hq1 : (q : Int) < ((j : Int) + 1) := by omega
              have hqn : (q : Int) < (j : Int) := by omega
              have hq0 : (0 : Int) ≤ (q : Int) := by omega
              have hjj : (0 : Int) < (j : Int) := by omega
              have hjN : 0 < j := by omega
              have hjN1 : (1 : Int) ≤ (j : Int) := by omega
              clear hy hy2 x0 x1 x2 x3 z0 z1 z2 z3 hT0 hpl hpt hA0' hOq HBw
              generalize l0[q] = p at *
              generalize l0[0] = p0 at *
              go_wp2
              go_region_held3 (fun W => W.cell? (ad1.add q) = some (.pointer pt) ∧ W.cell? ⟨(ad.add (q * 4)).block, (ad.add (q * 4)).off + 1, none⟩ = some (.string p.f1.f0.f0) ∧ W.cell? ⟨(ad.add (q * 4)).block, (ad.add (q * 4)).off + 2, none⟩ = some (.int .i64 p.f1.f0.f1)) (first | exact HS6.out | exact cells3 (below_drew (Below.refl _ _)) HS.out | fail) (first | (go_at_call 32; (with_reducible refine (HDo1.out _ (below_drew (Below.refl _ _))).mono ?_); rintro e w6 ⟨v6, rfl, _, hb⟩; have hb' := below_step (below_drew (Below.refl _ _)) hb; have HS6 := Aside0.mk (cells3 hb' HS.out); have HZ6 := Aside0.mk (cells4 hb' HZ.out); have HB6 := Aside0.mk hb'; clear hb hb') | fail)
              go_wp2
              go_region_held3 (fun W => W.cell? (ad1.add q) = some (.pointer pt) ∧ W.cell? ⟨ad.block, ad.off + 1, none⟩ = some (.string p0.f1.f0.f0) ∧ W.cell? ⟨ad.block, ad.off + 2, none⟩ = some (.int .i64 p0.f1.f0.f1) ∧ W.cell? ⟨ad.block, ad.off + 3, none⟩ = some (.string p0.f1.f1)) (first | exact HZ7.out | exact cells4 (below_drew (Below.refl _ _)) HZ6.out | fail) (first | (go_at_call 32; (with_reducible refine (HDo2.out _ (below_drew HB6.out)).mono ?_); rintro e w7 ⟨v7, rfl, _, hb⟩; have hb' := below_step (below_drew (Below.refl _ _)) hb; have HZ7 := Aside0.mk (cells4 hb' HZ6.out); have HB7 := Aside0.mk (HBq.out.trans ((HB6.out.trans (hb'.mono HB6.out.size)).mono HBq.out.size)); clear hb hb') | fail)
              go_wp2
              go_roundw
              case rel => exact ⟨q + 1, hlt, by go_num, HB7⟩
              case measure => simp [intOf]; omega
            · obtain rfl : q = j := by omega
              have HO1 := Aside0.mk (HO.out.below HBq.out)
              have HB1 := Aside0.mk (HB.out.trans (HBq.out.mono HB.out.size))
              clear HO HB HBq hlt hq HR
              obtain ⟨w1, hw1⟩ : ∃ w1, w1 = wr := ⟨_, rfl⟩
              subst hw1
              go_wp2
              go_loopw [8] (fun i wr => ∃ m : Nat, m ≤ q + 1 ∧ i = .int .i64 m ∧ Aside0 (Below w1.heap.size w1 wr))
                (fun i _ => q + 1 - (intOf i).toNat)
              case atStart => exact ⟨0, Nat.zero_le _, rfl, ⟨Below.refl _ _⟩⟩
              case round =>
                obtain ⟨m, hm, rfl, HBm⟩ := hrel
                by_cases hlm : m < q + 1
                · have hO := HO1.out.below HBm.out
                  have hjt : m < tv.length := by have := hO.n1; omega
                  have hjr : m < rv.length := by have := hO.n2; omega
                  have hy := hO.p1.at_ m hjt
                  have hz := hO.p2.at_ m hjr
                  have hT0 := hO.tr m tv[m] (List.getElem?_eq_getElem hjt)
                  obtain ⟨Ar, cr, hrv, hcr, hCr⟩ := hO.rr m rv[m] (List.getElem?_eq_getElem hjr)
                  have hri := (doAll_ris (l0.take m) (by rw [List.length_take]; omega))
                  obtain ⟨hri, hpl⟩ := hri
                  rw [List.length_take] at hpl
                  have hy2 : wr.cell? (ad1.add m) = some tv[m] := by
                    rw [HA.out.1, show (⟨g1, 0, none⟩ : Addr).add m = ⟨g1, m, none⟩ by simp [Addr.add]; omega]
                    exact hy
                  have hz2 : wr.cell? (ad2.add m) = some (.slice Ar (doAll (l0.take m)).length cr) := by
                    rw [HA.out.2.1, show (⟨g2, 0, none⟩ : Addr).add m = ⟨g2, m, none⟩ by simp [Addr.add]; omega, ← hrv]
                    exact hz
                  obtain ⟨nm, hnm⟩ : ∃ nm, nm = (doAll (l0.take m)).length := ⟨_, rfl⟩
                  rw [← hnm] at hz2 hcr hCr hpl
                  have HCr := Aside0.mk hCr
                  have HAll := Aside0.mk (all_len_calls (doAll (l0.take m)) nm hnm.symm tv[m] wr hT0 (by omega))
                  have HSame := Aside0.mk (fun W A0 c0 A1 c1 h0 hc0 h1 hc1 => same_len (doAll (l0.take m)) nm hnm.symm (by omega) W A0 c0 A1 c1 h0 hc0 h1 hc1)
                  have HIs := Aside0.mk (fun W A c h0 hc0 => is_len (doAll (l0.take m)) nm hnm.symm (by omega) hri W A c h0 hc0)
                  have hq1 : (m : Int) < ((q : Int) + 1) := by omega
                  clear hO hy hz hT0 hrv hCr hri hpl hnm
                  generalize tv[m] = tm at *
                  generalize doAll (l0.take m) = dm at *
                  go_wp2_with (first | (go_at_call 38; (with_reducible refine HAll.out.mono ?_); rintro e w5 ⟨A5, c5, rfl, h5, hC5, hb⟩; have HC5 := Aside0.mk hC5; have HCr5 := Aside0.mk (Kd.C_below HCr.out hb); have HB5 := Aside0.mk (HBm.out.trans (hb.mono HBm.out.size)); have hz5 := pw_cell_below hb hz2; clear hC5 hb; go_wp2_with (first | (go_at_call 25; (with_reducible refine (HSame.out _ A5 c5 Ar cr HC5.out h5 HCr5.out hcr).mono ?_); rintro e w6 ⟨rfl, hb⟩; have HC6 := Aside0.mk (Kd.C_below HC5.out hb); have HB6 := Aside0.mk (HB5.out.trans (hb.mono HB5.out.size)); clear hb; go_wp2_with (first | (go_at_call 27; (with_reducible refine (HIs.out _ A5 c5 HC6.out h5).mono ?_); rintro e w7 ⟨rfl, hb⟩; have HB7 := Aside0.mk (HB6.out.trans (hb.mono HB6.out.size)); clear hb) | fail)) | fail)) | fail)
                  go_roundw
                  case rel => exact ⟨m + 1, hlm, by go_num, HB7⟩
                  case measure => simp [intOf]; omega
                · obtain rfl : m = q + 1 := by omega
                  have HBf := Aside0.mk (HB1.out.trans (HBm.out.mono HB1.out.size))
                  go_wp2_with (first | (go_at_call 37; (with_reducible refine (grown_calls _).mono ?_); rintro e w5 ⟨rfl, hb⟩; have HB5 := Aside0.mk (HBf.out.trans (hb.mono HBf.out.size)); clear hb) | fail)
                  go_ret
                  exact ⟨rfl, HB5.out⟩
end Go.Proofs.Ytoiohlmiofplcaa.P
/-
  The plain law of TreeOld: the walk answers true for every input.
-/
namespace Go.Proofs.Ytoiohlmiofplcaa.Pure
open Go.RowKit Go.Proofs.YtoiohlmiofplcaaW.PrintWords Go.Proofs.YtoiohlmiofplcaaW.PrintLast Go.Proofs.Ytoiohlmiofplcaa.P Go.Proofs.Ytoiohlmiofplcaa.Opens
theorem TreeOld (l0 : List S51) {ok : S51 → Prop} (_h0 : OkList ok l0) : sextonlaw10_TreeOld.f l0 = some true := rfl
end Go.Proofs.Ytoiohlmiofplcaa.Pure
