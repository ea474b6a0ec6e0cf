/-
  codec.Number, by hand: its text for numbers 0 to 4294967295, an error for others. For every int.
-/
import Derived.RangeFuncNested
import Derived.RangeFuncBound
import Derived.RangeFuncCalls
import Derived.RangeFuncLeaves
import Derived.RangeFuncBox
import Derived.Shelf.Abstract
import Derived.Shelf.RegionOpen
import Derived.WalkKit
import Derived.OwnWalkIn
import Derived.TacticsInMore
import Derived.LoopNIn
import Derived.LoopIn
import Derived.Maps.AppendAt
import Derived.Outline
import Derived.Test.YtnkakhcombmdoaaMcodecPlain
import Derived.Laws.OwnMore
import Derived.Laws.BytesArg
import Derived.Test.YtnkakhcombmdoaaWMore
import Derived.Test.YtnkakhcombmdoaaHcodecBytes
namespace Go.Proofs.Ytnkakhcombmdoaa.P
open Go.RowKit Go.Shelf Go.Proofs.CodecPlain Go.Proofs.YtnkakhcombmdoaaW.PrintWords

attribute [local go_sem] Oper.semAt_some

/-! NUMBER -/
theorem codec_bytes_stops (F : Fence) (m : Nat) (h : F.fn 49) (hro : F.round = none) (hm : 1 ≤ m) (Bn : Nat) (n : Int) (h0n : 0 ≤ n) (h1n : n ≤ 4294967295) (w : World)
    (hc : Boxed w Bn 3 (.int .i64 n)) :
    SeqStopsK F m Try.prog 49 #[.pointer (some ⟨Bn, 0, none⟩)] (fun x : Int => #[Value.int .u8 x]) (fun W W' => ∀ v, Boxed W Bn 3 v → Boxed W' Bn 3 v) (fun ys => ys = nbytes n) (fun _ => True) 4 w := fun l J Jx W hW _ _ hY h0 =>
  codec_bytes1_in F m h hro hm l Bn n h0n h1n J Jx hY W ((hW.block Bn hc.lt).trans hc) h0

theorem boxK_b {w : World} (Bn : Nat) (T : TypeId) (W : World) (l : Nat) (o o' : Obj) (_ : w.heap.size ≤ l) (h : W.heap[l]? = some o) (hn : o.isCells = false) (_ : o.isWalk = false) : ∀ v, Boxed W Bn T v → Boxed (W.putObj l o') Bn T v := fun v hv =>
  hv.kept (grownBy_putObj' W l o') (fun e => by cases e; rw [show W.heap[Bn]? = _ from hv] at h; cases h; cases hn)

theorem infoU8 : (Try.prog.info? 5).map (fun i => (i.zero, i.size, i.bytes)) = some (some (.int .u8 0), 1, 1) := by kernel_rfl

set_option maxRecDepth 100000 in
set_option maxHeartbeats 4000000 in
theorem codec_Number_in (F : Fence) (m : Nat) (h10 : F.fn 15) (h25 : F.fn 41) (h29 : F.fn 49) (hro : F.round = none) (hm : 3 ≤ m) (n : Int) (h0n : 0 ≤ n) (h1n : n ≤ 4294967295) (w : World) :
    CallsIn F m Try.prog 15 #[.int .i64 n] w fun e W' => e = .returned (.tuple #[.string (numStr n), .int .i64 0]) ∧ Below w.heap.size w W' := by
  have h1 : 1 ≤ m := by omega
  obtain ⟨i0, hi, hz0, hz1, hz2⟩ := info_parts infoU8
  refine callsIn_of_wp_marks Try.func15 rfl h10 ?_ hro
  simp only [Try.ntmps15, List.size_toArray, List.length_cons, List.length_nil, Nat.reduceAdd, Nat.reduceSub, Array.replicate_succ, Array.replicate_zero, List.push_toArray, List.append_toArray, List.nil_append, List.cons_append]
  gi_wp2_with (gi_at_call 41; refine (codec_bytes_in F (m - 1) h25 hro _ _).mono ?_; rintro e w' ⟨rfl, rfl⟩)
  have bL := Boxed.new (w.alloc (Obj.cells #[Value.int IntKind.u8 0] 5)) 34 (.slice (some ⟨w.heap.size, 0, none⟩) 1 1)
  have bN := Boxed.new ((w.alloc (Obj.cells #[Value.int IntKind.u8 0] 5)).alloc (Obj.cells #[Value.slice (some ⟨w.heap.size, 0, none⟩) 1 1] 34)) 3 (.int .i64 n)
  simp only [World.size_alloc] at bL bN
  have hB0 : Below w.heap.size w (((w.alloc (Obj.cells #[Value.int IntKind.u8 0] 5)).alloc (Obj.cells #[Value.slice (some ⟨w.heap.size, 0, none⟩) 1 1] 34)).alloc (Obj.cells #[Value.int IntKind.i64 n] 3)) := (((Below.refl _ w).alloc (Nat.le_refl _) _).alloc (by simp) _).alloc (by simp; omega) _
  have hown0 : (w.alloc (Obj.cells #[Value.int IntKind.u8 0] 5)).ownsRow w.heap.size 5 1 (.slice (some ⟨w.heap.size, 0, none⟩) 1 1) (([] : List Int).length + 1) (nums .u8 (0 :: [])) :=
    World.ownsRow_lit w #[.int .u8 0] 1 (Nat.le_refl _) (by simp [maxLen]) rfl
  refine wpIn_rangeFunc_ownG hro h1 (gf := 49) (lb := #[.pointer (some ⟨w.heap.size + 1 + 1, 0, none⟩)]) rfl h29 (enters_of Try.func49 (by kernel_rfl) rfl)
    (codec_bytes_stops F (m - 1) h29 hro (by omega) (w.heap.size + 1 + 1) n h0n h1n _ bN) (fun h k v hv => k v (h v hv)) (boxK_b _ _) (Below.refl _ _) (fun _ => rfl)
    (fun pre W => ((∃ v, Boxed W (w.heap.size + 1) 34 v ∧ W.ownsRow w.heap.size 5 1 v (pre.length + 1) (nums .u8 (0 :: pre)) ∧ True)) ∧ Below w.heap.size w W)
    (fun _ _ _ => False)
    (OwnFrom.and (Own.from (holdsRow_own w.heap.size (w.heap.size + 1) 34 5 1 (fun pre => pre.length + 1) (fun pre => nums .u8 (0 :: pre)) (fun _ _ => True)) _) (ownFrom_below (Nat.le_refl _) (by simp; omega)))
    (fun _ _ _ _ _ hs _ _ => hs)
    ⟨⟨_, bL.alloc _, (hown0.alloc _).alloc _, trivial⟩, hB0⟩
    (fun x => {
      tmps :=
        #[Value.int IntKind.i64 n, undef, Value.string { data := #[] }, Value.int IntKind.i64 0,
          Value.pointer (some { block := w.heap.size + 1, off := 0 }), Value.int IntKind.u8 x, Value.int IntKind.i64 n,
          Value.bool (decide (n < 0)), Value.bool (decide (n < 0)), Value.int IntKind.i64 n,
          Value.bool (decide (4294967295 < n)), Value.bool (decide (n < 0) || decide (4294967295 < n)),
          Value.slice (some { block := w.heap.size, off := 0 }) 1 1, Value.int IntKind.i64 n,
          Value.func (Fn.func 49) #[] #[Value.pointer (some { block := w.heap.size + 1 + 1, off := 0 })], Value.int IntKind.u8 x, undef,
          undef, undef, undef, undef, undef, undef, undef, undef, undef, undef, undef],
      defers := [] }) ?assign ?body ?done ?stop
  case assign =>
    intro l x W K hK
    gi_wp2
    exact hK
  case body =>
    rintro l pre x W ⟨⟨v, hv, hrow, _⟩, hB⟩ hlt
    have hc := hv.cell
    gi_wp2_with (gi_at_builtin; refine wpListIn_append_own _ rfl _ _ 34 rfl w.heap.size 5 i0 (.int .u8 0) 1 1 Try.underlying34 hi hz0 hz1 hz2 rfl (by decide) _ _ _ rfl (hrow.alloc _) ⟨W.heap.size, 0, none⟩ 1 1 [.int .u8 x] rfl rfl (cell_one_new _ _ _) (by simp [Value.oneCell']) (by simp [maxLen]; omega) (by omega) (by have := hB.size; simp; omega) ?_; intro v' w1 hown' hgrow _; obtain ⟨g', cap', rfl⟩ := ownsRow_succ hown'; obtain ⟨hv1, hv2, hr2, hk2, hb2⟩ := hv.appended (by decide) hrow hB.size (by omega) hown' hgrow; have hc1 := hv1.cell; have hf1 := hv1.frozen)
    refine ⟨hk2.from _, fun u hu => ?_, ⟨⟨_, hv2, ?_, trivial⟩, hB.trans hb2⟩⟩
    · have hu1 := (hu.alloc (.cells #[.int .u8 x] 5)).kept hgrow (hu.not_row (by decide) hrow)
      exact hu1.other (by omega) _
    · simpa [nums] using hr2
  case done =>
    rintro D ys W hD rfl ⟨⟨v, hv, hrow, _⟩, hB⟩ hK
    obtain ⟨g, cap, rfl⟩ := ownsRow_succ hrow
    have hc := hv.cell
    have hl4 := nbytes_length n
    have hne := (hv.not_row (by decide) hrow)
    have hgne : w.heap.size + 1 ≠ g := fun e => hne (by rw [e]; rfl)
    have hcg : W.cell? ⟨g, 0, none⟩ = some (.int .u8 0) := by rw [hrow.cellAt 0 (by omega)]; rfl
    have hfg : W.frozen? ⟨g, 0, none⟩ = false := hrow.frozenAt 0
    obtain ⟨hrow1, hgr1⟩ := hrow.stored 0 (.int .u8 ((nbytes n).length : Int))
    have hrow2 : (W.setCell ⟨g, 0, none⟩ (.int .u8 ((nbytes n).length : Int))).ownsRow w.heap.size 5 1 (.slice (some ⟨g, 0, none⟩) ((nbytes n).length + 1) cap) ((nbytes n).length + 1) (nums .u8 (((nbytes n).length : Int) :: nbytes n)) := by simpa [nums] using hrow1
    have hv1 := hv.other hgne (.int .u8 ((nbytes n).length : Int))
    have hc1 := hv1.cell
    have hcv := own_string (P := Try.prog) Try.underlying34 Try.underlying5 Try.underlying9 hrow2
    have hB2 : Below w.heap.size w (W.setCell ⟨g, 0, none⟩ (.int .u8 ((nbytes n).length : Int))) := hB.grown hgr1 hB.size (fun k e => by cases e; exact own_base hrow g rfl)
    have hK2 := (KeepsOthers.setCell W ⟨g, 0, none⟩ (.int .u8 ((nbytes n).length : Int))).same D _ hK rfl
    clear hrow1 hrow2 hgr1 hv1 hrow hv hne hK
    gi_wp2
    refine ⟨by simp, .inl ⟨_, _, rfl, run_takeDeferred hK2, ?_⟩⟩
    exact ⟨_, results_tmp2 rfl _ _ _, rfl, hB2.trans (belowK_b (w := w) (Nat.le_refl _) _ D _ _ (by simp at hD; omega) hK2 rfl rfl)⟩
  case stop =>
    rintro D c pre W _ _ h _
    exact h.elim

/-- What codec.Number answers. -/
def codec_Number.f (a0 : Int) : Option (ByteArray × Int) := if 0 ≤ a0 ∧ a0 ≤ 4294967295 then some (numStr a0, 0) else some (⟨#[]⟩, 1)

set_option maxHeartbeats 1000000 in
theorem codec_Number.bad (n : Int) (h : n < 0 ∨ 4294967295 < n) (w : World) :
    Calls Try.prog 15 #[.int .i64 n] w fun e w' => e = .returned (.tuple #[.string ⟨#[]⟩, .int .i64 1]) ∧ w' = w := by
  rcases h with h | h
  · have e1 : decide (n < 0) = true := decide_eq_true h
    clear h
    go_enter Try.func15, Try.ntmps15
    go_wp2
    go_ret2
    exact ⟨rfl, rfl⟩
  · have e1 : decide (n < 0) = false := decide_eq_false (by omega)
    have e2 : decide (4294967295 < n) = true := decide_eq_true h
    clear h
    go_enter Try.func15, Try.ntmps15
    go_wp2
    go_ret2
    exact ⟨rfl, rfl⟩

theorem codec_Number.calls (a0 : Int) (r1 : ByteArray) (r2 : Int) (w : World) (h : codec_Number.f a0 = some (r1, r2)) :
    Calls Try.prog 15 #[.int .i64 a0] w fun e w' => e = .returned (.tuple #[.string r1, .int .i64 r2]) ∧ Below w.heap.size w w' := by
  unfold codec_Number.f at h
  split at h
  · rename_i hn
    simp only [Option.some.injEq, Prod.mk.injEq] at h
    obtain ⟨rfl, rfl⟩ := h
    exact (callsIn_wide (n := 3)).1 (codec_Number_in Fence.wide 3 trivial trivial trivial rfl (by omega) a0 hn.1 hn.2 w)
  · rename_i hn
    simp only [Option.some.injEq, Prod.mk.injEq] at h
    obtain ⟨rfl, rfl⟩ := h
    exact (codec_Number.bad a0 (by omega) w).mono (by rintro e w' ⟨rfl, rfl⟩; exact ⟨rfl, Below.refl _ _⟩)
end Go.Proofs.Ytnkakhcombmdoaa.P
