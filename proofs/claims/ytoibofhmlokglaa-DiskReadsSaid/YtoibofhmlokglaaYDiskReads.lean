/-
  The plain statement of DiskReads: what is written is read; other blocks say what they said.
-/
import Derived.Test.YtoibofhmlokglaaLdiskRead
import Derived.Test.YtoibofhmlokglaaMOpens
import Derived.Test.YtoibofhmlokglaaHspun
import Derived.Test.YtoibofhmlokglaaFsextonlaw04DiskReads
namespace Go.Proofs.Ytoibofhmlokglaa.Pure
open Go.RowKit Go.Proofs.YtoibofhmlokglaaW.PrintWords Go.Proofs.YtoibofhmlokglaaW.PrintLast Go.Proofs.Ytoibofhmlokglaa.P Go.Proofs.Ytoibofhmlokglaa.Opens

theorem DiskReads (l0_0 : (List ByteArray)) (l0_1 : (List S40)) (a1 : Int) (a2 : Int) (a3 : ByteArray) (h0 : (OkPair (OkList OkStr) (OkList (fun b : S40 => (OkPair (OkInt .i64) OkStr) (b.f0, b.f1)))) (l0_0, l0_1)) (h1 : OkInt .i64 a1) (h2 : OkInt .i64 a2) (h3 : OkStr a3) :
    ∃ k, sextonlaw04_DiskReads.f k l0_0 l0_1 a1 a2 a3 = some true := by
  clear h0 h1 h2 h3
  obtain ⟨b, K, hb⟩ := far_ends l0_0 l0_1 a3 []
  simp only at hb
  refine ⟨K, ?_⟩
  unfold sextonlaw04_DiskReads.f
  rw [hb K (Nat.le_refl _)]
  simp only [Option.bind_some]
  cases b with
  | true => rfl
  | false =>
    rw [if_neg (by decide)]
    unfold disk_Write.f
    simp only [Option.bind_some, read_f, sextonlaw04_spun_true, if_true]
    unfold writeV
    by_cases c1 : checkB l0_0 l0_1 = false
    · rw [if_pos c1, if_neg (by decide)]; rfl
    · rw [if_neg c1]
      by_cases c2 : a1 < 0 ∨ a1 ≥ (l0_0.length : Int)
      · rw [if_pos c2, if_neg (by decide)]; rfl
      · rw [if_neg c2]
        by_cases c3 : longS a3 = true
        · rw [if_pos c3, if_neg (by decide)]; rfl
        · rw [if_neg c3]
          by_cases c4 : l0_1.length = 100
          · rw [if_pos c4, if_neg (by decide)]; rfl
          · rw [if_neg c4, if_pos rfl]
            have k1 : checkB l0_0 l0_1 = true := by simpa using c1
            have k2 := check_write (s := a3) k1 c2 (by simpa using c3) c4
            unfold readV
            have e1 : rdOf ByteArray.empty ((applyW (fun _ => true) 0 l0_1 l0_0).set a1.toNat a3) a1 = a3 := by
              rw [rdOf_set _ _ _ _ (by omega) (by rw [applyW_length]; omega) (by omega), if_pos rfl]
            simp only [k1, k2, applyW_snoc, if_true, if_neg c2, e1, Bool.true_eq_false, if_false, eq_self]
            by_cases c5 : a2 < 0 ∨ a2 ≥ (l0_0.length : Int)
            · simp only [if_pos c5, if_true]
              split <;> simp
            · simp only [if_neg c5, if_true]
              by_cases c6 : a2 = a1
              · rw [if_pos c6]
              · rw [if_neg c6, rdOf_set _ _ _ _ (by omega) (by rw [applyW_length]; omega) (by omega), if_neg c6]
                simp
end Go.Proofs.Ytoibofhmlokglaa.Pure
