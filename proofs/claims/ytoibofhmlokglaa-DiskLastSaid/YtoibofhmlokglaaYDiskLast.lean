/-
  The plain statement of DiskLast: what was synced outlives each crash.
-/
import Derived.Test.YtoibofhmlokglaaLdiskSame
import Derived.Test.YtoibofhmlokglaaYDiskCrash
import Derived.Test.YtoibofhmlokglaaMOpens
import Derived.Test.YtoibofhmlokglaaHspun
import Derived.Test.YtoibofhmlokglaaHDiskLast
namespace Go.Proofs.Ytoibofhmlokglaa.Pure
open Go.RowKit Go.Proofs.YtoibofhmlokglaaW.PrintWords Go.Proofs.YtoibofhmlokglaaW.PrintLast Go.Proofs.Ytoibofhmlokglaa.P Go.Proofs.Ytoibofhmlokglaa.Opens Go.Proofs.Plain

theorem last_end (l0 : List ByteArray) (l1 : List S40) (a : List ByteArray) (every : List Bool) (h : checkB l0 l1 = true) (ha : a = applyW (fun _ => true) 0 l1 l0) (he : every = List.replicate l1.length true) :
    Ev (fun r => sextonlaw04_DiskLast.l0 r 0 0 every (l1.length : Int) l0 l1 a [] a []) true := by
  obtain ⟨h1, h2, h3, _, _⟩ := check_len h
  have hlen : a.length = l0.length := by rw [ha, applyW_length]
  have s1 := same_yes a [] (by omega) (by simp)
  have s3 := same_yes l0 [] (by omega) (by simp)
  have e1 : disk_Crash.f l0 l1 every = some (a, [], 0) := by
    unfold disk_Crash.f doneV
    rw [if_pos h, ha, apply_congr (p := keepB every) (q := fun _ => true) l1 0 l0 (fun j _ hj => by
      unfold keepB
      rw [he]
      have : j < (List.replicate l1.length true).length := by simp; omega
      rw [rdOf_nat _ j this, decide_eq_true (by simp; omega)]
      simp)]
  have e2 : disk_Crash.f l0 l1 [] = some (l0, [], 0) := by
    unfold disk_Crash.f doneV
    rw [if_pos h, apply_none (p := keepB []) (fun j => by unfold keepB; rw [decide_eq_false (by show ¬ ((j : Int) < 0); omega)]; rfl)]
  obtain ⟨K1, t1⟩ := s1
  obtain ⟨K3, t3⟩ := s3
  simp only at t1 t3
  refine ⟨K1 + K3 + 1, fun k hk => ?_⟩
  obtain ⟨m, rfl⟩ : ∃ m, k = m + 1 := ⟨k - 1, by omega⟩
  simp only [sextonlaw04_DiskLast.l0]
  rw [if_neg (by rw [he]; simp), e1, e2, sextonlaw04_spun_true]
  simp only [Option.bind_some, if_true]
  rw [t1 m (by omega)]
  simp only [Option.bind_some, if_true]
  rw [t3 m (by omega)]
  rfl
theorem last_l0 (l0 : List ByteArray) (l1 : List S40) (a : List ByteArray) (h : checkB l0 l1 = true) (ha : a = applyW (fun _ => true) 0 l1 l0) (d : Nat) : ∀ (k : Nat) (every : List Bool), k + d = l1.length → every.length = l1.length → (∀ i, i < k → every[i]? = some true) →
    Ev (fun r => sextonlaw04_DiskLast.l0 r 0 0 every (k : Int) l0 l1 a [] a []) true := by
  obtain ⟨h1, h2, h3, _, _⟩ := check_len h
  induction d with
  | zero =>
    intro k every hk hlen hall
    obtain rfl : k = l1.length := by omega
    refine last_end l0 l1 a every h ha ?_
    rw [List.eq_replicate_iff]
    refine ⟨hlen, fun b hb => ?_⟩
    obtain ⟨i, hi, rfl⟩ := List.getElem_of_mem hb
    have := hall i (by omega)
    rw [List.getElem?_eq_getElem hi] at this
    exact Option.some.inj this
  | succ d ih =>
    intro k every hk hlen hall
    refine Ev.step (f := fun r => sextonlaw04_DiskLast.l0 r 0 0 (every.set k true) ((k + 1 : Nat) : Int) l0 l1 a [] a []) (fun r => ?_) (ih (k + 1) _ (by omega) (by simpa using hlen) ?_)
    · simp only [sextonlaw04_DiskLast.l0]
      rw [if_pos (by omega), if_pos (by omega), wrap_at (by omega) (by omega)]
      rfl
    · intro i hi
      rw [List.getElem?_set]
      by_cases e : k = i
      · rw [if_pos e, if_pos (by omega)]
      · rw [if_neg e]; exact hall i (by omega)

theorem DiskLast (l0_0 : (List ByteArray)) (l0_1 : (List S40)) (l1 : (List Bool)) (h0 : (OkPair (OkList OkStr) (OkList (fun b : S40 => (OkPair (OkInt .i64) OkStr) (b.f0, b.f1)))) (l0_0, l0_1)) (h1 : (OkList OkTrue) l1) :
    ∃ k, sextonlaw04_DiskLast.f k l0_0 l0_1 l1 = some true := by
  clear h0 h1
  obtain ⟨b, K, hb⟩ := far_ends l0_0 l0_1 (⟨#[]⟩ : ByteArray) l1
  simp only at hb
  by_cases hck : checkB l0_0 l0_1 = true
  · obtain ⟨g1, g2, g3, _, _⟩ := check_len hck
    obtain ⟨K2, e2⟩ := last_l0 l0_0 l0_1 _ hck rfl l0_1.length 0 (List.replicate l0_1.length false) (by omega) (by simp) (fun i hi => by omega)
    simp only at e2
    refine ⟨K + K2 + 2, ?_⟩
    unfold sextonlaw04_DiskLast.f
    rw [hb _ (by omega)]
    simp only [Option.bind_some]
    cases b with
    | true => simp [sextonlaw04_DiskLast.j0, sextonlaw04_spun_true]
    | false =>
      rw [if_neg (by decide)]
      unfold disk_Check.f
      simp only [Option.bind_some, hck, Bool.not_true, sextonlaw04_DiskLast.j0]
      rw [if_neg (by decide)]
      unfold disk_Sync.f doneV
      rw [if_pos hck]
      simp only [Option.bind_some]
      unfold disk_Crash.f doneV
      rw [if_pos (crash_right _ hck)]
      simp only [Option.bind_some, applyW]
      rw [if_pos (by omega), if_pos (by omega)]
      exact e2 _ (by omega)
  · refine ⟨K + 2, ?_⟩
    unfold sextonlaw04_DiskLast.f
    rw [hb _ (by omega)]
    simp only [Option.bind_some]
    unfold disk_Check.f
    have hck' : checkB l0_0 l0_1 = false := by simpa using hck
    cases b with
    | true => simp [sextonlaw04_DiskLast.j0, sextonlaw04_spun_true]
    | false => simp [hck', sextonlaw04_DiskLast.j0, sextonlaw04_spun_true]
end Go.Proofs.Ytoibofhmlokglaa.Pure
