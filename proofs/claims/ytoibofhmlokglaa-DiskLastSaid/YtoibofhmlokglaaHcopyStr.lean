/-
  copy of a row of texts into one of the call's own, as long.
-/
import Derived.Laws.CopyOwn
import Derived.Test.YtoibofhmlokglaaWMore
import Derived.Test.YtoibofhmlokglaaMPlain
import Derived.Test.YtoibofhmlokglaaProg
namespace Go.Proofs.Ytoibofhmlokglaa.P
open Go.RowKit Go.Proofs.YtoibofhmlokglaaW.PrintWords Go.Proofs.YtoibofhmlokglaaW.PrintLast Go.Proofs.Plain

theorem cstr_size : (Try.prog.info? 9).map (·.size) = some 1 := by kernel_rfl

theorem copy_strs {ops : Array Oper} {rest : List Oper} {o : Oper} {a : Act} {Q : Exit → Act → World → Prop} {W : World} {base : Nat} {ok : Nat → Prop} (hgd : o.guard = none) (d s : Operand)
    (ho : o.op = .call { callee := .builtin .copy, args := #[d, s], argTypes := #[22, 22] }) (v : Value) (hd : a.eval d = v) (A : Option Addr) (n c : Nat) (hs : a.eval s = .slice A n c)
    (xs l : List ByteArray) (HO : Kd.R Kd.string 9 W base ok v xs) (HR : Kd.C Kd.string W A n l) (hlen : xs.length = n) (h0 : 0 < n)
    (h : ∀ w1, Kd.R Kd.string 9 w1 base ok v l → W.grownBy w1 v.ownBlock → wpList Try.prog ops Q rest (a.put o.dst (goInt l.length)) w1) : wpList Try.prog ops Q (o :: rest) a W := by
  have hown := Kd.own_of_R (enc := Value.string) (h1 := fun _ => rfl) HO
  have hln : l.length = n := HR.1
  obtain ⟨ad, rfl, hcell⟩ := HR.2.2 h0
  rcases hown.2 with ⟨_, hz⟩ | ⟨g, cap, cur, rfl, hb, hg, hnc, hcm, hcs, htake⟩
  · omega
  · refine wpList_copy_own hgd d s 22 22 ho 9 Try.underlying22 cstr_size g 0 xs.length cap ad n c hd hs cur 9 hg (encs Value.string l) (by rw [hlen]; simp [encs, hln]) ?_ (by simp [encs]; omega) (by intro u hu; simp [encs] at hu; obtain ⟨x, _, rfl⟩ := hu; rfl) ?_
    · intro j u hj
      simp only [encs, List.getElem?_map, Option.map_eq_some_iff] at hj
      obtain ⟨p, hp, rfl⟩ := hj
      obtain ⟨cs, hl, hK, hc⟩ := hcell j p hp
      have hK' : cs = [.string p] := hK
      subst hK'
      have := hc 0 _ rfl
      simpa [Kd.string, Kd.scalar] using this
    · have e1 : (encs Value.string l).length = l.length := by simp [encs]
      rw [e1]
      refine h _ (Kd.R_of_own ⟨by simp [encs], .inr ⟨g, cap, _, by rw [hln, ← hlen], hb, setRow_heap W g cur _ 9 (0, 0) hg, by omega, hcm, ?_, ?_⟩⟩ (fun k hk => HO.1 k hk)) ?_
      · simp [encs]; omega
      · show List.take (l.length * 1) (List.take 0 cur.toList ++ (encs Value.string l ++ _)) = _
        rw [List.take_zero, List.nil_append, Nat.mul_one, List.take_append_of_le_length (by simp [encs]), List.take_of_length_le (by simp [encs])]
      · refine ⟨rfl, rfl, rfl, by simp [World.setRow], fun k _ hk => setRow_other W g k _ (fun e => hk (by rw [e]; rfl))⟩
end Go.Proofs.Ytoibofhmlokglaa.P
