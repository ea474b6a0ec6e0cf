/-
  Texts that the claims of this chapter share, joined.
-/
import Derived.Test.YtfejidinfcmfjaaCn5ba
set_option linter.unusedVariables false
set_option linter.unusedSimpArgs false
/-
  What net.Take answers, place by place.
-/
namespace Go.Proofs.Ytfejidinfcmfjaa.P
open Go.RowKit Go.Proofs.YtfejidinfcmfjaaW.PrintWords Go.Proofs.YtfejidinfcmfjaaW.PrintLast
theorem take_at {l : List S29} {j : Nat} {x : S29} (hj : l[j]? = some x) (hl : l.length ≤ 1000000000) (hx : ∀ y ∈ l, y.f7.length ≤ 1000000000) :
    net_Take.f l (j : Int) = some (x.f0, x.f1, x.f2, x.f3, x.f4, x.f5, x.f6, x.f7, l.eraseIdx j, true) := by
  have hjl : j < l.length := (List.getElem?_eq_some_iff.1 hj).1
  have he : rd_T29 l (j : Int) = x := by
    rw [rd_msg l j hjl]
    rw [List.getElem?_eq_getElem hjl] at hj
    exact Option.some.inj hj
  unfold net_Take.f net_TakeS.f takeM
  rw [if_pos ⟨hl, hx⟩, if_neg (by omega), he, Int.toNat_natCast]
  rfl
theorem take_nil : net_Take.f [] 0 = some (0, 0, 0, 0, 0, 0, 0, [], [], false) := by
  unfold net_Take.f net_TakeS.f takeM
  rw [if_pos ⟨by simp, fun y hy => by cases hy⟩, if_pos (by simp)]
  rfl
end Go.Proofs.Ytfejidinfcmfjaa.P
