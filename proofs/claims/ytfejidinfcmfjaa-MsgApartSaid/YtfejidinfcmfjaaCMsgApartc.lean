/-
  Texts of the claim MsgApart, joined.
-/
import Derived.Test.YtfejidinfcmfjaaPx0
import Derived.Test.YtfejidinfcmfjaaCMsgAparta
import Derived.Test.YtfejidinfcmfjaaCMsgApartb
/-
  sexton/sextonlaw23.sent answers true. The print's walk, with the branches that would answer false closed.
-/
-- Written by a program of this session (xprint.py) over the kit's print.py.
namespace Go.Proofs.Ytfejidinfcmfjaa.P
open Go.RowKit Go.Proofs.YtfejidinfcmfjaaW.PrintWords Go.Proofs.YtfejidinfcmfjaaW.PrintLast Go.Proofs.YtfejidinfcmfjaaW.PrintMore
attribute [local go_sem] max2_int min2_int max_two min_two max_three min_three max_four min_four   -- for this text's walks alone
set_option linter.unusedVariables false
set_option linter.unusedSimpArgs false

/-! ### sextonlaw23_sentP: function 35 -/
def sextonlaw23_sentP.f (k : Nat)  : Option (Bool) := (msg_Ack.f 1 0 2 3).bind fun bt134 => ((msg_Put.f bt134.1 bt134.2.1 bt134.2.2.1 bt134.2.2.2.1 bt134.2.2.2.2.1 bt134.2.2.2.2.2.1 bt134.2.2.2.2.2.2.1 bt134.2.2.2.2.2.2.2).bind fun bt145 => ((msg_Get.f bt145.1).bind fun bt147 => ((msg_Get.f (⟨#[]⟩ : ByteArray)).bind fun bt159 => ((msg_Put.f 0 0 0 0 0 0 0 ([] : List ByteArray)).bind fun bt171 => ((msg_Cast.f 0 2 1 1 0 (([(⟨#[97]⟩ : ByteArray)] : List ByteArray))).bind fun bt176 => ((msg_Vote.f bt176.1 bt176.2.1 bt176.2.2.1 bt176.2.2.2.1 bt176.2.2.2.2.1 bt176.2.2.2.2.2.1 bt176.2.2.2.2.2.2.1 bt176.2.2.2.2.2.2.2).bind fun bt186 => ((msg_Vote.f bt134.1 bt134.2.1 bt134.2.2.1 bt134.2.2.2.1 bt134.2.2.2.2.1 bt134.2.2.2.2.2.1 bt134.2.2.2.2.2.2.1 bt134.2.2.2.2.2.2.2).bind fun bt194 => (if bt145.2 = 0 then (if bt145.1.toList = ([1, 2, 1, 1, 0, 1, 2, 0, 0, 1, 3, 0] : List UInt8) then (if bt147.2.2.2.2.2.2.2.2 = bt145.2 then ((sextonref23_Same.f k bt134.1 bt134.2.1 bt134.2.2.1 bt134.2.2.2.1 bt134.2.2.2.2.1 bt134.2.2.2.2.2.1 bt134.2.2.2.2.2.2.1 bt134.2.2.2.2.2.2.2 bt147.1 bt147.2.1 bt147.2.2.1 bt147.2.2.2.1 bt147.2.2.2.2.1 bt147.2.2.2.2.2.1 bt147.2.2.2.2.2.2.1 bt147.2.2.2.2.2.2.2.1).bind fun t202 => (if t202 = true then (if bt159.2.2.2.2.2.2.2.2 = 30 then (if bt171.2 = 1 then (if bt186.2.2.2.2 = true then (if bt186.1 = 1 then (if bt186.2.1 = 1 then (if (bt186.2.2.2.1.length : Int) = 1 then (if bt194.2.2.2.2 = true then (some false) else ((msg_Is.f k bt134.1 bt134.2.1 bt134.2.2.1 bt134.2.2.2.1 bt134.2.2.2.2.1 bt134.2.2.2.2.2.1 bt134.2.2.2.2.2.2.1 bt134.2.2.2.2.2.2.2).bind fun t203 => (if t203 = true then ((msg_Prepare.f 0 1 2 0 ([] : List ByteArray)).bind fun bt204 => ((msg_Is.f k bt204.1 bt204.2.1 bt204.2.2.1 bt204.2.2.2.1 bt204.2.2.2.2.1 bt204.2.2.2.2.2.1 bt204.2.2.2.2.2.2.1 bt204.2.2.2.2.2.2.2).bind fun t214 => (some t214))) else (some false)))) else (some false)) else (some false)) else (some false)) else (some false)) else (some false)) else (some false)) else (some false))) else (some false)) else (some false)) else (some false)))))))))
theorem sextonlaw23_sentP.mono : ∀ k, LeO (sextonlaw23_sentP.f k ) (sextonlaw23_sentP.f (k + 1) ) := by
  intro  k
  unfold sextonlaw23_sentP.f
  repeat' first
      | (with_reducible exact msg_Is.mono _ _ _ _ _ _ _ _ _)
      | (with_reducible exact sextonref23_Same.mono _ _ _ _ _ _ _ _ _ _ _ _ _ _ _ _ _)
      | (with_reducible exact LeO.refl _)
      | (with_reducible exact LeO.none _)
      | (with_reducible refine LeO.ite ?_ ?_)
      | (with_reducible refine LeO.bind ?_ (fun _ => ?_))
      | exact msg_Is.mono _ _ _ _ _ _ _ _ _
      | exact sextonref23_Same.mono _ _ _ _ _ _ _ _ _ _ _ _ _ _ _ _ _
      | exact LeO.none _
      | refine LeO.ite ?_ ?_
      | refine LeO.bind ?_ (fun _ => ?_)
set_option maxHeartbeats 8000000 in
set_option maxRecDepth 100000 in
theorem sextonlaw23_sentP.calls (k : Nat)  (r : Bool) (hrt : r = true := by rfl) (w : World) (h : sextonlaw23_sentP.f k  = some r) :
    Calls Try.prog 35 #[] w fun e w' => e = .returned (.bool r) ∧ Below w.heap.size w w' := by
  have HRT := Aside0.mk hrt
  have hu29 := Try.underlying29
  have hu54 := Try.underlying54
  have HB := Aside0.mk (Below.refl w.heap.size w)
  have H : ((msg_Ack.f 1 0 2 3).bind fun bt134 => ((msg_Put.f bt134.1 bt134.2.1 bt134.2.2.1 bt134.2.2.2.1 bt134.2.2.2.2.1 bt134.2.2.2.2.2.1 bt134.2.2.2.2.2.2.1 bt134.2.2.2.2.2.2.2).bind fun bt145 => ((msg_Get.f bt145.1).bind fun bt147 => ((msg_Get.f (⟨#[]⟩ : ByteArray)).bind fun bt159 => ((msg_Put.f 0 0 0 0 0 0 0 ([] : List ByteArray)).bind fun bt171 => ((msg_Cast.f 0 2 1 1 0 (([(⟨#[97]⟩ : ByteArray)] : List ByteArray))).bind fun bt176 => ((msg_Vote.f bt176.1 bt176.2.1 bt176.2.2.1 bt176.2.2.2.1 bt176.2.2.2.2.1 bt176.2.2.2.2.2.1 bt176.2.2.2.2.2.2.1 bt176.2.2.2.2.2.2.2).bind fun bt186 => ((msg_Vote.f bt134.1 bt134.2.1 bt134.2.2.1 bt134.2.2.2.1 bt134.2.2.2.2.1 bt134.2.2.2.2.2.1 bt134.2.2.2.2.2.2.1 bt134.2.2.2.2.2.2.2).bind fun bt194 => (if bt145.2 = 0 then (if bt145.1.toList = ([1, 2, 1, 1, 0, 1, 2, 0, 0, 1, 3, 0] : List UInt8) then (if bt147.2.2.2.2.2.2.2.2 = bt145.2 then ((sextonref23_Same.f k bt134.1 bt134.2.1 bt134.2.2.1 bt134.2.2.2.1 bt134.2.2.2.2.1 bt134.2.2.2.2.2.1 bt134.2.2.2.2.2.2.1 bt134.2.2.2.2.2.2.2 bt147.1 bt147.2.1 bt147.2.2.1 bt147.2.2.2.1 bt147.2.2.2.2.1 bt147.2.2.2.2.2.1 bt147.2.2.2.2.2.2.1 bt147.2.2.2.2.2.2.2.1).bind fun t202 => (if t202 = true then (if bt159.2.2.2.2.2.2.2.2 = 30 then (if bt171.2 = 1 then (if bt186.2.2.2.2 = true then (if bt186.1 = 1 then (if bt186.2.1 = 1 then (if (bt186.2.2.2.1.length : Int) = 1 then (if bt194.2.2.2.2 = true then (some false) else ((msg_Is.f k bt134.1 bt134.2.1 bt134.2.2.1 bt134.2.2.2.1 bt134.2.2.2.2.1 bt134.2.2.2.2.2.1 bt134.2.2.2.2.2.2.1 bt134.2.2.2.2.2.2.2).bind fun t203 => (if t203 = true then ((msg_Prepare.f 0 1 2 0 ([] : List ByteArray)).bind fun bt204 => ((msg_Is.f k bt204.1 bt204.2.1 bt204.2.2.1 bt204.2.2.2.1 bt204.2.2.2.2.1 bt204.2.2.2.2.2.1 bt204.2.2.2.2.2.2.1 bt204.2.2.2.2.2.2.2).bind fun t214 => (some t214))) else (some false)))) else (some false)) else (some false)) else (some false)) else (some false)) else (some false)) else (some false)) else (some false))) else (some false)) else (some false)) else (some false)))))))))) = some r := h
  clear h
  replace H := Option.bind_eq_some_iff.mp H
  obtain ⟨⟨t134, t135, t136, t137, t138, t139, t140, t141⟩, A10, H⟩ := H
  replace H : ((msg_Put.f t134 t135 t136 t137 t138 t139 t140 t141).bind fun bt145 => ((msg_Get.f bt145.1).bind fun bt147 => ((msg_Get.f (⟨#[]⟩ : ByteArray)).bind fun bt159 => ((msg_Put.f 0 0 0 0 0 0 0 ([] : List ByteArray)).bind fun bt171 => ((msg_Cast.f 0 2 1 1 0 (([(⟨#[97]⟩ : ByteArray)] : List ByteArray))).bind fun bt176 => ((msg_Vote.f bt176.1 bt176.2.1 bt176.2.2.1 bt176.2.2.2.1 bt176.2.2.2.2.1 bt176.2.2.2.2.2.1 bt176.2.2.2.2.2.2.1 bt176.2.2.2.2.2.2.2).bind fun bt186 => ((msg_Vote.f t134 t135 t136 t137 t138 t139 t140 t141).bind fun bt194 => (if bt145.2 = 0 then (if bt145.1.toList = ([1, 2, 1, 1, 0, 1, 2, 0, 0, 1, 3, 0] : List UInt8) then (if bt147.2.2.2.2.2.2.2.2 = bt145.2 then ((sextonref23_Same.f k t134 t135 t136 t137 t138 t139 t140 t141 bt147.1 bt147.2.1 bt147.2.2.1 bt147.2.2.2.1 bt147.2.2.2.2.1 bt147.2.2.2.2.2.1 bt147.2.2.2.2.2.2.1 bt147.2.2.2.2.2.2.2.1).bind fun t202 => (if t202 = true then (if bt159.2.2.2.2.2.2.2.2 = 30 then (if bt171.2 = 1 then (if bt186.2.2.2.2 = true then (if bt186.1 = 1 then (if bt186.2.1 = 1 then (if (bt186.2.2.2.1.length : Int) = 1 then (if bt194.2.2.2.2 = true then (some false) else ((msg_Is.f k t134 t135 t136 t137 t138 t139 t140 t141).bind fun t203 => (if t203 = true then ((msg_Prepare.f 0 1 2 0 ([] : List ByteArray)).bind fun bt204 => ((msg_Is.f k bt204.1 bt204.2.1 bt204.2.2.1 bt204.2.2.2.1 bt204.2.2.2.2.1 bt204.2.2.2.2.2.1 bt204.2.2.2.2.2.2.1 bt204.2.2.2.2.2.2.2).bind fun t214 => (some t214))) else (some false)))) else (some false)) else (some false)) else (some false)) else (some false)) else (some false)) else (some false)) else (some false))) else (some false)) else (some false)) else (some false))))))))) = some r := H
  have A1 := Aside0.mk A10
  clear A10
  replace H := Option.bind_eq_some_iff.mp H
  obtain ⟨⟨t145, t146⟩, A20, H⟩ := H
  replace H : ((msg_Get.f t145).bind fun bt147 => ((msg_Get.f (⟨#[]⟩ : ByteArray)).bind fun bt159 => ((msg_Put.f 0 0 0 0 0 0 0 ([] : List ByteArray)).bind fun bt171 => ((msg_Cast.f 0 2 1 1 0 (([(⟨#[97]⟩ : ByteArray)] : List ByteArray))).bind fun bt176 => ((msg_Vote.f bt176.1 bt176.2.1 bt176.2.2.1 bt176.2.2.2.1 bt176.2.2.2.2.1 bt176.2.2.2.2.2.1 bt176.2.2.2.2.2.2.1 bt176.2.2.2.2.2.2.2).bind fun bt186 => ((msg_Vote.f t134 t135 t136 t137 t138 t139 t140 t141).bind fun bt194 => (if t146 = 0 then (if t145.toList = ([1, 2, 1, 1, 0, 1, 2, 0, 0, 1, 3, 0] : List UInt8) then (if bt147.2.2.2.2.2.2.2.2 = t146 then ((sextonref23_Same.f k t134 t135 t136 t137 t138 t139 t140 t141 bt147.1 bt147.2.1 bt147.2.2.1 bt147.2.2.2.1 bt147.2.2.2.2.1 bt147.2.2.2.2.2.1 bt147.2.2.2.2.2.2.1 bt147.2.2.2.2.2.2.2.1).bind fun t202 => (if t202 = true then (if bt159.2.2.2.2.2.2.2.2 = 30 then (if bt171.2 = 1 then (if bt186.2.2.2.2 = true then (if bt186.1 = 1 then (if bt186.2.1 = 1 then (if (bt186.2.2.2.1.length : Int) = 1 then (if bt194.2.2.2.2 = true then (some false) else ((msg_Is.f k t134 t135 t136 t137 t138 t139 t140 t141).bind fun t203 => (if t203 = true then ((msg_Prepare.f 0 1 2 0 ([] : List ByteArray)).bind fun bt204 => ((msg_Is.f k bt204.1 bt204.2.1 bt204.2.2.1 bt204.2.2.2.1 bt204.2.2.2.2.1 bt204.2.2.2.2.2.1 bt204.2.2.2.2.2.2.1 bt204.2.2.2.2.2.2.2).bind fun t214 => (some t214))) else (some false)))) else (some false)) else (some false)) else (some false)) else (some false)) else (some false)) else (some false)) else (some false))) else (some false)) else (some false)) else (some false)))))))) = some r := H
  have A2 := Aside0.mk A20
  clear A20
  replace H := Option.bind_eq_some_iff.mp H
  obtain ⟨⟨t147, t148, t149, t150, t151, t152, t153, t154, t157⟩, A30, H⟩ := H
  replace H : ((msg_Get.f (⟨#[]⟩ : ByteArray)).bind fun bt159 => ((msg_Put.f 0 0 0 0 0 0 0 ([] : List ByteArray)).bind fun bt171 => ((msg_Cast.f 0 2 1 1 0 (([(⟨#[97]⟩ : ByteArray)] : List ByteArray))).bind fun bt176 => ((msg_Vote.f bt176.1 bt176.2.1 bt176.2.2.1 bt176.2.2.2.1 bt176.2.2.2.2.1 bt176.2.2.2.2.2.1 bt176.2.2.2.2.2.2.1 bt176.2.2.2.2.2.2.2).bind fun bt186 => ((msg_Vote.f t134 t135 t136 t137 t138 t139 t140 t141).bind fun bt194 => (if t146 = 0 then (if t145.toList = ([1, 2, 1, 1, 0, 1, 2, 0, 0, 1, 3, 0] : List UInt8) then (if t157 = t146 then ((sextonref23_Same.f k t134 t135 t136 t137 t138 t139 t140 t141 t147 t148 t149 t150 t151 t152 t153 t154).bind fun t202 => (if t202 = true then (if bt159.2.2.2.2.2.2.2.2 = 30 then (if bt171.2 = 1 then (if bt186.2.2.2.2 = true then (if bt186.1 = 1 then (if bt186.2.1 = 1 then (if (bt186.2.2.2.1.length : Int) = 1 then (if bt194.2.2.2.2 = true then (some false) else ((msg_Is.f k t134 t135 t136 t137 t138 t139 t140 t141).bind fun t203 => (if t203 = true then ((msg_Prepare.f 0 1 2 0 ([] : List ByteArray)).bind fun bt204 => ((msg_Is.f k bt204.1 bt204.2.1 bt204.2.2.1 bt204.2.2.2.1 bt204.2.2.2.2.1 bt204.2.2.2.2.2.1 bt204.2.2.2.2.2.2.1 bt204.2.2.2.2.2.2.2).bind fun t214 => (some t214))) else (some false)))) else (some false)) else (some false)) else (some false)) else (some false)) else (some false)) else (some false)) else (some false))) else (some false)) else (some false)) else (some false))))))) = some r := H
  have A3 := Aside0.mk A30
  clear A30
  replace H := Option.bind_eq_some_iff.mp H
  obtain ⟨⟨t159, t160, t161, t162, t163, t164, t165, t166, t169⟩, A40, H⟩ := H
  replace H : ((msg_Put.f 0 0 0 0 0 0 0 ([] : List ByteArray)).bind fun bt171 => ((msg_Cast.f 0 2 1 1 0 (([(⟨#[97]⟩ : ByteArray)] : List ByteArray))).bind fun bt176 => ((msg_Vote.f bt176.1 bt176.2.1 bt176.2.2.1 bt176.2.2.2.1 bt176.2.2.2.2.1 bt176.2.2.2.2.2.1 bt176.2.2.2.2.2.2.1 bt176.2.2.2.2.2.2.2).bind fun bt186 => ((msg_Vote.f t134 t135 t136 t137 t138 t139 t140 t141).bind fun bt194 => (if t146 = 0 then (if t145.toList = ([1, 2, 1, 1, 0, 1, 2, 0, 0, 1, 3, 0] : List UInt8) then (if t157 = t146 then ((sextonref23_Same.f k t134 t135 t136 t137 t138 t139 t140 t141 t147 t148 t149 t150 t151 t152 t153 t154).bind fun t202 => (if t202 = true then (if t169 = 30 then (if bt171.2 = 1 then (if bt186.2.2.2.2 = true then (if bt186.1 = 1 then (if bt186.2.1 = 1 then (if (bt186.2.2.2.1.length : Int) = 1 then (if bt194.2.2.2.2 = true then (some false) else ((msg_Is.f k t134 t135 t136 t137 t138 t139 t140 t141).bind fun t203 => (if t203 = true then ((msg_Prepare.f 0 1 2 0 ([] : List ByteArray)).bind fun bt204 => ((msg_Is.f k bt204.1 bt204.2.1 bt204.2.2.1 bt204.2.2.2.1 bt204.2.2.2.2.1 bt204.2.2.2.2.2.1 bt204.2.2.2.2.2.2.1 bt204.2.2.2.2.2.2.2).bind fun t214 => (some t214))) else (some false)))) else (some false)) else (some false)) else (some false)) else (some false)) else (some false)) else (some false)) else (some false))) else (some false)) else (some false)) else (some false)))))) = some r := H
  have A4 := Aside0.mk A40
  clear A40
  replace H := Option.bind_eq_some_iff.mp H
  obtain ⟨⟨t171, t172⟩, A50, H⟩ := H
  replace H : ((msg_Cast.f 0 2 1 1 0 (([(⟨#[97]⟩ : ByteArray)] : List ByteArray))).bind fun bt176 => ((msg_Vote.f bt176.1 bt176.2.1 bt176.2.2.1 bt176.2.2.2.1 bt176.2.2.2.2.1 bt176.2.2.2.2.2.1 bt176.2.2.2.2.2.2.1 bt176.2.2.2.2.2.2.2).bind fun bt186 => ((msg_Vote.f t134 t135 t136 t137 t138 t139 t140 t141).bind fun bt194 => (if t146 = 0 then (if t145.toList = ([1, 2, 1, 1, 0, 1, 2, 0, 0, 1, 3, 0] : List UInt8) then (if t157 = t146 then ((sextonref23_Same.f k t134 t135 t136 t137 t138 t139 t140 t141 t147 t148 t149 t150 t151 t152 t153 t154).bind fun t202 => (if t202 = true then (if t169 = 30 then (if t172 = 1 then (if bt186.2.2.2.2 = true then (if bt186.1 = 1 then (if bt186.2.1 = 1 then (if (bt186.2.2.2.1.length : Int) = 1 then (if bt194.2.2.2.2 = true then (some false) else ((msg_Is.f k t134 t135 t136 t137 t138 t139 t140 t141).bind fun t203 => (if t203 = true then ((msg_Prepare.f 0 1 2 0 ([] : List ByteArray)).bind fun bt204 => ((msg_Is.f k bt204.1 bt204.2.1 bt204.2.2.1 bt204.2.2.2.1 bt204.2.2.2.2.1 bt204.2.2.2.2.2.1 bt204.2.2.2.2.2.2.1 bt204.2.2.2.2.2.2.2).bind fun t214 => (some t214))) else (some false)))) else (some false)) else (some false)) else (some false)) else (some false)) else (some false)) else (some false)) else (some false))) else (some false)) else (some false)) else (some false))))) = some r := H
  have A5 := Aside0.mk A50
  clear A50
  obtain ⟨y173, hy173⟩ : ∃ y_ : List ByteArray, y_ = (([(⟨#[97]⟩ : ByteArray)] : List ByteArray)) := ⟨_, rfl⟩
  replace H : ((msg_Cast.f 0 2 1 1 0 y173).bind fun bt176 => ((msg_Vote.f bt176.1 bt176.2.1 bt176.2.2.1 bt176.2.2.2.1 bt176.2.2.2.2.1 bt176.2.2.2.2.2.1 bt176.2.2.2.2.2.2.1 bt176.2.2.2.2.2.2.2).bind fun bt186 => ((msg_Vote.f t134 t135 t136 t137 t138 t139 t140 t141).bind fun bt194 => (if t146 = 0 then (if t145.toList = ([1, 2, 1, 1, 0, 1, 2, 0, 0, 1, 3, 0] : List UInt8) then (if t157 = t146 then ((sextonref23_Same.f k t134 t135 t136 t137 t138 t139 t140 t141 t147 t148 t149 t150 t151 t152 t153 t154).bind fun t202 => (if t202 = true then (if t169 = 30 then (if t172 = 1 then (if bt186.2.2.2.2 = true then (if bt186.1 = 1 then (if bt186.2.1 = 1 then (if (bt186.2.2.2.1.length : Int) = 1 then (if bt194.2.2.2.2 = true then (some false) else ((msg_Is.f k t134 t135 t136 t137 t138 t139 t140 t141).bind fun t203 => (if t203 = true then ((msg_Prepare.f 0 1 2 0 ([] : List ByteArray)).bind fun bt204 => ((msg_Is.f k bt204.1 bt204.2.1 bt204.2.2.1 bt204.2.2.2.1 bt204.2.2.2.2.1 bt204.2.2.2.2.2.1 bt204.2.2.2.2.2.2.1 bt204.2.2.2.2.2.2.2).bind fun t214 => (some t214))) else (some false)))) else (some false)) else (some false)) else (some false)) else (some false)) else (some false)) else (some false)) else (some false))) else (some false)) else (some false)) else (some false))))) = some r := by first | (rw [hy173]; with_reducible exact H) | (have H2_ := (Option.bind_some _ _).symm.trans H; rw [hy173]; with_reducible exact H2_) | (have H2_ := (Option.bind_some _ _).symm.trans H; with_reducible exact H2_) | with_reducible exact H | (rw [hy173]; exact H) | exact H
  have Ny173 := Aside0.mk hy173
  clear hy173
  replace H := Option.bind_eq_some_iff.mp H
  obtain ⟨⟨t176, t177, t178, t179, t180, t181, t182, t183⟩, A60, H⟩ := H
  replace H : ((msg_Vote.f t176 t177 t178 t179 t180 t181 t182 t183).bind fun bt186 => ((msg_Vote.f t134 t135 t136 t137 t138 t139 t140 t141).bind fun bt194 => (if t146 = 0 then (if t145.toList = ([1, 2, 1, 1, 0, 1, 2, 0, 0, 1, 3, 0] : List UInt8) then (if t157 = t146 then ((sextonref23_Same.f k t134 t135 t136 t137 t138 t139 t140 t141 t147 t148 t149 t150 t151 t152 t153 t154).bind fun t202 => (if t202 = true then (if t169 = 30 then (if t172 = 1 then (if bt186.2.2.2.2 = true then (if bt186.1 = 1 then (if bt186.2.1 = 1 then (if (bt186.2.2.2.1.length : Int) = 1 then (if bt194.2.2.2.2 = true then (some false) else ((msg_Is.f k t134 t135 t136 t137 t138 t139 t140 t141).bind fun t203 => (if t203 = true then ((msg_Prepare.f 0 1 2 0 ([] : List ByteArray)).bind fun bt204 => ((msg_Is.f k bt204.1 bt204.2.1 bt204.2.2.1 bt204.2.2.2.1 bt204.2.2.2.2.1 bt204.2.2.2.2.2.1 bt204.2.2.2.2.2.2.1 bt204.2.2.2.2.2.2.2).bind fun t214 => (some t214))) else (some false)))) else (some false)) else (some false)) else (some false)) else (some false)) else (some false)) else (some false)) else (some false))) else (some false)) else (some false)) else (some false)))) = some r := H
  have A6 := Aside0.mk A60
  clear A60
  replace H := Option.bind_eq_some_iff.mp H
  obtain ⟨⟨t186, t187, t188, t189, t192⟩, A70, H⟩ := H
  replace H : ((msg_Vote.f t134 t135 t136 t137 t138 t139 t140 t141).bind fun bt194 => (if t146 = 0 then (if t145.toList = ([1, 2, 1, 1, 0, 1, 2, 0, 0, 1, 3, 0] : List UInt8) then (if t157 = t146 then ((sextonref23_Same.f k t134 t135 t136 t137 t138 t139 t140 t141 t147 t148 t149 t150 t151 t152 t153 t154).bind fun t202 => (if t202 = true then (if t169 = 30 then (if t172 = 1 then (if t192 = true then (if t186 = 1 then (if t187 = 1 then (if (t189.length : Int) = 1 then (if bt194.2.2.2.2 = true then (some false) else ((msg_Is.f k t134 t135 t136 t137 t138 t139 t140 t141).bind fun t203 => (if t203 = true then ((msg_Prepare.f 0 1 2 0 ([] : List ByteArray)).bind fun bt204 => ((msg_Is.f k bt204.1 bt204.2.1 bt204.2.2.1 bt204.2.2.2.1 bt204.2.2.2.2.1 bt204.2.2.2.2.2.1 bt204.2.2.2.2.2.2.1 bt204.2.2.2.2.2.2.2).bind fun t214 => (some t214))) else (some false)))) else (some false)) else (some false)) else (some false)) else (some false)) else (some false)) else (some false)) else (some false))) else (some false)) else (some false)) else (some false))) = some r := H
  have A7 := Aside0.mk A70
  clear A70
  replace H := Option.bind_eq_some_iff.mp H
  obtain ⟨⟨t194, t195, t196, t197, t200⟩, A80, H⟩ := H
  replace H : (if t146 = 0 then (if t145.toList = ([1, 2, 1, 1, 0, 1, 2, 0, 0, 1, 3, 0] : List UInt8) then (if t157 = t146 then ((sextonref23_Same.f k t134 t135 t136 t137 t138 t139 t140 t141 t147 t148 t149 t150 t151 t152 t153 t154).bind fun t202 => (if t202 = true then (if t169 = 30 then (if t172 = 1 then (if t192 = true then (if t186 = 1 then (if t187 = 1 then (if (t189.length : Int) = 1 then (if t200 = true then (some false) else ((msg_Is.f k t134 t135 t136 t137 t138 t139 t140 t141).bind fun t203 => (if t203 = true then ((msg_Prepare.f 0 1 2 0 ([] : List ByteArray)).bind fun bt204 => ((msg_Is.f k bt204.1 bt204.2.1 bt204.2.2.1 bt204.2.2.2.1 bt204.2.2.2.2.1 bt204.2.2.2.2.2.1 bt204.2.2.2.2.2.2.1 bt204.2.2.2.2.2.2.2).bind fun t214 => (some t214))) else (some false)))) else (some false)) else (some false)) else (some false)) else (some false)) else (some false)) else (some false)) else (some false))) else (some false)) else (some false)) else (some false)) = some r := H
  have A8 := Aside0.mk A80
  clear A80
  by_cases c9 : t146 = 0
  · rw [if_pos c9] at H
    have c9b0 : (t146 == 0) = true := beq_iff_eq.mpr c9
    have c9b1 : (t146 != 0) = false := bne_eq_false_iff_eq.mpr c9
    clear c9
    by_cases c10 : t145.toList = ([1, 2, 1, 1, 0, 1, 2, 0, 0, 1, 3, 0] : List UInt8)
    · rw [if_pos c10] at H
      have c10b0 : (t145.toList == ([1, 2, 1, 1, 0, 1, 2, 0, 0, 1, 3, 0] : List UInt8)) = true := beq_iff_eq.mpr c10
      have c10b1 : (t145.toList != ([1, 2, 1, 1, 0, 1, 2, 0, 0, 1, 3, 0] : List UInt8)) = false := bne_eq_false_iff_eq.mpr c10
      clear c10
      by_cases c11 : t157 = t146
      · rw [if_pos c11] at H
        have c11b0 : (t157 == t146) = true := beq_iff_eq.mpr c11
        have c11b1 : (t157 != t146) = false := bne_eq_false_iff_eq.mpr c11
        clear c11
        replace H := Option.bind_eq_some_iff.mp H
        obtain ⟨t202, A120, H⟩ := H
        replace H : (if t202 = true then (if t169 = 30 then (if t172 = 1 then (if t192 = true then (if t186 = 1 then (if t187 = 1 then (if (t189.length : Int) = 1 then (if t200 = true then (some false) else ((msg_Is.f k t134 t135 t136 t137 t138 t139 t140 t141).bind fun t203 => (if t203 = true then ((msg_Prepare.f 0 1 2 0 ([] : List ByteArray)).bind fun bt204 => ((msg_Is.f k bt204.1 bt204.2.1 bt204.2.2.1 bt204.2.2.2.1 bt204.2.2.2.2.1 bt204.2.2.2.2.2.1 bt204.2.2.2.2.2.2.1 bt204.2.2.2.2.2.2.2).bind fun t214 => (some t214))) else (some false)))) else (some false)) else (some false)) else (some false)) else (some false)) else (some false)) else (some false)) else (some false)) = some r := H
        have A12 := Aside0.mk A120
        clear A120
        by_cases c13 : t202 = true
        · subst c13
          have H1 : (if t169 = 30 then (if t172 = 1 then (if t192 = true then (if t186 = 1 then (if t187 = 1 then (if (t189.length : Int) = 1 then (if t200 = true then (some false) else ((msg_Is.f k t134 t135 t136 t137 t138 t139 t140 t141).bind fun t203 => (if t203 = true then ((msg_Prepare.f 0 1 2 0 ([] : List ByteArray)).bind fun bt204 => ((msg_Is.f k bt204.1 bt204.2.1 bt204.2.2.1 bt204.2.2.2.1 bt204.2.2.2.2.1 bt204.2.2.2.2.2.1 bt204.2.2.2.2.2.2.1 bt204.2.2.2.2.2.2.2).bind fun t214 => (some t214))) else (some false)))) else (some false)) else (some false)) else (some false)) else (some false)) else (some false)) else (some false)) = some r := by rw [if_pos rfl] at H; exact H
          clear H
          have H := H1
          clear H1
          by_cases c14 : t169 = 30
          · rw [if_pos c14] at H
            have c14b0 : (t169 == 30) = true := beq_iff_eq.mpr c14
            have c14b1 : (t169 != 30) = false := bne_eq_false_iff_eq.mpr c14
            clear c14
            by_cases c15 : t172 = 1
            · rw [if_pos c15] at H
              have c15b0 : (t172 == 1) = true := beq_iff_eq.mpr c15
              have c15b1 : (t172 != 1) = false := bne_eq_false_iff_eq.mpr c15
              clear c15
              by_cases c16 : t192 = true
              · subst c16
                have H1 : (if t186 = 1 then (if t187 = 1 then (if (t189.length : Int) = 1 then (if t200 = true then (some false) else ((msg_Is.f k t134 t135 t136 t137 t138 t139 t140 t141).bind fun t203 => (if t203 = true then ((msg_Prepare.f 0 1 2 0 ([] : List ByteArray)).bind fun bt204 => ((msg_Is.f k bt204.1 bt204.2.1 bt204.2.2.1 bt204.2.2.2.1 bt204.2.2.2.2.1 bt204.2.2.2.2.2.1 bt204.2.2.2.2.2.2.1 bt204.2.2.2.2.2.2.2).bind fun t214 => (some t214))) else (some false)))) else (some false)) else (some false)) else (some false)) = some r := by rw [if_pos rfl] at H; exact H
                clear H
                have H := H1
                clear H1
                by_cases c17 : t186 = 1
                · rw [if_pos c17] at H
                  have c17b0 : (t186 == 1) = true := beq_iff_eq.mpr c17
                  have c17b1 : (t186 != 1) = false := bne_eq_false_iff_eq.mpr c17
                  clear c17
                  by_cases c18 : t187 = 1
                  · rw [if_pos c18] at H
                    have c18b0 : (t187 == 1) = true := beq_iff_eq.mpr c18
                    have c18b1 : (t187 != 1) = false := bne_eq_false_iff_eq.mpr c18
                    clear c18
                    by_cases c19 : (t189.length : Int) = 1
                    · rw [if_pos c19] at H
                      have c19b0 : ((t189.length : Int) == 1) = true := beq_iff_eq.mpr c19
                      have c19b1 : ((t189.length : Int) != 1) = false := bne_eq_false_iff_eq.mpr c19
                      clear c19
                      by_cases c20 : t200 = true
                      · subst c20
                        have H1 : (some false) = some r := by rw [if_pos rfl] at H; exact H
                        exact absurd (H1.trans (congrArg some HRT.out)) (by decide)
                      · replace c20 := Bool.eq_false_iff.mpr c20
                        subst c20
                        have H1 : ((msg_Is.f k t134 t135 t136 t137 t138 t139 t140 t141).bind fun t203 => (if t203 = true then ((msg_Prepare.f 0 1 2 0 ([] : List ByteArray)).bind fun bt204 => ((msg_Is.f k bt204.1 bt204.2.1 bt204.2.2.1 bt204.2.2.2.1 bt204.2.2.2.2.1 bt204.2.2.2.2.2.1 bt204.2.2.2.2.2.2.1 bt204.2.2.2.2.2.2.2).bind fun t214 => (some t214))) else (some false))) = some r := by rw [if_neg (show ¬ (false = true) by decide)] at H; exact H
                        clear H
                        have H := H1
                        clear H1
                        replace H := Option.bind_eq_some_iff.mp H
                        obtain ⟨t203, A630, H⟩ := H
                        replace H : (if t203 = true then ((msg_Prepare.f 0 1 2 0 ([] : List ByteArray)).bind fun bt204 => ((msg_Is.f k bt204.1 bt204.2.1 bt204.2.2.1 bt204.2.2.2.1 bt204.2.2.2.2.1 bt204.2.2.2.2.2.1 bt204.2.2.2.2.2.2.1 bt204.2.2.2.2.2.2.2).bind fun t214 => (some t214))) else (some false)) = some r := H
                        have A63 := Aside0.mk A630
                        clear A630
                        by_cases c64 : t203 = true
                        · subst c64
                          have H1 : ((msg_Prepare.f 0 1 2 0 ([] : List ByteArray)).bind fun bt204 => ((msg_Is.f k bt204.1 bt204.2.1 bt204.2.2.1 bt204.2.2.2.1 bt204.2.2.2.2.1 bt204.2.2.2.2.2.1 bt204.2.2.2.2.2.2.1 bt204.2.2.2.2.2.2.2).bind fun t214 => (some t214))) = some r := by rw [if_pos rfl] at H; exact H
                          clear H
                          have H := H1
                          clear H1
                          replace H := Option.bind_eq_some_iff.mp H
                          obtain ⟨⟨t204, t205, t206, t207, t208, t209, t210, t211⟩, A650, H⟩ := H
                          replace H : ((msg_Is.f k t204 t205 t206 t207 t208 t209 t210 t211).bind fun t214 => (some t214)) = some r := H
                          have A65 := Aside0.mk A650
                          clear A650
                          replace H := Option.bind_eq_some_iff.mp H
                          obtain ⟨t214, A660, H⟩ := H
                          replace H : (some t214) = some r := H
                          have A66 := Aside0.mk A660
                          clear A660
                          obtain rfl := Option.some.inj H
                          go_enter Try.func35, Try.ntmps35
                          go_wp2_with (first | ((with_reducible refine gate_callee (f := 46) rfl ?_); refine goesL_ (some 14) rfl rfl Try.func46 (by kernel_rfl) rfl #[.int .i64 1, .int .i64 0, .int .i64 2, .int .i64 3] rfl (by (try simp only [List.map_toArray, List.map_cons, List.map_nil]); first | done | rfl | (simp only [List.length_drop, List.length_take]; rfl)) ?_; (with_reducible refine (msg_Ack.calls 1 0 2 3 t134 t135 t136 t137 t138 t139 t140 t141 _ A1.out).mono ?_); rintro e w67 ⟨v142, rfl, ho0, hb⟩; refine ⟨_, rfl, ?_⟩; have n0_ := Aside0.mk (Kd.R_lower ho0 (below_size (by repeat (first | (with_reducible first | exact HB.out | apply below_alloc | apply pw_below_drewN | apply below_drew1) | exact HB.out)))); have n1_ := Aside0.mk (below_step (by repeat (first | (with_reducible first | exact HB.out | apply below_alloc | apply pw_below_drewN | apply below_drew1) | exact HB.out)) hb); clear HB; have HO143 := n0_; have HB := n1_; clear n0_ n1_; (try clear hb); (try clear hb2); (try clear hk); (try clear hi); (try clear ho0); go_wp2_with (first | ((with_reducible refine gate_dst (N := 1) rfl ?_); (try (refine gate_guard (by rfl) ?_; dsimp only)); refine box_event ?hg (N := 1) ?hd (cs := #[.int .i64 0, .int .i64 0, .int .i64 0, .int .i64 0, .int .i64 0, .int .i64 0, .int .i64 0, .slice none 0 0]) (t := 29) ?hr ?_; (case hd => rfl); (case hg => rfl); (case hr => first | (go_simp; done) | (go_simp; rfl)); intro gb144 hg w68 hbox hb; have n0_ := Aside0.mk (Kd.R_below (by (with_reducible repeat (first | apply Kd.R_alloc | apply Kd.R_drewN | apply Kd.R_drew)); exact HO143.out) hb); have n1_ := Aside0.mk (below_step (by repeat (first | (with_reducible first | exact HB.out | apply below_alloc | apply pw_below_drewN | apply below_drew1) | exact HB.out)) hb); have n2_ := Aside0.mk (hbox); have n3_ := Aside0.mk ((by rw [hg]; exact (below_size (by repeat (first | (with_reducible first | exact HB.out | apply below_alloc | apply pw_below_drewN | apply below_drew1) | exact HB.out))) : w.heap.size ≤ gb144)); have n4_ := Aside0.mk ((by rw [hg]; exact (below_size (by repeat (first | (with_reducible first | exact HB.out | apply below_alloc | apply pw_below_drewN | apply below_drew1) | exact HB.out))) : w.heap.size ≤ gb144)); clear HO143; clear HB; have HO143 := n0_; have HB := n1_; have BK144 := n2_; have GW144 := n3_; have GE144 := n4_; clear n0_ n1_ n2_ n3_ n4_; clear hb hbox hg; have hcz69_0 : w68.cell? ⟨gb144, 0, none⟩ = some (.int .i64 0) := (blk_cell BK144.out 0).trans rfl; have hcz69_1 : w68.cell? ⟨gb144, 1, none⟩ = some (.int .i64 0) := (blk_cell BK144.out 1).trans rfl; have hcz69_2 : w68.cell? ⟨gb144, 2, none⟩ = some (.int .i64 0) := (blk_cell BK144.out 2).trans rfl; have hcz69_3 : w68.cell? ⟨gb144, 3, none⟩ = some (.int .i64 0) := (blk_cell BK144.out 3).trans rfl; have hcz69_4 : w68.cell? ⟨gb144, 4, none⟩ = some (.int .i64 0) := (blk_cell BK144.out 4).trans rfl; have hcz69_5 : w68.cell? ⟨gb144, 5, none⟩ = some (.int .i64 0) := (blk_cell BK144.out 5).trans rfl; have hcz69_6 : w68.cell? ⟨gb144, 6, none⟩ = some (.int .i64 0) := (blk_cell BK144.out 6).trans rfl; have hcz69_7 : w68.cell? ⟨gb144, 7, none⟩ = some (.slice none 0 0) := (blk_cell BK144.out 7).trans rfl; have hfz69_0 := blk_frozen BK144.out 0; have hfz69_1 := blk_frozen BK144.out 1; have hfz69_2 := blk_frozen BK144.out 2; have hfz69_3 := blk_frozen BK144.out 3; have hfz69_4 := blk_frozen BK144.out 4; have hfz69_5 := blk_frozen BK144.out 5; have hfz69_6 := blk_frozen BK144.out 6; have hfz69_7 := blk_frozen BK144.out 7; obtain ⟨Ao70, co70, eo70⟩ := Kd.R_slice HO143.out; subst eo70; go_wp2_with (first | ((with_reducible refine gate_callee (f := 31) rfl ?_); refine goesL_ (some 17) rfl rfl Try.func31 (by kernel_rfl) rfl #[.agg #[.int .i64 t134, .int .i64 t135, .int .i64 t136, .int .i64 t137, .int .i64 t138, .int .i64 t139, .int .i64 t140, .slice Ao70 t141.length co70]] rfl (by (try simp only [List.map_toArray, List.map_cons, List.map_nil]); first | done | rfl | (simp only [List.length_drop, List.length_take]; rfl)) ?_; (with_reducible refine (msg_Put.calls t134 t135 t136 t137 t138 t139 t140 _ _ t141 t145 t146 _ ?side1 ?side2 A2.out).mono ?_); (case side1 => refine (Kd.R_reads' (e := 9) (base := w.heap.size) (ok := fun k_ => True) (n := t141.length) (c := co70) ?_).2.2; exact (by (with_reducible repeat (first | apply Kd.R_alloc | apply Kd.R_drewN | apply Kd.R_drew)); exact (Kd.R_mono (Kd.R_far (p := ⟨gb144, 7, none⟩) (Kd.R_far (p := ⟨gb144, 6, none⟩) (Kd.R_far (p := ⟨gb144, 5, none⟩) (Kd.R_far (p := ⟨gb144, 4, none⟩) (Kd.R_far (p := ⟨gb144, 3, none⟩) (Kd.R_far (p := ⟨gb144, 2, none⟩) (Kd.R_far (p := ⟨gb144, 1, none⟩) (Kd.R_far (p := ⟨gb144, 0, none⟩) (Kd.R_types HO143.out BK144.out (by decide)) (fun _ hk => hk.2) (.int .i64 t134)) (fun _ hk => hk.2) (.int .i64 t135)) (fun _ hk => hk.2) (.int .i64 t136)) (fun _ hk => hk.2) (.int .i64 t137)) (fun _ hk => hk.2) (.int .i64 t138)) (fun _ hk => hk.2) (.int .i64 t139)) (fun _ hk => hk.2) (.int .i64 t140)) (fun _ hk => hk.2) (.slice Ao70 t141.length co70)) (fun _ h_ => h_.1)))); (case side2 => exact (Kd.R_reads' HO143.out).2.1); rintro e w71 ⟨rfl, hb⟩; refine ⟨_, rfl, ?_⟩; have n0_ := Aside0.mk (Kd.R_below (by (with_reducible repeat (first | apply Kd.R_alloc | apply Kd.R_drewN | apply Kd.R_drew)); exact (Kd.R_mono (Kd.R_far (p := ⟨gb144, 7, none⟩) (Kd.R_far (p := ⟨gb144, 6, none⟩) (Kd.R_far (p := ⟨gb144, 5, none⟩) (Kd.R_far (p := ⟨gb144, 4, none⟩) (Kd.R_far (p := ⟨gb144, 3, none⟩) (Kd.R_far (p := ⟨gb144, 2, none⟩) (Kd.R_far (p := ⟨gb144, 1, none⟩) (Kd.R_far (p := ⟨gb144, 0, none⟩) (Kd.R_types HO143.out BK144.out (by decide)) (fun _ hk => hk.2) (.int .i64 t134)) (fun _ hk => hk.2) (.int .i64 t135)) (fun _ hk => hk.2) (.int .i64 t136)) (fun _ hk => hk.2) (.int .i64 t137)) (fun _ hk => hk.2) (.int .i64 t138)) (fun _ hk => hk.2) (.int .i64 t139)) (fun _ hk => hk.2) (.int .i64 t140)) (fun _ hk => hk.2) (.slice Ao70 t141.length co70)) (fun _ h_ => h_.1))) hb); have n1_ := Aside0.mk (blk_below (g := gb144) (o := .cells #[.int .i64 t134, .int .i64 t135, .int .i64 t136, .int .i64 t137, .int .i64 t138, .int .i64 t139, .int .i64 t140, .slice Ao70 t141.length co70] 29 (0, 0)) (by (with_reducible repeat (first | refine blk_drewN ?_ _ | refine blk_drew ?_ | refine blk_alloc ?_ _)); refine blk_put (cs := #[.int .i64 t134, .int .i64 t135, .int .i64 t136, .int .i64 t137, .int .i64 t138, .int .i64 t139, .int .i64 t140, .slice none 0 0]) ?_ 7 _ rfl; (with_reducible repeat (first | refine blk_drewN ?_ _ | refine blk_drew ?_ | refine blk_alloc ?_ _)); refine blk_put (cs := #[.int .i64 t134, .int .i64 t135, .int .i64 t136, .int .i64 t137, .int .i64 t138, .int .i64 t139, .int .i64 0, .slice none 0 0]) ?_ 6 _ rfl; (with_reducible repeat (first | refine blk_drewN ?_ _ | refine blk_drew ?_ | refine blk_alloc ?_ _)); refine blk_put (cs := #[.int .i64 t134, .int .i64 t135, .int .i64 t136, .int .i64 t137, .int .i64 t138, .int .i64 0, .int .i64 0, .slice none 0 0]) ?_ 5 _ rfl; (with_reducible repeat (first | refine blk_drewN ?_ _ | refine blk_drew ?_ | refine blk_alloc ?_ _)); refine blk_put (cs := #[.int .i64 t134, .int .i64 t135, .int .i64 t136, .int .i64 t137, .int .i64 0, .int .i64 0, .int .i64 0, .slice none 0 0]) ?_ 4 _ rfl; (with_reducible repeat (first | refine blk_drewN ?_ _ | refine blk_drew ?_ | refine blk_alloc ?_ _)); refine blk_put (cs := #[.int .i64 t134, .int .i64 t135, .int .i64 t136, .int .i64 0, .int .i64 0, .int .i64 0, .int .i64 0, .slice none 0 0]) ?_ 3 _ rfl; (with_reducible repeat (first | refine blk_drewN ?_ _ | refine blk_drew ?_ | refine blk_alloc ?_ _)); refine blk_put (cs := #[.int .i64 t134, .int .i64 t135, .int .i64 0, .int .i64 0, .int .i64 0, .int .i64 0, .int .i64 0, .slice none 0 0]) ?_ 2 _ rfl; (with_reducible repeat (first | refine blk_drewN ?_ _ | refine blk_drew ?_ | refine blk_alloc ?_ _)); refine blk_put (cs := #[.int .i64 t134, .int .i64 0, .int .i64 0, .int .i64 0, .int .i64 0, .int .i64 0, .int .i64 0, .slice none 0 0]) ?_ 1 _ rfl; (with_reducible repeat (first | refine blk_drewN ?_ _ | refine blk_drew ?_ | refine blk_alloc ?_ _)); refine blk_put (cs := #[.int .i64 0, .int .i64 0, .int .i64 0, .int .i64 0, .int .i64 0, .int .i64 0, .int .i64 0, .slice none 0 0]) ?_ 0 _ rfl; (with_reducible repeat (first | refine blk_drewN ?_ _ | refine blk_drew ?_ | refine blk_alloc ?_ _)); exact BK144.out) hb); have n2_ := Aside0.mk (below_step (by repeat (first | (with_reducible first | exact HB.out | apply below_alloc | apply pw_below_drewN | apply below_drew1 | refine below_set ?_ GE144.out) | exact HB.out)) hb); clear HO143; clear BK144; clear HB; have HO143 := n0_; have BK144 := n1_; have HB := n2_; clear n0_ n1_ n2_; (try clear hb); (try clear hb2); (try clear hk); (try clear hi); go_wp2_with (first | ((with_reducible refine gate_callee (f := 33) rfl ?_); refine goesL_ (some 22) rfl rfl Try.func33 (by kernel_rfl) rfl #[.string t145] rfl (by (try simp only [List.map_toArray, List.map_cons, List.map_nil]); first | done | rfl | (simp only [List.length_drop, List.length_take]; rfl)) ?_; (with_reducible refine (msg_Get.calls t145 t147 t148 t149 t150 t151 t152 t153 t154 t157 _ A3.out).mono ?_); rintro e w72 ⟨v155, rfl, ho0, hb⟩; refine ⟨_, rfl, ?_⟩; have n0_ := Aside0.mk (Kd.R_elder' (by (with_reducible repeat (first | apply Kd.R_alloc | apply Kd.R_drewN | apply Kd.R_drew)); exact HO143.out) (Kd.R_base ho0) hb); have n1_ := Aside0.mk (Kd.R_lower (Kd.R_new' ho0 (Kd.R_lt (by (with_reducible repeat (first | apply Kd.R_alloc | apply Kd.R_drewN | apply Kd.R_drew)); exact HO143.out))) (below_size (by repeat (first | (with_reducible first | exact HB.out | apply below_alloc | apply pw_below_drewN | apply below_drew1 | refine below_set ?_ GE144.out) | exact HB.out)))); have n2_ := Aside0.mk (blk_below (g := gb144) (o := .cells #[.int .i64 t134, .int .i64 t135, .int .i64 t136, .int .i64 t137, .int .i64 t138, .int .i64 t139, .int .i64 t140, .slice Ao70 t141.length co70] 29 (0, 0)) (by (with_reducible repeat (first | refine blk_drewN ?_ _ | refine blk_drew ?_ | refine blk_alloc ?_ _)); exact BK144.out) hb); have n3_ := Aside0.mk (below_step (by repeat (first | (with_reducible first | exact HB.out | apply below_alloc | apply pw_below_drewN | apply below_drew1 | refine below_set ?_ GE144.out) | exact HB.out)) hb); clear HO143; clear BK144; clear HB; have HO143 := n0_; have HO156 := n1_; have BK144 := n2_; have HB := n3_; clear n0_ n1_ n2_ n3_; (try clear hb); (try clear hb2); (try clear hk); (try clear hi); (try clear ho0); go_wp2_with (first | ((with_reducible refine gate_dst (N := 4) rfl ?_); (try (refine gate_guard (by rfl) ?_; dsimp only)); refine box_event ?hg (N := 4) ?hd (cs := #[.int .i64 0, .int .i64 0, .int .i64 0, .int .i64 0, .int .i64 0, .int .i64 0, .int .i64 0, .slice none 0 0]) (t := 29) ?hr ?_; (case hd => rfl); (case hg => rfl); (case hr => first | (go_simp; done) | (go_simp; rfl)); intro gb158 hg w73 hbox hb; have n0_ := Aside0.mk (Kd.R_below (by (with_reducible repeat (first | apply Kd.R_alloc | apply Kd.R_drewN | apply Kd.R_drew)); exact HO143.out) hb); have n1_ := Aside0.mk (Kd.R_below (by (with_reducible repeat (first | apply Kd.R_alloc | apply Kd.R_drewN | apply Kd.R_drew)); exact HO156.out) hb); have n2_ := Aside0.mk (blk_below (g := gb144) (o := .cells #[.int .i64 t134, .int .i64 t135, .int .i64 t136, .int .i64 t137, .int .i64 t138, .int .i64 t139, .int .i64 t140, .slice Ao70 t141.length co70] 29 (0, 0)) (by (with_reducible repeat (first | refine blk_drewN ?_ _ | refine blk_drew ?_ | refine blk_alloc ?_ _)); exact BK144.out) hb); have n3_ := Aside0.mk (below_step (by repeat (first | (with_reducible first | exact HB.out | apply below_alloc | apply pw_below_drewN | apply below_drew1 | refine below_set ?_ GE144.out) | exact HB.out)) hb); have n4_ := Aside0.mk (hbox); have n5_ := Aside0.mk ((by rw [hg]; exact (below_size (by repeat (first | (with_reducible first | exact HB.out | apply below_alloc | apply pw_below_drewN | apply below_drew1 | refine below_set ?_ GE144.out) | exact HB.out))) : w.heap.size ≤ gb158)); have n6_ := Aside0.mk ((by rw [hg]; exact (below_size (by repeat (first | (with_reducible first | exact HB.out | apply below_alloc | apply pw_below_drewN | apply below_drew1 | refine below_set ?_ GE144.out) | exact HB.out))) : w.heap.size ≤ gb158)); have n7_ := Aside0.mk ((by rw [hg]; exact Nat.ne_of_lt (blk_lt (g := gb144) (o := .cells #[.int .i64 t134, .int .i64 t135, .int .i64 t136, .int .i64 t137, .int .i64 t138, .int .i64 t139, .int .i64 t140, .slice Ao70 t141.length co70] 29 (0, 0)) (by (with_reducible repeat (first | refine blk_drewN ?_ _ | refine blk_drew ?_ | refine blk_alloc ?_ _)); exact BK144.out)) : gb144 ≠ gb158)); have n8_ := Aside0.mk ((by rw [hg]; exact Nat.ne_of_gt (blk_lt (g := gb144) (o := .cells #[.int .i64 t134, .int .i64 t135, .int .i64 t136, .int .i64 t137, .int .i64 t138, .int .i64 t139, .int .i64 t140, .slice Ao70 t141.length co70] 29 (0, 0)) (by (with_reducible repeat (first | refine blk_drewN ?_ _ | refine blk_drew ?_ | refine blk_alloc ?_ _)); exact BK144.out)) : gb158 ≠ gb144)); clear HO143; clear HO156; clear BK144; clear HB; have HO143 := n0_; have HO156 := n1_; have BK144 := n2_; have HB := n3_; have BK158 := n4_; have GW158 := n5_; have GE158 := n6_; have NB144_158 := n7_; have NB158_144 := n8_; clear n0_ n1_ n2_ n3_ n4_ n5_ n6_ n7_ n8_; clear hb hbox hg; have hnb74 := NB158_144.out; have hnc74 := NB144_158.out; have hcz75_0 : w73.cell? ⟨gb158, 0, none⟩ = some (.int .i64 0) := (blk_cell BK158.out 0).trans rfl; have hcz75_1 : w73.cell? ⟨gb158, 1, none⟩ = some (.int .i64 0) := (blk_cell BK158.out 1).trans rfl; have hcz75_2 : w73.cell? ⟨gb158, 2, none⟩ = some (.int .i64 0) := (blk_cell BK158.out 2).trans rfl; have hcz75_3 : w73.cell? ⟨gb158, 3, none⟩ = some (.int .i64 0) := (blk_cell BK158.out 3).trans rfl; have hcz75_4 : w73.cell? ⟨gb158, 4, none⟩ = some (.int .i64 0) := (blk_cell BK158.out 4).trans rfl; have hcz75_5 : w73.cell? ⟨gb158, 5, none⟩ = some (.int .i64 0) := (blk_cell BK158.out 5).trans rfl; have hcz75_6 : w73.cell? ⟨gb158, 6, none⟩ = some (.int .i64 0) := (blk_cell BK158.out 6).trans rfl; have hcz75_7 : w73.cell? ⟨gb158, 7, none⟩ = some (.slice none 0 0) := (blk_cell BK158.out 7).trans rfl; have hfz75_0 := blk_frozen BK158.out 0; have hfz75_1 := blk_frozen BK158.out 1; have hfz75_2 := blk_frozen BK158.out 2; have hfz75_3 := blk_frozen BK158.out 3; have hfz75_4 := blk_frozen BK158.out 4; have hfz75_5 := blk_frozen BK158.out 5; have hfz75_6 := blk_frozen BK158.out 6; have hfz75_7 := blk_frozen BK158.out 7; obtain ⟨Ao76, co76, eo76⟩ := Kd.R_slice HO156.out; subst eo76; go_wp2_with (first | ((with_reducible refine gate_callee (f := 33) rfl ?_); refine goesL_ (some 26) rfl rfl Try.func33 (by kernel_rfl) rfl #[.string (⟨#[]⟩ : ByteArray)] rfl (by (try simp only [List.map_toArray, List.map_cons, List.map_nil]); first | done | rfl | (simp only [List.length_drop, List.length_take]; rfl)) ?_; (with_reducible refine (msg_Get.calls (⟨#[]⟩ : ByteArray) t159 t160 t161 t162 t163 t164 t165 t166 t169 _ A4.out).mono ?_); rintro e w77 ⟨v167, rfl, ho0, hb⟩; refine ⟨_, rfl, ?_⟩; have n0_ := Aside0.mk (Kd.R_elder' (by (with_reducible repeat (first | apply Kd.R_alloc | apply Kd.R_drewN | apply Kd.R_drew)); exact (Kd.R_mono (Kd.R_far (p := ⟨gb158, 7, none⟩) (Kd.R_far (p := ⟨gb158, 6, none⟩) (Kd.R_far (p := ⟨gb158, 5, none⟩) (Kd.R_far (p := ⟨gb158, 4, none⟩) (Kd.R_far (p := ⟨gb158, 3, none⟩) (Kd.R_far (p := ⟨gb158, 2, none⟩) (Kd.R_far (p := ⟨gb158, 1, none⟩) (Kd.R_far (p := ⟨gb158, 0, none⟩) (Kd.R_types HO143.out BK158.out (by decide)) (fun _ hk => hk.2) (.int .i64 t147)) (fun _ hk => hk.2) (.int .i64 t148)) (fun _ hk => hk.2) (.int .i64 t149)) (fun _ hk => hk.2) (.int .i64 t150)) (fun _ hk => hk.2) (.int .i64 t151)) (fun _ hk => hk.2) (.int .i64 t152)) (fun _ hk => hk.2) (.int .i64 t153)) (fun _ hk => hk.2) (.slice Ao76 t154.length co76)) (fun _ h_ => h_.1))) (Kd.R_base ho0) hb); have n1_ := Aside0.mk (Kd.R_elder' (by (with_reducible repeat (first | apply Kd.R_alloc | apply Kd.R_drewN | apply Kd.R_drew)); exact (Kd.R_mono (Kd.R_far (p := ⟨gb158, 7, none⟩) (Kd.R_far (p := ⟨gb158, 6, none⟩) (Kd.R_far (p := ⟨gb158, 5, none⟩) (Kd.R_far (p := ⟨gb158, 4, none⟩) (Kd.R_far (p := ⟨gb158, 3, none⟩) (Kd.R_far (p := ⟨gb158, 2, none⟩) (Kd.R_far (p := ⟨gb158, 1, none⟩) (Kd.R_far (p := ⟨gb158, 0, none⟩) (Kd.R_types HO156.out BK158.out (by decide)) (fun _ hk => hk.2) (.int .i64 t147)) (fun _ hk => hk.2) (.int .i64 t148)) (fun _ hk => hk.2) (.int .i64 t149)) (fun _ hk => hk.2) (.int .i64 t150)) (fun _ hk => hk.2) (.int .i64 t151)) (fun _ hk => hk.2) (.int .i64 t152)) (fun _ hk => hk.2) (.int .i64 t153)) (fun _ hk => hk.2) (.slice Ao76 t154.length co76)) (fun _ h_ => h_.1))) (Kd.R_base ho0) hb); have n2_ := Aside0.mk (Kd.R_lower (Kd.R_new' (Kd.R_new' ho0 (Kd.R_lt (by (with_reducible repeat (first | apply Kd.R_alloc | apply Kd.R_drewN | apply Kd.R_drew)); exact (Kd.R_mono (Kd.R_far (p := ⟨gb158, 7, none⟩) (Kd.R_far (p := ⟨gb158, 6, none⟩) (Kd.R_far (p := ⟨gb158, 5, none⟩) (Kd.R_far (p := ⟨gb158, 4, none⟩) (Kd.R_far (p := ⟨gb158, 3, none⟩) (Kd.R_far (p := ⟨gb158, 2, none⟩) (Kd.R_far (p := ⟨gb158, 1, none⟩) (Kd.R_far (p := ⟨gb158, 0, none⟩) (Kd.R_types HO143.out BK158.out (by decide)) (fun _ hk => hk.2) (.int .i64 t147)) (fun _ hk => hk.2) (.int .i64 t148)) (fun _ hk => hk.2) (.int .i64 t149)) (fun _ hk => hk.2) (.int .i64 t150)) (fun _ hk => hk.2) (.int .i64 t151)) (fun _ hk => hk.2) (.int .i64 t152)) (fun _ hk => hk.2) (.int .i64 t153)) (fun _ hk => hk.2) (.slice Ao76 t154.length co76)) (fun _ h_ => h_.1))))) (Kd.R_lt (by (with_reducible repeat (first | apply Kd.R_alloc | apply Kd.R_drewN | apply Kd.R_drew)); exact (Kd.R_mono (Kd.R_far (p := ⟨gb158, 7, none⟩) (Kd.R_far (p := ⟨gb158, 6, none⟩) (Kd.R_far (p := ⟨gb158, 5, none⟩) (Kd.R_far (p := ⟨gb158, 4, none⟩) (Kd.R_far (p := ⟨gb158, 3, none⟩) (Kd.R_far (p := ⟨gb158, 2, none⟩) (Kd.R_far (p := ⟨gb158, 1, none⟩) (Kd.R_far (p := ⟨gb158, 0, none⟩) (Kd.R_types HO156.out BK158.out (by decide)) (fun _ hk => hk.2) (.int .i64 t147)) (fun _ hk => hk.2) (.int .i64 t148)) (fun _ hk => hk.2) (.int .i64 t149)) (fun _ hk => hk.2) (.int .i64 t150)) (fun _ hk => hk.2) (.int .i64 t151)) (fun _ hk => hk.2) (.int .i64 t152)) (fun _ hk => hk.2) (.int .i64 t153)) (fun _ hk => hk.2) (.slice Ao76 t154.length co76)) (fun _ h_ => h_.1))))) (below_size (by repeat (first | (with_reducible first | exact HB.out | apply below_alloc | apply pw_below_drewN | apply below_drew1 | refine below_set ?_ GE144.out | refine below_set ?_ GE158.out) | exact HB.out)))); have n3_ := Aside0.mk (blk_below (g := gb144) (o := .cells #[.int .i64 t134, .int .i64 t135, .int .i64 t136, .int .i64 t137, .int .i64 t138, .int .i64 t139, .int .i64 t140, .slice Ao70 t141.length co70] 29 (0, 0)) (by (with_reducible repeat (first | refine blk_drewN ?_ _ | refine blk_drew ?_ | refine blk_alloc ?_ _)); refine blk_far ?_ NB144_158.out _; (with_reducible repeat (first | refine blk_drewN ?_ _ | refine blk_drew ?_ | refine blk_alloc ?_ _)); refine blk_far ?_ NB144_158.out _; (with_reducible repeat (first | refine blk_drewN ?_ _ | refine blk_drew ?_ | refine blk_alloc ?_ _)); refine blk_far ?_ NB144_158.out _; (with_reducible repeat (first | refine blk_drewN ?_ _ | refine blk_drew ?_ | refine blk_alloc ?_ _)); refine blk_far ?_ NB144_158.out _; (with_reducible repeat (first | refine blk_drewN ?_ _ | refine blk_drew ?_ | refine blk_alloc ?_ _)); refine blk_far ?_ NB144_158.out _; (with_reducible repeat (first | refine blk_drewN ?_ _ | refine blk_drew ?_ | refine blk_alloc ?_ _)); refine blk_far ?_ NB144_158.out _; (with_reducible repeat (first | refine blk_drewN ?_ _ | refine blk_drew ?_ | refine blk_alloc ?_ _)); refine blk_far ?_ NB144_158.out _; (with_reducible repeat (first | refine blk_drewN ?_ _ | refine blk_drew ?_ | refine blk_alloc ?_ _)); refine blk_far ?_ NB144_158.out _; (with_reducible repeat (first | refine blk_drewN ?_ _ | refine blk_drew ?_ | refine blk_alloc ?_ _)); exact BK144.out) hb); have n4_ := Aside0.mk (blk_below (g := gb158) (o := .cells #[.int .i64 t147, .int .i64 t148, .int .i64 t149, .int .i64 t150, .int .i64 t151, .int .i64 t152, .int .i64 t153, .slice Ao76 t154.length co76] 29 (0, 0)) (by (with_reducible repeat (first | refine blk_drewN ?_ _ | refine blk_drew ?_ | refine blk_alloc ?_ _)); refine blk_put (cs := #[.int .i64 t147, .int .i64 t148, .int .i64 t149, .int .i64 t150, .int .i64 t151, .int .i64 t152, .int .i64 t153, .slice none 0 0]) ?_ 7 _ rfl; (with_reducible repeat (first | refine blk_drewN ?_ _ | refine blk_drew ?_ | refine blk_alloc ?_ _)); refine blk_put (cs := #[.int .i64 t147, .int .i64 t148, .int .i64 t149, .int .i64 t150, .int .i64 t151, .int .i64 t152, .int .i64 0, .slice none 0 0]) ?_ 6 _ rfl; (with_reducible repeat (first | refine blk_drewN ?_ _ | refine blk_drew ?_ | refine blk_alloc ?_ _)); refine blk_put (cs := #[.int .i64 t147, .int .i64 t148, .int .i64 t149, .int .i64 t150, .int .i64 t151, .int .i64 0, .int .i64 0, .slice none 0 0]) ?_ 5 _ rfl; (with_reducible repeat (first | refine blk_drewN ?_ _ | refine blk_drew ?_ | refine blk_alloc ?_ _)); refine blk_put (cs := #[.int .i64 t147, .int .i64 t148, .int .i64 t149, .int .i64 t150, .int .i64 0, .int .i64 0, .int .i64 0, .slice none 0 0]) ?_ 4 _ rfl; (with_reducible repeat (first | refine blk_drewN ?_ _ | refine blk_drew ?_ | refine blk_alloc ?_ _)); refine blk_put (cs := #[.int .i64 t147, .int .i64 t148, .int .i64 t149, .int .i64 0, .int .i64 0, .int .i64 0, .int .i64 0, .slice none 0 0]) ?_ 3 _ rfl; (with_reducible repeat (first | refine blk_drewN ?_ _ | refine blk_drew ?_ | refine blk_alloc ?_ _)); refine blk_put (cs := #[.int .i64 t147, .int .i64 t148, .int .i64 0, .int .i64 0, .int .i64 0, .int .i64 0, .int .i64 0, .slice none 0 0]) ?_ 2 _ rfl; (with_reducible repeat (first | refine blk_drewN ?_ _ | refine blk_drew ?_ | refine blk_alloc ?_ _)); refine blk_put (cs := #[.int .i64 t147, .int .i64 0, .int .i64 0, .int .i64 0, .int .i64 0, .int .i64 0, .int .i64 0, .slice none 0 0]) ?_ 1 _ rfl; (with_reducible repeat (first | refine blk_drewN ?_ _ | refine blk_drew ?_ | refine blk_alloc ?_ _)); refine blk_put (cs := #[.int .i64 0, .int .i64 0, .int .i64 0, .int .i64 0, .int .i64 0, .int .i64 0, .int .i64 0, .slice none 0 0]) ?_ 0 _ rfl; (with_reducible repeat (first | refine blk_drewN ?_ _ | refine blk_drew ?_ | refine blk_alloc ?_ _)); exact BK158.out) hb); have n5_ := Aside0.mk (below_step (by repeat (first | (with_reducible first | exact HB.out | apply below_alloc | apply pw_below_drewN | apply below_drew1 | refine below_set ?_ GE144.out | refine below_set ?_ GE158.out) | exact HB.out)) hb); clear HO143; clear HO156; clear BK144; clear BK158; clear HB; have HO143 := n0_; have HO156 := n1_; have HO168 := n2_; have BK144 := n3_; have BK158 := n4_; have HB := n5_; clear n0_ n1_ n2_ n3_ n4_ n5_; (try clear hb); (try clear hb2); (try clear hk); (try clear hi); (try clear ho0); go_wp2_with (first | ((with_reducible refine gate_dst (N := 6) rfl ?_); (try (refine gate_guard (by rfl) ?_; dsimp only)); refine box_event ?hg (N := 6) ?hd (cs := #[.int .i64 0, .int .i64 0, .int .i64 0, .int .i64 0, .int .i64 0, .int .i64 0, .int .i64 0, .slice none 0 0]) (t := 29) ?hr ?_; (case hd => rfl); (case hg => rfl); (case hr => first | (go_simp; done) | (go_simp; rfl)); intro gb170 hg w78 hbox hb; have n0_ := Aside0.mk (Kd.R_below (by (with_reducible repeat (first | apply Kd.R_alloc | apply Kd.R_drewN | apply Kd.R_drew)); exact HO143.out) hb); have n1_ := Aside0.mk (Kd.R_below (by (with_reducible repeat (first | apply Kd.R_alloc | apply Kd.R_drewN | apply Kd.R_drew)); exact HO156.out) hb); have n2_ := Aside0.mk (Kd.R_below (by (with_reducible repeat (first | apply Kd.R_alloc | apply Kd.R_drewN | apply Kd.R_drew)); exact HO168.out) hb); have n3_ := Aside0.mk (blk_below (g := gb144) (o := .cells #[.int .i64 t134, .int .i64 t135, .int .i64 t136, .int .i64 t137, .int .i64 t138, .int .i64 t139, .int .i64 t140, .slice Ao70 t141.length co70] 29 (0, 0)) (by (with_reducible repeat (first | refine blk_drewN ?_ _ | refine blk_drew ?_ | refine blk_alloc ?_ _)); exact BK144.out) hb); have n4_ := Aside0.mk (blk_below (g := gb158) (o := .cells #[.int .i64 t147, .int .i64 t148, .int .i64 t149, .int .i64 t150, .int .i64 t151, .int .i64 t152, .int .i64 t153, .slice Ao76 t154.length co76] 29 (0, 0)) (by (with_reducible repeat (first | refine blk_drewN ?_ _ | refine blk_drew ?_ | refine blk_alloc ?_ _)); exact BK158.out) hb); have n5_ := Aside0.mk (below_step (by repeat (first | (with_reducible first | exact HB.out | apply below_alloc | apply pw_below_drewN | apply below_drew1 | refine below_set ?_ GE144.out | refine below_set ?_ GE158.out) | exact HB.out)) hb); have n6_ := Aside0.mk (hbox); have n7_ := Aside0.mk ((by rw [hg]; exact (below_size (by repeat (first | (with_reducible first | exact HB.out | apply below_alloc | apply pw_below_drewN | apply below_drew1 | refine below_set ?_ GE144.out | refine below_set ?_ GE158.out) | exact HB.out))) : w.heap.size ≤ gb170)); have n8_ := Aside0.mk ((by rw [hg]; exact (below_size (by repeat (first | (with_reducible first | exact HB.out | apply below_alloc | apply pw_below_drewN | apply below_drew1 | refine below_set ?_ GE144.out | refine below_set ?_ GE158.out) | exact HB.out))) : w.heap.size ≤ gb170)); have n9_ := Aside0.mk ((by rw [hg]; exact Nat.ne_of_lt (blk_lt (g := gb144) (o := .cells #[.int .i64 t134, .int .i64 t135, .int .i64 t136, .int .i64 t137, .int .i64 t138, .int .i64 t139, .int .i64 t140, .slice Ao70 t141.length co70] 29 (0, 0)) (by (with_reducible repeat (first | refine blk_drewN ?_ _ | refine blk_drew ?_ | refine blk_alloc ?_ _)); exact BK144.out)) : gb144 ≠ gb170)); have n10_ := Aside0.mk ((by rw [hg]; exact Nat.ne_of_gt (blk_lt (g := gb144) (o := .cells #[.int .i64 t134, .int .i64 t135, .int .i64 t136, .int .i64 t137, .int .i64 t138, .int .i64 t139, .int .i64 t140, .slice Ao70 t141.length co70] 29 (0, 0)) (by (with_reducible repeat (first | refine blk_drewN ?_ _ | refine blk_drew ?_ | refine blk_alloc ?_ _)); exact BK144.out)) : gb170 ≠ gb144)); have n11_ := Aside0.mk ((by rw [hg]; exact Nat.ne_of_lt (blk_lt (g := gb158) (o := .cells #[.int .i64 t147, .int .i64 t148, .int .i64 t149, .int .i64 t150, .int .i64 t151, .int .i64 t152, .int .i64 t153, .slice Ao76 t154.length co76] 29 (0, 0)) (by (with_reducible repeat (first | refine blk_drewN ?_ _ | refine blk_drew ?_ | refine blk_alloc ?_ _)); exact BK158.out)) : gb158 ≠ gb170)); have n12_ := Aside0.mk ((by rw [hg]; exact Nat.ne_of_gt (blk_lt (g := gb158) (o := .cells #[.int .i64 t147, .int .i64 t148, .int .i64 t149, .int .i64 t150, .int .i64 t151, .int .i64 t152, .int .i64 t153, .slice Ao76 t154.length co76] 29 (0, 0)) (by (with_reducible repeat (first | refine blk_drewN ?_ _ | refine blk_drew ?_ | refine blk_alloc ?_ _)); exact BK158.out)) : gb170 ≠ gb158)); clear HO143; clear HO156; clear HO168; clear BK144; clear BK158; clear HB; have HO143 := n0_; have HO156 := n1_; have HO168 := n2_; have BK144 := n3_; have BK158 := n4_; have HB := n5_; have BK170 := n6_; have GW170 := n7_; have GE170 := n8_; have NB144_170 := n9_; have NB170_144 := n10_; have NB158_170 := n11_; have NB170_158 := n12_; clear n0_ n1_ n2_ n3_ n4_ n5_ n6_ n7_ n8_ n9_ n10_ n11_ n12_; clear hb hbox hg; have hnb79 := NB170_144.out; have hnc79 := NB144_170.out; have hnb80 := NB170_158.out; have hnc80 := NB158_170.out; have hcz81_0 : w78.cell? ⟨gb170, 0, none⟩ = some (.int .i64 0) := (blk_cell BK170.out 0).trans rfl; have hcz81_1 : w78.cell? ⟨gb170, 1, none⟩ = some (.int .i64 0) := (blk_cell BK170.out 1).trans rfl; have hcz81_2 : w78.cell? ⟨gb170, 2, none⟩ = some (.int .i64 0) := (blk_cell BK170.out 2).trans rfl; have hcz81_3 : w78.cell? ⟨gb170, 3, none⟩ = some (.int .i64 0) := (blk_cell BK170.out 3).trans rfl; have hcz81_4 : w78.cell? ⟨gb170, 4, none⟩ = some (.int .i64 0) := (blk_cell BK170.out 4).trans rfl; have hcz81_5 : w78.cell? ⟨gb170, 5, none⟩ = some (.int .i64 0) := (blk_cell BK170.out 5).trans rfl; have hcz81_6 : w78.cell? ⟨gb170, 6, none⟩ = some (.int .i64 0) := (blk_cell BK170.out 6).trans rfl; have hcz81_7 : w78.cell? ⟨gb170, 7, none⟩ = some (.slice none 0 0) := (blk_cell BK170.out 7).trans rfl; have hfz81_0 := blk_frozen BK170.out 0; have hfz81_1 := blk_frozen BK170.out 1; have hfz81_2 := blk_frozen BK170.out 2; have hfz81_3 := blk_frozen BK170.out 3; have hfz81_4 := blk_frozen BK170.out 4; have hfz81_5 := blk_frozen BK170.out 5; have hfz81_6 := blk_frozen BK170.out 6; have hfz81_7 := blk_frozen BK170.out 7; obtain ⟨Ao82, co82, eo82⟩ := Kd.R_slice HO168.out; subst eo82; go_wp2_with (first | ((with_reducible refine gate_callee (f := 31) rfl ?_); refine goesL_ (some 31) rfl rfl Try.func31 (by kernel_rfl) rfl #[.agg #[.int .i64 0, .int .i64 0, .int .i64 0, .int .i64 0, .int .i64 0, .int .i64 0, .int .i64 0, .slice none 0 0]] rfl (by (try simp only [List.map_toArray, List.map_cons, List.map_nil]); first | done | rfl | (simp only [List.length_drop, List.length_take]; rfl)) ?_; (refine (msg_Put.calls 0 0 0 0 0 0 0 _ _ ([] : List ByteArray) t171 t172 _ ?side1 ?side2 A5.out).mono ?_); (case side1 => exact Kd.C_nil _ _); (case side2 => exact Nat.le_refl _); rintro e w83 ⟨rfl, hb⟩; refine ⟨_, rfl, ?_⟩; have n0_ := Aside0.mk (Kd.R_below (by (with_reducible repeat (first | apply Kd.R_alloc | apply Kd.R_drewN | apply Kd.R_drew)); exact (Kd.R_mono (Kd.R_far (p := ⟨gb170, 7, none⟩) (Kd.R_far (p := ⟨gb170, 6, none⟩) (Kd.R_far (p := ⟨gb170, 5, none⟩) (Kd.R_far (p := ⟨gb170, 4, none⟩) (Kd.R_far (p := ⟨gb170, 3, none⟩) (Kd.R_far (p := ⟨gb170, 2, none⟩) (Kd.R_far (p := ⟨gb170, 1, none⟩) (Kd.R_far (p := ⟨gb170, 0, none⟩) (Kd.R_types HO143.out BK170.out (by decide)) (fun _ hk => hk.2) (.int .i64 t159)) (fun _ hk => hk.2) (.int .i64 t160)) (fun _ hk => hk.2) (.int .i64 t161)) (fun _ hk => hk.2) (.int .i64 t162)) (fun _ hk => hk.2) (.int .i64 t163)) (fun _ hk => hk.2) (.int .i64 t164)) (fun _ hk => hk.2) (.int .i64 t165)) (fun _ hk => hk.2) (.slice Ao82 t166.length co82)) (fun _ h_ => h_.1))) hb); have n1_ := Aside0.mk (Kd.R_below (by (with_reducible repeat (first | apply Kd.R_alloc | apply Kd.R_drewN | apply Kd.R_drew)); exact (Kd.R_mono (Kd.R_far (p := ⟨gb170, 7, none⟩) (Kd.R_far (p := ⟨gb170, 6, none⟩) (Kd.R_far (p := ⟨gb170, 5, none⟩) (Kd.R_far (p := ⟨gb170, 4, none⟩) (Kd.R_far (p := ⟨gb170, 3, none⟩) (Kd.R_far (p := ⟨gb170, 2, none⟩) (Kd.R_far (p := ⟨gb170, 1, none⟩) (Kd.R_far (p := ⟨gb170, 0, none⟩) (Kd.R_types HO156.out BK170.out (by decide)) (fun _ hk => hk.2) (.int .i64 t159)) (fun _ hk => hk.2) (.int .i64 t160)) (fun _ hk => hk.2) (.int .i64 t161)) (fun _ hk => hk.2) (.int .i64 t162)) (fun _ hk => hk.2) (.int .i64 t163)) (fun _ hk => hk.2) (.int .i64 t164)) (fun _ hk => hk.2) (.int .i64 t165)) (fun _ hk => hk.2) (.slice Ao82 t166.length co82)) (fun _ h_ => h_.1))) hb); have n2_ := Aside0.mk (Kd.R_below (by (with_reducible repeat (first | apply Kd.R_alloc | apply Kd.R_drewN | apply Kd.R_drew)); exact (Kd.R_mono (Kd.R_far (p := ⟨gb170, 7, none⟩) (Kd.R_far (p := ⟨gb170, 6, none⟩) (Kd.R_far (p := ⟨gb170, 5, none⟩) (Kd.R_far (p := ⟨gb170, 4, none⟩) (Kd.R_far (p := ⟨gb170, 3, none⟩) (Kd.R_far (p := ⟨gb170, 2, none⟩) (Kd.R_far (p := ⟨gb170, 1, none⟩) (Kd.R_far (p := ⟨gb170, 0, none⟩) (Kd.R_types HO168.out BK170.out (by decide)) (fun _ hk => hk.2) (.int .i64 t159)) (fun _ hk => hk.2) (.int .i64 t160)) (fun _ hk => hk.2) (.int .i64 t161)) (fun _ hk => hk.2) (.int .i64 t162)) (fun _ hk => hk.2) (.int .i64 t163)) (fun _ hk => hk.2) (.int .i64 t164)) (fun _ hk => hk.2) (.int .i64 t165)) (fun _ hk => hk.2) (.slice Ao82 t166.length co82)) (fun _ h_ => h_.1))) hb); have n3_ := Aside0.mk (blk_below (g := gb144) (o := .cells #[.int .i64 t134, .int .i64 t135, .int .i64 t136, .int .i64 t137, .int .i64 t138, .int .i64 t139, .int .i64 t140, .slice Ao70 t141.length co70] 29 (0, 0)) (by (with_reducible repeat (first | refine blk_drewN ?_ _ | refine blk_drew ?_ | refine blk_alloc ?_ _)); refine blk_far ?_ NB144_170.out _; (with_reducible repeat (first | refine blk_drewN ?_ _ | refine blk_drew ?_ | refine blk_alloc ?_ _)); refine blk_far ?_ NB144_170.out _; (with_reducible repeat (first | refine blk_drewN ?_ _ | refine blk_drew ?_ | refine blk_alloc ?_ _)); refine blk_far ?_ NB144_170.out _; (with_reducible repeat (first | refine blk_drewN ?_ _ | refine blk_drew ?_ | refine blk_alloc ?_ _)); refine blk_far ?_ NB144_170.out _; (with_reducible repeat (first | refine blk_drewN ?_ _ | refine blk_drew ?_ | refine blk_alloc ?_ _)); refine blk_far ?_ NB144_170.out _; (with_reducible repeat (first | refine blk_drewN ?_ _ | refine blk_drew ?_ | refine blk_alloc ?_ _)); refine blk_far ?_ NB144_170.out _; (with_reducible repeat (first | refine blk_drewN ?_ _ | refine blk_drew ?_ | refine blk_alloc ?_ _)); refine blk_far ?_ NB144_170.out _; (with_reducible repeat (first | refine blk_drewN ?_ _ | refine blk_drew ?_ | refine blk_alloc ?_ _)); refine blk_far ?_ NB144_170.out _; (with_reducible repeat (first | refine blk_drewN ?_ _ | refine blk_drew ?_ | refine blk_alloc ?_ _)); exact BK144.out) hb); have n4_ := Aside0.mk (blk_below (g := gb158) (o := .cells #[.int .i64 t147, .int .i64 t148, .int .i64 t149, .int .i64 t150, .int .i64 t151, .int .i64 t152, .int .i64 t153, .slice Ao76 t154.length co76] 29 (0, 0)) (by (with_reducible repeat (first | refine blk_drewN ?_ _ | refine blk_drew ?_ | refine blk_alloc ?_ _)); refine blk_far ?_ NB158_170.out _; (with_reducible repeat (first | refine blk_drewN ?_ _ | refine blk_drew ?_ | refine blk_alloc ?_ _)); refine blk_far ?_ NB158_170.out _; (with_reducible repeat (first | refine blk_drewN ?_ _ | refine blk_drew ?_ | refine blk_alloc ?_ _)); refine blk_far ?_ NB158_170.out _; (with_reducible repeat (first | refine blk_drewN ?_ _ | refine blk_drew ?_ | refine blk_alloc ?_ _)); refine blk_far ?_ NB158_170.out _; (with_reducible repeat (first | refine blk_drewN ?_ _ | refine blk_drew ?_ | refine blk_alloc ?_ _)); refine blk_far ?_ NB158_170.out _; (with_reducible repeat (first | refine blk_drewN ?_ _ | refine blk_drew ?_ | refine blk_alloc ?_ _)); refine blk_far ?_ NB158_170.out _; (with_reducible repeat (first | refine blk_drewN ?_ _ | refine blk_drew ?_ | refine blk_alloc ?_ _)); refine blk_far ?_ NB158_170.out _; (with_reducible repeat (first | refine blk_drewN ?_ _ | refine blk_drew ?_ | refine blk_alloc ?_ _)); refine blk_far ?_ NB158_170.out _; (with_reducible repeat (first | refine blk_drewN ?_ _ | refine blk_drew ?_ | refine blk_alloc ?_ _)); exact BK158.out) hb); have n5_ := Aside0.mk (blk_below (g := gb170) (o := .cells #[.int .i64 t159, .int .i64 t160, .int .i64 t161, .int .i64 t162, .int .i64 t163, .int .i64 t164, .int .i64 t165, .slice Ao82 t166.length co82] 29 (0, 0)) (by (with_reducible repeat (first | refine blk_drewN ?_ _ | refine blk_drew ?_ | refine blk_alloc ?_ _)); refine blk_put (cs := #[.int .i64 t159, .int .i64 t160, .int .i64 t161, .int .i64 t162, .int .i64 t163, .int .i64 t164, .int .i64 t165, .slice none 0 0]) ?_ 7 _ rfl; (with_reducible repeat (first | refine blk_drewN ?_ _ | refine blk_drew ?_ | refine blk_alloc ?_ _)); refine blk_put (cs := #[.int .i64 t159, .int .i64 t160, .int .i64 t161, .int .i64 t162, .int .i64 t163, .int .i64 t164, .int .i64 0, .slice none 0 0]) ?_ 6 _ rfl; (with_reducible repeat (first | refine blk_drewN ?_ _ | refine blk_drew ?_ | refine blk_alloc ?_ _)); refine blk_put (cs := #[.int .i64 t159, .int .i64 t160, .int .i64 t161, .int .i64 t162, .int .i64 t163, .int .i64 0, .int .i64 0, .slice none 0 0]) ?_ 5 _ rfl; (with_reducible repeat (first | refine blk_drewN ?_ _ | refine blk_drew ?_ | refine blk_alloc ?_ _)); refine blk_put (cs := #[.int .i64 t159, .int .i64 t160, .int .i64 t161, .int .i64 t162, .int .i64 0, .int .i64 0, .int .i64 0, .slice none 0 0]) ?_ 4 _ rfl; (with_reducible repeat (first | refine blk_drewN ?_ _ | refine blk_drew ?_ | refine blk_alloc ?_ _)); refine blk_put (cs := #[.int .i64 t159, .int .i64 t160, .int .i64 t161, .int .i64 0, .int .i64 0, .int .i64 0, .int .i64 0, .slice none 0 0]) ?_ 3 _ rfl; (with_reducible repeat (first | refine blk_drewN ?_ _ | refine blk_drew ?_ | refine blk_alloc ?_ _)); refine blk_put (cs := #[.int .i64 t159, .int .i64 t160, .int .i64 0, .int .i64 0, .int .i64 0, .int .i64 0, .int .i64 0, .slice none 0 0]) ?_ 2 _ rfl; (with_reducible repeat (first | refine blk_drewN ?_ _ | refine blk_drew ?_ | refine blk_alloc ?_ _)); refine blk_put (cs := #[.int .i64 t159, .int .i64 0, .int .i64 0, .int .i64 0, .int .i64 0, .int .i64 0, .int .i64 0, .slice none 0 0]) ?_ 1 _ rfl; (with_reducible repeat (first | refine blk_drewN ?_ _ | refine blk_drew ?_ | refine blk_alloc ?_ _)); refine blk_put (cs := #[.int .i64 0, .int .i64 0, .int .i64 0, .int .i64 0, .int .i64 0, .int .i64 0, .int .i64 0, .slice none 0 0]) ?_ 0 _ rfl; (with_reducible repeat (first | refine blk_drewN ?_ _ | refine blk_drew ?_ | refine blk_alloc ?_ _)); exact BK170.out) hb); have n6_ := Aside0.mk (below_step (by repeat (first | (with_reducible first | exact HB.out | apply below_alloc | apply pw_below_drewN | apply below_drew1 | refine below_set ?_ GE144.out | refine below_set ?_ GE158.out | refine below_set ?_ GE170.out) | exact HB.out)) hb); clear HO143; clear HO156; clear HO168; clear BK144; clear BK158; clear BK170; clear HB; have HO143 := n0_; have HO156 := n1_; have HO168 := n2_; have BK144 := n3_; have BK158 := n4_; have BK170 := n5_; have HB := n6_; clear n0_ n1_ n2_ n3_ n4_ n5_ n6_; (try clear hb); (try clear hb2); (try clear hk); (try clear hi); go_wp2_with (first | ((with_reducible refine gate_dst (N := 35) rfl ?_); (try (refine gate_guard (by rfl) ?_; dsimp only)); refine Kd.R_lit Kd.string _ 9 ?hg (N := 35) ?hd (xs := ([(⟨#[97]⟩ : ByteArray)] : List ByteArray)) (inner := [.string (⟨#[97]⟩ : ByteArray)]) (ok := fun _ => True) (okp := fun _ => True) ?hr ?hp (fun _ hk => hk) trivial (Below.refl _ _) (Nat.le_refl _) (by simp) ?_; (case hd => rfl); (case hg => rfl); (case hr => first | (go_simp; done) | (go_simp; rfl)); (case hp => exact (Reps.one (show Kd.M Kd.string _ _ _ (⟨#[97]⟩ : ByteArray) [.string (⟨#[97]⟩ : ByteArray)] from rfl) (Reps.none _ _))); intro v174 w84 ho85 hb hg_ hnew_; clear hg_ hnew_; (first | rw [← Ny173.out] at ho85 | (simp only [Int.reduceToNat] at ho85; rw [← Ny173.out] at ho85)); have n0_ := Aside0.mk (Kd.R_elder' (by (with_reducible repeat (first | apply Kd.R_alloc | apply Kd.R_drewN | apply Kd.R_drew)); exact HO143.out) (Kd.R_base ho85) hb); have n1_ := Aside0.mk (Kd.R_elder' (by (with_reducible repeat (first | apply Kd.R_alloc | apply Kd.R_drewN | apply Kd.R_drew)); exact HO156.out) (Kd.R_base ho85) hb); have n2_ := Aside0.mk (Kd.R_elder' (by (with_reducible repeat (first | apply Kd.R_alloc | apply Kd.R_drewN | apply Kd.R_drew)); exact HO168.out) (Kd.R_base ho85) hb); have n3_ := Aside0.mk (Kd.R_lower (Kd.R_new' (Kd.R_new' (Kd.R_new' ho85 (Kd.R_lt (by (with_reducible repeat (first | apply Kd.R_alloc | apply Kd.R_drewN | apply Kd.R_drew)); exact HO143.out))) (Kd.R_lt (by (with_reducible repeat (first | apply Kd.R_alloc | apply Kd.R_drewN | apply Kd.R_drew)); exact HO156.out))) (Kd.R_lt (by (with_reducible repeat (first | apply Kd.R_alloc | apply Kd.R_drewN | apply Kd.R_drew)); exact HO168.out))) (below_size (by repeat (first | (with_reducible first | exact HB.out | apply below_alloc | apply pw_below_drewN | apply below_drew1 | refine below_set ?_ GE144.out | refine below_set ?_ GE158.out | refine below_set ?_ GE170.out) | exact HB.out)))); have n4_ := Aside0.mk (blk_below (g := gb144) (o := .cells #[.int .i64 t134, .int .i64 t135, .int .i64 t136, .int .i64 t137, .int .i64 t138, .int .i64 t139, .int .i64 t140, .slice Ao70 t141.length co70] 29 (0, 0)) (by (with_reducible repeat (first | refine blk_drewN ?_ _ | refine blk_drew ?_ | refine blk_alloc ?_ _)); exact BK144.out) hb); have n5_ := Aside0.mk (blk_below (g := gb158) (o := .cells #[.int .i64 t147, .int .i64 t148, .int .i64 t149, .int .i64 t150, .int .i64 t151, .int .i64 t152, .int .i64 t153, .slice Ao76 t154.length co76] 29 (0, 0)) (by (with_reducible repeat (first | refine blk_drewN ?_ _ | refine blk_drew ?_ | refine blk_alloc ?_ _)); exact BK158.out) hb); have n6_ := Aside0.mk (blk_below (g := gb170) (o := .cells #[.int .i64 t159, .int .i64 t160, .int .i64 t161, .int .i64 t162, .int .i64 t163, .int .i64 t164, .int .i64 t165, .slice Ao82 t166.length co82] 29 (0, 0)) (by (with_reducible repeat (first | refine blk_drewN ?_ _ | refine blk_drew ?_ | refine blk_alloc ?_ _)); exact BK170.out) hb); have n7_ := Aside0.mk (below_step (by repeat (first | (with_reducible first | exact HB.out | apply below_alloc | apply pw_below_drewN | apply below_drew1 | refine below_set ?_ GE144.out | refine below_set ?_ GE158.out | refine below_set ?_ GE170.out) | exact HB.out)) hb); clear HO143; clear HO156; clear HO168; clear BK144; clear BK158; clear BK170; clear HB; have HO143 := n0_; have HO156 := n1_; have HO168 := n2_; have HO175 := n3_; have BK144 := n4_; have BK158 := n5_; have BK170 := n6_; have HB := n7_; clear n0_ n1_ n2_ n3_ n4_ n5_ n6_ n7_; clear hb ho85; obtain ⟨Ao86, co86, eo86⟩ := Kd.R_slice HO175.out; subst eo86; go_wp2_with (first | ((with_reducible refine gate_callee (f := 41) rfl ?_); refine goesL_ (some 37) rfl rfl Try.func41 (by kernel_rfl) rfl #[.int .i64 0, .int .i64 2, .agg #[.int .i64 1, .int .i64 1, .int .i64 0, .slice Ao86 y173.length co86]] rfl (by (try simp only [List.map_toArray, List.map_cons, List.map_nil]); first | done | rfl | (simp only [List.length_drop, List.length_take]; rfl)) ?_; (with_reducible refine (msg_Cast.calls 0 2 1 1 0 _ _ y173 t176 t177 t178 t179 t180 t181 t182 t183 _ ?side1 ?side2 A6.out).mono ?_); (case side1 => repeat (first | exact (Kd.R_reads' HO175.out).2.2 | (with_reducible refine Kd.C_alloc ?_ _) | (with_reducible refine Kd.C_drewN ?_ _) | (with_reducible refine Kd.C_drew ?_))); (case side2 => exact (Kd.R_reads' HO175.out).2.1); rintro e w87 ⟨v184, rfl, ho0, hb⟩; refine ⟨_, rfl, ?_⟩; have n0_ := Aside0.mk (Kd.R_elder' (by (with_reducible repeat (first | apply Kd.R_alloc | apply Kd.R_drewN | apply Kd.R_drew)); exact HO143.out) (Kd.R_base ho0) hb); have n1_ := Aside0.mk (Kd.R_elder' (by (with_reducible repeat (first | apply Kd.R_alloc | apply Kd.R_drewN | apply Kd.R_drew)); exact HO156.out) (Kd.R_base ho0) hb); have n2_ := Aside0.mk (Kd.R_elder' (by (with_reducible repeat (first | apply Kd.R_alloc | apply Kd.R_drewN | apply Kd.R_drew)); exact HO168.out) (Kd.R_base ho0) hb); have n3_ := Aside0.mk (Kd.R_elder' (by (with_reducible repeat (first | apply Kd.R_alloc | apply Kd.R_drewN | apply Kd.R_drew)); exact HO175.out) (Kd.R_base ho0) hb); have n4_ := Aside0.mk (Kd.R_lower (Kd.R_new' (Kd.R_new' (Kd.R_new' (Kd.R_new' ho0 (Kd.R_lt (by (with_reducible repeat (first | apply Kd.R_alloc | apply Kd.R_drewN | apply Kd.R_drew)); exact HO143.out))) (Kd.R_lt (by (with_reducible repeat (first | apply Kd.R_alloc | apply Kd.R_drewN | apply Kd.R_drew)); exact HO156.out))) (Kd.R_lt (by (with_reducible repeat (first | apply Kd.R_alloc | apply Kd.R_drewN | apply Kd.R_drew)); exact HO168.out))) (Kd.R_lt (by (with_reducible repeat (first | apply Kd.R_alloc | apply Kd.R_drewN | apply Kd.R_drew)); exact HO175.out))) (below_size (by repeat (first | (with_reducible first | exact HB.out | apply below_alloc | apply pw_below_drewN | apply below_drew1 | refine below_set ?_ GE144.out | refine below_set ?_ GE158.out | refine below_set ?_ GE170.out) | exact HB.out)))); have n5_ := Aside0.mk (blk_below (g := gb144) (o := .cells #[.int .i64 t134, .int .i64 t135, .int .i64 t136, .int .i64 t137, .int .i64 t138, .int .i64 t139, .int .i64 t140, .slice Ao70 t141.length co70] 29 (0, 0)) (by (with_reducible repeat (first | refine blk_drewN ?_ _ | refine blk_drew ?_ | refine blk_alloc ?_ _)); exact BK144.out) hb); have n6_ := Aside0.mk (blk_below (g := gb158) (o := .cells #[.int .i64 t147, .int .i64 t148, .int .i64 t149, .int .i64 t150, .int .i64 t151, .int .i64 t152, .int .i64 t153, .slice Ao76 t154.length co76] 29 (0, 0)) (by (with_reducible repeat (first | refine blk_drewN ?_ _ | refine blk_drew ?_ | refine blk_alloc ?_ _)); exact BK158.out) hb); have n7_ := Aside0.mk (blk_below (g := gb170) (o := .cells #[.int .i64 t159, .int .i64 t160, .int .i64 t161, .int .i64 t162, .int .i64 t163, .int .i64 t164, .int .i64 t165, .slice Ao82 t166.length co82] 29 (0, 0)) (by (with_reducible repeat (first | refine blk_drewN ?_ _ | refine blk_drew ?_ | refine blk_alloc ?_ _)); exact BK170.out) hb); have n8_ := Aside0.mk (below_step (by repeat (first | (with_reducible first | exact HB.out | apply below_alloc | apply pw_below_drewN | apply below_drew1 | refine below_set ?_ GE144.out | refine below_set ?_ GE158.out | refine below_set ?_ GE170.out) | exact HB.out)) hb); clear HO143; clear HO156; clear HO168; clear HO175; clear BK144; clear BK158; clear BK170; clear HB; have HO143 := n0_; have HO156 := n1_; have HO168 := n2_; have HO175 := n3_; have HO185 := n4_; have BK144 := n5_; have BK158 := n6_; have BK170 := n7_; have HB := n8_; clear n0_ n1_ n2_ n3_ n4_ n5_ n6_ n7_ n8_; (try clear hb); (try clear hb2); (try clear hk); (try clear hi); (try clear ho0); obtain ⟨Ao88, co88, eo88⟩ := Kd.R_slice HO185.out; subst eo88; go_wp2_with (first | ((with_reducible refine gate_callee (f := 42) rfl ?_); refine goesL_ (some 38) rfl rfl Try.func42 (by kernel_rfl) rfl #[.agg #[.int .i64 t176, .int .i64 t177, .int .i64 t178, .int .i64 t179, .int .i64 t180, .int .i64 t181, .int .i64 t182, .slice Ao88 t183.length co88]] rfl (by (try simp only [List.map_toArray, List.map_cons, List.map_nil]); first | done | rfl | (simp only [List.length_drop, List.length_take]; rfl)) ?_; (with_reducible refine (msg_Vote.calls t176 t177 t178 t179 t180 t181 t182 _ _ t183 t186 t187 t188 t189 true _ ?side1 ?side2 A7.out).mono ?_); (case side1 => repeat (first | exact (Kd.R_reads' HO185.out).2.2 | (with_reducible refine Kd.C_alloc ?_ _) | (with_reducible refine Kd.C_drewN ?_ _) | (with_reducible refine Kd.C_drew ?_))); (case side2 => exact (Kd.R_reads' HO185.out).2.1); rintro e w89 ⟨v190, rfl, ho0, hb⟩; refine ⟨_, rfl, ?_⟩; have n0_ := Aside0.mk (Kd.R_elder' (by (with_reducible repeat (first | apply Kd.R_alloc | apply Kd.R_drewN | apply Kd.R_drew)); exact HO143.out) (Kd.R_base ho0) hb); have n1_ := Aside0.mk (Kd.R_elder' (by (with_reducible repeat (first | apply Kd.R_alloc | apply Kd.R_drewN | apply Kd.R_drew)); exact HO156.out) (Kd.R_base ho0) hb); have n2_ := Aside0.mk (Kd.R_elder' (by (with_reducible repeat (first | apply Kd.R_alloc | apply Kd.R_drewN | apply Kd.R_drew)); exact HO168.out) (Kd.R_base ho0) hb); have n3_ := Aside0.mk (Kd.R_elder' (by (with_reducible repeat (first | apply Kd.R_alloc | apply Kd.R_drewN | apply Kd.R_drew)); exact HO175.out) (Kd.R_base ho0) hb); have n4_ := Aside0.mk (Kd.R_elder' (by (with_reducible repeat (first | apply Kd.R_alloc | apply Kd.R_drewN | apply Kd.R_drew)); exact HO185.out) (Kd.R_base ho0) hb); have n5_ := Aside0.mk (Kd.R_lower (Kd.R_new' (Kd.R_new' (Kd.R_new' (Kd.R_new' (Kd.R_new' ho0 (Kd.R_lt (by (with_reducible repeat (first | apply Kd.R_alloc | apply Kd.R_drewN | apply Kd.R_drew)); exact HO143.out))) (Kd.R_lt (by (with_reducible repeat (first | apply Kd.R_alloc | apply Kd.R_drewN | apply Kd.R_drew)); exact HO156.out))) (Kd.R_lt (by (with_reducible repeat (first | apply Kd.R_alloc | apply Kd.R_drewN | apply Kd.R_drew)); exact HO168.out))) (Kd.R_lt (by (with_reducible repeat (first | apply Kd.R_alloc | apply Kd.R_drewN | apply Kd.R_drew)); exact HO175.out))) (Kd.R_lt (by (with_reducible repeat (first | apply Kd.R_alloc | apply Kd.R_drewN | apply Kd.R_drew)); exact HO185.out))) (below_size (by repeat (first | (with_reducible first | exact HB.out | apply below_alloc | apply pw_below_drewN | apply below_drew1 | refine below_set ?_ GE144.out | refine below_set ?_ GE158.out | refine below_set ?_ GE170.out) | exact HB.out)))); have n6_ := Aside0.mk (blk_below (g := gb144) (o := .cells #[.int .i64 t134, .int .i64 t135, .int .i64 t136, .int .i64 t137, .int .i64 t138, .int .i64 t139, .int .i64 t140, .slice Ao70 t141.length co70] 29 (0, 0)) (by (with_reducible repeat (first | refine blk_drewN ?_ _ | refine blk_drew ?_ | refine blk_alloc ?_ _)); exact BK144.out) hb); have n7_ := Aside0.mk (blk_below (g := gb158) (o := .cells #[.int .i64 t147, .int .i64 t148, .int .i64 t149, .int .i64 t150, .int .i64 t151, .int .i64 t152, .int .i64 t153, .slice Ao76 t154.length co76] 29 (0, 0)) (by (with_reducible repeat (first | refine blk_drewN ?_ _ | refine blk_drew ?_ | refine blk_alloc ?_ _)); exact BK158.out) hb); have n8_ := Aside0.mk (blk_below (g := gb170) (o := .cells #[.int .i64 t159, .int .i64 t160, .int .i64 t161, .int .i64 t162, .int .i64 t163, .int .i64 t164, .int .i64 t165, .slice Ao82 t166.length co82] 29 (0, 0)) (by (with_reducible repeat (first | refine blk_drewN ?_ _ | refine blk_drew ?_ | refine blk_alloc ?_ _)); exact BK170.out) hb); have n9_ := Aside0.mk (below_step (by repeat (first | (with_reducible first | exact HB.out | apply below_alloc | apply pw_below_drewN | apply below_drew1 | refine below_set ?_ GE144.out | refine below_set ?_ GE158.out | refine below_set ?_ GE170.out) | exact HB.out)) hb); clear HO143; clear HO156; clear HO168; clear HO175; clear HO185; clear BK144; clear BK158; clear BK170; clear HB; have HO143 := n0_; have HO156 := n1_; have HO168 := n2_; have HO175 := n3_; have HO185 := n4_; have HO191 := n5_; have BK144 := n6_; have BK158 := n7_; have BK170 := n8_; have HB := n9_; clear n0_ n1_ n2_ n3_ n4_ n5_ n6_ n7_ n8_ n9_; (try clear hb); (try clear hb2); (try clear hk); (try clear hi); (try clear ho0); go_wp2_with (first | ((with_reducible refine gate_dst (N := 10) rfl ?_); (try (refine gate_guard (by rfl) ?_; dsimp only)); refine box_event ?hg (N := 10) ?hd (cs := #[.int .i64 0, .int .i64 0, .int .i64 0, .slice none 0 0]) (t := 54) ?hr ?_; (case hd => rfl); (case hg => rfl); (case hr => first | (go_simp; done) | (go_simp; rfl)); intro gb193 hg w90 hbox hb; have n0_ := Aside0.mk (Kd.R_below (by (with_reducible repeat (first | apply Kd.R_alloc | apply Kd.R_drewN | apply Kd.R_drew)); exact HO143.out) hb); have n1_ := Aside0.mk (Kd.R_below (by (with_reducible repeat (first | apply Kd.R_alloc | apply Kd.R_drewN | apply Kd.R_drew)); exact HO156.out) hb); have n2_ := Aside0.mk (Kd.R_below (by (with_reducible repeat (first | apply Kd.R_alloc | apply Kd.R_drewN | apply Kd.R_drew)); exact HO168.out) hb); have n3_ := Aside0.mk (Kd.R_below (by (with_reducible repeat (first | apply Kd.R_alloc | apply Kd.R_drewN | apply Kd.R_drew)); exact HO175.out) hb); have n4_ := Aside0.mk (Kd.R_below (by (with_reducible repeat (first | apply Kd.R_alloc | apply Kd.R_drewN | apply Kd.R_drew)); exact HO185.out) hb); have n5_ := Aside0.mk (Kd.R_below (by (with_reducible repeat (first | apply Kd.R_alloc | apply Kd.R_drewN | apply Kd.R_drew)); exact HO191.out) hb); have n6_ := Aside0.mk (blk_below (g := gb144) (o := .cells #[.int .i64 t134, .int .i64 t135, .int .i64 t136, .int .i64 t137, .int .i64 t138, .int .i64 t139, .int .i64 t140, .slice Ao70 t141.length co70] 29 (0, 0)) (by (with_reducible repeat (first | refine blk_drewN ?_ _ | refine blk_drew ?_ | refine blk_alloc ?_ _)); exact BK144.out) hb); have n7_ := Aside0.mk (blk_below (g := gb158) (o := .cells #[.int .i64 t147, .int .i64 t148, .int .i64 t149, .int .i64 t150, .int .i64 t151, .int .i64 t152, .int .i64 t153, .slice Ao76 t154.length co76] 29 (0, 0)) (by (with_reducible repeat (first | refine blk_drewN ?_ _ | refine blk_drew ?_ | refine blk_alloc ?_ _)); exact BK158.out) hb); have n8_ := Aside0.mk (blk_below (g := gb170) (o := .cells #[.int .i64 t159, .int .i64 t160, .int .i64 t161, .int .i64 t162, .int .i64 t163, .int .i64 t164, .int .i64 t165, .slice Ao82 t166.length co82] 29 (0, 0)) (by (with_reducible repeat (first | refine blk_drewN ?_ _ | refine blk_drew ?_ | refine blk_alloc ?_ _)); exact BK170.out) hb); have n9_ := Aside0.mk (below_step (by repeat (first | (with_reducible first | exact HB.out | apply below_alloc | apply pw_below_drewN | apply below_drew1 | refine below_set ?_ GE144.out | refine below_set ?_ GE158.out | refine below_set ?_ GE170.out) | exact HB.out)) hb); have n10_ := Aside0.mk (hbox); have n11_ := Aside0.mk ((by rw [hg]; exact (below_size (by repeat (first | (with_reducible first | exact HB.out | apply below_alloc | apply pw_below_drewN | apply below_drew1 | refine below_set ?_ GE144.out | refine below_set ?_ GE158.out | refine below_set ?_ GE170.out) | exact HB.out))) : w.heap.size ≤ gb193)); have n12_ := Aside0.mk ((by rw [hg]; exact (below_size (by repeat (first | (with_reducible first | exact HB.out | apply below_alloc | apply pw_below_drewN | apply below_drew1 | refine below_set ?_ GE144.out | refine below_set ?_ GE158.out | refine below_set ?_ GE170.out) | exact HB.out))) : w.heap.size ≤ gb193)); have n13_ := Aside0.mk ((by rw [hg]; exact Nat.ne_of_lt (blk_lt (g := gb144) (o := .cells #[.int .i64 t134, .int .i64 t135, .int .i64 t136, .int .i64 t137, .int .i64 t138, .int .i64 t139, .int .i64 t140, .slice Ao70 t141.length co70] 29 (0, 0)) (by (with_reducible repeat (first | refine blk_drewN ?_ _ | refine blk_drew ?_ | refine blk_alloc ?_ _)); exact BK144.out)) : gb144 ≠ gb193)); have n14_ := Aside0.mk ((by rw [hg]; exact Nat.ne_of_gt (blk_lt (g := gb144) (o := .cells #[.int .i64 t134, .int .i64 t135, .int .i64 t136, .int .i64 t137, .int .i64 t138, .int .i64 t139, .int .i64 t140, .slice Ao70 t141.length co70] 29 (0, 0)) (by (with_reducible repeat (first | refine blk_drewN ?_ _ | refine blk_drew ?_ | refine blk_alloc ?_ _)); exact BK144.out)) : gb193 ≠ gb144)); have n15_ := Aside0.mk ((by rw [hg]; exact Nat.ne_of_lt (blk_lt (g := gb158) (o := .cells #[.int .i64 t147, .int .i64 t148, .int .i64 t149, .int .i64 t150, .int .i64 t151, .int .i64 t152, .int .i64 t153, .slice Ao76 t154.length co76] 29 (0, 0)) (by (with_reducible repeat (first | refine blk_drewN ?_ _ | refine blk_drew ?_ | refine blk_alloc ?_ _)); exact BK158.out)) : gb158 ≠ gb193)); have n16_ := Aside0.mk ((by rw [hg]; exact Nat.ne_of_gt (blk_lt (g := gb158) (o := .cells #[.int .i64 t147, .int .i64 t148, .int .i64 t149, .int .i64 t150, .int .i64 t151, .int .i64 t152, .int .i64 t153, .slice Ao76 t154.length co76] 29 (0, 0)) (by (with_reducible repeat (first | refine blk_drewN ?_ _ | refine blk_drew ?_ | refine blk_alloc ?_ _)); exact BK158.out)) : gb193 ≠ gb158)); have n17_ := Aside0.mk ((by rw [hg]; exact Nat.ne_of_lt (blk_lt (g := gb170) (o := .cells #[.int .i64 t159, .int .i64 t160, .int .i64 t161, .int .i64 t162, .int .i64 t163, .int .i64 t164, .int .i64 t165, .slice Ao82 t166.length co82] 29 (0, 0)) (by (with_reducible repeat (first | refine blk_drewN ?_ _ | refine blk_drew ?_ | refine blk_alloc ?_ _)); exact BK170.out)) : gb170 ≠ gb193)); have n18_ := Aside0.mk ((by rw [hg]; exact Nat.ne_of_gt (blk_lt (g := gb170) (o := .cells #[.int .i64 t159, .int .i64 t160, .int .i64 t161, .int .i64 t162, .int .i64 t163, .int .i64 t164, .int .i64 t165, .slice Ao82 t166.length co82] 29 (0, 0)) (by (with_reducible repeat (first | refine blk_drewN ?_ _ | refine blk_drew ?_ | refine blk_alloc ?_ _)); exact BK170.out)) : gb193 ≠ gb170)); clear HO143; clear HO156; clear HO168; clear HO175; clear HO185; clear HO191; clear BK144; clear BK158; clear BK170; clear HB; have HO143 := n0_; have HO156 := n1_; have HO168 := n2_; have HO175 := n3_; have HO185 := n4_; have HO191 := n5_; have BK144 := n6_; have BK158 := n7_; have BK170 := n8_; have HB := n9_; have BK193 := n10_; have GW193 := n11_; have GE193 := n12_; have NB144_193 := n13_; have NB193_144 := n14_; have NB158_193 := n15_; have NB193_158 := n16_; have NB170_193 := n17_; have NB193_170 := n18_; clear n0_ n1_ n2_ n3_ n4_ n5_ n6_ n7_ n8_ n9_ n10_ n11_ n12_ n13_ n14_ n15_ n16_ n17_ n18_; clear hb hbox hg; have hnb91 := NB193_144.out; have hnc91 := NB144_193.out; have hnb92 := NB193_158.out; have hnc92 := NB158_193.out; have hnb93 := NB193_170.out; have hnc93 := NB170_193.out; have hcz94_0 : w90.cell? ⟨gb193, 0, none⟩ = some (.int .i64 0) := (blk_cell BK193.out 0).trans rfl; have hcz94_1 : w90.cell? ⟨gb193, 1, none⟩ = some (.int .i64 0) := (blk_cell BK193.out 1).trans rfl; have hcz94_2 : w90.cell? ⟨gb193, 2, none⟩ = some (.int .i64 0) := (blk_cell BK193.out 2).trans rfl; have hcz94_3 : w90.cell? ⟨gb193, 3, none⟩ = some (.slice none 0 0) := (blk_cell BK193.out 3).trans rfl; have hfz94_0 := blk_frozen BK193.out 0; have hfz94_1 := blk_frozen BK193.out 1; have hfz94_2 := blk_frozen BK193.out 2; have hfz94_3 := blk_frozen BK193.out 3; obtain ⟨Ao95, co95, eo95⟩ := Kd.R_slice HO191.out; subst eo95; have hcz96_0 : w90.cell? ⟨gb144, 0, none⟩ = some (.int .i64 t134) := (blk_cell BK144.out 0).trans rfl; have hcz96_1 : w90.cell? ⟨gb144, 1, none⟩ = some (.int .i64 t135) := (blk_cell BK144.out 1).trans rfl; have hcz96_2 : w90.cell? ⟨gb144, 2, none⟩ = some (.int .i64 t136) := (blk_cell BK144.out 2).trans rfl; have hcz96_3 : w90.cell? ⟨gb144, 3, none⟩ = some (.int .i64 t137) := (blk_cell BK144.out 3).trans rfl; have hcz96_4 : w90.cell? ⟨gb144, 4, none⟩ = some (.int .i64 t138) := (blk_cell BK144.out 4).trans rfl; have hcz96_5 : w90.cell? ⟨gb144, 5, none⟩ = some (.int .i64 t139) := (blk_cell BK144.out 5).trans rfl; have hcz96_6 : w90.cell? ⟨gb144, 6, none⟩ = some (.int .i64 t140) := (blk_cell BK144.out 6).trans rfl; have hcz96_7 : w90.cell? ⟨gb144, 7, none⟩ = some (.slice Ao70 t141.length co70) := (blk_cell BK144.out 7).trans rfl; have hfz96_0 := blk_frozen BK144.out 0; have hfz96_1 := blk_frozen BK144.out 1; have hfz96_2 := blk_frozen BK144.out 2; have hfz96_3 := blk_frozen BK144.out 3; have hfz96_4 := blk_frozen BK144.out 4; have hfz96_5 := blk_frozen BK144.out 5; have hfz96_6 := blk_frozen BK144.out 6; have hfz96_7 := blk_frozen BK144.out 7; go_wp2_with (first | ((with_reducible refine gate_callee (f := 42) rfl ?_); refine goesL_ (some 43) rfl rfl Try.func42 (by kernel_rfl) rfl #[.agg #[.int .i64 t134, .int .i64 t135, .int .i64 t136, .int .i64 t137, .int .i64 t138, .int .i64 t139, .int .i64 t140, .slice Ao70 t141.length co70]] rfl (by (try simp only [List.map_toArray, List.map_cons, List.map_nil]); first | done | rfl | (simp only [List.length_drop, List.length_take]; rfl)) ?_; (with_reducible refine (msg_Vote.calls t134 t135 t136 t137 t138 t139 t140 _ _ t141 t194 t195 t196 t197 false _ ?side1 ?side2 A8.out).mono ?_); (case side1 => refine (Kd.R_reads' (e := 9) (base := w.heap.size) (ok := fun k_ => (((((True ∧ some k_ ≠ (.slice Ao76 t154.length co76 : Value).ownBlock) ∧ some k_ ≠ (.slice Ao82 t166.length co82 : Value).ownBlock) ∧ some k_ ≠ (.slice Ao86 y173.length co86 : Value).ownBlock) ∧ some k_ ≠ (.slice Ao88 t183.length co88 : Value).ownBlock) ∧ some k_ ≠ (.slice Ao95 t189.length co95 : Value).ownBlock)) (n := t141.length) (c := co70) ?_).2.2; exact (by (with_reducible repeat (first | apply Kd.R_alloc | apply Kd.R_drewN | apply Kd.R_drew)); exact (Kd.R_mono (Kd.R_far (p := ⟨gb193, 3, none⟩) (Kd.R_far (p := ⟨gb193, 2, none⟩) (Kd.R_far (p := ⟨gb193, 1, none⟩) (Kd.R_far (p := ⟨gb193, 0, none⟩) (Kd.R_types HO143.out BK193.out (by decide)) (fun _ hk => hk.2) (.int .i64 t186)) (fun _ hk => hk.2) (.int .i64 t187)) (fun _ hk => hk.2) (.int .i64 t188)) (fun _ hk => hk.2) (.slice Ao95 t189.length co95)) (fun _ h_ => h_.1)))); (case side2 => exact (Kd.R_reads' HO143.out).2.1); rintro e w97 ⟨v198, rfl, ho0, hb⟩; refine ⟨_, rfl, ?_⟩; have n0_ := Aside0.mk (Kd.R_elder' (by (with_reducible repeat (first | apply Kd.R_alloc | apply Kd.R_drewN | apply Kd.R_drew)); exact (Kd.R_mono (Kd.R_far (p := ⟨gb193, 3, none⟩) (Kd.R_far (p := ⟨gb193, 2, none⟩) (Kd.R_far (p := ⟨gb193, 1, none⟩) (Kd.R_far (p := ⟨gb193, 0, none⟩) (Kd.R_types HO143.out BK193.out (by decide)) (fun _ hk => hk.2) (.int .i64 t186)) (fun _ hk => hk.2) (.int .i64 t187)) (fun _ hk => hk.2) (.int .i64 t188)) (fun _ hk => hk.2) (.slice Ao95 t189.length co95)) (fun _ h_ => h_.1))) (Kd.R_base ho0) hb); have n1_ := Aside0.mk (Kd.R_elder' (by (with_reducible repeat (first | apply Kd.R_alloc | apply Kd.R_drewN | apply Kd.R_drew)); exact (Kd.R_mono (Kd.R_far (p := ⟨gb193, 3, none⟩) (Kd.R_far (p := ⟨gb193, 2, none⟩) (Kd.R_far (p := ⟨gb193, 1, none⟩) (Kd.R_far (p := ⟨gb193, 0, none⟩) (Kd.R_types HO156.out BK193.out (by decide)) (fun _ hk => hk.2) (.int .i64 t186)) (fun _ hk => hk.2) (.int .i64 t187)) (fun _ hk => hk.2) (.int .i64 t188)) (fun _ hk => hk.2) (.slice Ao95 t189.length co95)) (fun _ h_ => h_.1))) (Kd.R_base ho0) hb); have n2_ := Aside0.mk (Kd.R_elder' (by (with_reducible repeat (first | apply Kd.R_alloc | apply Kd.R_drewN | apply Kd.R_drew)); exact (Kd.R_mono (Kd.R_far (p := ⟨gb193, 3, none⟩) (Kd.R_far (p := ⟨gb193, 2, none⟩) (Kd.R_far (p := ⟨gb193, 1, none⟩) (Kd.R_far (p := ⟨gb193, 0, none⟩) (Kd.R_types HO168.out BK193.out (by decide)) (fun _ hk => hk.2) (.int .i64 t186)) (fun _ hk => hk.2) (.int .i64 t187)) (fun _ hk => hk.2) (.int .i64 t188)) (fun _ hk => hk.2) (.slice Ao95 t189.length co95)) (fun _ h_ => h_.1))) (Kd.R_base ho0) hb); have n3_ := Aside0.mk (Kd.R_elder' (by (with_reducible repeat (first | apply Kd.R_alloc | apply Kd.R_drewN | apply Kd.R_drew)); exact (Kd.R_mono (Kd.R_far (p := ⟨gb193, 3, none⟩) (Kd.R_far (p := ⟨gb193, 2, none⟩) (Kd.R_far (p := ⟨gb193, 1, none⟩) (Kd.R_far (p := ⟨gb193, 0, none⟩) (Kd.R_types HO175.out BK193.out (by decide)) (fun _ hk => hk.2) (.int .i64 t186)) (fun _ hk => hk.2) (.int .i64 t187)) (fun _ hk => hk.2) (.int .i64 t188)) (fun _ hk => hk.2) (.slice Ao95 t189.length co95)) (fun _ h_ => h_.1))) (Kd.R_base ho0) hb); have n4_ := Aside0.mk (Kd.R_elder' (by (with_reducible repeat (first | apply Kd.R_alloc | apply Kd.R_drewN | apply Kd.R_drew)); exact (Kd.R_mono (Kd.R_far (p := ⟨gb193, 3, none⟩) (Kd.R_far (p := ⟨gb193, 2, none⟩) (Kd.R_far (p := ⟨gb193, 1, none⟩) (Kd.R_far (p := ⟨gb193, 0, none⟩) (Kd.R_types HO185.out BK193.out (by decide)) (fun _ hk => hk.2) (.int .i64 t186)) (fun _ hk => hk.2) (.int .i64 t187)) (fun _ hk => hk.2) (.int .i64 t188)) (fun _ hk => hk.2) (.slice Ao95 t189.length co95)) (fun _ h_ => h_.1))) (Kd.R_base ho0) hb); have n5_ := Aside0.mk (Kd.R_elder' (by (with_reducible repeat (first | apply Kd.R_alloc | apply Kd.R_drewN | apply Kd.R_drew)); exact (Kd.R_mono (Kd.R_far (p := ⟨gb193, 3, none⟩) (Kd.R_far (p := ⟨gb193, 2, none⟩) (Kd.R_far (p := ⟨gb193, 1, none⟩) (Kd.R_far (p := ⟨gb193, 0, none⟩) (Kd.R_types HO191.out BK193.out (by decide)) (fun _ hk => hk.2) (.int .i64 t186)) (fun _ hk => hk.2) (.int .i64 t187)) (fun _ hk => hk.2) (.int .i64 t188)) (fun _ hk => hk.2) (.slice Ao95 t189.length co95)) (fun _ h_ => h_.1))) (Kd.R_base ho0) hb); have n6_ := Aside0.mk (Kd.R_lower (Kd.R_new' (Kd.R_new' (Kd.R_new' (Kd.R_new' (Kd.R_new' (Kd.R_new' ho0 (Kd.R_lt (by (with_reducible repeat (first | apply Kd.R_alloc | apply Kd.R_drewN | apply Kd.R_drew)); exact (Kd.R_mono (Kd.R_far (p := ⟨gb193, 3, none⟩) (Kd.R_far (p := ⟨gb193, 2, none⟩) (Kd.R_far (p := ⟨gb193, 1, none⟩) (Kd.R_far (p := ⟨gb193, 0, none⟩) (Kd.R_types HO143.out BK193.out (by decide)) (fun _ hk => hk.2) (.int .i64 t186)) (fun _ hk => hk.2) (.int .i64 t187)) (fun _ hk => hk.2) (.int .i64 t188)) (fun _ hk => hk.2) (.slice Ao95 t189.length co95)) (fun _ h_ => h_.1))))) (Kd.R_lt (by (with_reducible repeat (first | apply Kd.R_alloc | apply Kd.R_drewN | apply Kd.R_drew)); exact (Kd.R_mono (Kd.R_far (p := ⟨gb193, 3, none⟩) (Kd.R_far (p := ⟨gb193, 2, none⟩) (Kd.R_far (p := ⟨gb193, 1, none⟩) (Kd.R_far (p := ⟨gb193, 0, none⟩) (Kd.R_types HO156.out BK193.out (by decide)) (fun _ hk => hk.2) (.int .i64 t186)) (fun _ hk => hk.2) (.int .i64 t187)) (fun _ hk => hk.2) (.int .i64 t188)) (fun _ hk => hk.2) (.slice Ao95 t189.length co95)) (fun _ h_ => h_.1))))) (Kd.R_lt (by (with_reducible repeat (first | apply Kd.R_alloc | apply Kd.R_drewN | apply Kd.R_drew)); exact (Kd.R_mono (Kd.R_far (p := ⟨gb193, 3, none⟩) (Kd.R_far (p := ⟨gb193, 2, none⟩) (Kd.R_far (p := ⟨gb193, 1, none⟩) (Kd.R_far (p := ⟨gb193, 0, none⟩) (Kd.R_types HO168.out BK193.out (by decide)) (fun _ hk => hk.2) (.int .i64 t186)) (fun _ hk => hk.2) (.int .i64 t187)) (fun _ hk => hk.2) (.int .i64 t188)) (fun _ hk => hk.2) (.slice Ao95 t189.length co95)) (fun _ h_ => h_.1))))) (Kd.R_lt (by (with_reducible repeat (first | apply Kd.R_alloc | apply Kd.R_drewN | apply Kd.R_drew)); exact (Kd.R_mono (Kd.R_far (p := ⟨gb193, 3, none⟩) (Kd.R_far (p := ⟨gb193, 2, none⟩) (Kd.R_far (p := ⟨gb193, 1, none⟩) (Kd.R_far (p := ⟨gb193, 0, none⟩) (Kd.R_types HO175.out BK193.out (by decide)) (fun _ hk => hk.2) (.int .i64 t186)) (fun _ hk => hk.2) (.int .i64 t187)) (fun _ hk => hk.2) (.int .i64 t188)) (fun _ hk => hk.2) (.slice Ao95 t189.length co95)) (fun _ h_ => h_.1))))) (Kd.R_lt (by (with_reducible repeat (first | apply Kd.R_alloc | apply Kd.R_drewN | apply Kd.R_drew)); exact (Kd.R_mono (Kd.R_far (p := ⟨gb193, 3, none⟩) (Kd.R_far (p := ⟨gb193, 2, none⟩) (Kd.R_far (p := ⟨gb193, 1, none⟩) (Kd.R_far (p := ⟨gb193, 0, none⟩) (Kd.R_types HO185.out BK193.out (by decide)) (fun _ hk => hk.2) (.int .i64 t186)) (fun _ hk => hk.2) (.int .i64 t187)) (fun _ hk => hk.2) (.int .i64 t188)) (fun _ hk => hk.2) (.slice Ao95 t189.length co95)) (fun _ h_ => h_.1))))) (Kd.R_lt (by (with_reducible repeat (first | apply Kd.R_alloc | apply Kd.R_drewN | apply Kd.R_drew)); exact (Kd.R_mono (Kd.R_far (p := ⟨gb193, 3, none⟩) (Kd.R_far (p := ⟨gb193, 2, none⟩) (Kd.R_far (p := ⟨gb193, 1, none⟩) (Kd.R_far (p := ⟨gb193, 0, none⟩) (Kd.R_types HO191.out BK193.out (by decide)) (fun _ hk => hk.2) (.int .i64 t186)) (fun _ hk => hk.2) (.int .i64 t187)) (fun _ hk => hk.2) (.int .i64 t188)) (fun _ hk => hk.2) (.slice Ao95 t189.length co95)) (fun _ h_ => h_.1))))) (below_size (by repeat (first | (with_reducible first | exact HB.out | apply below_alloc | apply pw_below_drewN | apply below_drew1 | refine below_set ?_ GE144.out | refine below_set ?_ GE158.out | refine below_set ?_ GE170.out | refine below_set ?_ GE193.out) | exact HB.out)))); have n7_ := Aside0.mk (blk_below (g := gb144) (o := .cells #[.int .i64 t134, .int .i64 t135, .int .i64 t136, .int .i64 t137, .int .i64 t138, .int .i64 t139, .int .i64 t140, .slice Ao70 t141.length co70] 29 (0, 0)) (by (with_reducible repeat (first | refine blk_drewN ?_ _ | refine blk_drew ?_ | refine blk_alloc ?_ _)); refine blk_far ?_ NB144_193.out _; (with_reducible repeat (first | refine blk_drewN ?_ _ | refine blk_drew ?_ | refine blk_alloc ?_ _)); refine blk_far ?_ NB144_193.out _; (with_reducible repeat (first | refine blk_drewN ?_ _ | refine blk_drew ?_ | refine blk_alloc ?_ _)); refine blk_far ?_ NB144_193.out _; (with_reducible repeat (first | refine blk_drewN ?_ _ | refine blk_drew ?_ | refine blk_alloc ?_ _)); refine blk_far ?_ NB144_193.out _; (with_reducible repeat (first | refine blk_drewN ?_ _ | refine blk_drew ?_ | refine blk_alloc ?_ _)); exact BK144.out) hb); have n8_ := Aside0.mk (blk_below (g := gb158) (o := .cells #[.int .i64 t147, .int .i64 t148, .int .i64 t149, .int .i64 t150, .int .i64 t151, .int .i64 t152, .int .i64 t153, .slice Ao76 t154.length co76] 29 (0, 0)) (by (with_reducible repeat (first | refine blk_drewN ?_ _ | refine blk_drew ?_ | refine blk_alloc ?_ _)); refine blk_far ?_ NB158_193.out _; (with_reducible repeat (first | refine blk_drewN ?_ _ | refine blk_drew ?_ | refine blk_alloc ?_ _)); refine blk_far ?_ NB158_193.out _; (with_reducible repeat (first | refine blk_drewN ?_ _ | refine blk_drew ?_ | refine blk_alloc ?_ _)); refine blk_far ?_ NB158_193.out _; (with_reducible repeat (first | refine blk_drewN ?_ _ | refine blk_drew ?_ | refine blk_alloc ?_ _)); refine blk_far ?_ NB158_193.out _; (with_reducible repeat (first | refine blk_drewN ?_ _ | refine blk_drew ?_ | refine blk_alloc ?_ _)); exact BK158.out) hb); have n9_ := Aside0.mk (blk_below (g := gb170) (o := .cells #[.int .i64 t159, .int .i64 t160, .int .i64 t161, .int .i64 t162, .int .i64 t163, .int .i64 t164, .int .i64 t165, .slice Ao82 t166.length co82] 29 (0, 0)) (by (with_reducible repeat (first | refine blk_drewN ?_ _ | refine blk_drew ?_ | refine blk_alloc ?_ _)); refine blk_far ?_ NB170_193.out _; (with_reducible repeat (first | refine blk_drewN ?_ _ | refine blk_drew ?_ | refine blk_alloc ?_ _)); refine blk_far ?_ NB170_193.out _; (with_reducible repeat (first | refine blk_drewN ?_ _ | refine blk_drew ?_ | refine blk_alloc ?_ _)); refine blk_far ?_ NB170_193.out _; (with_reducible repeat (first | refine blk_drewN ?_ _ | refine blk_drew ?_ | refine blk_alloc ?_ _)); refine blk_far ?_ NB170_193.out _; (with_reducible repeat (first | refine blk_drewN ?_ _ | refine blk_drew ?_ | refine blk_alloc ?_ _)); exact BK170.out) hb); have n10_ := Aside0.mk (blk_below (g := gb193) (o := .cells #[.int .i64 t186, .int .i64 t187, .int .i64 t188, .slice Ao95 t189.length co95] 54 (0, 0)) (by (with_reducible repeat (first | refine blk_drewN ?_ _ | refine blk_drew ?_ | refine blk_alloc ?_ _)); refine blk_put (cs := #[.int .i64 t186, .int .i64 t187, .int .i64 t188, .slice none 0 0]) ?_ 3 _ rfl; (with_reducible repeat (first | refine blk_drewN ?_ _ | refine blk_drew ?_ | refine blk_alloc ?_ _)); refine blk_put (cs := #[.int .i64 t186, .int .i64 t187, .int .i64 0, .slice none 0 0]) ?_ 2 _ rfl; (with_reducible repeat (first | refine blk_drewN ?_ _ | refine blk_drew ?_ | refine blk_alloc ?_ _)); refine blk_put (cs := #[.int .i64 t186, .int .i64 0, .int .i64 0, .slice none 0 0]) ?_ 1 _ rfl; (with_reducible repeat (first | refine blk_drewN ?_ _ | refine blk_drew ?_ | refine blk_alloc ?_ _)); refine blk_put (cs := #[.int .i64 0, .int .i64 0, .int .i64 0, .slice none 0 0]) ?_ 0 _ rfl; (with_reducible repeat (first | refine blk_drewN ?_ _ | refine blk_drew ?_ | refine blk_alloc ?_ _)); exact BK193.out) hb); have n11_ := Aside0.mk (below_step (by repeat (first | (with_reducible first | exact HB.out | apply below_alloc | apply pw_below_drewN | apply below_drew1 | refine below_set ?_ GE144.out | refine below_set ?_ GE158.out | refine below_set ?_ GE170.out | refine below_set ?_ GE193.out) | exact HB.out)) hb); clear HO143; clear HO156; clear HO168; clear HO175; clear HO185; clear HO191; clear BK144; clear BK158; clear BK170; clear BK193; clear HB; have HO143 := n0_; have HO156 := n1_; have HO168 := n2_; have HO175 := n3_; have HO185 := n4_; have HO191 := n5_; have HO199 := n6_; have BK144 := n7_; have BK158 := n8_; have BK170 := n9_; have BK193 := n10_; have HB := n11_; clear n0_ n1_ n2_ n3_ n4_ n5_ n6_ n7_ n8_ n9_ n10_ n11_; (try clear hb); (try clear hb2); (try clear hk); (try clear hi); (try clear ho0); go_wp2_with (first | ((with_reducible refine gate_dst (N := 12) rfl ?_); (try (refine gate_guard (by rfl) ?_; dsimp only)); refine box_event ?hg (N := 12) ?hd (cs := #[.int .i64 0, .int .i64 0, .int .i64 0, .slice none 0 0]) (t := 54) ?hr ?_; (case hd => rfl); (case hg => rfl); (case hr => first | (go_simp; done) | (go_simp; rfl)); intro gb201 hg w98 hbox hb; have n0_ := Aside0.mk (Kd.R_below (by (with_reducible repeat (first | apply Kd.R_alloc | apply Kd.R_drewN | apply Kd.R_drew)); exact HO143.out) hb); have n1_ := Aside0.mk (Kd.R_below (by (with_reducible repeat (first | apply Kd.R_alloc | apply Kd.R_drewN | apply Kd.R_drew)); exact HO156.out) hb); have n2_ := Aside0.mk (Kd.R_below (by (with_reducible repeat (first | apply Kd.R_alloc | apply Kd.R_drewN | apply Kd.R_drew)); exact HO168.out) hb); have n3_ := Aside0.mk (Kd.R_below (by (with_reducible repeat (first | apply Kd.R_alloc | apply Kd.R_drewN | apply Kd.R_drew)); exact HO175.out) hb); have n4_ := Aside0.mk (Kd.R_below (by (with_reducible repeat (first | apply Kd.R_alloc | apply Kd.R_drewN | apply Kd.R_drew)); exact HO185.out) hb); have n5_ := Aside0.mk (Kd.R_below (by (with_reducible repeat (first | apply Kd.R_alloc | apply Kd.R_drewN | apply Kd.R_drew)); exact HO191.out) hb); have n6_ := Aside0.mk (Kd.R_below (by (with_reducible repeat (first | apply Kd.R_alloc | apply Kd.R_drewN | apply Kd.R_drew)); exact HO199.out) hb); have n7_ := Aside0.mk (blk_below (g := gb144) (o := .cells #[.int .i64 t134, .int .i64 t135, .int .i64 t136, .int .i64 t137, .int .i64 t138, .int .i64 t139, .int .i64 t140, .slice Ao70 t141.length co70] 29 (0, 0)) (by (with_reducible repeat (first | refine blk_drewN ?_ _ | refine blk_drew ?_ | refine blk_alloc ?_ _)); exact BK144.out) hb); have n8_ := Aside0.mk (blk_below (g := gb158) (o := .cells #[.int .i64 t147, .int .i64 t148, .int .i64 t149, .int .i64 t150, .int .i64 t151, .int .i64 t152, .int .i64 t153, .slice Ao76 t154.length co76] 29 (0, 0)) (by (with_reducible repeat (first | refine blk_drewN ?_ _ | refine blk_drew ?_ | refine blk_alloc ?_ _)); exact BK158.out) hb); have n9_ := Aside0.mk (blk_below (g := gb170) (o := .cells #[.int .i64 t159, .int .i64 t160, .int .i64 t161, .int .i64 t162, .int .i64 t163, .int .i64 t164, .int .i64 t165, .slice Ao82 t166.length co82] 29 (0, 0)) (by (with_reducible repeat (first | refine blk_drewN ?_ _ | refine blk_drew ?_ | refine blk_alloc ?_ _)); exact BK170.out) hb); have n10_ := Aside0.mk (blk_below (g := gb193) (o := .cells #[.int .i64 t186, .int .i64 t187, .int .i64 t188, .slice Ao95 t189.length co95] 54 (0, 0)) (by (with_reducible repeat (first | refine blk_drewN ?_ _ | refine blk_drew ?_ | refine blk_alloc ?_ _)); exact BK193.out) hb); have n11_ := Aside0.mk (below_step (by repeat (first | (with_reducible first | exact HB.out | apply below_alloc | apply pw_below_drewN | apply below_drew1 | refine below_set ?_ GE144.out | refine below_set ?_ GE158.out | refine below_set ?_ GE170.out | refine below_set ?_ GE193.out) | exact HB.out)) hb); have n12_ := Aside0.mk (hbox); have n13_ := Aside0.mk ((by rw [hg]; exact (below_size (by repeat (first | (with_reducible first | exact HB.out | apply below_alloc | apply pw_below_drewN | apply below_drew1 | refine below_set ?_ GE144.out | refine below_set ?_ GE158.out | refine below_set ?_ GE170.out | refine below_set ?_ GE193.out) | exact HB.out))) : w.heap.size ≤ gb201)); have n14_ := Aside0.mk ((by rw [hg]; exact (below_size (by repeat (first | (with_reducible first | exact HB.out | apply below_alloc | apply pw_below_drewN | apply below_drew1 | refine below_set ?_ GE144.out | refine below_set ?_ GE158.out | refine below_set ?_ GE170.out | refine below_set ?_ GE193.out) | exact HB.out))) : w.heap.size ≤ gb201)); have n15_ := Aside0.mk ((by rw [hg]; exact Nat.ne_of_lt (blk_lt (g := gb144) (o := .cells #[.int .i64 t134, .int .i64 t135, .int .i64 t136, .int .i64 t137, .int .i64 t138, .int .i64 t139, .int .i64 t140, .slice Ao70 t141.length co70] 29 (0, 0)) (by (with_reducible repeat (first | refine blk_drewN ?_ _ | refine blk_drew ?_ | refine blk_alloc ?_ _)); exact BK144.out)) : gb144 ≠ gb201)); have n16_ := Aside0.mk ((by rw [hg]; exact Nat.ne_of_gt (blk_lt (g := gb144) (o := .cells #[.int .i64 t134, .int .i64 t135, .int .i64 t136, .int .i64 t137, .int .i64 t138, .int .i64 t139, .int .i64 t140, .slice Ao70 t141.length co70] 29 (0, 0)) (by (with_reducible repeat (first | refine blk_drewN ?_ _ | refine blk_drew ?_ | refine blk_alloc ?_ _)); exact BK144.out)) : gb201 ≠ gb144)); have n17_ := Aside0.mk ((by rw [hg]; exact Nat.ne_of_lt (blk_lt (g := gb158) (o := .cells #[.int .i64 t147, .int .i64 t148, .int .i64 t149, .int .i64 t150, .int .i64 t151, .int .i64 t152, .int .i64 t153, .slice Ao76 t154.length co76] 29 (0, 0)) (by (with_reducible repeat (first | refine blk_drewN ?_ _ | refine blk_drew ?_ | refine blk_alloc ?_ _)); exact BK158.out)) : gb158 ≠ gb201)); have n18_ := Aside0.mk ((by rw [hg]; exact Nat.ne_of_gt (blk_lt (g := gb158) (o := .cells #[.int .i64 t147, .int .i64 t148, .int .i64 t149, .int .i64 t150, .int .i64 t151, .int .i64 t152, .int .i64 t153, .slice Ao76 t154.length co76] 29 (0, 0)) (by (with_reducible repeat (first | refine blk_drewN ?_ _ | refine blk_drew ?_ | refine blk_alloc ?_ _)); exact BK158.out)) : gb201 ≠ gb158)); have n19_ := Aside0.mk ((by rw [hg]; exact Nat.ne_of_lt (blk_lt (g := gb170) (o := .cells #[.int .i64 t159, .int .i64 t160, .int .i64 t161, .int .i64 t162, .int .i64 t163, .int .i64 t164, .int .i64 t165, .slice Ao82 t166.length co82] 29 (0, 0)) (by (with_reducible repeat (first | refine blk_drewN ?_ _ | refine blk_drew ?_ | refine blk_alloc ?_ _)); exact BK170.out)) : gb170 ≠ gb201)); have n20_ := Aside0.mk ((by rw [hg]; exact Nat.ne_of_gt (blk_lt (g := gb170) (o := .cells #[.int .i64 t159, .int .i64 t160, .int .i64 t161, .int .i64 t162, .int .i64 t163, .int .i64 t164, .int .i64 t165, .slice Ao82 t166.length co82] 29 (0, 0)) (by (with_reducible repeat (first | refine blk_drewN ?_ _ | refine blk_drew ?_ | refine blk_alloc ?_ _)); exact BK170.out)) : gb201 ≠ gb170)); have n21_ := Aside0.mk ((by rw [hg]; exact Nat.ne_of_lt (blk_lt (g := gb193) (o := .cells #[.int .i64 t186, .int .i64 t187, .int .i64 t188, .slice Ao95 t189.length co95] 54 (0, 0)) (by (with_reducible repeat (first | refine blk_drewN ?_ _ | refine blk_drew ?_ | refine blk_alloc ?_ _)); exact BK193.out)) : gb193 ≠ gb201)); have n22_ := Aside0.mk ((by rw [hg]; exact Nat.ne_of_gt (blk_lt (g := gb193) (o := .cells #[.int .i64 t186, .int .i64 t187, .int .i64 t188, .slice Ao95 t189.length co95] 54 (0, 0)) (by (with_reducible repeat (first | refine blk_drewN ?_ _ | refine blk_drew ?_ | refine blk_alloc ?_ _)); exact BK193.out)) : gb201 ≠ gb193)); clear HO143; clear HO156; clear HO168; clear HO175; clear HO185; clear HO191; clear HO199; clear BK144; clear BK158; clear BK170; clear BK193; clear HB; have HO143 := n0_; have HO156 := n1_; have HO168 := n2_; have HO175 := n3_; have HO185 := n4_; have HO191 := n5_; have HO199 := n6_; have BK144 := n7_; have BK158 := n8_; have BK170 := n9_; have BK193 := n10_; have HB := n11_; have BK201 := n12_; have GW201 := n13_; have GE201 := n14_; have NB144_201 := n15_; have NB201_144 := n16_; have NB158_201 := n17_; have NB201_158 := n18_; have NB170_201 := n19_; have NB201_170 := n20_; have NB193_201 := n21_; have NB201_193 := n22_; clear n0_ n1_ n2_ n3_ n4_ n5_ n6_ n7_ n8_ n9_ n10_ n11_ n12_ n13_ n14_ n15_ n16_ n17_ n18_ n19_ n20_ n21_ n22_; clear hb hbox hg; have hnb99 := NB201_144.out; have hnc99 := NB144_201.out; have hnb100 := NB201_158.out; have hnc100 := NB158_201.out; have hnb101 := NB201_170.out; have hnc101 := NB170_201.out; have hnb102 := NB201_193.out; have hnc102 := NB193_201.out; have hcz103_0 : w98.cell? ⟨gb201, 0, none⟩ = some (.int .i64 0) := (blk_cell BK201.out 0).trans rfl; have hcz103_1 : w98.cell? ⟨gb201, 1, none⟩ = some (.int .i64 0) := (blk_cell BK201.out 1).trans rfl; have hcz103_2 : w98.cell? ⟨gb201, 2, none⟩ = some (.int .i64 0) := (blk_cell BK201.out 2).trans rfl; have hcz103_3 : w98.cell? ⟨gb201, 3, none⟩ = some (.slice none 0 0) := (blk_cell BK201.out 3).trans rfl; have hfz103_0 := blk_frozen BK201.out 0; have hfz103_1 := blk_frozen BK201.out 1; have hfz103_2 := blk_frozen BK201.out 2; have hfz103_3 := blk_frozen BK201.out 3; obtain ⟨Ao104, co104, eo104⟩ := Kd.R_slice HO199.out; subst eo104; have hcz105_0 : w98.cell? ⟨gb144, 0, none⟩ = some (.int .i64 t134) := (blk_cell BK144.out 0).trans rfl; have hcz105_1 : w98.cell? ⟨gb144, 1, none⟩ = some (.int .i64 t135) := (blk_cell BK144.out 1).trans rfl; have hcz105_2 : w98.cell? ⟨gb144, 2, none⟩ = some (.int .i64 t136) := (blk_cell BK144.out 2).trans rfl; have hcz105_3 : w98.cell? ⟨gb144, 3, none⟩ = some (.int .i64 t137) := (blk_cell BK144.out 3).trans rfl; have hcz105_4 : w98.cell? ⟨gb144, 4, none⟩ = some (.int .i64 t138) := (blk_cell BK144.out 4).trans rfl; have hcz105_5 : w98.cell? ⟨gb144, 5, none⟩ = some (.int .i64 t139) := (blk_cell BK144.out 5).trans rfl; have hcz105_6 : w98.cell? ⟨gb144, 6, none⟩ = some (.int .i64 t140) := (blk_cell BK144.out 6).trans rfl; have hcz105_7 : w98.cell? ⟨gb144, 7, none⟩ = some (.slice Ao70 t141.length co70) := (blk_cell BK144.out 7).trans rfl; have hfz105_0 := blk_frozen BK144.out 0; have hfz105_1 := blk_frozen BK144.out 1; have hfz105_2 := blk_frozen BK144.out 2; have hfz105_3 := blk_frozen BK144.out 3; have hfz105_4 := blk_frozen BK144.out 4; have hfz105_5 := blk_frozen BK144.out 5; have hfz105_6 := blk_frozen BK144.out 6; have hfz105_7 := blk_frozen BK144.out 7; have hcz106_0 : w98.cell? ⟨gb158, 0, none⟩ = some (.int .i64 t147) := (blk_cell BK158.out 0).trans rfl; have hcz106_1 : w98.cell? ⟨gb158, 1, none⟩ = some (.int .i64 t148) := (blk_cell BK158.out 1).trans rfl; have hcz106_2 : w98.cell? ⟨gb158, 2, none⟩ = some (.int .i64 t149) := (blk_cell BK158.out 2).trans rfl; have hcz106_3 : w98.cell? ⟨gb158, 3, none⟩ = some (.int .i64 t150) := (blk_cell BK158.out 3).trans rfl; have hcz106_4 : w98.cell? ⟨gb158, 4, none⟩ = some (.int .i64 t151) := (blk_cell BK158.out 4).trans rfl; have hcz106_5 : w98.cell? ⟨gb158, 5, none⟩ = some (.int .i64 t152) := (blk_cell BK158.out 5).trans rfl; have hcz106_6 : w98.cell? ⟨gb158, 6, none⟩ = some (.int .i64 t153) := (blk_cell BK158.out 6).trans rfl; have hcz106_7 : w98.cell? ⟨gb158, 7, none⟩ = some (.slice Ao76 t154.length co76) := (blk_cell BK158.out 7).trans rfl; have hfz106_0 := blk_frozen BK158.out 0; have hfz106_1 := blk_frozen BK158.out 1; have hfz106_2 := blk_frozen BK158.out 2; have hfz106_3 := blk_frozen BK158.out 3; have hfz106_4 := blk_frozen BK158.out 4; have hfz106_5 := blk_frozen BK158.out 5; have hfz106_6 := blk_frozen BK158.out 6; have hfz106_7 := blk_frozen BK158.out 7; go_wp2_with (first | (go_at_call 26; (with_reducible refine (sextonref23_Same.calls k t134 t135 t136 t137 t138 t139 t140 _ _ t141 t147 t148 t149 t150 t151 t152 t153 _ _ t154 true _ ?side1 ?side2 ?side3 ?side4 A12.out).mono ?_); (case side1 => refine (Kd.R_reads' (e := 9) (base := w.heap.size) (ok := fun k_ => ((((((True ∧ some k_ ≠ (.slice Ao76 t154.length co76 : Value).ownBlock) ∧ some k_ ≠ (.slice Ao82 t166.length co82 : Value).ownBlock) ∧ some k_ ≠ (.slice Ao86 y173.length co86 : Value).ownBlock) ∧ some k_ ≠ (.slice Ao88 t183.length co88 : Value).ownBlock) ∧ some k_ ≠ (.slice Ao95 t189.length co95 : Value).ownBlock) ∧ some k_ ≠ (.slice Ao104 t197.length co104 : Value).ownBlock)) (n := t141.length) (c := co70) ?_).2.2; exact (by (with_reducible repeat (first | apply Kd.R_alloc | apply Kd.R_drewN | apply Kd.R_drew)); exact (Kd.R_mono (Kd.R_far (p := ⟨gb201, 3, none⟩) (Kd.R_far (p := ⟨gb201, 2, none⟩) (Kd.R_far (p := ⟨gb201, 1, none⟩) (Kd.R_far (p := ⟨gb201, 0, none⟩) (Kd.R_types HO143.out BK201.out (by decide)) (fun _ hk => hk.2) (.int .i64 t194)) (fun _ hk => hk.2) (.int .i64 t195)) (fun _ hk => hk.2) (.int .i64 t196)) (fun _ hk => hk.2) (.slice Ao104 t197.length co104)) (fun _ h_ => h_.1)))); (case side2 => exact (Kd.R_reads' HO143.out).2.1); (case side3 => refine (Kd.R_reads' (e := 9) (base := w.heap.size) (ok := fun k_ => ((((((True ∧ some k_ ≠ (.slice Ao70 t141.length co70 : Value).ownBlock) ∧ some k_ ≠ (.slice Ao82 t166.length co82 : Value).ownBlock) ∧ some k_ ≠ (.slice Ao86 y173.length co86 : Value).ownBlock) ∧ some k_ ≠ (.slice Ao88 t183.length co88 : Value).ownBlock) ∧ some k_ ≠ (.slice Ao95 t189.length co95 : Value).ownBlock) ∧ some k_ ≠ (.slice Ao104 t197.length co104 : Value).ownBlock)) (n := t154.length) (c := co76) ?_).2.2; exact (by (with_reducible repeat (first | apply Kd.R_alloc | apply Kd.R_drewN | apply Kd.R_drew)); exact (Kd.R_mono (Kd.R_far (p := ⟨gb201, 3, none⟩) (Kd.R_far (p := ⟨gb201, 2, none⟩) (Kd.R_far (p := ⟨gb201, 1, none⟩) (Kd.R_far (p := ⟨gb201, 0, none⟩) (Kd.R_types HO156.out BK201.out (by decide)) (fun _ hk => hk.2) (.int .i64 t194)) (fun _ hk => hk.2) (.int .i64 t195)) (fun _ hk => hk.2) (.int .i64 t196)) (fun _ hk => hk.2) (.slice Ao104 t197.length co104)) (fun _ h_ => h_.1)))); (case side4 => exact (Kd.R_reads' HO156.out).2.1); rintro e w107 ⟨rfl, hb⟩; have n0_ := Aside0.mk (Kd.R_below (by (with_reducible repeat (first | apply Kd.R_alloc | apply Kd.R_drewN | apply Kd.R_drew)); exact (Kd.R_mono (Kd.R_far (p := ⟨gb201, 3, none⟩) (Kd.R_far (p := ⟨gb201, 2, none⟩) (Kd.R_far (p := ⟨gb201, 1, none⟩) (Kd.R_far (p := ⟨gb201, 0, none⟩) (Kd.R_types HO143.out BK201.out (by decide)) (fun _ hk => hk.2) (.int .i64 t194)) (fun _ hk => hk.2) (.int .i64 t195)) (fun _ hk => hk.2) (.int .i64 t196)) (fun _ hk => hk.2) (.slice Ao104 t197.length co104)) (fun _ h_ => h_.1))) hb); have n1_ := Aside0.mk (Kd.R_below (by (with_reducible repeat (first | apply Kd.R_alloc | apply Kd.R_drewN | apply Kd.R_drew)); exact (Kd.R_mono (Kd.R_far (p := ⟨gb201, 3, none⟩) (Kd.R_far (p := ⟨gb201, 2, none⟩) (Kd.R_far (p := ⟨gb201, 1, none⟩) (Kd.R_far (p := ⟨gb201, 0, none⟩) (Kd.R_types HO156.out BK201.out (by decide)) (fun _ hk => hk.2) (.int .i64 t194)) (fun _ hk => hk.2) (.int .i64 t195)) (fun _ hk => hk.2) (.int .i64 t196)) (fun _ hk => hk.2) (.slice Ao104 t197.length co104)) (fun _ h_ => h_.1))) hb); have n2_ := Aside0.mk (Kd.R_below (by (with_reducible repeat (first | apply Kd.R_alloc | apply Kd.R_drewN | apply Kd.R_drew)); exact (Kd.R_mono (Kd.R_far (p := ⟨gb201, 3, none⟩) (Kd.R_far (p := ⟨gb201, 2, none⟩) (Kd.R_far (p := ⟨gb201, 1, none⟩) (Kd.R_far (p := ⟨gb201, 0, none⟩) (Kd.R_types HO168.out BK201.out (by decide)) (fun _ hk => hk.2) (.int .i64 t194)) (fun _ hk => hk.2) (.int .i64 t195)) (fun _ hk => hk.2) (.int .i64 t196)) (fun _ hk => hk.2) (.slice Ao104 t197.length co104)) (fun _ h_ => h_.1))) hb); have n3_ := Aside0.mk (Kd.R_below (by (with_reducible repeat (first | apply Kd.R_alloc | apply Kd.R_drewN | apply Kd.R_drew)); exact (Kd.R_mono (Kd.R_far (p := ⟨gb201, 3, none⟩) (Kd.R_far (p := ⟨gb201, 2, none⟩) (Kd.R_far (p := ⟨gb201, 1, none⟩) (Kd.R_far (p := ⟨gb201, 0, none⟩) (Kd.R_types HO175.out BK201.out (by decide)) (fun _ hk => hk.2) (.int .i64 t194)) (fun _ hk => hk.2) (.int .i64 t195)) (fun _ hk => hk.2) (.int .i64 t196)) (fun _ hk => hk.2) (.slice Ao104 t197.length co104)) (fun _ h_ => h_.1))) hb); have n4_ := Aside0.mk (Kd.R_below (by (with_reducible repeat (first | apply Kd.R_alloc | apply Kd.R_drewN | apply Kd.R_drew)); exact (Kd.R_mono (Kd.R_far (p := ⟨gb201, 3, none⟩) (Kd.R_far (p := ⟨gb201, 2, none⟩) (Kd.R_far (p := ⟨gb201, 1, none⟩) (Kd.R_far (p := ⟨gb201, 0, none⟩) (Kd.R_types HO185.out BK201.out (by decide)) (fun _ hk => hk.2) (.int .i64 t194)) (fun _ hk => hk.2) (.int .i64 t195)) (fun _ hk => hk.2) (.int .i64 t196)) (fun _ hk => hk.2) (.slice Ao104 t197.length co104)) (fun _ h_ => h_.1))) hb); have n5_ := Aside0.mk (Kd.R_below (by (with_reducible repeat (first | apply Kd.R_alloc | apply Kd.R_drewN | apply Kd.R_drew)); exact (Kd.R_mono (Kd.R_far (p := ⟨gb201, 3, none⟩) (Kd.R_far (p := ⟨gb201, 2, none⟩) (Kd.R_far (p := ⟨gb201, 1, none⟩) (Kd.R_far (p := ⟨gb201, 0, none⟩) (Kd.R_types HO191.out BK201.out (by decide)) (fun _ hk => hk.2) (.int .i64 t194)) (fun _ hk => hk.2) (.int .i64 t195)) (fun _ hk => hk.2) (.int .i64 t196)) (fun _ hk => hk.2) (.slice Ao104 t197.length co104)) (fun _ h_ => h_.1))) hb); have n6_ := Aside0.mk (Kd.R_below (by (with_reducible repeat (first | apply Kd.R_alloc | apply Kd.R_drewN | apply Kd.R_drew)); exact (Kd.R_mono (Kd.R_far (p := ⟨gb201, 3, none⟩) (Kd.R_far (p := ⟨gb201, 2, none⟩) (Kd.R_far (p := ⟨gb201, 1, none⟩) (Kd.R_far (p := ⟨gb201, 0, none⟩) (Kd.R_types HO199.out BK201.out (by decide)) (fun _ hk => hk.2) (.int .i64 t194)) (fun _ hk => hk.2) (.int .i64 t195)) (fun _ hk => hk.2) (.int .i64 t196)) (fun _ hk => hk.2) (.slice Ao104 t197.length co104)) (fun _ h_ => h_.1))) hb); have n7_ := Aside0.mk (blk_below (g := gb144) (o := .cells #[.int .i64 t134, .int .i64 t135, .int .i64 t136, .int .i64 t137, .int .i64 t138, .int .i64 t139, .int .i64 t140, .slice Ao70 t141.length co70] 29 (0, 0)) (by (with_reducible repeat (first | refine blk_drewN ?_ _ | refine blk_drew ?_ | refine blk_alloc ?_ _)); refine blk_far ?_ NB144_201.out _; (with_reducible repeat (first | refine blk_drewN ?_ _ | refine blk_drew ?_ | refine blk_alloc ?_ _)); refine blk_far ?_ NB144_201.out _; (with_reducible repeat (first | refine blk_drewN ?_ _ | refine blk_drew ?_ | refine blk_alloc ?_ _)); refine blk_far ?_ NB144_201.out _; (with_reducible repeat (first | refine blk_drewN ?_ _ | refine blk_drew ?_ | refine blk_alloc ?_ _)); refine blk_far ?_ NB144_201.out _; (with_reducible repeat (first | refine blk_drewN ?_ _ | refine blk_drew ?_ | refine blk_alloc ?_ _)); exact BK144.out) hb); have n8_ := Aside0.mk (blk_below (g := gb158) (o := .cells #[.int .i64 t147, .int .i64 t148, .int .i64 t149, .int .i64 t150, .int .i64 t151, .int .i64 t152, .int .i64 t153, .slice Ao76 t154.length co76] 29 (0, 0)) (by (with_reducible repeat (first | refine blk_drewN ?_ _ | refine blk_drew ?_ | refine blk_alloc ?_ _)); refine blk_far ?_ NB158_201.out _; (with_reducible repeat (first | refine blk_drewN ?_ _ | refine blk_drew ?_ | refine blk_alloc ?_ _)); refine blk_far ?_ NB158_201.out _; (with_reducible repeat (first | refine blk_drewN ?_ _ | refine blk_drew ?_ | refine blk_alloc ?_ _)); refine blk_far ?_ NB158_201.out _; (with_reducible repeat (first | refine blk_drewN ?_ _ | refine blk_drew ?_ | refine blk_alloc ?_ _)); refine blk_far ?_ NB158_201.out _; (with_reducible repeat (first | refine blk_drewN ?_ _ | refine blk_drew ?_ | refine blk_alloc ?_ _)); exact BK158.out) hb); have n9_ := Aside0.mk (blk_below (g := gb170) (o := .cells #[.int .i64 t159, .int .i64 t160, .int .i64 t161, .int .i64 t162, .int .i64 t163, .int .i64 t164, .int .i64 t165, .slice Ao82 t166.length co82] 29 (0, 0)) (by (with_reducible repeat (first | refine blk_drewN ?_ _ | refine blk_drew ?_ | refine blk_alloc ?_ _)); refine blk_far ?_ NB170_201.out _; (with_reducible repeat (first | refine blk_drewN ?_ _ | refine blk_drew ?_ | refine blk_alloc ?_ _)); refine blk_far ?_ NB170_201.out _; (with_reducible repeat (first | refine blk_drewN ?_ _ | refine blk_drew ?_ | refine blk_alloc ?_ _)); refine blk_far ?_ NB170_201.out _; (with_reducible repeat (first | refine blk_drewN ?_ _ | refine blk_drew ?_ | refine blk_alloc ?_ _)); refine blk_far ?_ NB170_201.out _; (with_reducible repeat (first | refine blk_drewN ?_ _ | refine blk_drew ?_ | refine blk_alloc ?_ _)); exact BK170.out) hb); have n10_ := Aside0.mk (blk_below (g := gb193) (o := .cells #[.int .i64 t186, .int .i64 t187, .int .i64 t188, .slice Ao95 t189.length co95] 54 (0, 0)) (by (with_reducible repeat (first | refine blk_drewN ?_ _ | refine blk_drew ?_ | refine blk_alloc ?_ _)); refine blk_far ?_ NB193_201.out _; (with_reducible repeat (first | refine blk_drewN ?_ _ | refine blk_drew ?_ | refine blk_alloc ?_ _)); refine blk_far ?_ NB193_201.out _; (with_reducible repeat (first | refine blk_drewN ?_ _ | refine blk_drew ?_ | refine blk_alloc ?_ _)); refine blk_far ?_ NB193_201.out _; (with_reducible repeat (first | refine blk_drewN ?_ _ | refine blk_drew ?_ | refine blk_alloc ?_ _)); refine blk_far ?_ NB193_201.out _; (with_reducible repeat (first | refine blk_drewN ?_ _ | refine blk_drew ?_ | refine blk_alloc ?_ _)); exact BK193.out) hb); have n11_ := Aside0.mk (blk_below (g := gb201) (o := .cells #[.int .i64 t194, .int .i64 t195, .int .i64 t196, .slice Ao104 t197.length co104] 54 (0, 0)) (by (with_reducible repeat (first | refine blk_drewN ?_ _ | refine blk_drew ?_ | refine blk_alloc ?_ _)); refine blk_put (cs := #[.int .i64 t194, .int .i64 t195, .int .i64 t196, .slice none 0 0]) ?_ 3 _ rfl; (with_reducible repeat (first | refine blk_drewN ?_ _ | refine blk_drew ?_ | refine blk_alloc ?_ _)); refine blk_put (cs := #[.int .i64 t194, .int .i64 t195, .int .i64 0, .slice none 0 0]) ?_ 2 _ rfl; (with_reducible repeat (first | refine blk_drewN ?_ _ | refine blk_drew ?_ | refine blk_alloc ?_ _)); refine blk_put (cs := #[.int .i64 t194, .int .i64 0, .int .i64 0, .slice none 0 0]) ?_ 1 _ rfl; (with_reducible repeat (first | refine blk_drewN ?_ _ | refine blk_drew ?_ | refine blk_alloc ?_ _)); refine blk_put (cs := #[.int .i64 0, .int .i64 0, .int .i64 0, .slice none 0 0]) ?_ 0 _ rfl; (with_reducible repeat (first | refine blk_drewN ?_ _ | refine blk_drew ?_ | refine blk_alloc ?_ _)); exact BK201.out) hb); have n12_ := Aside0.mk (below_step (by repeat (first | (with_reducible first | exact HB.out | apply below_alloc | apply pw_below_drewN | apply below_drew1 | refine below_set ?_ GE144.out | refine below_set ?_ GE158.out | refine below_set ?_ GE170.out | refine below_set ?_ GE193.out | refine below_set ?_ GE201.out) | exact HB.out)) hb); clear HO143; clear HO156; clear HO168; clear HO175; clear HO185; clear HO191; clear HO199; clear BK144; clear BK158; clear BK170; clear BK193; clear BK201; clear HB; have HO143 := n0_; have HO156 := n1_; have HO168 := n2_; have HO175 := n3_; have HO185 := n4_; have HO191 := n5_; have HO199 := n6_; have BK144 := n7_; have BK158 := n8_; have BK170 := n9_; have BK193 := n10_; have BK201 := n11_; have HB := n12_; clear n0_ n1_ n2_ n3_ n4_ n5_ n6_ n7_ n8_ n9_ n10_ n11_ n12_; (try clear hb); (try clear hb2); (try clear hk); (try clear hi); have hcz108_0 : w107.cell? ⟨gb193, 0, none⟩ = some (.int .i64 t186) := (blk_cell BK193.out 0).trans rfl; have hcz108_1 : w107.cell? ⟨gb193, 1, none⟩ = some (.int .i64 t187) := (blk_cell BK193.out 1).trans rfl; have hcz108_2 : w107.cell? ⟨gb193, 2, none⟩ = some (.int .i64 t188) := (blk_cell BK193.out 2).trans rfl; have hcz108_3 : w107.cell? ⟨gb193, 3, none⟩ = some (.slice Ao95 t189.length co95) := (blk_cell BK193.out 3).trans rfl; have hfz108_0 := blk_frozen BK193.out 0; have hfz108_1 := blk_frozen BK193.out 1; have hfz108_2 := blk_frozen BK193.out 2; have hfz108_3 := blk_frozen BK193.out 3; have hcz109_0 : w107.cell? ⟨gb144, 0, none⟩ = some (.int .i64 t134) := (blk_cell BK144.out 0).trans rfl; have hcz109_1 : w107.cell? ⟨gb144, 1, none⟩ = some (.int .i64 t135) := (blk_cell BK144.out 1).trans rfl; have hcz109_2 : w107.cell? ⟨gb144, 2, none⟩ = some (.int .i64 t136) := (blk_cell BK144.out 2).trans rfl; have hcz109_3 : w107.cell? ⟨gb144, 3, none⟩ = some (.int .i64 t137) := (blk_cell BK144.out 3).trans rfl; have hcz109_4 : w107.cell? ⟨gb144, 4, none⟩ = some (.int .i64 t138) := (blk_cell BK144.out 4).trans rfl; have hcz109_5 : w107.cell? ⟨gb144, 5, none⟩ = some (.int .i64 t139) := (blk_cell BK144.out 5).trans rfl; have hcz109_6 : w107.cell? ⟨gb144, 6, none⟩ = some (.int .i64 t140) := (blk_cell BK144.out 6).trans rfl; have hcz109_7 : w107.cell? ⟨gb144, 7, none⟩ = some (.slice Ao70 t141.length co70) := (blk_cell BK144.out 7).trans rfl; have hfz109_0 := blk_frozen BK144.out 0; have hfz109_1 := blk_frozen BK144.out 1; have hfz109_2 := blk_frozen BK144.out 2; have hfz109_3 := blk_frozen BK144.out 3; have hfz109_4 := blk_frozen BK144.out 4; have hfz109_5 := blk_frozen BK144.out 5; have hfz109_6 := blk_frozen BK144.out 6; have hfz109_7 := blk_frozen BK144.out 7; go_wp2_with (first | (go_at_call 36; (with_reducible refine (msg_Is.calls k t134 t135 t136 t137 t138 t139 t140 _ _ t141 true _ ?side1 ?side2 A63.out).mono ?_); (case side1 => repeat (first | exact (Kd.R_reads' HO143.out).2.2 | (with_reducible refine Kd.C_alloc ?_ _) | (with_reducible refine Kd.C_drewN ?_ _) | (with_reducible refine Kd.C_drew ?_))); (case side2 => exact (Kd.R_reads' HO143.out).2.1); rintro e w110 ⟨rfl, hb⟩; have n0_ := Aside0.mk (Kd.R_below (by (with_reducible repeat (first | apply Kd.R_alloc | apply Kd.R_drewN | apply Kd.R_drew)); exact HO143.out) hb); have n1_ := Aside0.mk (Kd.R_below (by (with_reducible repeat (first | apply Kd.R_alloc | apply Kd.R_drewN | apply Kd.R_drew)); exact HO156.out) hb); have n2_ := Aside0.mk (Kd.R_below (by (with_reducible repeat (first | apply Kd.R_alloc | apply Kd.R_drewN | apply Kd.R_drew)); exact HO168.out) hb); have n3_ := Aside0.mk (Kd.R_below (by (with_reducible repeat (first | apply Kd.R_alloc | apply Kd.R_drewN | apply Kd.R_drew)); exact HO175.out) hb); have n4_ := Aside0.mk (Kd.R_below (by (with_reducible repeat (first | apply Kd.R_alloc | apply Kd.R_drewN | apply Kd.R_drew)); exact HO185.out) hb); have n5_ := Aside0.mk (Kd.R_below (by (with_reducible repeat (first | apply Kd.R_alloc | apply Kd.R_drewN | apply Kd.R_drew)); exact HO191.out) hb); have n6_ := Aside0.mk (Kd.R_below (by (with_reducible repeat (first | apply Kd.R_alloc | apply Kd.R_drewN | apply Kd.R_drew)); exact HO199.out) hb); have n7_ := Aside0.mk (blk_below (g := gb144) (o := .cells #[.int .i64 t134, .int .i64 t135, .int .i64 t136, .int .i64 t137, .int .i64 t138, .int .i64 t139, .int .i64 t140, .slice Ao70 t141.length co70] 29 (0, 0)) (by (with_reducible repeat (first | refine blk_drewN ?_ _ | refine blk_drew ?_ | refine blk_alloc ?_ _)); exact BK144.out) hb); have n8_ := Aside0.mk (blk_below (g := gb158) (o := .cells #[.int .i64 t147, .int .i64 t148, .int .i64 t149, .int .i64 t150, .int .i64 t151, .int .i64 t152, .int .i64 t153, .slice Ao76 t154.length co76] 29 (0, 0)) (by (with_reducible repeat (first | refine blk_drewN ?_ _ | refine blk_drew ?_ | refine blk_alloc ?_ _)); exact BK158.out) hb); have n9_ := Aside0.mk (blk_below (g := gb170) (o := .cells #[.int .i64 t159, .int .i64 t160, .int .i64 t161, .int .i64 t162, .int .i64 t163, .int .i64 t164, .int .i64 t165, .slice Ao82 t166.length co82] 29 (0, 0)) (by (with_reducible repeat (first | refine blk_drewN ?_ _ | refine blk_drew ?_ | refine blk_alloc ?_ _)); exact BK170.out) hb); have n10_ := Aside0.mk (blk_below (g := gb193) (o := .cells #[.int .i64 t186, .int .i64 t187, .int .i64 t188, .slice Ao95 t189.length co95] 54 (0, 0)) (by (with_reducible repeat (first | refine blk_drewN ?_ _ | refine blk_drew ?_ | refine blk_alloc ?_ _)); exact BK193.out) hb); have n11_ := Aside0.mk (blk_below (g := gb201) (o := .cells #[.int .i64 t194, .int .i64 t195, .int .i64 t196, .slice Ao104 t197.length co104] 54 (0, 0)) (by (with_reducible repeat (first | refine blk_drewN ?_ _ | refine blk_drew ?_ | refine blk_alloc ?_ _)); exact BK201.out) hb); have n12_ := Aside0.mk (below_step (by repeat (first | (with_reducible first | exact HB.out | apply below_alloc | apply pw_below_drewN | apply below_drew1 | refine below_set ?_ GE144.out | refine below_set ?_ GE158.out | refine below_set ?_ GE170.out | refine below_set ?_ GE193.out | refine below_set ?_ GE201.out) | exact HB.out)) hb); clear HO143; clear HO156; clear HO168; clear HO175; clear HO185; clear HO191; clear HO199; clear BK144; clear BK158; clear BK170; clear BK193; clear BK201; clear HB; have HO143 := n0_; have HO156 := n1_; have HO168 := n2_; have HO175 := n3_; have HO185 := n4_; have HO191 := n5_; have HO199 := n6_; have BK144 := n7_; have BK158 := n8_; have BK170 := n9_; have BK193 := n10_; have BK201 := n11_; have HB := n12_; clear n0_ n1_ n2_ n3_ n4_ n5_ n6_ n7_ n8_ n9_ n10_ n11_ n12_; (try clear hb); (try clear hb2); (try clear hk); (try clear hi); go_wp2_with (first | (go_at_call 40; (refine (msg_Prepare.calls 0 1 2 0 _ _ ([] : List ByteArray) t204 t205 t206 t207 t208 t209 t210 t211 _ ?side1 ?side2 A65.out).mono ?_); (case side1 => exact Kd.C_nil _ _); (case side2 => exact Nat.le_refl _); rintro e w111 ⟨v212, rfl, ho0, hb⟩; have n0_ := Aside0.mk (Kd.R_elder' (by (with_reducible repeat (first | apply Kd.R_alloc | apply Kd.R_drewN | apply Kd.R_drew)); exact HO143.out) (Kd.R_base ho0) hb); have n1_ := Aside0.mk (Kd.R_elder' (by (with_reducible repeat (first | apply Kd.R_alloc | apply Kd.R_drewN | apply Kd.R_drew)); exact HO156.out) (Kd.R_base ho0) hb); have n2_ := Aside0.mk (Kd.R_elder' (by (with_reducible repeat (first | apply Kd.R_alloc | apply Kd.R_drewN | apply Kd.R_drew)); exact HO168.out) (Kd.R_base ho0) hb); have n3_ := Aside0.mk (Kd.R_elder' (by (with_reducible repeat (first | apply Kd.R_alloc | apply Kd.R_drewN | apply Kd.R_drew)); exact HO175.out) (Kd.R_base ho0) hb); have n4_ := Aside0.mk (Kd.R_elder' (by (with_reducible repeat (first | apply Kd.R_alloc | apply Kd.R_drewN | apply Kd.R_drew)); exact HO185.out) (Kd.R_base ho0) hb); have n5_ := Aside0.mk (Kd.R_elder' (by (with_reducible repeat (first | apply Kd.R_alloc | apply Kd.R_drewN | apply Kd.R_drew)); exact HO191.out) (Kd.R_base ho0) hb); have n6_ := Aside0.mk (Kd.R_elder' (by (with_reducible repeat (first | apply Kd.R_alloc | apply Kd.R_drewN | apply Kd.R_drew)); exact HO199.out) (Kd.R_base ho0) hb); have n7_ := Aside0.mk (Kd.R_lower (Kd.R_new' (Kd.R_new' (Kd.R_new' (Kd.R_new' (Kd.R_new' (Kd.R_new' (Kd.R_new' ho0 (Kd.R_lt (by (with_reducible repeat (first | apply Kd.R_alloc | apply Kd.R_drewN | apply Kd.R_drew)); exact HO143.out))) (Kd.R_lt (by (with_reducible repeat (first | apply Kd.R_alloc | apply Kd.R_drewN | apply Kd.R_drew)); exact HO156.out))) (Kd.R_lt (by (with_reducible repeat (first | apply Kd.R_alloc | apply Kd.R_drewN | apply Kd.R_drew)); exact HO168.out))) (Kd.R_lt (by (with_reducible repeat (first | apply Kd.R_alloc | apply Kd.R_drewN | apply Kd.R_drew)); exact HO175.out))) (Kd.R_lt (by (with_reducible repeat (first | apply Kd.R_alloc | apply Kd.R_drewN | apply Kd.R_drew)); exact HO185.out))) (Kd.R_lt (by (with_reducible repeat (first | apply Kd.R_alloc | apply Kd.R_drewN | apply Kd.R_drew)); exact HO191.out))) (Kd.R_lt (by (with_reducible repeat (first | apply Kd.R_alloc | apply Kd.R_drewN | apply Kd.R_drew)); exact HO199.out))) (below_size (by repeat (first | (with_reducible first | exact HB.out | apply below_alloc | apply pw_below_drewN | apply below_drew1 | refine below_set ?_ GE144.out | refine below_set ?_ GE158.out | refine below_set ?_ GE170.out | refine below_set ?_ GE193.out | refine below_set ?_ GE201.out) | exact HB.out)))); have n8_ := Aside0.mk (blk_below (g := gb144) (o := .cells #[.int .i64 t134, .int .i64 t135, .int .i64 t136, .int .i64 t137, .int .i64 t138, .int .i64 t139, .int .i64 t140, .slice Ao70 t141.length co70] 29 (0, 0)) (by (with_reducible repeat (first | refine blk_drewN ?_ _ | refine blk_drew ?_ | refine blk_alloc ?_ _)); exact BK144.out) hb); have n9_ := Aside0.mk (blk_below (g := gb158) (o := .cells #[.int .i64 t147, .int .i64 t148, .int .i64 t149, .int .i64 t150, .int .i64 t151, .int .i64 t152, .int .i64 t153, .slice Ao76 t154.length co76] 29 (0, 0)) (by (with_reducible repeat (first | refine blk_drewN ?_ _ | refine blk_drew ?_ | refine blk_alloc ?_ _)); exact BK158.out) hb); have n10_ := Aside0.mk (blk_below (g := gb170) (o := .cells #[.int .i64 t159, .int .i64 t160, .int .i64 t161, .int .i64 t162, .int .i64 t163, .int .i64 t164, .int .i64 t165, .slice Ao82 t166.length co82] 29 (0, 0)) (by (with_reducible repeat (first | refine blk_drewN ?_ _ | refine blk_drew ?_ | refine blk_alloc ?_ _)); exact BK170.out) hb); have n11_ := Aside0.mk (blk_below (g := gb193) (o := .cells #[.int .i64 t186, .int .i64 t187, .int .i64 t188, .slice Ao95 t189.length co95] 54 (0, 0)) (by (with_reducible repeat (first | refine blk_drewN ?_ _ | refine blk_drew ?_ | refine blk_alloc ?_ _)); exact BK193.out) hb); have n12_ := Aside0.mk (blk_below (g := gb201) (o := .cells #[.int .i64 t194, .int .i64 t195, .int .i64 t196, .slice Ao104 t197.length co104] 54 (0, 0)) (by (with_reducible repeat (first | refine blk_drewN ?_ _ | refine blk_drew ?_ | refine blk_alloc ?_ _)); exact BK201.out) hb); have n13_ := Aside0.mk (below_step (by repeat (first | (with_reducible first | exact HB.out | apply below_alloc | apply pw_below_drewN | apply below_drew1 | refine below_set ?_ GE144.out | refine below_set ?_ GE158.out | refine below_set ?_ GE170.out | refine below_set ?_ GE193.out | refine below_set ?_ GE201.out) | exact HB.out)) hb); clear HO143; clear HO156; clear HO168; clear HO175; clear HO185; clear HO191; clear HO199; clear BK144; clear BK158; clear BK170; clear BK193; clear BK201; clear HB; have HO143 := n0_; have HO156 := n1_; have HO168 := n2_; have HO175 := n3_; have HO185 := n4_; have HO191 := n5_; have HO199 := n6_; have HO213 := n7_; have BK144 := n8_; have BK158 := n9_; have BK170 := n10_; have BK193 := n11_; have BK201 := n12_; have HB := n13_; clear n0_ n1_ n2_ n3_ n4_ n5_ n6_ n7_ n8_ n9_ n10_ n11_ n12_ n13_; (try clear hb); (try clear hb2); (try clear hk); (try clear hi); (try clear ho0); obtain ⟨Ao112, co112, eo112⟩ := Kd.R_slice HO213.out; subst eo112; go_wp2_with (first | (go_at_call 36; (with_reducible refine (msg_Is.calls k t204 t205 t206 t207 t208 t209 t210 _ _ t211 t214 _ ?side1 ?side2 A66.out).mono ?_); (case side1 => repeat (first | exact (Kd.R_reads' HO213.out).2.2 | (with_reducible refine Kd.C_alloc ?_ _) | (with_reducible refine Kd.C_drewN ?_ _) | (with_reducible refine Kd.C_drew ?_))); (case side2 => exact (Kd.R_reads' HO213.out).2.1); rintro e w113 ⟨rfl, hb⟩; have n0_ := Aside0.mk (Kd.R_below (by (with_reducible repeat (first | apply Kd.R_alloc | apply Kd.R_drewN | apply Kd.R_drew)); exact HO143.out) hb); have n1_ := Aside0.mk (Kd.R_below (by (with_reducible repeat (first | apply Kd.R_alloc | apply Kd.R_drewN | apply Kd.R_drew)); exact HO156.out) hb); have n2_ := Aside0.mk (Kd.R_below (by (with_reducible repeat (first | apply Kd.R_alloc | apply Kd.R_drewN | apply Kd.R_drew)); exact HO168.out) hb); have n3_ := Aside0.mk (Kd.R_below (by (with_reducible repeat (first | apply Kd.R_alloc | apply Kd.R_drewN | apply Kd.R_drew)); exact HO175.out) hb); have n4_ := Aside0.mk (Kd.R_below (by (with_reducible repeat (first | apply Kd.R_alloc | apply Kd.R_drewN | apply Kd.R_drew)); exact HO185.out) hb); have n5_ := Aside0.mk (Kd.R_below (by (with_reducible repeat (first | apply Kd.R_alloc | apply Kd.R_drewN | apply Kd.R_drew)); exact HO191.out) hb); have n6_ := Aside0.mk (Kd.R_below (by (with_reducible repeat (first | apply Kd.R_alloc | apply Kd.R_drewN | apply Kd.R_drew)); exact HO199.out) hb); have n7_ := Aside0.mk (Kd.R_below (by (with_reducible repeat (first | apply Kd.R_alloc | apply Kd.R_drewN | apply Kd.R_drew)); exact HO213.out) hb); have n8_ := Aside0.mk (blk_below (g := gb144) (o := .cells #[.int .i64 t134, .int .i64 t135, .int .i64 t136, .int .i64 t137, .int .i64 t138, .int .i64 t139, .int .i64 t140, .slice Ao70 t141.length co70] 29 (0, 0)) (by (with_reducible repeat (first | refine blk_drewN ?_ _ | refine blk_drew ?_ | refine blk_alloc ?_ _)); exact BK144.out) hb); have n9_ := Aside0.mk (blk_below (g := gb158) (o := .cells #[.int .i64 t147, .int .i64 t148, .int .i64 t149, .int .i64 t150, .int .i64 t151, .int .i64 t152, .int .i64 t153, .slice Ao76 t154.length co76] 29 (0, 0)) (by (with_reducible repeat (first | refine blk_drewN ?_ _ | refine blk_drew ?_ | refine blk_alloc ?_ _)); exact BK158.out) hb); have n10_ := Aside0.mk (blk_below (g := gb170) (o := .cells #[.int .i64 t159, .int .i64 t160, .int .i64 t161, .int .i64 t162, .int .i64 t163, .int .i64 t164, .int .i64 t165, .slice Ao82 t166.length co82] 29 (0, 0)) (by (with_reducible repeat (first | refine blk_drewN ?_ _ | refine blk_drew ?_ | refine blk_alloc ?_ _)); exact BK170.out) hb); have n11_ := Aside0.mk (blk_below (g := gb193) (o := .cells #[.int .i64 t186, .int .i64 t187, .int .i64 t188, .slice Ao95 t189.length co95] 54 (0, 0)) (by (with_reducible repeat (first | refine blk_drewN ?_ _ | refine blk_drew ?_ | refine blk_alloc ?_ _)); exact BK193.out) hb); have n12_ := Aside0.mk (blk_below (g := gb201) (o := .cells #[.int .i64 t194, .int .i64 t195, .int .i64 t196, .slice Ao104 t197.length co104] 54 (0, 0)) (by (with_reducible repeat (first | refine blk_drewN ?_ _ | refine blk_drew ?_ | refine blk_alloc ?_ _)); exact BK201.out) hb); have n13_ := Aside0.mk (below_step (by repeat (first | (with_reducible first | exact HB.out | apply below_alloc | apply pw_below_drewN | apply below_drew1 | refine below_set ?_ GE144.out | refine below_set ?_ GE158.out | refine below_set ?_ GE170.out | refine below_set ?_ GE193.out | refine below_set ?_ GE201.out) | exact HB.out)) hb); clear HO143; clear HO156; clear HO168; clear HO175; clear HO185; clear HO191; clear HO199; clear HO213; clear BK144; clear BK158; clear BK170; clear BK193; clear BK201; clear HB; have HO143 := n0_; have HO156 := n1_; have HO168 := n2_; have HO175 := n3_; have HO185 := n4_; have HO191 := n5_; have HO199 := n6_; have HO213 := n7_; have BK144 := n8_; have BK158 := n9_; have BK170 := n10_; have BK193 := n11_; have BK201 := n12_; have HB := n13_; clear n0_ n1_ n2_ n3_ n4_ n5_ n6_ n7_ n8_ n9_ n10_ n11_ n12_ n13_; (try clear hb); (try clear hb2); (try clear hk); (try clear hi)))))))))))))))))))))))))))))))))))))
                          go_ret
                          exact ⟨by first | rfl | (simp [errW_none, errW_some] <;> rfl) | (simp [*, errW_none, errW_some] <;> rfl), by repeat (first | (with_reducible first | exact HB.out | apply below_alloc | apply pw_below_drewN | apply below_drew1 | refine below_set ?_ GE144.out | refine below_set ?_ GE158.out | refine below_set ?_ GE170.out | refine below_set ?_ GE193.out | refine below_set ?_ GE201.out) | exact HB.out)⟩
                        · replace c64 := Bool.eq_false_iff.mpr c64
                          subst c64
                          have H1 : (some false) = some r := by rw [if_neg (show ¬ (false = true) by decide)] at H; exact H
                          exact absurd (H1.trans (congrArg some HRT.out)) (by decide)
                    · rw [if_neg c19] at H
                      exact absurd (H.trans (congrArg some HRT.out)) (by decide)
                  · rw [if_neg c18] at H
                    exact absurd (H.trans (congrArg some HRT.out)) (by decide)
                · rw [if_neg c17] at H
                  exact absurd (H.trans (congrArg some HRT.out)) (by decide)
              · replace c16 := Bool.eq_false_iff.mpr c16
                subst c16
                have H1 : (some false) = some r := by rw [if_neg (show ¬ (false = true) by decide)] at H; exact H
                exact absurd (H1.trans (congrArg some HRT.out)) (by decide)
            · rw [if_neg c15] at H
              exact absurd (H.trans (congrArg some HRT.out)) (by decide)
          · rw [if_neg c14] at H
            exact absurd (H.trans (congrArg some HRT.out)) (by decide)
        · replace c13 := Bool.eq_false_iff.mpr c13
          subst c13
          have H1 : (some false) = some r := by rw [if_neg (show ¬ (false = true) by decide)] at H; exact H
          exact absurd (H1.trans (congrArg some HRT.out)) (by decide)
      · rw [if_neg c11] at H
        exact absurd (H.trans (congrArg some HRT.out)) (by decide)
    · rw [if_neg c10] at H
      exact absurd (H.trans (congrArg some HRT.out)) (by decide)
  · rw [if_neg c9] at H
    exact absurd (H.trans (congrArg some HRT.out)) (by decide)

/-- THE ONE PURE STATEMENT of sextonlaw23_sentP: yours. -/

theorem sextonlaw23_sentP_true : sextonlaw23_sentP.f 8 = some true := by decide +kernel
/-- What it answers. -/
def sextonlaw23_sent.f : Option Bool := some true
theorem sextonlaw23_sent.calls (r : Bool) (w : World) (h : sextonlaw23_sent.f = some r) :
    Calls Try.prog 35 #[] w fun e w' => e = .returned (.bool r) ∧ Below w.heap.size w w' := by
  obtain rfl := Option.some.inj h
  exact sextonlaw23_sentP.calls 8 true (w := w) (h := sextonlaw23_sentP_true)
end Go.Proofs.Ytfejidinfcmfjaa.P
/-
  The walk of MsgApart, by the print; the ways that would answer false are closed.
-/
namespace Go.Proofs.Ytfejidinfcmfjaa.P
open Go.RowKit Go.Proofs.YtfejidinfcmfjaaW.PrintWords Go.Proofs.YtfejidinfcmfjaaW.PrintLast Go.Proofs.YtfejidinfcmfjaaW.PrintMore
attribute [local go_sem] max2_int min2_int max_two min_two max_three min_three max_four min_four   -- for this text's walks alone
set_option linter.unusedVariables false
set_option linter.unusedSimpArgs false

/-! ### sextonlaw23_MsgApart: function 12 -/
mutual
def sextonlaw23_MsgApart.j0 : Nat → Bool → Int → Int → Int → Int → Int → Int → Int → List ByteArray → Int → Int → Int → Int → Int → Int → Int → List ByteArray → Option (Bool)
  | 0, _, _, _, _, _, _, _, _, _, _, _, _, _, _, _, _, _ => none
  | k + 1, x14, x275000, x275001, x275002, x275003, x275004, x275005, x275006, x275007, x276000, x276001, x276002, x276003, x276004, x276005, x276006, x276007 => if x14 = true then (some true) else ((msg_Put.f x275000 x275001 x275002 x275003 x275004 x275005 x275006 x275007).bind fun bt278 => ((msg_Put.f x276000 x276001 x276002 x276003 x276004 x276005 x276006 x276007).bind fun bt280 => (if bt278.2 = 0 then (if bt280.2 = 0 then (sextonlaw23_MsgApart.j1 k bt278.1 bt280.1 (decide ((bt278.1.size : Int) > (bt280.1.size : Int))) x275000 x275001 x275002 x275003 x275004 x275005 x275006 x275007 x276000 x276001 x276002 x276003 x276004 x276005 x276006 x276007) else (sextonlaw23_MsgApart.j1 k bt278.1 bt280.1 true x275000 x275001 x275002 x275003 x275004 x275005 x275006 x275007 x276000 x276001 x276002 x276003 x276004 x276005 x276006 x276007)) else (sextonlaw23_MsgApart.j1 k bt278.1 bt280.1 true x275000 x275001 x275002 x275003 x275004 x275005 x275006 x275007 x276000 x276001 x276002 x276003 x276004 x276005 x276006 x276007))))
def sextonlaw23_MsgApart.j1 : Nat → ByteArray → ByteArray → Bool → Int → Int → Int → Int → Int → Int → Int → List ByteArray → Int → Int → Int → Int → Int → Int → Int → List ByteArray → Option (Bool)
  | 0, _, _, _, _, _, _, _, _, _, _, _, _, _, _, _, _, _, _, _ => none
  | k + 1, x5, x7, x37, x275000, x275001, x275002, x275003, x275004, x275005, x275006, x275007, x276000, x276001, x276002, x276003, x276004, x276005, x276006, x276007 => if x37 = true then ((sextonlaw23_sent.f).bind fun t282 => (some t282)) else ((sextonlaw23_sent.f).bind fun t283 => (if t283 = true then (if 0 ≤ (x5.size : Int) then (if (x5.size : Int) ≤ (x7.size : Int) then ((sextonref23_Same.f k x275000 x275001 x275002 x275003 x275004 x275005 x275006 x275007 x276000 x276001 x276002 x276003 x276004 x276005 x276006 x276007).bind fun t284 => (some (((x7.extract 0 ((x5.size : Int) : Int).toNat).toList == x5.toList) == t284))) else (none)) else (none)) else (some false)))
end
def sextonlaw23_MsgApart.f (k : Nat) (a0_0 : Int) (a0_1 : Int) (a0_2 : Int) (a0_3 : Int) (a0_4 : Int) (a0_5 : Int) (a0_6 : Int) (l0_7 : List ByteArray) (a1_0 : Int) (a1_1 : Int) (a1_2 : Int) (a1_3 : Int) (a1_4 : Int) (a1_5 : Int) (a1_6 : Int) (l1_7 : List ByteArray) : Option (Bool) := (sextonref23_Big.f k a0_0 a0_1 a0_2 a0_3 a0_4 a0_5 a0_6 l0_7).bind fun t276 => (if t276 = true then (sextonlaw23_MsgApart.j0 k true a0_0 a0_1 a0_2 a0_3 a0_4 a0_5 a0_6 l0_7 a1_0 a1_1 a1_2 a1_3 a1_4 a1_5 a1_6 l1_7) else ((sextonref23_Big.f k a1_0 a1_1 a1_2 a1_3 a1_4 a1_5 a1_6 l1_7).bind fun t277 => (sextonlaw23_MsgApart.j0 k t277 a0_0 a0_1 a0_2 a0_3 a0_4 a0_5 a0_6 l0_7 a1_0 a1_1 a1_2 a1_3 a1_4 a1_5 a1_6 l1_7)))
theorem sextonlaw23_MsgApart.mono_l : ∀ k, (∀ y0 y1 y2 y3 y4 y5 y6 y7 y8 y9 y10 y11 y12 y13 y14 y15 y16, LeO (sextonlaw23_MsgApart.j0 k y0 y1 y2 y3 y4 y5 y6 y7 y8 y9 y10 y11 y12 y13 y14 y15 y16) (sextonlaw23_MsgApart.j0 (k + 1) y0 y1 y2 y3 y4 y5 y6 y7 y8 y9 y10 y11 y12 y13 y14 y15 y16)) ∧ (∀ y0 y1 y2 y3 y4 y5 y6 y7 y8 y9 y10 y11 y12 y13 y14 y15 y16 y17 y18, LeO (sextonlaw23_MsgApart.j1 k y0 y1 y2 y3 y4 y5 y6 y7 y8 y9 y10 y11 y12 y13 y14 y15 y16 y17 y18) (sextonlaw23_MsgApart.j1 (k + 1) y0 y1 y2 y3 y4 y5 y6 y7 y8 y9 y10 y11 y12 y13 y14 y15 y16 y17 y18))
  | 0 => ⟨fun _ _ _ _ _ _ _ _ _ _ _ _ _ _ _ _ _ r h => by simp [sextonlaw23_MsgApart.j0] at h, fun _ _ _ _ _ _ _ _ _ _ _ _ _ _ _ _ _ _ _ r h => by simp [sextonlaw23_MsgApart.j1] at h⟩
  | k + 1 => by
    obtain ⟨ih0, ih1⟩ := sextonlaw23_MsgApart.mono_l k
    refine ⟨?_, ?_⟩
    · intro y0 y1 y2 y3 y4 y5 y6 y7 y8 y9 y10 y11 y12 y13 y14 y15 y16
      unfold sextonlaw23_MsgApart.j0
      repeat' first
      | (with_reducible exact ih0 _ _ _ _ _ _ _ _ _ _ _ _ _ _ _ _ _)
      | (with_reducible exact ih1 _ _ _ _ _ _ _ _ _ _ _ _ _ _ _ _ _ _ _)
      | (with_reducible exact sextonref23_Big.mono _ _ _ _ _ _ _ _ _)
      | (with_reducible exact sextonref23_Same.mono _ _ _ _ _ _ _ _ _ _ _ _ _ _ _ _ _)
      | (with_reducible exact LeO.refl _)
      | (with_reducible exact LeO.none _)
      | (with_reducible refine LeO.ite ?_ ?_)
      | (with_reducible refine LeO.bind ?_ (fun _ => ?_))
      | exact ih0 _ _ _ _ _ _ _ _ _ _ _ _ _ _ _ _ _
      | exact ih1 _ _ _ _ _ _ _ _ _ _ _ _ _ _ _ _ _ _ _
      | exact sextonref23_Big.mono _ _ _ _ _ _ _ _ _
      | exact sextonref23_Same.mono _ _ _ _ _ _ _ _ _ _ _ _ _ _ _ _ _
      | exact LeO.none _
      | refine LeO.ite ?_ ?_
      | refine LeO.bind ?_ (fun _ => ?_)
    · intro y0 y1 y2 y3 y4 y5 y6 y7 y8 y9 y10 y11 y12 y13 y14 y15 y16 y17 y18
      unfold sextonlaw23_MsgApart.j1
      repeat' first
      | (with_reducible exact ih0 _ _ _ _ _ _ _ _ _ _ _ _ _ _ _ _ _)
      | (with_reducible exact ih1 _ _ _ _ _ _ _ _ _ _ _ _ _ _ _ _ _ _ _)
      | (with_reducible exact sextonref23_Big.mono _ _ _ _ _ _ _ _ _)
      | (with_reducible exact sextonref23_Same.mono _ _ _ _ _ _ _ _ _ _ _ _ _ _ _ _ _)
      | (with_reducible exact LeO.refl _)
      | (with_reducible exact LeO.none _)
      | (with_reducible refine LeO.ite ?_ ?_)
      | (with_reducible refine LeO.bind ?_ (fun _ => ?_))
      | exact ih0 _ _ _ _ _ _ _ _ _ _ _ _ _ _ _ _ _
      | exact ih1 _ _ _ _ _ _ _ _ _ _ _ _ _ _ _ _ _ _ _
      | exact sextonref23_Big.mono _ _ _ _ _ _ _ _ _
      | exact sextonref23_Same.mono _ _ _ _ _ _ _ _ _ _ _ _ _ _ _ _ _
      | exact LeO.none _
      | refine LeO.ite ?_ ?_
      | refine LeO.bind ?_ (fun _ => ?_)
theorem sextonlaw23_MsgApart.mono : ∀ a0 a1 a2 a3 a4 a5 a6 a7 a8 a9 a10 a11 a12 a13 a14 a15 k, LeO (sextonlaw23_MsgApart.f k a0 a1 a2 a3 a4 a5 a6 a7 a8 a9 a10 a11 a12 a13 a14 a15) (sextonlaw23_MsgApart.f (k + 1) a0 a1 a2 a3 a4 a5 a6 a7 a8 a9 a10 a11 a12 a13 a14 a15) := by
  intro a0 a1 a2 a3 a4 a5 a6 a7 a8 a9 a10 a11 a12 a13 a14 a15 k
  obtain ⟨ih0, ih1⟩ := sextonlaw23_MsgApart.mono_l k
  unfold sextonlaw23_MsgApart.f
  repeat' first
      | (with_reducible exact ih0 _ _ _ _ _ _ _ _ _ _ _ _ _ _ _ _ _)
      | (with_reducible exact ih1 _ _ _ _ _ _ _ _ _ _ _ _ _ _ _ _ _ _ _)
      | (with_reducible exact sextonref23_Big.mono _ _ _ _ _ _ _ _ _)
      | (with_reducible exact sextonref23_Same.mono _ _ _ _ _ _ _ _ _ _ _ _ _ _ _ _ _)
      | (with_reducible exact LeO.refl _)
      | (with_reducible exact LeO.none _)
      | (with_reducible refine LeO.ite ?_ ?_)
      | (with_reducible refine LeO.bind ?_ (fun _ => ?_))
      | exact ih0 _ _ _ _ _ _ _ _ _ _ _ _ _ _ _ _ _
      | exact ih1 _ _ _ _ _ _ _ _ _ _ _ _ _ _ _ _ _ _ _
      | exact sextonref23_Big.mono _ _ _ _ _ _ _ _ _
      | exact sextonref23_Same.mono _ _ _ _ _ _ _ _ _ _ _ _ _ _ _ _ _
      | exact LeO.none _
      | refine LeO.ite ?_ ?_
      | refine LeO.bind ?_ (fun _ => ?_)
def sextonlaw23_MsgApart.T7 : Bool × List (List Nat × List Nat) := (true, [([], []), ([0, 0], [0]), ([1], [1]), ([1], [1]), ([3, 1], [1, 3]), ([2, 4, 1], [1, 2, 4]), ([1], [1]), ([5, 6, 1], [1, 5, 6]), ([1], [1]), ([1], [1]), ([8, 9, 1, 1], [1, 8, 9]), ([7, 10, 1], [1, 7, 10]), ([1, 11], [1, 11]), ([12, 10, 0, 1, 2, 3, 4, 5, 6, 7, 8, 9, 10, 11, 12], [12])])
def sextonlaw23_MsgApart.B7 : List Nat := [0, 1, 3, 3, 11, 31, 3, 127, 3, 3, 771, 2047, 4095, 8191]
theorem sextonlaw23_MsgApart.tab7 : rtab .any (opsOf Try.f12 7) = sextonlaw23_MsgApart.T7 := by kernel_rfl
theorem sextonlaw23_MsgApart.bits7 : waitsOk sextonlaw23_MsgApart.T7.2 sextonlaw23_MsgApart.B7 = true := by kernel_rfl
set_option maxHeartbeats 8000000 in
set_option maxRecDepth 100000 in
theorem sextonlaw23_MsgApart.calls (k : Nat) (a0_0 : Int) (a0_1 : Int) (a0_2 : Int) (a0_3 : Int) (a0_4 : Int) (a0_5 : Int) (a0_6 : Int) (A0_7 : Option Addr) (c0_7 : Nat) (l0_7 : List ByteArray) (a1_0 : Int) (a1_1 : Int) (a1_2 : Int) (a1_3 : Int) (a1_4 : Int) (a1_5 : Int) (a1_6 : Int) (A1_7 : Option Addr) (c1_7 : Nat) (l1_7 : List ByteArray) (r : Bool) (hrt : r = true := by rfl) (w : World) (hr0_7 : Kd.C Kd.string w A0_7 l0_7.length l0_7) (hc0_7 : l0_7.length ≤ c0_7) (hr1_7 : Kd.C Kd.string w A1_7 l1_7.length l1_7) (hc1_7 : l1_7.length ≤ c1_7) (h : sextonlaw23_MsgApart.f k a0_0 a0_1 a0_2 a0_3 a0_4 a0_5 a0_6 l0_7 a1_0 a1_1 a1_2 a1_3 a1_4 a1_5 a1_6 l1_7 = some r) :
    Calls Try.prog 12 #[.agg #[.int .i64 a0_0, .int .i64 a0_1, .int .i64 a0_2, .int .i64 a0_3, .int .i64 a0_4, .int .i64 a0_5, .int .i64 a0_6, .slice A0_7 l0_7.length c0_7], .agg #[.int .i64 a1_0, .int .i64 a1_1, .int .i64 a1_2, .int .i64 a1_3, .int .i64 a1_4, .int .i64 a1_5, .int .i64 a1_6, .slice A1_7 l1_7.length c1_7]] w fun e w' => e = .returned (.bool r) ∧ Below w.heap.size w w' := by
  have HRT := Aside0.mk hrt
  have hu29 := Try.underlying29
  have HR0_7 := Aside0.mk hr0_7
  have HC0_7 := Aside0.mk hc0_7
  clear hr0_7 hc0_7
  have HR1_7 := Aside0.mk hr1_7
  have HC1_7 := Aside0.mk hc1_7
  clear hr1_7 hc1_7
  have HB := Aside0.mk (Below.refl w.heap.size w)
  have H : ((sextonref23_Big.f k a0_0 a0_1 a0_2 a0_3 a0_4 a0_5 a0_6 l0_7).bind fun t276 => (if t276 = true then (sextonlaw23_MsgApart.j0 k true a0_0 a0_1 a0_2 a0_3 a0_4 a0_5 a0_6 l0_7 a1_0 a1_1 a1_2 a1_3 a1_4 a1_5 a1_6 l1_7) else ((sextonref23_Big.f k a1_0 a1_1 a1_2 a1_3 a1_4 a1_5 a1_6 l1_7).bind fun t277 => (sextonlaw23_MsgApart.j0 k t277 a0_0 a0_1 a0_2 a0_3 a0_4 a0_5 a0_6 l0_7 a1_0 a1_1 a1_2 a1_3 a1_4 a1_5 a1_6 l1_7)))) = some r := h
  clear h
  have HC3 := Aside0.mk H
  clear H
  go_enter Try.func12, Try.ntmps12
  go_upto_region 1 with (first | ((with_reducible refine gate_dst (N := 2) rfl ?_); (try (refine gate_guard (by rfl) ?_; dsimp only)); refine box_event ?hg (N := 2) ?hd (cs := #[.int .i64 a0_0, .int .i64 a0_1, .int .i64 a0_2, .int .i64 a0_3, .int .i64 a0_4, .int .i64 a0_5, .int .i64 a0_6, .slice A0_7 l0_7.length c0_7]) (t := 29) ?hr ?_; (case hd => rfl); (case hg => rfl); (case hr => first | (go_simp; done) | (go_simp; rfl)); intro gb274 hg w4 hbox hb; have n0_ := Aside0.mk (below_step (by repeat (first | (with_reducible first | exact HB.out | apply below_alloc | apply pw_below_drewN | apply below_drew1) | exact HB.out)) hb); have n1_ := Aside0.mk (hbox); have n2_ := Aside0.mk ((by rw [hg]; exact (below_size (by repeat (first | (with_reducible first | exact HB.out | apply below_alloc | apply pw_below_drewN | apply below_drew1) | exact HB.out))) : w.heap.size ≤ gb274)); have n3_ := Aside0.mk ((by rw [hg]; exact (below_size (by repeat (first | (with_reducible first | exact HB.out | apply below_alloc | apply pw_below_drewN | apply below_drew1) | exact HB.out))) : w.heap.size ≤ gb274)); clear HB; have HB := n0_; have BK274 := n1_; have GW274 := n2_; have GE274 := n3_; clear n0_ n1_ n2_ n3_; clear hb hbox hg) | ((with_reducible refine gate_dst (N := 3) rfl ?_); (try (refine gate_guard (by rfl) ?_; dsimp only)); refine box_event ?hg (N := 3) ?hd (cs := #[.int .i64 a1_0, .int .i64 a1_1, .int .i64 a1_2, .int .i64 a1_3, .int .i64 a1_4, .int .i64 a1_5, .int .i64 a1_6, .slice A1_7 l1_7.length c1_7]) (t := 29) ?hr ?_; (case hd => rfl); (case hg => rfl); (case hr => first | (go_simp; done) | (go_simp; rfl)); intro gb275 hg w5 hbox hb; have n0_ := Aside0.mk (blk_below (g := gb274) (o := .cells #[.int .i64 a0_0, .int .i64 a0_1, .int .i64 a0_2, .int .i64 a0_3, .int .i64 a0_4, .int .i64 a0_5, .int .i64 a0_6, .slice A0_7 l0_7.length c0_7] 29 (0, 0)) (by (with_reducible repeat (first | refine blk_drewN ?_ _ | refine blk_drew ?_ | refine blk_alloc ?_ _)); exact BK274.out) hb); have n1_ := Aside0.mk (below_step (by repeat (first | (with_reducible first | exact HB.out | apply below_alloc | apply pw_below_drewN | apply below_drew1 | refine below_set ?_ GE274.out) | exact HB.out)) hb); have n2_ := Aside0.mk (hbox); have n3_ := Aside0.mk ((by rw [hg]; exact (below_size (by repeat (first | (with_reducible first | exact HB.out | apply below_alloc | apply pw_below_drewN | apply below_drew1 | refine below_set ?_ GE274.out) | exact HB.out))) : w.heap.size ≤ gb275)); have n4_ := Aside0.mk ((by rw [hg]; exact (below_size (by repeat (first | (with_reducible first | exact HB.out | apply below_alloc | apply pw_below_drewN | apply below_drew1 | refine below_set ?_ GE274.out) | exact HB.out))) : w.heap.size ≤ gb275)); have n5_ := Aside0.mk ((by rw [hg]; exact Nat.ne_of_lt (blk_lt (g := gb274) (o := .cells #[.int .i64 a0_0, .int .i64 a0_1, .int .i64 a0_2, .int .i64 a0_3, .int .i64 a0_4, .int .i64 a0_5, .int .i64 a0_6, .slice A0_7 l0_7.length c0_7] 29 (0, 0)) (by (with_reducible repeat (first | refine blk_drewN ?_ _ | refine blk_drew ?_ | refine blk_alloc ?_ _)); exact BK274.out)) : gb274 ≠ gb275)); have n6_ := Aside0.mk ((by rw [hg]; exact Nat.ne_of_gt (blk_lt (g := gb274) (o := .cells #[.int .i64 a0_0, .int .i64 a0_1, .int .i64 a0_2, .int .i64 a0_3, .int .i64 a0_4, .int .i64 a0_5, .int .i64 a0_6, .slice A0_7 l0_7.length c0_7] 29 (0, 0)) (by (with_reducible repeat (first | refine blk_drewN ?_ _ | refine blk_drew ?_ | refine blk_alloc ?_ _)); exact BK274.out)) : gb275 ≠ gb274)); clear BK274; clear HB; have BK274 := n0_; have HB := n1_; have BK275 := n2_; have GW275 := n3_; have GE275 := n4_; have NB274_275 := n5_; have NB275_274 := n6_; clear n0_ n1_ n2_ n3_ n4_ n5_ n6_; clear hb hbox hg))
  (try simp only [Act.put, List.setIfInBounds_toArray, List.set_cons_zero, List.set_cons_succ])
  go_cut [14] (fun v14 wc => ∃ (kq : Nat) (x14_2 : Bool), v14 = .bool x14_2 ∧ Aside0 (sextonlaw23_MsgApart.j0 kq x14_2 a0_0 a0_1 a0_2 a0_3 a0_4 a0_5 a0_6 l0_7 a1_0 a1_1 a1_2 a1_3 a1_4 a1_5 a1_6 l1_7 = some r) ∧ Aside0 (kq ≤ k) ∧ Aside0 (wc.heap[gb274]? = some (.cells #[.int .i64 a0_0, .int .i64 a0_1, .int .i64 a0_2, .int .i64 a0_3, .int .i64 a0_4, .int .i64 a0_5, .int .i64 a0_6, (.slice A0_7 l0_7.length c0_7)] 29 (0, 0))) ∧ Aside0 (wc.heap[gb275]? = some (.cells #[.int .i64 a1_0, .int .i64 a1_1, .int .i64 a1_2, .int .i64 a1_3, .int .i64 a1_4, .int .i64 a1_5, .int .i64 a1_6, (.slice A1_7 l1_7.length c1_7)] 29 (0, 0))) ∧ Aside0 (Below w.heap.size w wc))
  case first =>
    have H := HC3.out
    clear HC3
    replace H := Option.bind_eq_some_iff.mp H
    obtain ⟨t276, A60, H⟩ := H
    replace H : (if t276 = true then (sextonlaw23_MsgApart.j0 k true a0_0 a0_1 a0_2 a0_3 a0_4 a0_5 a0_6 l0_7 a1_0 a1_1 a1_2 a1_3 a1_4 a1_5 a1_6 l1_7) else ((sextonref23_Big.f k a1_0 a1_1 a1_2 a1_3 a1_4 a1_5 a1_6 l1_7).bind fun t277 => (sextonlaw23_MsgApart.j0 k t277 a0_0 a0_1 a0_2 a0_3 a0_4 a0_5 a0_6 l0_7 a1_0 a1_1 a1_2 a1_3 a1_4 a1_5 a1_6 l1_7))) = some r := H
    have A6 := Aside0.mk A60
    clear A60
    by_cases c7 : t276 = true
    · subst c7
      have H1 : (sextonlaw23_MsgApart.j0 k true a0_0 a0_1 a0_2 a0_3 a0_4 a0_5 a0_6 l0_7 a1_0 a1_1 a1_2 a1_3 a1_4 a1_5 a1_6 l1_7) = some r := by rw [if_pos rfl] at H; exact H
      clear H
      have H := H1
      clear H1
      have H' := Aside0.mk H
      clear H
      have hnb8 := NB274_275.out
      have hnc8 := NB275_274.out
      have hcz9_0 : w5.cell? ⟨gb274, 0, none⟩ = some (.int .i64 a0_0) := (blk_cell BK274.out 0).trans rfl
      have hcz9_1 : w5.cell? ⟨gb274, 1, none⟩ = some (.int .i64 a0_1) := (blk_cell BK274.out 1).trans rfl
      have hcz9_2 : w5.cell? ⟨gb274, 2, none⟩ = some (.int .i64 a0_2) := (blk_cell BK274.out 2).trans rfl
      have hcz9_3 : w5.cell? ⟨gb274, 3, none⟩ = some (.int .i64 a0_3) := (blk_cell BK274.out 3).trans rfl
      have hcz9_4 : w5.cell? ⟨gb274, 4, none⟩ = some (.int .i64 a0_4) := (blk_cell BK274.out 4).trans rfl
      have hcz9_5 : w5.cell? ⟨gb274, 5, none⟩ = some (.int .i64 a0_5) := (blk_cell BK274.out 5).trans rfl
      have hcz9_6 : w5.cell? ⟨gb274, 6, none⟩ = some (.int .i64 a0_6) := (blk_cell BK274.out 6).trans rfl
      have hcz9_7 : w5.cell? ⟨gb274, 7, none⟩ = some (.slice A0_7 l0_7.length c0_7) := (blk_cell BK274.out 7).trans rfl
      have hfz9_0 := blk_frozen BK274.out 0
      have hfz9_1 := blk_frozen BK274.out 1
      have hfz9_2 := blk_frozen BK274.out 2
      have hfz9_3 := blk_frozen BK274.out 3
      have hfz9_4 := blk_frozen BK274.out 4
      have hfz9_5 := blk_frozen BK274.out 5
      have hfz9_6 := blk_frozen BK274.out 6
      have hfz9_7 := blk_frozen BK274.out 7
      go_wp2_with (first | ((with_reducible refine gate_callee (f := 30) rfl ?_); refine goesL_ (some 10) rfl rfl Try.func30 (by kernel_rfl) rfl #[.agg #[.int .i64 a0_0, .int .i64 a0_1, .int .i64 a0_2, .int .i64 a0_3, .int .i64 a0_4, .int .i64 a0_5, .int .i64 a0_6, .slice A0_7 l0_7.length c0_7]] rfl (by (try simp only [List.map_toArray, List.map_cons, List.map_nil]); first | done | rfl | (simp only [List.length_drop, List.length_take]; rfl)) ?_; (with_reducible refine (sextonref23_Big.calls k a0_0 a0_1 a0_2 a0_3 a0_4 a0_5 a0_6 _ _ l0_7 true _ ?side1 ?side2 A6.out).mono ?_); (case side1 => repeat (first | exact (Kd.C_below HR0_7.out HB.out) | (with_reducible refine Kd.C_alloc ?_ _) | (with_reducible refine Kd.C_drewN ?_ _) | (with_reducible refine Kd.C_drew ?_))); (case side2 => exact HC0_7.out); rintro e w10 ⟨rfl, hb⟩; refine ⟨_, rfl, ?_⟩; have n0_ := Aside0.mk (blk_below (g := gb274) (o := .cells #[.int .i64 a0_0, .int .i64 a0_1, .int .i64 a0_2, .int .i64 a0_3, .int .i64 a0_4, .int .i64 a0_5, .int .i64 a0_6, .slice A0_7 l0_7.length c0_7] 29 (0, 0)) (by (with_reducible repeat (first | refine blk_drewN ?_ _ | refine blk_drew ?_ | refine blk_alloc ?_ _)); exact BK274.out) hb); have n1_ := Aside0.mk (blk_below (g := gb275) (o := .cells #[.int .i64 a1_0, .int .i64 a1_1, .int .i64 a1_2, .int .i64 a1_3, .int .i64 a1_4, .int .i64 a1_5, .int .i64 a1_6, .slice A1_7 l1_7.length c1_7] 29 (0, 0)) (by (with_reducible repeat (first | refine blk_drewN ?_ _ | refine blk_drew ?_ | refine blk_alloc ?_ _)); exact BK275.out) hb); have n2_ := Aside0.mk (below_step (by repeat (first | (with_reducible first | exact HB.out | apply below_alloc | apply pw_below_drewN | apply below_drew1 | refine below_set ?_ GE274.out | refine below_set ?_ GE275.out) | exact HB.out)) hb); clear BK274; clear BK275; clear HB; have BK274 := n0_; have BK275 := n1_; have HB := n2_; clear n0_ n1_ n2_; (try clear hb); (try clear hb2); (try clear hk); (try clear hi)))
      go_meet
      case rel => exact ⟨_, (true), (by first | rfl | (simp; done) | (simp [*]; done)), H', ⟨by first | omega | exact Nat.le_refl _⟩, ⟨by (with_reducible repeat (first | refine blk_drewN ?_ _ | refine blk_drew ?_ | refine blk_alloc ?_ _)); exact BK274.out⟩, ⟨by (with_reducible repeat (first | refine blk_drewN ?_ _ | refine blk_drew ?_ | refine blk_alloc ?_ _)); exact BK275.out⟩, ⟨by repeat (first | (with_reducible first | exact HB.out | apply below_alloc | apply pw_below_drewN | apply below_drew1 | refine below_set ?_ GE274.out | refine below_set ?_ GE275.out) | exact HB.out)⟩⟩
    · replace c7 := Bool.eq_false_iff.mpr c7
      subst c7
      have H1 : ((sextonref23_Big.f k a1_0 a1_1 a1_2 a1_3 a1_4 a1_5 a1_6 l1_7).bind fun t277 => (sextonlaw23_MsgApart.j0 k t277 a0_0 a0_1 a0_2 a0_3 a0_4 a0_5 a0_6 l0_7 a1_0 a1_1 a1_2 a1_3 a1_4 a1_5 a1_6 l1_7)) = some r := by rw [if_neg (show ¬ (false = true) by decide)] at H; exact H
      clear H
      have H := H1
      clear H1
      replace H := Option.bind_eq_some_iff.mp H
      obtain ⟨t277, A110, H⟩ := H
      replace H : (sextonlaw23_MsgApart.j0 k t277 a0_0 a0_1 a0_2 a0_3 a0_4 a0_5 a0_6 l0_7 a1_0 a1_1 a1_2 a1_3 a1_4 a1_5 a1_6 l1_7) = some r := H
      have A11 := Aside0.mk A110
      clear A110
      have H' := Aside0.mk H
      clear H
      have hnb12 := NB274_275.out
      have hnc12 := NB275_274.out
      have hcz13_0 : w5.cell? ⟨gb274, 0, none⟩ = some (.int .i64 a0_0) := (blk_cell BK274.out 0).trans rfl
      have hcz13_1 : w5.cell? ⟨gb274, 1, none⟩ = some (.int .i64 a0_1) := (blk_cell BK274.out 1).trans rfl
      have hcz13_2 : w5.cell? ⟨gb274, 2, none⟩ = some (.int .i64 a0_2) := (blk_cell BK274.out 2).trans rfl
      have hcz13_3 : w5.cell? ⟨gb274, 3, none⟩ = some (.int .i64 a0_3) := (blk_cell BK274.out 3).trans rfl
      have hcz13_4 : w5.cell? ⟨gb274, 4, none⟩ = some (.int .i64 a0_4) := (blk_cell BK274.out 4).trans rfl
      have hcz13_5 : w5.cell? ⟨gb274, 5, none⟩ = some (.int .i64 a0_5) := (blk_cell BK274.out 5).trans rfl
      have hcz13_6 : w5.cell? ⟨gb274, 6, none⟩ = some (.int .i64 a0_6) := (blk_cell BK274.out 6).trans rfl
      have hcz13_7 : w5.cell? ⟨gb274, 7, none⟩ = some (.slice A0_7 l0_7.length c0_7) := (blk_cell BK274.out 7).trans rfl
      have hfz13_0 := blk_frozen BK274.out 0
      have hfz13_1 := blk_frozen BK274.out 1
      have hfz13_2 := blk_frozen BK274.out 2
      have hfz13_3 := blk_frozen BK274.out 3
      have hfz13_4 := blk_frozen BK274.out 4
      have hfz13_5 := blk_frozen BK274.out 5
      have hfz13_6 := blk_frozen BK274.out 6
      have hfz13_7 := blk_frozen BK274.out 7
      go_wp2_with (first | ((with_reducible refine gate_callee (f := 30) rfl ?_); refine goesL_ (some 10) rfl rfl Try.func30 (by kernel_rfl) rfl #[.agg #[.int .i64 a0_0, .int .i64 a0_1, .int .i64 a0_2, .int .i64 a0_3, .int .i64 a0_4, .int .i64 a0_5, .int .i64 a0_6, .slice A0_7 l0_7.length c0_7]] rfl (by (try simp only [List.map_toArray, List.map_cons, List.map_nil]); first | done | rfl | (simp only [List.length_drop, List.length_take]; rfl)) ?_; (with_reducible refine (sextonref23_Big.calls k a0_0 a0_1 a0_2 a0_3 a0_4 a0_5 a0_6 _ _ l0_7 false _ ?side1 ?side2 A6.out).mono ?_); (case side1 => repeat (first | exact (Kd.C_below HR0_7.out HB.out) | (with_reducible refine Kd.C_alloc ?_ _) | (with_reducible refine Kd.C_drewN ?_ _) | (with_reducible refine Kd.C_drew ?_))); (case side2 => exact HC0_7.out); rintro e w14 ⟨rfl, hb⟩; refine ⟨_, rfl, ?_⟩; have n0_ := Aside0.mk (blk_below (g := gb274) (o := .cells #[.int .i64 a0_0, .int .i64 a0_1, .int .i64 a0_2, .int .i64 a0_3, .int .i64 a0_4, .int .i64 a0_5, .int .i64 a0_6, .slice A0_7 l0_7.length c0_7] 29 (0, 0)) (by (with_reducible repeat (first | refine blk_drewN ?_ _ | refine blk_drew ?_ | refine blk_alloc ?_ _)); exact BK274.out) hb); have n1_ := Aside0.mk (blk_below (g := gb275) (o := .cells #[.int .i64 a1_0, .int .i64 a1_1, .int .i64 a1_2, .int .i64 a1_3, .int .i64 a1_4, .int .i64 a1_5, .int .i64 a1_6, .slice A1_7 l1_7.length c1_7] 29 (0, 0)) (by (with_reducible repeat (first | refine blk_drewN ?_ _ | refine blk_drew ?_ | refine blk_alloc ?_ _)); exact BK275.out) hb); have n2_ := Aside0.mk (below_step (by repeat (first | (with_reducible first | exact HB.out | apply below_alloc | apply pw_below_drewN | apply below_drew1 | refine below_set ?_ GE274.out | refine below_set ?_ GE275.out) | exact HB.out)) hb); clear BK274; clear BK275; clear HB; have BK274 := n0_; have BK275 := n1_; have HB := n2_; clear n0_ n1_ n2_; (try clear hb); (try clear hb2); (try clear hk); (try clear hi); have hcz15_0 : w14.cell? ⟨gb275, 0, none⟩ = some (.int .i64 a1_0) := (blk_cell BK275.out 0).trans rfl; have hcz15_1 : w14.cell? ⟨gb275, 1, none⟩ = some (.int .i64 a1_1) := (blk_cell BK275.out 1).trans rfl; have hcz15_2 : w14.cell? ⟨gb275, 2, none⟩ = some (.int .i64 a1_2) := (blk_cell BK275.out 2).trans rfl; have hcz15_3 : w14.cell? ⟨gb275, 3, none⟩ = some (.int .i64 a1_3) := (blk_cell BK275.out 3).trans rfl; have hcz15_4 : w14.cell? ⟨gb275, 4, none⟩ = some (.int .i64 a1_4) := (blk_cell BK275.out 4).trans rfl; have hcz15_5 : w14.cell? ⟨gb275, 5, none⟩ = some (.int .i64 a1_5) := (blk_cell BK275.out 5).trans rfl; have hcz15_6 : w14.cell? ⟨gb275, 6, none⟩ = some (.int .i64 a1_6) := (blk_cell BK275.out 6).trans rfl; have hcz15_7 : w14.cell? ⟨gb275, 7, none⟩ = some (.slice A1_7 l1_7.length c1_7) := (blk_cell BK275.out 7).trans rfl; have hfz15_0 := blk_frozen BK275.out 0; have hfz15_1 := blk_frozen BK275.out 1; have hfz15_2 := blk_frozen BK275.out 2; have hfz15_3 := blk_frozen BK275.out 3; have hfz15_4 := blk_frozen BK275.out 4; have hfz15_5 := blk_frozen BK275.out 5; have hfz15_6 := blk_frozen BK275.out 6; have hfz15_7 := blk_frozen BK275.out 7) | (go_at_call 30; (with_reducible refine (sextonref23_Big.calls k a1_0 a1_1 a1_2 a1_3 a1_4 a1_5 a1_6 _ _ l1_7 t277 _ ?side1 ?side2 A11.out).mono ?_); (case side1 => repeat (first | exact (Kd.C_below HR1_7.out HB.out) | (with_reducible refine Kd.C_alloc ?_ _) | (with_reducible refine Kd.C_drewN ?_ _) | (with_reducible refine Kd.C_drew ?_))); (case side2 => exact HC1_7.out); rintro e w16 ⟨rfl, hb⟩; have n0_ := Aside0.mk (blk_below (g := gb274) (o := .cells #[.int .i64 a0_0, .int .i64 a0_1, .int .i64 a0_2, .int .i64 a0_3, .int .i64 a0_4, .int .i64 a0_5, .int .i64 a0_6, .slice A0_7 l0_7.length c0_7] 29 (0, 0)) (by (with_reducible repeat (first | refine blk_drewN ?_ _ | refine blk_drew ?_ | refine blk_alloc ?_ _)); exact BK274.out) hb); have n1_ := Aside0.mk (blk_below (g := gb275) (o := .cells #[.int .i64 a1_0, .int .i64 a1_1, .int .i64 a1_2, .int .i64 a1_3, .int .i64 a1_4, .int .i64 a1_5, .int .i64 a1_6, .slice A1_7 l1_7.length c1_7] 29 (0, 0)) (by (with_reducible repeat (first | refine blk_drewN ?_ _ | refine blk_drew ?_ | refine blk_alloc ?_ _)); exact BK275.out) hb); have n2_ := Aside0.mk (below_step (by repeat (first | (with_reducible first | exact HB.out | apply below_alloc | apply pw_below_drewN | apply below_drew1 | refine below_set ?_ GE274.out | refine below_set ?_ GE275.out) | exact HB.out)) hb); clear BK274; clear BK275; clear HB; have BK274 := n0_; have BK275 := n1_; have HB := n2_; clear n0_ n1_ n2_; (try clear hb); (try clear hb2); (try clear hk); (try clear hi)))
      go_meet
      case rel => exact ⟨_, (t277), (by first | rfl | (simp; done) | (simp [*]; done)), H', ⟨by first | omega | exact Nat.le_refl _⟩, ⟨by (with_reducible repeat (first | refine blk_drewN ?_ _ | refine blk_drew ?_ | refine blk_alloc ?_ _)); exact BK274.out⟩, ⟨by (with_reducible repeat (first | refine blk_drewN ?_ _ | refine blk_drew ?_ | refine blk_alloc ?_ _)); exact BK275.out⟩, ⟨by repeat (first | (with_reducible first | exact HB.out | apply below_alloc | apply pw_below_drewN | apply below_drew1 | refine below_set ?_ GE274.out | refine below_set ?_ GE275.out) | exact HB.out)⟩⟩
  case rest =>
    clear HC3
    try clear c1
    try clear p2
    try clear c3
    try clear c7
    try clear c8
    try clear c12
    try clear hcz13_0
    try clear hcz13_1
    try clear hcz13_2
    try clear hcz13_3
    try clear hcz13_4
    try clear hcz13_5
    try clear hcz13_6
    try clear hcz13_7
    try clear hcz15_0
    try clear hcz15_1
    try clear hcz15_2
    try clear hcz15_3
    try clear hcz15_4
    try clear hcz15_5
    try clear hcz15_6
    try clear hcz15_7
    try clear hcz9_0
    try clear hcz9_1
    try clear hcz9_2
    try clear hcz9_3
    try clear hcz9_4
    try clear hcz9_5
    try clear hcz9_6
    try clear hcz9_7
    try clear hfz13_0
    try clear hfz13_1
    try clear hfz13_2
    try clear hfz13_3
    try clear hfz13_4
    try clear hfz13_5
    try clear hfz13_6
    try clear hfz13_7
    try clear hfz15_0
    try clear hfz15_1
    try clear hfz15_2
    try clear hfz15_3
    try clear hfz15_4
    try clear hfz15_5
    try clear hfz15_6
    try clear hfz15_7
    try clear hfz9_0
    try clear hfz9_1
    try clear hfz9_2
    try clear hfz9_3
    try clear hfz9_4
    try clear hfz9_5
    try clear hfz9_6
    try clear hfz9_7
    obtain ⟨kq, x14_2, rfl, HA, HJ2, BK274, BK275, HB⟩ := hcut
    cases kq with
    | zero => exact absurd HA.out (by simp [sextonlaw23_MsgApart.j0])
    | succ kj2 =>
      have H := HA.out
      clear HA
      simp only [sextonlaw23_MsgApart.j0] at H
      by_cases c17 : x14_2 = true
      · subst c17
        have H1 : (some true) = some r := by rw [if_pos rfl] at H; exact H
        clear H
        have H := H1
        clear H1
        obtain rfl := Option.some.inj H
        go_wp2
        go_ret
        exact ⟨by first | rfl | (simp [errW_none, errW_some] <;> rfl) | (simp [*, errW_none, errW_some] <;> rfl), by repeat (first | (with_reducible first | exact HB.out | apply below_alloc | apply pw_below_drewN | apply below_drew1 | refine below_set ?_ GE274.out | refine below_set ?_ GE275.out) | exact HB.out)⟩
      · replace c17 := Bool.eq_false_iff.mpr c17
        subst c17
        have H1 : ((msg_Put.f a0_0 a0_1 a0_2 a0_3 a0_4 a0_5 a0_6 l0_7).bind fun bt278 => ((msg_Put.f a1_0 a1_1 a1_2 a1_3 a1_4 a1_5 a1_6 l1_7).bind fun bt280 => (if bt278.2 = 0 then (if bt280.2 = 0 then (sextonlaw23_MsgApart.j1 kj2 bt278.1 bt280.1 (decide ((bt278.1.size : Int) > (bt280.1.size : Int))) a0_0 a0_1 a0_2 a0_3 a0_4 a0_5 a0_6 l0_7 a1_0 a1_1 a1_2 a1_3 a1_4 a1_5 a1_6 l1_7) else (sextonlaw23_MsgApart.j1 kj2 bt278.1 bt280.1 true a0_0 a0_1 a0_2 a0_3 a0_4 a0_5 a0_6 l0_7 a1_0 a1_1 a1_2 a1_3 a1_4 a1_5 a1_6 l1_7)) else (sextonlaw23_MsgApart.j1 kj2 bt278.1 bt280.1 true a0_0 a0_1 a0_2 a0_3 a0_4 a0_5 a0_6 l0_7 a1_0 a1_1 a1_2 a1_3 a1_4 a1_5 a1_6 l1_7)))) = some r := by rw [if_neg (show ¬ (false = true) by decide)] at H; exact H
        clear H
        have H := H1
        clear H1
        replace H := Option.bind_eq_some_iff.mp H
        obtain ⟨⟨t278, t279⟩, A180, H⟩ := H
        replace H : ((msg_Put.f a1_0 a1_1 a1_2 a1_3 a1_4 a1_5 a1_6 l1_7).bind fun bt280 => (if t279 = 0 then (if bt280.2 = 0 then (sextonlaw23_MsgApart.j1 kj2 t278 bt280.1 (decide ((t278.size : Int) > (bt280.1.size : Int))) a0_0 a0_1 a0_2 a0_3 a0_4 a0_5 a0_6 l0_7 a1_0 a1_1 a1_2 a1_3 a1_4 a1_5 a1_6 l1_7) else (sextonlaw23_MsgApart.j1 kj2 t278 bt280.1 true a0_0 a0_1 a0_2 a0_3 a0_4 a0_5 a0_6 l0_7 a1_0 a1_1 a1_2 a1_3 a1_4 a1_5 a1_6 l1_7)) else (sextonlaw23_MsgApart.j1 kj2 t278 bt280.1 true a0_0 a0_1 a0_2 a0_3 a0_4 a0_5 a0_6 l0_7 a1_0 a1_1 a1_2 a1_3 a1_4 a1_5 a1_6 l1_7))) = some r := H
        have A18 := Aside0.mk A180
        clear A180
        replace H := Option.bind_eq_some_iff.mp H
        obtain ⟨⟨t280, t281⟩, A190, H⟩ := H
        replace H : (if t279 = 0 then (if t281 = 0 then (sextonlaw23_MsgApart.j1 kj2 t278 t280 (decide ((t278.size : Int) > (t280.size : Int))) a0_0 a0_1 a0_2 a0_3 a0_4 a0_5 a0_6 l0_7 a1_0 a1_1 a1_2 a1_3 a1_4 a1_5 a1_6 l1_7) else (sextonlaw23_MsgApart.j1 kj2 t278 t280 true a0_0 a0_1 a0_2 a0_3 a0_4 a0_5 a0_6 l0_7 a1_0 a1_1 a1_2 a1_3 a1_4 a1_5 a1_6 l1_7)) else (sextonlaw23_MsgApart.j1 kj2 t278 t280 true a0_0 a0_1 a0_2 a0_3 a0_4 a0_5 a0_6 l0_7 a1_0 a1_1 a1_2 a1_3 a1_4 a1_5 a1_6 l1_7)) = some r := H
        have A19 := Aside0.mk A190
        clear A190
        have HC20 := Aside0.mk H
        clear H
        have hnb21 := NB274_275.out
        have hnc21 := NB275_274.out
        have hcz22_0 : wc.cell? ⟨gb274, 0, none⟩ = some (.int .i64 a0_0) := (blk_cell BK274.out 0).trans rfl
        have hcz22_1 : wc.cell? ⟨gb274, 1, none⟩ = some (.int .i64 a0_1) := (blk_cell BK274.out 1).trans rfl
        have hcz22_2 : wc.cell? ⟨gb274, 2, none⟩ = some (.int .i64 a0_2) := (blk_cell BK274.out 2).trans rfl
        have hcz22_3 : wc.cell? ⟨gb274, 3, none⟩ = some (.int .i64 a0_3) := (blk_cell BK274.out 3).trans rfl
        have hcz22_4 : wc.cell? ⟨gb274, 4, none⟩ = some (.int .i64 a0_4) := (blk_cell BK274.out 4).trans rfl
        have hcz22_5 : wc.cell? ⟨gb274, 5, none⟩ = some (.int .i64 a0_5) := (blk_cell BK274.out 5).trans rfl
        have hcz22_6 : wc.cell? ⟨gb274, 6, none⟩ = some (.int .i64 a0_6) := (blk_cell BK274.out 6).trans rfl
        have hcz22_7 : wc.cell? ⟨gb274, 7, none⟩ = some (.slice A0_7 l0_7.length c0_7) := (blk_cell BK274.out 7).trans rfl
        have hfz22_0 := blk_frozen BK274.out 0
        have hfz22_1 := blk_frozen BK274.out 1
        have hfz22_2 := blk_frozen BK274.out 2
        have hfz22_3 := blk_frozen BK274.out 3
        have hfz22_4 := blk_frozen BK274.out 4
        have hfz22_5 := blk_frozen BK274.out 5
        have hfz22_6 := blk_frozen BK274.out 6
        have hfz22_7 := blk_frozen BK274.out 7
        go_upto_region 5 with (first | ((with_reducible refine gate_callee (f := 31) rfl ?_); refine goesL_ (some 17) rfl rfl Try.func31 (by kernel_rfl) rfl #[.agg #[.int .i64 a0_0, .int .i64 a0_1, .int .i64 a0_2, .int .i64 a0_3, .int .i64 a0_4, .int .i64 a0_5, .int .i64 a0_6, .slice A0_7 l0_7.length c0_7]] rfl (by (try simp only [List.map_toArray, List.map_cons, List.map_nil]); first | done | rfl | (simp only [List.length_drop, List.length_take]; rfl)) ?_; (with_reducible refine (msg_Put.calls a0_0 a0_1 a0_2 a0_3 a0_4 a0_5 a0_6 _ _ l0_7 t278 t279 _ ?side1 ?side2 A18.out).mono ?_); (case side1 => repeat (first | exact (Kd.C_below HR0_7.out HB.out) | (with_reducible refine Kd.C_alloc ?_ _) | (with_reducible refine Kd.C_drewN ?_ _) | (with_reducible refine Kd.C_drew ?_))); (case side2 => exact HC0_7.out); rintro e w23 ⟨rfl, hb⟩; refine ⟨_, rfl, ?_⟩; have n0_ := Aside0.mk (blk_below (g := gb274) (o := .cells #[.int .i64 a0_0, .int .i64 a0_1, .int .i64 a0_2, .int .i64 a0_3, .int .i64 a0_4, .int .i64 a0_5, .int .i64 a0_6, .slice A0_7 l0_7.length c0_7] 29 (0, 0)) (by (with_reducible repeat (first | refine blk_drewN ?_ _ | refine blk_drew ?_ | refine blk_alloc ?_ _)); exact BK274.out) hb); have n1_ := Aside0.mk (blk_below (g := gb275) (o := .cells #[.int .i64 a1_0, .int .i64 a1_1, .int .i64 a1_2, .int .i64 a1_3, .int .i64 a1_4, .int .i64 a1_5, .int .i64 a1_6, .slice A1_7 l1_7.length c1_7] 29 (0, 0)) (by (with_reducible repeat (first | refine blk_drewN ?_ _ | refine blk_drew ?_ | refine blk_alloc ?_ _)); exact BK275.out) hb); have n2_ := Aside0.mk (below_step (by repeat (first | (with_reducible first | exact HB.out | apply below_alloc | apply pw_below_drewN | apply below_drew1 | refine below_set ?_ GE274.out | refine below_set ?_ GE275.out) | exact HB.out)) hb); clear BK274; clear BK275; clear HB; have BK274 := n0_; have BK275 := n1_; have HB := n2_; clear n0_ n1_ n2_; (try clear hb); (try clear hb2); (try clear hk); (try clear hi); have hcz24_0 : w23.cell? ⟨gb275, 0, none⟩ = some (.int .i64 a1_0) := (blk_cell BK275.out 0).trans rfl; have hcz24_1 : w23.cell? ⟨gb275, 1, none⟩ = some (.int .i64 a1_1) := (blk_cell BK275.out 1).trans rfl; have hcz24_2 : w23.cell? ⟨gb275, 2, none⟩ = some (.int .i64 a1_2) := (blk_cell BK275.out 2).trans rfl; have hcz24_3 : w23.cell? ⟨gb275, 3, none⟩ = some (.int .i64 a1_3) := (blk_cell BK275.out 3).trans rfl; have hcz24_4 : w23.cell? ⟨gb275, 4, none⟩ = some (.int .i64 a1_4) := (blk_cell BK275.out 4).trans rfl; have hcz24_5 : w23.cell? ⟨gb275, 5, none⟩ = some (.int .i64 a1_5) := (blk_cell BK275.out 5).trans rfl; have hcz24_6 : w23.cell? ⟨gb275, 6, none⟩ = some (.int .i64 a1_6) := (blk_cell BK275.out 6).trans rfl; have hcz24_7 : w23.cell? ⟨gb275, 7, none⟩ = some (.slice A1_7 l1_7.length c1_7) := (blk_cell BK275.out 7).trans rfl; have hfz24_0 := blk_frozen BK275.out 0; have hfz24_1 := blk_frozen BK275.out 1; have hfz24_2 := blk_frozen BK275.out 2; have hfz24_3 := blk_frozen BK275.out 3; have hfz24_4 := blk_frozen BK275.out 4; have hfz24_5 := blk_frozen BK275.out 5; have hfz24_6 := blk_frozen BK275.out 6; have hfz24_7 := blk_frozen BK275.out 7) | ((with_reducible refine gate_callee (f := 31) rfl ?_); refine goesL_ (some 22) rfl rfl Try.func31 (by kernel_rfl) rfl #[.agg #[.int .i64 a1_0, .int .i64 a1_1, .int .i64 a1_2, .int .i64 a1_3, .int .i64 a1_4, .int .i64 a1_5, .int .i64 a1_6, .slice A1_7 l1_7.length c1_7]] rfl (by (try simp only [List.map_toArray, List.map_cons, List.map_nil]); first | done | rfl | (simp only [List.length_drop, List.length_take]; rfl)) ?_; (with_reducible refine (msg_Put.calls a1_0 a1_1 a1_2 a1_3 a1_4 a1_5 a1_6 _ _ l1_7 t280 t281 _ ?side1 ?side2 A19.out).mono ?_); (case side1 => repeat (first | exact (Kd.C_below HR1_7.out HB.out) | (with_reducible refine Kd.C_alloc ?_ _) | (with_reducible refine Kd.C_drewN ?_ _) | (with_reducible refine Kd.C_drew ?_))); (case side2 => exact HC1_7.out); rintro e w25 ⟨rfl, hb⟩; refine ⟨_, rfl, ?_⟩; have n0_ := Aside0.mk (blk_below (g := gb274) (o := .cells #[.int .i64 a0_0, .int .i64 a0_1, .int .i64 a0_2, .int .i64 a0_3, .int .i64 a0_4, .int .i64 a0_5, .int .i64 a0_6, .slice A0_7 l0_7.length c0_7] 29 (0, 0)) (by (with_reducible repeat (first | refine blk_drewN ?_ _ | refine blk_drew ?_ | refine blk_alloc ?_ _)); exact BK274.out) hb); have n1_ := Aside0.mk (blk_below (g := gb275) (o := .cells #[.int .i64 a1_0, .int .i64 a1_1, .int .i64 a1_2, .int .i64 a1_3, .int .i64 a1_4, .int .i64 a1_5, .int .i64 a1_6, .slice A1_7 l1_7.length c1_7] 29 (0, 0)) (by (with_reducible repeat (first | refine blk_drewN ?_ _ | refine blk_drew ?_ | refine blk_alloc ?_ _)); exact BK275.out) hb); have n2_ := Aside0.mk (below_step (by repeat (first | (with_reducible first | exact HB.out | apply below_alloc | apply pw_below_drewN | apply below_drew1 | refine below_set ?_ GE274.out | refine below_set ?_ GE275.out) | exact HB.out)) hb); clear BK274; clear BK275; clear HB; have BK274 := n0_; have BK275 := n1_; have HB := n2_; clear n0_ n1_ n2_; (try clear hb); (try clear hb2); (try clear hk); (try clear hi)))
        (try simp only [Act.put, List.setIfInBounds_toArray, List.set_cons_zero, List.set_cons_succ])
        go_cut [37] (fun v37 wc => ∃ (kq : Nat) (x37_19 : Bool), v37 = .bool x37_19 ∧ Aside0 (sextonlaw23_MsgApart.j1 kq t278 t280 x37_19 a0_0 a0_1 a0_2 a0_3 a0_4 a0_5 a0_6 l0_7 a1_0 a1_1 a1_2 a1_3 a1_4 a1_5 a1_6 l1_7 = some r) ∧ Aside0 (kq ≤ kj2) ∧ Aside0 (wc.heap[gb274]? = some (.cells #[.int .i64 a0_0, .int .i64 a0_1, .int .i64 a0_2, .int .i64 a0_3, .int .i64 a0_4, .int .i64 a0_5, .int .i64 a0_6, (.slice A0_7 l0_7.length c0_7)] 29 (0, 0))) ∧ Aside0 (wc.heap[gb275]? = some (.cells #[.int .i64 a1_0, .int .i64 a1_1, .int .i64 a1_2, .int .i64 a1_3, .int .i64 a1_4, .int .i64 a1_5, .int .i64 a1_6, (.slice A1_7 l1_7.length c1_7)] 29 (0, 0))) ∧ Aside0 (Below w.heap.size w wc))
        case first =>
          have H := HC20.out
          clear HC20
          by_cases c26 : t279 = 0
          · rw [if_pos c26] at H
            have c26b0 : (t279 == 0) = true := beq_iff_eq.mpr c26
            have c26b1 : (t279 != 0) = false := bne_eq_false_iff_eq.mpr c26
            clear c26
            (first | rw [c26b0] | (simp only [i64_w, i32_w]; rw [c26b0]) | skip)
            by_cases c27 : t281 = 0
            · rw [if_pos c27] at H
              have c27b0 : (t281 == 0) = true := beq_iff_eq.mpr c27
              have c27b1 : (t281 != 0) = false := bne_eq_false_iff_eq.mpr c27
              clear c27
              have H' := Aside0.mk H
              clear H
              go_wp2
              go_meet
              case rel => exact ⟨_, (decide ((t278.size : Int) > (t280.size : Int))), (by first | rfl | (simp; done) | (simp [*]; done)), H', ⟨by have := HJ2.out; first | omega | exact Nat.le_refl _⟩, ⟨by (with_reducible repeat (first | refine blk_drewN ?_ _ | refine blk_drew ?_ | refine blk_alloc ?_ _)); exact BK274.out⟩, ⟨by (with_reducible repeat (first | refine blk_drewN ?_ _ | refine blk_drew ?_ | refine blk_alloc ?_ _)); exact BK275.out⟩, ⟨by repeat (first | (with_reducible first | exact HB.out | apply below_alloc | apply pw_below_drewN | apply below_drew1 | refine below_set ?_ GE274.out | refine below_set ?_ GE275.out) | exact HB.out)⟩⟩
            · rw [if_neg c27] at H
              have c27b0 : (t281 == 0) = false := beq_eq_false_iff_ne.mpr c27
              have c27b1 : (t281 != 0) = true := bne_iff_ne.mpr c27
              have H' := Aside0.mk H
              clear H
              go_wp2
              go_meet
              case rel => exact ⟨_, (true), (by first | rfl | (simp; done) | (simp [*]; done)), H', ⟨by have := HJ2.out; first | omega | exact Nat.le_refl _⟩, ⟨by (with_reducible repeat (first | refine blk_drewN ?_ _ | refine blk_drew ?_ | refine blk_alloc ?_ _)); exact BK274.out⟩, ⟨by (with_reducible repeat (first | refine blk_drewN ?_ _ | refine blk_drew ?_ | refine blk_alloc ?_ _)); exact BK275.out⟩, ⟨by repeat (first | (with_reducible first | exact HB.out | apply below_alloc | apply pw_below_drewN | apply below_drew1 | refine below_set ?_ GE274.out | refine below_set ?_ GE275.out) | exact HB.out)⟩⟩
          · rw [if_neg c26] at H
            have c26b0 : (t279 == 0) = false := beq_eq_false_iff_ne.mpr c26
            have c26b1 : (t279 != 0) = true := bne_iff_ne.mpr c26
            (first | rw [c26b0] | (simp only [i64_w, i32_w]; rw [c26b0]) | skip)
            have H' := Aside0.mk H
            clear H
            go_wp2
            go_meet
            case rel => exact ⟨_, (true), (by first | rfl | (simp; done) | (simp [*]; done)), H', ⟨by have := HJ2.out; first | omega | exact Nat.le_refl _⟩, ⟨by (with_reducible repeat (first | refine blk_drewN ?_ _ | refine blk_drew ?_ | refine blk_alloc ?_ _)); exact BK274.out⟩, ⟨by (with_reducible repeat (first | refine blk_drewN ?_ _ | refine blk_drew ?_ | refine blk_alloc ?_ _)); exact BK275.out⟩, ⟨by repeat (first | (with_reducible first | exact HB.out | apply below_alloc | apply pw_below_drewN | apply below_drew1 | refine below_set ?_ GE274.out | refine below_set ?_ GE275.out) | exact HB.out)⟩⟩
        case rest =>
          clear HC20
          try clear c1
          try clear c2
          try clear p2
          try clear c3
          try clear c7
          try clear c8
          try clear c12
          try clear c17
          try clear c21
          try clear c26
          try clear c26b0
          try clear c26b1
          try clear c27
          try clear c27b0
          try clear c27b1
          try clear hcz13_0
          try clear hcz13_1
          try clear hcz13_2
          try clear hcz13_3
          try clear hcz13_4
          try clear hcz13_5
          try clear hcz13_6
          try clear hcz13_7
          try clear hcz15_0
          try clear hcz15_1
          try clear hcz15_2
          try clear hcz15_3
          try clear hcz15_4
          try clear hcz15_5
          try clear hcz15_6
          try clear hcz15_7
          try clear hcz22_0
          try clear hcz22_1
          try clear hcz22_2
          try clear hcz22_3
          try clear hcz22_4
          try clear hcz22_5
          try clear hcz22_6
          try clear hcz22_7
          try clear hcz24_0
          try clear hcz24_1
          try clear hcz24_2
          try clear hcz24_3
          try clear hcz24_4
          try clear hcz24_5
          try clear hcz24_6
          try clear hcz24_7
          try clear hcz9_0
          try clear hcz9_1
          try clear hcz9_2
          try clear hcz9_3
          try clear hcz9_4
          try clear hcz9_5
          try clear hcz9_6
          try clear hcz9_7
          try clear hfz13_0
          try clear hfz13_1
          try clear hfz13_2
          try clear hfz13_3
          try clear hfz13_4
          try clear hfz13_5
          try clear hfz13_6
          try clear hfz13_7
          try clear hfz15_0
          try clear hfz15_1
          try clear hfz15_2
          try clear hfz15_3
          try clear hfz15_4
          try clear hfz15_5
          try clear hfz15_6
          try clear hfz15_7
          try clear hfz22_0
          try clear hfz22_1
          try clear hfz22_2
          try clear hfz22_3
          try clear hfz22_4
          try clear hfz22_5
          try clear hfz22_6
          try clear hfz22_7
          try clear hfz24_0
          try clear hfz24_1
          try clear hfz24_2
          try clear hfz24_3
          try clear hfz24_4
          try clear hfz24_5
          try clear hfz24_6
          try clear hfz24_7
          try clear hfz9_0
          try clear hfz9_1
          try clear hfz9_2
          try clear hfz9_3
          try clear hfz9_4
          try clear hfz9_5
          try clear hfz9_6
          try clear hfz9_7
          try clear p2
          obtain ⟨kq, x37_19, rfl, HA, HJ19, BK274, BK275, HB⟩ := hcut
          cases kq with
          | zero => exact absurd HA.out (by simp [sextonlaw23_MsgApart.j1])
          | succ kj19 =>
            have H := HA.out
            clear HA
            simp only [sextonlaw23_MsgApart.j1] at H
            by_cases c28 : x37_19 = true
            · subst c28
              have H1 : ((sextonlaw23_sent.f).bind fun t282 => (some t282)) = some r := by rw [if_pos rfl] at H; exact H
              clear H
              have H := H1
              clear H1
              replace H := Option.bind_eq_some_iff.mp H
              obtain ⟨t282, A290, H⟩ := H
              replace H : (some t282) = some r := H
              have A29 := Aside0.mk A290
              clear A290
              obtain rfl := Option.some.inj H
              go_wp2_with (first | ((with_reducible refine gate_callee (f := 35) rfl ?_); refine goesL_ (some 38) rfl rfl Try.func35 (by kernel_rfl) rfl #[] rfl (by (try simp only [List.map_toArray, List.map_cons, List.map_nil]); first | done | rfl | (simp only [List.length_drop, List.length_take]; rfl)) ?_; (with_reducible refine (sextonlaw23_sent.calls  t282 _ A29.out).mono ?_); rintro e w30 ⟨rfl, hb⟩; refine ⟨_, rfl, ?_⟩; have n0_ := Aside0.mk (blk_below (g := gb274) (o := .cells #[.int .i64 a0_0, .int .i64 a0_1, .int .i64 a0_2, .int .i64 a0_3, .int .i64 a0_4, .int .i64 a0_5, .int .i64 a0_6, .slice A0_7 l0_7.length c0_7] 29 (0, 0)) (by (with_reducible repeat (first | refine blk_drewN ?_ _ | refine blk_drew ?_ | refine blk_alloc ?_ _)); exact BK274.out) hb); have n1_ := Aside0.mk (blk_below (g := gb275) (o := .cells #[.int .i64 a1_0, .int .i64 a1_1, .int .i64 a1_2, .int .i64 a1_3, .int .i64 a1_4, .int .i64 a1_5, .int .i64 a1_6, .slice A1_7 l1_7.length c1_7] 29 (0, 0)) (by (with_reducible repeat (first | refine blk_drewN ?_ _ | refine blk_drew ?_ | refine blk_alloc ?_ _)); exact BK275.out) hb); have n2_ := Aside0.mk (below_step (by repeat (first | (with_reducible first | exact HB.out | apply below_alloc | apply pw_below_drewN | apply below_drew1 | refine below_set ?_ GE274.out | refine below_set ?_ GE275.out) | exact HB.out)) hb); clear BK274; clear BK275; clear HB; have BK274 := n0_; have BK275 := n1_; have HB := n2_; clear n0_ n1_ n2_; (try clear hb); (try clear hb2); (try clear hk); (try clear hi)))
              go_ret
              exact ⟨by first | rfl | (simp [errW_none, errW_some] <;> rfl) | (simp [*, errW_none, errW_some] <;> rfl), by repeat (first | (with_reducible first | exact HB.out | apply below_alloc | apply pw_below_drewN | apply below_drew1 | refine below_set ?_ GE274.out | refine below_set ?_ GE275.out) | exact HB.out)⟩
            · replace c28 := Bool.eq_false_iff.mpr c28
              subst c28
              have H1 : ((sextonlaw23_sent.f).bind fun t283 => (if t283 = true then (if 0 ≤ (t278.size : Int) then (if (t278.size : Int) ≤ (t280.size : Int) then ((sextonref23_Same.f kj19 a0_0 a0_1 a0_2 a0_3 a0_4 a0_5 a0_6 l0_7 a1_0 a1_1 a1_2 a1_3 a1_4 a1_5 a1_6 l1_7).bind fun t284 => (some (((t280.extract 0 ((t278.size : Int) : Int).toNat).toList == t278.toList) == t284))) else (none)) else (none)) else (some false))) = some r := by rw [if_neg (show ¬ (false = true) by decide)] at H; exact H
              clear H
              have H := H1
              clear H1
              replace H := Option.bind_eq_some_iff.mp H
              obtain ⟨t283, A310, H⟩ := H
              replace H : (if t283 = true then (if 0 ≤ (t278.size : Int) then (if (t278.size : Int) ≤ (t280.size : Int) then ((sextonref23_Same.f kj19 a0_0 a0_1 a0_2 a0_3 a0_4 a0_5 a0_6 l0_7 a1_0 a1_1 a1_2 a1_3 a1_4 a1_5 a1_6 l1_7).bind fun t284 => (some (((t280.extract 0 ((t278.size : Int) : Int).toNat).toList == t278.toList) == t284))) else (none)) else (none)) else (some false)) = some r := H
              have A31 := Aside0.mk A310
              clear A310
              by_cases c32 : t283 = true
              · subst c32
                have H1 : (if 0 ≤ (t278.size : Int) then (if (t278.size : Int) ≤ (t280.size : Int) then ((sextonref23_Same.f kj19 a0_0 a0_1 a0_2 a0_3 a0_4 a0_5 a0_6 l0_7 a1_0 a1_1 a1_2 a1_3 a1_4 a1_5 a1_6 l1_7).bind fun t284 => (some (((t280.extract 0 ((t278.size : Int) : Int).toNat).toList == t278.toList) == t284))) else (none)) else (none)) = some r := by rw [if_pos rfl] at H; exact H
                clear H
                have H := H1
                clear H1
                by_cases c33 : 0 ≤ (t278.size : Int)
                · rw [if_pos c33] at H
                  have c33b0 := eq_true c33
                  have c33b1 : decide (0 ≤ (t278.size : Int)) = true := decide_eq_true c33
                  clear c33
                  by_cases c34 : (t278.size : Int) ≤ (t280.size : Int)
                  · rw [if_pos c34] at H
                    have c34b0 := eq_true c34
                    have c34b1 : decide ((t278.size : Int) ≤ (t280.size : Int)) = true := decide_eq_true c34
                    clear c34
                    replace H := Option.bind_eq_some_iff.mp H
                    obtain ⟨t284, A350, H⟩ := H
                    replace H : (some (((t280.extract 0 ((t278.size : Int) : Int).toNat).toList == t278.toList) == t284)) = some r := H
                    have A35 := Aside0.mk A350
                    clear A350
                    obtain rfl := Option.some.inj H
                    try go_wp2
                    have n0_ := Aside0.mk (blk_drew BK274.out)
                    have n1_ := Aside0.mk (blk_drew BK275.out)
                    have n2_ := Aside0.mk (below_drew1 HB.out)
                    clear BK274
                    clear BK275
                    clear HB
                    have BK274 := n0_
                    have BK275 := n1_
                    have HB := n2_
                    clear n0_ n1_ n2_
                    refine start_ (n := 14) (S := fun w' => w'.cell? ⟨gb274, 0, none⟩ = some (.int .i64 a0_0) ∧ w'.cell? ⟨gb274, 1, none⟩ = some (.int .i64 a0_1) ∧ w'.cell? ⟨gb274, 2, none⟩ = some (.int .i64 a0_2) ∧ w'.cell? ⟨gb274, 3, none⟩ = some (.int .i64 a0_3) ∧ w'.cell? ⟨gb274, 4, none⟩ = some (.int .i64 a0_4) ∧ w'.cell? ⟨gb274, 5, none⟩ = some (.int .i64 a0_5) ∧ w'.cell? ⟨gb274, 6, none⟩ = some (.int .i64 a0_6) ∧ w'.cell? ⟨gb274, 7, none⟩ = some (.slice A0_7 l0_7.length c0_7) ∧ w'.cell? ⟨gb275, 0, none⟩ = some (.int .i64 a1_0) ∧ w'.cell? ⟨gb275, 1, none⟩ = some (.int .i64 a1_1) ∧ w'.cell? ⟨gb275, 2, none⟩ = some (.int .i64 a1_2) ∧ w'.cell? ⟨gb275, 3, none⟩ = some (.int .i64 a1_3) ∧ w'.cell? ⟨gb275, 4, none⟩ = some (.int .i64 a1_4) ∧ w'.cell? ⟨gb275, 5, none⟩ = some (.int .i64 a1_5) ∧ w'.cell? ⟨gb275, 6, none⟩ = some (.int .i64 a1_6) ∧ w'.cell? ⟨gb275, 7, none⟩ = some (.slice A1_7 l1_7.length c1_7)) (ds := []) #[false, false, false, false, false, false, false, false, false, false, false, false, false, false] (by kernel_rfl) rfl rfl ⟨(blk_cell BK274.out 0).trans rfl, (blk_cell BK274.out 1).trans rfl, (blk_cell BK274.out 2).trans rfl, (blk_cell BK274.out 3).trans rfl, (blk_cell BK274.out 4).trans rfl, (blk_cell BK274.out 5).trans rfl, (blk_cell BK274.out 6).trans rfl, (blk_cell BK274.out 7).trans rfl, (blk_cell BK275.out 0).trans rfl, (blk_cell BK275.out 1).trans rfl, (blk_cell BK275.out 2).trans rfl, (blk_cell BK275.out 3).trans rfl, (blk_cell BK275.out 4).trans rfl, (blk_cell BK275.out 5).trans rfl, (blk_cell BK275.out 6).trans rfl, (blk_cell BK275.out 7).trans rfl⟩ (fun hHeld => ?_); refine with_tabW sextonlaw23_MsgApart.tab7 sextonlaw23_MsgApart.bits7 (fun HT_ HW_ => ?_)
                    generalize wc.drew = w36 at BK274 BK275 HB hHeld ⊢
                    refine one_ (i := 0) (N := some 39) #[true, false, false, false, false, false, false, false, false, false, false, false, false, false] rfl rfl (one_of HT_.out (by kernel_rfl)) (by decide) (fun K hK => ?_)
                    refine goes_ Try.func35 (by kernel_rfl) rfl #[] (by rfl) rfl rfl (by (try simp only [List.map_toArray, List.map_cons, List.map_nil]); first | done | rfl | (simp only [List.length_drop, List.length_take]; rfl)) ?_
                    with_reducible refine (sextonlaw23_sent.calls  true _ A31.out).mono ?_
                    rintro e w37 ⟨rfl, hb⟩
                    refine ⟨_, rfl, ?_⟩
                    have n0_ := Aside0.mk (blk_below (g := gb274) (o := .cells #[.int .i64 a0_0, .int .i64 a0_1, .int .i64 a0_2, .int .i64 a0_3, .int .i64 a0_4, .int .i64 a0_5, .int .i64 a0_6, .slice A0_7 l0_7.length c0_7] 29 (0, 0)) (by (with_reducible repeat (first | refine blk_drewN ?_ _ | refine blk_drew ?_ | refine blk_alloc ?_ _)); exact BK274.out) hb)
                    have n1_ := Aside0.mk (blk_below (g := gb275) (o := .cells #[.int .i64 a1_0, .int .i64 a1_1, .int .i64 a1_2, .int .i64 a1_3, .int .i64 a1_4, .int .i64 a1_5, .int .i64 a1_6, .slice A1_7 l1_7.length c1_7] 29 (0, 0)) (by (with_reducible repeat (first | refine blk_drewN ?_ _ | refine blk_drew ?_ | refine blk_alloc ?_ _)); exact BK275.out) hb)
                    have n2_ := Aside0.mk (below_step (by repeat (first | (with_reducible first | exact HB.out | apply below_alloc | apply pw_below_drewN | apply below_drew1 | refine below_set ?_ GE274.out | refine below_set ?_ GE275.out) | exact HB.out)) hb)
                    clear BK274
                    clear BK275
                    clear HB
                    have BK274 := n0_
                    have BK275 := n1_
                    have HB := n2_
                    clear n0_ n1_ n2_
                    (try clear hb)
                    (try clear hb2)
                    (try clear hk)
                    (try clear hi)
                    refine hK.out _ _ ⟨(blk_cell BK274.out 0).trans rfl, (blk_cell BK274.out 1).trans rfl, (blk_cell BK274.out 2).trans rfl, (blk_cell BK274.out 3).trans rfl, (blk_cell BK274.out 4).trans rfl, (blk_cell BK274.out 5).trans rfl, (blk_cell BK274.out 6).trans rfl, (blk_cell BK274.out 7).trans rfl, (blk_cell BK275.out 0).trans rfl, (blk_cell BK275.out 1).trans rfl, (blk_cell BK275.out 2).trans rfl, (blk_cell BK275.out 3).trans rfl, (blk_cell BK275.out 4).trans rfl, (blk_cell BK275.out 5).trans rfl, (blk_cell BK275.out 6).trans rfl, (blk_cell BK275.out 7).trans rfl⟩ (fun hHeld => ?_)
                    clear hK K
                    refine norm_ (a' := ?_) ?_ ?_
                    rotate_left
                    · show Act.put _ (some 39) _ = _
                      simp only [Act.put, List.setIfInBounds_toArray, List.set_cons_zero, List.set_cons_succ, i64_w, i32_w]
                      rfl
                    refine pure_ (i := 1) (N := some 40) (v := ?_) (a' := ?_) #[true, true, false, false, false, false, false, false, false, false, false, false, false, false] rfl rfl (any_of HT_.out (by kernel_rfl)) (fun _ _ _ h => h) (Or.inl ⟨by rfl, ?_⟩) ?_ ?_
                    rotate_left
                    · intro w'
                      go_simp
                      with_reducible rfl
                    rotate_left
                    · simp only [Act.put, List.setIfInBounds_toArray, List.set_cons_zero, List.set_cons_succ, i64_w, i32_w]
                      rfl
                    refine pure_ (i := 2) (N := some 41) (v := ?_) (a' := ?_) #[true, true, true, false, false, false, false, false, false, false, false, false, false, false] rfl rfl (any_of HT_.out (by kernel_rfl)) (fun _ _ _ h => h) (Or.inl ⟨by rfl, ?_⟩) ?_ ?_
                    rotate_left
                    · intro w'
                      go_simp
                      with_reducible rfl
                    rotate_left
                    · simp only [Act.put, List.setIfInBounds_toArray, List.set_cons_zero, List.set_cons_succ, i64_w, i32_w]
                      rfl
                    refine pure_ (i := 3) (N := some 42) (v := ?_) (a' := ?_) #[true, true, true, true, false, false, false, false, false, false, false, false, false, false] rfl rfl (any_of HT_.out (by kernel_rfl)) (fun _ _ _ h => h) (Or.inl ⟨by rfl, ?_⟩) ?_ ?_
                    rotate_left
                    · intro w'
                      go_simp
                      with_reducible rfl
                    rotate_left
                    · simp only [Act.put, List.setIfInBounds_toArray, List.set_cons_zero, List.set_cons_succ, i64_w, i32_w]
                      rfl
                    refine pure_ (i := 4) (N := some 43) (v := ?_) (a' := ?_) #[true, true, true, true, true, false, false, false, false, false, false, false, false, false] rfl rfl (any_of HT_.out (by kernel_rfl)) (fun _ _ _ h => h) (Or.inl ⟨by rfl, ?_⟩) ?_ ?_
                    rotate_left
                    · intro w'
                      go_simp
                      with_reducible rfl
                    rotate_left
                    · simp only [Act.put, List.setIfInBounds_toArray, List.set_cons_zero, List.set_cons_succ, i64_w, i32_w]
                      rfl
                    refine pure_ (i := 5) (N := some 44) (v := ?_) (a' := ?_) #[true, true, true, true, true, true, false, false, false, false, false, false, false, false] rfl rfl (any_of HT_.out (by kernel_rfl)) (fun _ _ _ h => h) (Or.inl ⟨by rfl, ?_⟩) ?_ ?_
                    rotate_left
                    · intro w'
                      go_simp
                      with_reducible rfl
                    rotate_left
                    · simp only [Act.put, List.setIfInBounds_toArray, List.set_cons_zero, List.set_cons_succ, i64_w, i32_w]
                      rfl
                    refine pure_ (i := 6) (N := some 45) (v := ?_) (a' := ?_) #[true, true, true, true, true, true, true, false, false, false, false, false, false, false] rfl rfl (any_of HT_.out (by kernel_rfl)) (fun _ _ _ h => h) (Or.inl ⟨by rfl, ?_⟩) ?_ ?_
                    rotate_left
                    · intro w'
                      go_simp
                      with_reducible rfl
                    rotate_left
                    · simp only [Act.put, List.setIfInBounds_toArray, List.set_cons_zero, List.set_cons_succ, i64_w, i32_w]
                      rfl
                    refine pure_ (i := 7) (N := some 46) (v := ?_) (a' := ?_) #[true, true, true, true, true, true, true, true, false, false, false, false, false, false] rfl rfl (any_of HT_.out (by kernel_rfl)) (fun _ _ _ h => h) (Or.inl ⟨by rfl, ?_⟩) ?_ ?_
                    rotate_left
                    · intro w'
                      go_simp
                      with_reducible rfl
                    rotate_left
                    · simp only [Act.put, List.setIfInBounds_toArray, List.set_cons_zero, List.set_cons_succ, i64_w, i32_w]
                      rfl
                    refine take_ (i := 8) (N := some 47) (v := ?_) (a' := ?_) #[true, true, true, true, true, true, true, true, true, false, false, false, false, false] rfl rfl (take_ofW HT_.out HW_.out (by kernel_rfl)) (fun _ _ _ h => h) (Or.inl ⟨by rfl, ?_⟩) hHeld ?_ ?_
                    rotate_left
                    · rintro w' ⟨s0, s1, s2, s3, s4, s5, s6, s7, s8, s9, s10, s11, s12, s13, s14, s15⟩
                      go_simp
                      with_reducible rfl
                    rotate_left
                    · simp only [Act.put, List.setIfInBounds_toArray, List.set_cons_zero, List.set_cons_succ, i64_w, i32_w]
                      rfl
                    refine take_ (i := 9) (N := some 48) (v := ?_) (a' := ?_) #[true, true, true, true, true, true, true, true, true, true, false, false, false, false] rfl rfl (take_ofW HT_.out HW_.out (by kernel_rfl)) (fun _ _ _ h => h) (Or.inl ⟨by rfl, ?_⟩) hHeld ?_ ?_
                    rotate_left
                    · rintro w' ⟨s0, s1, s2, s3, s4, s5, s6, s7, s8, s9, s10, s11, s12, s13, s14, s15⟩
                      go_simp
                      with_reducible rfl
                    rotate_left
                    · simp only [Act.put, List.setIfInBounds_toArray, List.set_cons_zero, List.set_cons_succ, i64_w, i32_w]
                      rfl
                    refine one_ (i := 10) (N := some 49) #[true, true, true, true, true, true, true, true, true, true, true, false, false, false] rfl rfl (one_of HT_.out (by kernel_rfl)) (by decide) (fun K hK => ?_)
                    refine goes_ Try.func26 (by kernel_rfl) rfl #[.agg #[.int .i64 a0_0, .int .i64 a0_1, .int .i64 a0_2, .int .i64 a0_3, .int .i64 a0_4, .int .i64 a0_5, .int .i64 a0_6, .slice A0_7 l0_7.length c0_7], .agg #[.int .i64 a1_0, .int .i64 a1_1, .int .i64 a1_2, .int .i64 a1_3, .int .i64 a1_4, .int .i64 a1_5, .int .i64 a1_6, .slice A1_7 l1_7.length c1_7]] (by rfl) rfl rfl (by (try simp only [List.map_toArray, List.map_cons, List.map_nil]); first | done | rfl | (simp only [List.length_drop, List.length_take]; rfl)) ?_
                    with_reducible refine (sextonref23_Same.calls kj19 a0_0 a0_1 a0_2 a0_3 a0_4 a0_5 a0_6 _ _ l0_7 a1_0 a1_1 a1_2 a1_3 a1_4 a1_5 a1_6 _ _ l1_7 t284 _ ?side1 ?side2 ?side3 ?side4 A35.out).mono ?_
                    (case side1 => repeat (first | exact (Kd.C_below HR0_7.out HB.out) | (with_reducible refine Kd.C_alloc ?_ _) | (with_reducible refine Kd.C_drewN ?_ _) | (with_reducible refine Kd.C_drew ?_)))
                    (case side2 => exact HC0_7.out)
                    (case side3 => repeat (first | exact (Kd.C_below HR1_7.out HB.out) | (with_reducible refine Kd.C_alloc ?_ _) | (with_reducible refine Kd.C_drewN ?_ _) | (with_reducible refine Kd.C_drew ?_)))
                    (case side4 => exact HC1_7.out)
                    rintro e w38 ⟨rfl, hb⟩
                    refine ⟨_, rfl, ?_⟩
                    have n0_ := Aside0.mk (blk_below (g := gb274) (o := .cells #[.int .i64 a0_0, .int .i64 a0_1, .int .i64 a0_2, .int .i64 a0_3, .int .i64 a0_4, .int .i64 a0_5, .int .i64 a0_6, .slice A0_7 l0_7.length c0_7] 29 (0, 0)) (by (with_reducible repeat (first | refine blk_drewN ?_ _ | refine blk_drew ?_ | refine blk_alloc ?_ _)); exact BK274.out) hb)
                    have n1_ := Aside0.mk (blk_below (g := gb275) (o := .cells #[.int .i64 a1_0, .int .i64 a1_1, .int .i64 a1_2, .int .i64 a1_3, .int .i64 a1_4, .int .i64 a1_5, .int .i64 a1_6, .slice A1_7 l1_7.length c1_7] 29 (0, 0)) (by (with_reducible repeat (first | refine blk_drewN ?_ _ | refine blk_drew ?_ | refine blk_alloc ?_ _)); exact BK275.out) hb)
                    have n2_ := Aside0.mk (below_step (by repeat (first | (with_reducible first | exact HB.out | apply below_alloc | apply pw_below_drewN | apply below_drew1 | refine below_set ?_ GE274.out | refine below_set ?_ GE275.out) | exact HB.out)) hb)
                    clear BK274
                    clear BK275
                    clear HB
                    have BK274 := n0_
                    have BK275 := n1_
                    have HB := n2_
                    clear n0_ n1_ n2_
                    (try clear hb)
                    (try clear hb2)
                    (try clear hk)
                    (try clear hi)
                    refine hK.out _ _ ⟨(blk_cell BK274.out 0).trans rfl, (blk_cell BK274.out 1).trans rfl, (blk_cell BK274.out 2).trans rfl, (blk_cell BK274.out 3).trans rfl, (blk_cell BK274.out 4).trans rfl, (blk_cell BK274.out 5).trans rfl, (blk_cell BK274.out 6).trans rfl, (blk_cell BK274.out 7).trans rfl, (blk_cell BK275.out 0).trans rfl, (blk_cell BK275.out 1).trans rfl, (blk_cell BK275.out 2).trans rfl, (blk_cell BK275.out 3).trans rfl, (blk_cell BK275.out 4).trans rfl, (blk_cell BK275.out 5).trans rfl, (blk_cell BK275.out 6).trans rfl, (blk_cell BK275.out 7).trans rfl⟩ (fun hHeld => ?_)
                    clear hK K
                    refine norm_ (a' := ?_) ?_ ?_
                    rotate_left
                    · show Act.put _ (some 49) _ = _
                      simp only [Act.put, List.setIfInBounds_toArray, List.set_cons_zero, List.set_cons_succ, i64_w, i32_w]
                      rfl
                    refine pure_ (i := 11) (N := some 50) (v := ?_) (a' := ?_) #[true, true, true, true, true, true, true, true, true, true, true, true, false, false] rfl rfl (any_of HT_.out (by kernel_rfl)) (fun _ _ _ h => h) (Or.inl ⟨by rfl, ?_⟩) ?_ ?_
                    rotate_left
                    · intro w'
                      go_simp
                      with_reducible rfl
                    rotate_left
                    · simp only [Act.put, List.setIfInBounds_toArray, List.set_cons_zero, List.set_cons_succ, i64_w, i32_w]
                      rfl
                    refine pure_ (i := 12) (N := some 51) (v := ?_) (a' := ?_) #[true, true, true, true, true, true, true, true, true, true, true, true, true, false] rfl rfl (any_of HT_.out (by kernel_rfl)) (fun _ _ _ h => h) (Or.inl ⟨by rfl, ?_⟩) ?_ ?_
                    rotate_left
                    · intro w'
                      go_simp
                      with_reducible rfl
                    rotate_left
                    · simp only [Act.put, List.setIfInBounds_toArray, List.set_cons_zero, List.set_cons_succ, i64_w, i32_w]
                      rfl
                    refine pure_ (i := 13) (N := some 4) (v := ?_) (a' := ?_) #[true, true, true, true, true, true, true, true, true, true, true, true, true, true] rfl rfl (any_of HT_.out (by kernel_rfl)) (fun _ _ _ h => h) (Or.inl ⟨by rfl, ?_⟩) ?_ ?_
                    rotate_left
                    · intro w'
                      go_simp
                      with_reducible rfl
                    rotate_left
                    · simp only [Act.put, List.setIfInBounds_toArray, List.set_cons_zero, List.set_cons_succ, i64_w, i32_w]
                      rfl
                    refine done_ (done_of HT_.out (by kernel_rfl)) ?_
                    try go_wp2
                    go_ret
                    exact ⟨by first | rfl | (simp [errW_none, errW_some] <;> rfl) | (simp [*, errW_none, errW_some] <;> rfl), by repeat (first | (with_reducible first | exact HB.out | apply below_alloc | apply pw_below_drewN | apply below_drew1 | refine below_set ?_ GE274.out | refine below_set ?_ GE275.out) | exact HB.out)⟩
                  · rw [if_neg c34] at H
                    exact absurd H (by simp)
                · rw [if_neg c33] at H
                  exact absurd H (by simp)
              · replace c32 := Bool.eq_false_iff.mpr c32
                subst c32
                have H1 : (some false) = some r := by rw [if_neg (show ¬ (false = true) by decide)] at H; exact H
                exact absurd (H1.trans (congrArg some HRT.out)) (by decide)

end Go.Proofs.Ytfejidinfcmfjaa.P
/-
  Plain laws on numbers', texts' and rows' bytes: what is laid is read, what is read is laid. No program in sight.
-/
namespace Go.Proofs.CodecPlain

theorem ba_ext {a b : ByteArray} (h : a.data.toList = b.data.toList) : a = b := by
  cases a; cases b
  rename_i x y
  have : x = y := by cases x; cases y; simpa using h
  rw [this]
theorem ext_list (s : ByteArray) (a b : Nat) : (s.extract a b).data.toList = (s.data.toList.drop a).take (b - a) := by
  rw [ByteArray.data_extract, Array.toList_extract]
theorem app_list (a b : ByteArray) : (a ++ b).data.toList = a.data.toList ++ b.data.toList := by
  rw [ByteArray.data_append, Array.toList_append]
theorem len_list (a : ByteArray) : a.data.toList.length = a.size := by rw [Array.length_toList]; rfl

/-! ### a number's bytes -/
theorem nbytes_zero : nbytes 0 = [] := by decide
theorem tops4 (x : Int) : tops x 4 = [nbyte x 3, nbyte x 2, nbyte x 1, nbyte x 0] := rfl
theorem nbytes_rec (x : Int) (h0 : 0 < x) (h1 : x < 4294967296) : nbytes x = nbytes (x / 256) ++ [x % 256] := by
  have e3 : nbyte (x / 256) 3 = 0 := by unfold nbyte; omega
  have e2 : nbyte (x / 256) 2 = nbyte x 3 := by unfold nbyte; omega
  have e1 : nbyte (x / 256) 1 = nbyte x 2 := by unfold nbyte; omega
  have e0 : nbyte (x / 256) 0 = nbyte x 1 := by unfold nbyte; omega
  have e : nbyte x 0 = x % 256 := by unfold nbyte; omega
  have hl : nbytes (x / 256) = lead [nbyte x 3, nbyte x 2, nbyte x 1] := by
    unfold nbytes; rw [tops4, e3, e2, e1, e0]; simp [lead]
  have hr : nbytes x = lead ([nbyte x 3, nbyte x 2, nbyte x 1] ++ [x % 256]) := by
    unfold nbytes; rw [tops4, e]; rfl
  rw [hr, hl]
  by_cases hn : lead [nbyte x 3, nbyte x 2, nbyte x 1] = []
  · rw [lead_snoc_nil hn, hn]
    have : x % 256 ≠ 0 := by
      have z3 : nbyte x 3 = 0 := by
        by_cases z : nbyte x 3 = 0
        · exact z
        · simp [lead, z] at hn
      have z2 : nbyte x 2 = 0 := by
        by_cases z : nbyte x 2 = 0
        · exact z
        · simp [lead, z, z3] at hn
      have z1 : nbyte x 1 = 0 := by
        by_cases z : nbyte x 1 = 0
        · exact z
        · simp [lead, z, z2, z3] at hn
      unfold nbyte at z1 z2 z3
      omega
    rw [if_neg this]; rfl
  · rw [lead_snoc hn]
/-- A byte's number as a byte. -/
def u8 (n : Int) : UInt8 := UInt8.ofNat n.toNat
theorem u8_toNat {n : Int} (h0 : 0 ≤ n) (h1 : n < 256) : ((u8 n).toNat : Int) = n := by
  have : (u8 n).toNat = n.toNat % 256 := by simp [u8, UInt8.toNat_ofNat']
  omega
theorem u8_of (b : UInt8) : u8 (b.toNat : Int) = b := by
  apply UInt8.toNat_inj.1
  have h := b.toNat_lt
  have := u8_toNat (n := (b.toNat : Int)) (by omega) (by omega)
  omega
theorem nat_ind {P : Int → Prop} (h : ∀ x, 0 ≤ x → (∀ y, 0 ≤ y → y < x → P y) → P x) : ∀ x, 0 ≤ x → P x := by
  have key : ∀ n : Nat, ∀ x : Int, 0 ≤ x → x.toNat < n → P x := by
    intro n
    induction n with
    | zero => intro x _ hx; omega
    | succ n ih => intro x h0 hx; exact h x h0 (fun y hy hlt => ih y hy (by omega))
  exact fun x hx => key (x.toNat + 1) x hx (by omega)
theorem accB_nbytes : ∀ x : Int, 0 ≤ x → x < 4294967296 → accB ((nbytes x).map u8) = x := by
  apply nat_ind
  intro x h0 ih h1
  by_cases hz : x = 0
  · subst hz; rw [nbytes_zero]; rfl
  · rw [nbytes_rec x (by omega) h1, List.map_append, List.map_singleton, accB_snoc, ih (x / 256) (by omega) (by omega) (by omega), u8_toNat (by omega) (by omega)]
    omega
theorem nbytes_head : ∀ x : Int, 0 ≤ x → x < 4294967296 → ∀ b l, nbytes x = b :: l → 0 < b ∧ b < 256 := by
  apply nat_ind
  intro x h0 ih h1 b l hb
  by_cases hz : x = 0
  · subst hz; rw [nbytes_zero] at hb; cases hb
  · rw [nbytes_rec x (by omega) h1] at hb
    cases hc : nbytes (x / 256) with
    | nil =>
      rw [hc] at hb
      simp at hb
      by_cases hy : x / 256 = 0
      · omega
      · exfalso
        rw [nbytes_rec (x / 256) (by omega) (by omega)] at hc
        simp at hc
    | cons c m =>
      rw [hc] at hb
      simp at hb
      have := ih (x / 256) (by omega) (by omega) (by omega) c m hc
      omega
theorem nbytes_pos (x : Int) (h0 : 0 ≤ x) (h1 : x < 4294967296) (h : nbytes x = []) : x = 0 := by
  by_cases hz : x = 0
  · exact hz
  · rw [nbytes_rec x (by omega) h1] at h; simp at h
theorem nbytes_accB : ∀ (n : Nat) (l : List UInt8), l.length = n → n ≤ 4 → (∀ b m, l = b :: m → b.toNat ≠ 0) → (nbytes (accB l)).map u8 = l ∧ (l ≠ [] → 0 < accB l) := by
  intro n
  induction n with
  | zero => intro l hl _ _; cases l with | nil => exact ⟨rfl, fun h => absurd rfl h⟩ | cons _ _ => simp at hl
  | succ n ih =>
    intro l hl h4 hh
    have hne : l ≠ [] := by intro e; rw [e] at hl; simp at hl
    have hsp := List.dropLast_concat_getLast hne
    generalize l.dropLast = m at hsp
    generalize l.getLast hne = b at hsp
    subst hsp
    have hm : m.length = n := by simp at hl; exact hl
    have hb := b.toNat_lt
    have hbd := accB_bd (m ++ [b])
    have hbm := accB_bd m
    have h256 : accB (m ++ [b]) < 4294967296 := Int.lt_of_lt_of_le hbd.2 (by
      rw [hl]
      match n, h4 with
      | 0, _ => decide
      | 1, _ => decide
      | 2, _ => decide
      | 3, _ => decide)
    have hsn := accB_snoc m b
    have ih' := ih m hm (by omega) (fun c k e => hh c (k ++ [b]) (by rw [e]; rfl))
    have hpos : 0 < accB (m ++ [b]) := by
      cases m with
      | nil => have := hh b [] rfl; rw [hsn]; simp [accB]; omega
      | cons c k => have := ih'.2 (by simp); omega
    refine ⟨?_, fun _ => hpos⟩
    rw [nbytes_rec _ hpos h256]
    have e1 : accB (m ++ [b]) / 256 = accB m := by omega
    have e2 : accB (m ++ [b]) % 256 = (b.toNat : Int) := by omega
    rw [e1, e2, List.map_append, ih'.1, List.map_singleton, u8_of]

theorem numStr_list (n : Int) : (numStr n).data.toList = u8 ((nbytes n).length : Int) :: (nbytes n).map u8 := by
  simp [numStr, Go.strOfNums, u8]
theorem numStr_sz (n : Int) : (numStr n).size = 1 + (nbytes n).length := by rw [← len_list, numStr_list]; simp; omega
theorem hd_list (s : ByteArray) : hd s = match s.data.toList with | [] => 0 | b :: _ => b.toNat := by
  cases s with | mk d => cases d with | mk l =>
    cases l with
    | nil => unfold hd; rw [dif_neg (by show ¬ 0 < 0; omega)]
    | cons b l => unfold hd; rw [dif_pos (by show 0 < l.length + 1; omega)]; rfl

/-- What is laid is read. -/
theorem getNum_put (n : Int) (h0 : 0 ≤ n) (h1 : n ≤ 4294967295) (rest : ByteArray) : getNum (numStr n ++ rest) = (n, rest, true) := by
  have hl := nbytes_length n
  have hlist : (numStr n ++ rest).data.toList = u8 ((nbytes n).length : Int) :: ((nbytes n).map u8 ++ rest.data.toList) := by rw [app_list, numStr_list]; rfl
  have hhd : hd (numStr n ++ rest) = (nbytes n).length := by
    rw [hd_list, hlist]
    have := u8_toNat (n := ((nbytes n).length : Int)) (by omega) (by omega)
    show (u8 _).toNat = _
    omega
  have hsz : (numStr n ++ rest).size = 1 + (nbytes n).length + rest.size := by rw [size_append, numStr_sz]
  have hb : ((numStr n ++ rest).extract 1 (1 + (nbytes n).length)).data.toList = (nbytes n).map u8 := by
    rw [ext_list, hlist, Nat.add_sub_cancel_left, List.drop_one, List.tail_cons]
    rw [List.take_append_of_le_length (by simp)]
    rw [List.take_of_length_le (by simp)]
  have hr : (numStr n ++ rest).extract (1 + (nbytes n).length) (numStr n ++ rest).size = rest := by
    apply ba_ext
    rw [ext_list, hlist, Nat.add_comm 1, List.drop_succ_cons, List.drop_append_of_le_length (by simp), List.drop_of_length_le (by simp), List.nil_append]
    rw [List.take_of_length_le]
    rw [len_list]; omega
  unfold getNum
  rw [hhd, if_neg (by omega), if_neg, hb, hr, accB_nbytes n h0 (by omega)]
  rintro ⟨hne, hz⟩
  rw [hd_list, hb] at hz
  cases hc : nbytes n with
  | nil => rw [hc] at hne; simp at hne
  | cons b l =>
    rw [hc] at hz
    have := nbytes_head n h0 (by omega) b l hc
    have h2 := u8_toNat (n := b) (by omega) this.2
    simp at hz
    omega
/-- What is read is laid. -/
theorem getNum_got {s : ByteArray} {n : Int} {rest : ByteArray} (h : getNum s = (n, rest, true)) : 0 ≤ n ∧ n ≤ 4294967295 ∧ s = numStr n ++ rest := by
  have hbd := getNum_bd s
  rw [h] at hbd
  refine ⟨hbd.1, by have := hbd.2; simp only at this; omega, ?_⟩
  unfold getNum at h
  split at h
  · simp at h
  · rename_i h1
    split at h
    · simp at h
    · rename_i h2
      simp only [Prod.mk.injEq, and_true] at h
      obtain ⟨rfl, rfl⟩ := h
      have hbl : ((s.extract 1 (1 + hd s)).data.toList).length = hd s := by rw [len_list, ByteArray.size_extract]; omega
      have hk := nbytes_accB (hd s) _ hbl (by omega) (by
        intro b m e hz
        apply h2
        refine ⟨fun h0 => by rw [e] at hbl; simp at hbl; omega, ?_⟩
        rw [hd_list, e]; exact hz)
      apply ba_ext
      have hlen : (nbytes (accB (s.extract 1 (1 + hd s)).data.toList)).length = hd s := by
        have := congrArg List.length hk.1
        rw [List.length_map, hbl] at this
        exact this
      rw [app_list, numStr_list, hk.1, hlen, ext_list, ext_list]
      cases hs : s.data.toList with
      | nil => have := len_list s; rw [hs] at this; simp at this; omega
      | cons b l =>
        have hb : hd s = b.toNat := by rw [hd_list, hs]
        have hsz : s.size = l.length + 1 := by rw [← len_list, hs]; rfl
        rw [hb, u8_of, Nat.add_comm 1, Nat.add_sub_cancel, List.drop_one, List.tail_cons, List.drop_succ_cons, List.cons_append]
        rw [List.take_of_length_le (l := l.drop b.toNat) (by rw [List.length_drop]; omega), List.take_append_drop]

/-! ### texts -/
theorem getText_put (t : ByteArray) (h : t.size ≤ 4000) (rest : ByteArray) : getText (textStr t ++ rest) = (t, rest, true) := by
  have hg : getNum (textStr t ++ rest) = ((t.size : Int), t ++ rest, true) := by
    unfold textStr
    rw [ByteArray.append_assoc]
    exact getNum_put _ (by omega) (by omega) _
  unfold getText
  rw [hg]
  simp only
  rw [if_pos ⟨trivial, by omega, by rw [size_append]; omega⟩]
  have e1 : (t ++ rest).extract 0 (t.size : Int).toNat = t := by
    apply ba_ext; rw [ext_list, app_list, Int.toNat_natCast, List.drop_zero, Nat.sub_zero, List.take_append_of_le_length (by rw [len_list]; exact Nat.le_refl _), List.take_of_length_le (by rw [len_list]; exact Nat.le_refl _)]
  have e2 : (t ++ rest).extract (t.size : Int).toNat (t ++ rest).size = rest := by
    apply ba_ext
    rw [ext_list, app_list, Int.toNat_natCast, List.drop_append_of_le_length (by rw [len_list]; exact Nat.le_refl _), List.drop_of_length_le (by rw [len_list]; exact Nat.le_refl _), List.nil_append, size_append, Nat.add_sub_cancel_left]
    rw [List.take_of_length_le (by rw [len_list]; exact Nat.le_refl _)]
  rw [e1, e2]
theorem getText_got {s t rest : ByteArray} (h : getText s = (t, rest, true)) : t.size ≤ 4000 ∧ s = textStr t ++ rest := by
  unfold getText at h
  split at h
  · rename_i hc
    obtain ⟨n, r, ok, hn⟩ : ∃ n r ok, getNum s = (n, r, ok) := ⟨_, _, _, rfl⟩
    rw [hn] at h hc
    simp only at h hc
    obtain ⟨rfl, hc1, hc2⟩ := hc
    obtain ⟨h0, h1, hs⟩ := getNum_got hn
    simp only [Prod.mk.injEq, and_true] at h
    obtain ⟨rfl, rfl⟩ := h
    have hsz : ((r.extract 0 n.toNat).size : Int) = n := by rw [ByteArray.size_extract]; omega
    refine ⟨by omega, ?_⟩
    unfold textStr
    rw [hsz, ByteArray.append_assoc, hs]
    congr 1
    apply ba_ext
    rw [app_list, ext_list, ext_list, List.drop_zero, Nat.sub_zero]
    rw [List.take_of_length_le (l := r.data.toList.drop n.toNat) (by rw [List.length_drop, len_list]; omega), List.take_append_drop]
  · simp at h
theorem getText_no {s : ByteArray} (h : (getText s).2.2 = false) : getText s = (⟨#[]⟩, ⟨#[]⟩, false) := by
  unfold getText at h ⊢
  split
  · rename_i hc; rw [if_pos hc] at h; simp at h
  · rfl
theorem getNum_no' {s : ByteArray} (h : (getNum s).2.2 = false) : getNum s = (0, ⟨#[]⟩, false) := by
  unfold getNum at h ⊢
  split
  · rfl
  · split
    · rfl
    · rename_i h1 h2; rw [if_neg h1, if_neg h2] at h; simp at h

/-! ### rows -/
theorem getTexts_put : ∀ (l : List ByteArray) (_ : ∀ t ∈ l, t.size ≤ 4000) (rest : ByteArray), getTexts l.length (catStr (l.map textStr) ++ rest) = (l, rest, true)
  | [], _, rest => by
    have : (⟨#[]⟩ : ByteArray) ++ rest = rest := ba_ext (by rw [app_list]; rfl)
    simp [getTexts, catStr, this]
  | t :: l, h, rest => by
    have hg : getText (catStr ((t :: l).map textStr) ++ rest) = (t, catStr (l.map textStr) ++ rest, true) := by
      rw [List.map_cons, catStr, ByteArray.append_assoc]
      exact getText_put t (h t List.mem_cons_self) _
    have ih := getTexts_put l (fun x hx => h x (List.mem_cons_of_mem _ hx)) rest
    rw [List.length_cons, getTexts, hg]
    simp [ih]
theorem getTexts_got : ∀ (n : Nat) (s : ByteArray) (l : List ByteArray) (rest : ByteArray), getTexts n s = (l, rest, true) → l.length = n ∧ (∀ t ∈ l, t.size ≤ 4000) ∧ s = catStr (l.map textStr) ++ rest
  | 0, s, l, rest, h => by
    simp [getTexts] at h
    obtain ⟨rfl, rfl⟩ := h
    exact ⟨rfl, by simp, ba_ext (by rw [app_list]; rfl)⟩
  | n + 1, s, l, rest, h => by
    unfold getTexts at h
    obtain ⟨t, r, ok, ht⟩ : ∃ t r ok, getText s = (t, r, ok) := ⟨_, _, _, rfl⟩
    rw [ht] at h
    simp only at h
    split at h
    · rename_i hok
      subst hok
      obtain ⟨m, q, k, hm⟩ : ∃ m q k, getTexts n r = (m, q, k) := ⟨_, _, _, rfl⟩
      rw [hm] at h
      simp only at h
      split at h
      · rename_i hk
        subst hk
        simp only [Prod.mk.injEq, and_true] at h
        obtain ⟨rfl, rfl⟩ := h
        obtain ⟨h1, h2, h3⟩ := getTexts_got n r m q hm
        obtain ⟨h4, h5⟩ := getText_got ht
        refine ⟨by simp [h1], fun x hx => ?_, ?_⟩
        · rcases List.mem_cons.1 hx with rfl | hx
          · exact h4
          · exact h2 x hx
        · rw [List.map_cons, catStr, ByteArray.append_assoc, ← h3, h5]
      · simp at h
    · simp at h
theorem getRow_put (l : List ByteArray) (hl : l.length ≤ 1000) (h : ∀ t ∈ l, t.size ≤ 4000) (rest : ByteArray) : getRow (rowStr l ++ rest) = (l, rest, true) := by
  have hg : getNum (rowStr l ++ rest) = ((l.length : Int), catStr (l.map textStr) ++ rest, true) := by
    unfold rowStr
    rw [ByteArray.append_assoc]
    exact getNum_put _ (by omega) (by omega) _
  unfold getRow
  rw [hg]
  simp only
  rw [if_pos ⟨trivial, by omega⟩, Int.toNat_natCast]
  exact getTexts_put l h rest
theorem getRow_got {s : ByteArray} {l : List ByteArray} {rest : ByteArray} (h : getRow s = (l, rest, true)) : l.length ≤ 1000 ∧ (∀ t ∈ l, t.size ≤ 4000) ∧ s = rowStr l ++ rest := by
  unfold getRow at h
  split at h
  · rename_i hc
    obtain ⟨n, r, ok, hn⟩ : ∃ n r ok, getNum s = (n, r, ok) := ⟨_, _, _, rfl⟩
    rw [hn] at h hc
    simp only at h hc
    obtain ⟨rfl, hc1⟩ := hc
    obtain ⟨h0, h1, hs⟩ := getNum_got hn
    obtain ⟨h2, h3, h4⟩ := getTexts_got _ _ _ _ h
    refine ⟨by omega, h3, ?_⟩
    unfold rowStr
    rw [h2, ByteArray.append_assoc, ← h4, hs]
    congr 2
    omega
  · simp at h
theorem getTexts_no : ∀ (n : Nat) (s : ByteArray), (getTexts n s).2.2 = false → getTexts n s = ([], ⟨#[]⟩, false)
  | 0, s, h => by simp [getTexts] at h
  | n + 1, s, h => by
    unfold getTexts at h ⊢
    split
    · rename_i h1
      rw [if_pos h1] at h
      split
      · rename_i h2; rw [if_pos h2] at h; simp at h
      · rfl
    · rfl
theorem getRow_no {s : ByteArray} (h : (getRow s).2.2 = false) : getRow s = ([], ⟨#[]⟩, false) := by
  unfold getRow at h ⊢
  split
  · rename_i hc; rw [if_pos hc] at h; exact getTexts_no _ _ h
  · rfl

end Go.Proofs.CodecPlain
-- Written by a program of this session (xprint.py) over the kit's print.py.
namespace Go.Proofs.Ytfejidinfcmfjaa.P
open Go.RowKit Go.Proofs.YtfejidinfcmfjaaW.PrintWords Go.Proofs.YtfejidinfcmfjaaW.PrintLast Go.Proofs.YtfejidinfcmfjaaW.PrintMore
attribute [local go_sem] max2_int min2_int max_two min_two max_three min_three max_four min_four   -- for this text's walks alone
set_option linter.unusedVariables false
set_option linter.unusedSimpArgs false

/-! ### sextonref01_Number: function 62 -/
mutual
def sextonref01_Number.j0 : Nat → Int → Bool → Option (ByteArray × Int)
  | 0, _, _ => none
  | k + 1, x0, x11 => if x11 = true then (some ((⟨#[]⟩ : ByteArray), 1)) else (sextonref01_Number.l0 k x0 (⟨#[]⟩ : ByteArray) 0)
def sextonref01_Number.l0 : Nat → Int → ByteArray → Int → Option (ByteArray × Int)
  | 0, _, _, _ => none
  | k + 1, x0, x4, x5 => if x0 > 0 then ((some (([(Int.tmod x0 256) % 256] : List Int) : List Int)).bind fun y333 => (if (strOfNums y333).size + x4.size ≤ 9223372036854775807 then (sextonref01_Number.l0 k (wrap64 (Int.tdiv x0 256)) ((strOfNums y333) ++ x4) (wrap64 (x5 + 1))) else (none))) else ((some (([(x5) % 256] : List Int) : List Int)).bind fun y336 => (if (strOfNums y336).size + x4.size ≤ 9223372036854775807 then (some ((strOfNums y336) ++ x4, 0)) else (none)))
end
def sextonref01_Number.f (k : Nat) (a0 : Int) : Option (ByteArray × Int) := if a0 < 0 then (sextonref01_Number.j0 k a0 true) else (sextonref01_Number.j0 k a0 (decide (a0 > 4294967295)))
theorem sextonref01_Number.mono_l : ∀ k, (∀ y0 y1, LeO (sextonref01_Number.j0 k y0 y1) (sextonref01_Number.j0 (k + 1) y0 y1)) ∧ (∀ y0 y1 y2, LeO (sextonref01_Number.l0 k y0 y1 y2) (sextonref01_Number.l0 (k + 1) y0 y1 y2))
  | 0 => ⟨fun _ _ r h => by simp [sextonref01_Number.j0] at h, fun _ _ _ r h => by simp [sextonref01_Number.l0] at h⟩
  | k + 1 => by
    obtain ⟨ih0, ih1⟩ := sextonref01_Number.mono_l k
    refine ⟨?_, ?_⟩
    · intro y0 y1
      unfold sextonref01_Number.j0
      repeat' first
      | (with_reducible exact ih0 _ _)
      | (with_reducible exact ih1 _ _ _)
      | (with_reducible exact LeO.refl _)
      | (with_reducible exact LeO.none _)
      | (with_reducible refine LeO.ite ?_ ?_)
      | (with_reducible refine LeO.bind ?_ (fun _ => ?_))
      | exact ih0 _ _
      | exact ih1 _ _ _
      | exact LeO.none _
      | refine LeO.ite ?_ ?_
      | refine LeO.bind ?_ (fun _ => ?_)
    · intro y0 y1 y2
      unfold sextonref01_Number.l0
      repeat' first
      | (with_reducible exact ih0 _ _)
      | (with_reducible exact ih1 _ _ _)
      | (with_reducible exact LeO.refl _)
      | (with_reducible exact LeO.none _)
      | (with_reducible refine LeO.ite ?_ ?_)
      | (with_reducible refine LeO.bind ?_ (fun _ => ?_))
      | exact ih0 _ _
      | exact ih1 _ _ _
      | exact LeO.none _
      | refine LeO.ite ?_ ?_
      | refine LeO.bind ?_ (fun _ => ?_)
theorem sextonref01_Number.mono : ∀ a0 k, LeO (sextonref01_Number.f k a0) (sextonref01_Number.f (k + 1) a0) := by
  intro a0 k
  obtain ⟨ih0, ih1⟩ := sextonref01_Number.mono_l k
  unfold sextonref01_Number.f
  repeat' first
      | (with_reducible exact ih0 _ _)
      | (with_reducible exact ih1 _ _ _)
      | (with_reducible exact LeO.refl _)
      | (with_reducible exact LeO.none _)
      | (with_reducible refine LeO.ite ?_ ?_)
      | (with_reducible refine LeO.bind ?_ (fun _ => ?_))
      | exact ih0 _ _
      | exact ih1 _ _ _
      | exact LeO.none _
      | refine LeO.ite ?_ ?_
      | refine LeO.bind ?_ (fun _ => ?_)
set_option maxHeartbeats 8000000 in
set_option maxRecDepth 100000 in
theorem sextonref01_Number.calls (k : Nat) (a0 : Int) (r1 : ByteArray) (r2 : Int) (w : World) (h : sextonref01_Number.f k a0 = some (r1, r2)) :
    Calls Try.prog 62 #[.int .i64 a0] w fun e w' => e = .returned (.tuple #[.string r1, .int .i64 r2]) ∧ Below w.heap.size w w' := by
  have HB := Aside0.mk (Below.refl w.heap.size w)
  have H : (if a0 < 0 then (sextonref01_Number.j0 k a0 true) else (sextonref01_Number.j0 k a0 (decide (a0 > 4294967295)))) = some (r1, r2) := h
  clear h
  have HC2 := Aside0.mk H
  clear H
  go_enter Try.func62, Try.ntmps62
  go_upto_region 1 with (fail)
  go_cut [11] (fun v11 wc => ∃ (kq : Nat) (x11_1 : Bool), v11 = .bool x11_1 ∧ Aside0 (sextonref01_Number.j0 kq a0 x11_1 = some (r1, r2)) ∧ Aside0 (kq ≤ k) ∧ Aside0 (Below w.heap.size w wc))
  case first =>
    have H := HC2.out
    clear HC2
    by_cases c3 : a0 < 0
    · rw [if_pos c3] at H
      have c3b0 : decide (a0 < 0) = true := decide_eq_true c3
      clear c3
      (first | rw [c3b0] | (simp only [i64_w, i32_w]; rw [c3b0]) | skip)
      have H' := Aside0.mk H
      clear H
      go_wp2
      go_meet
      case rel => exact ⟨_, (true), (by first | rfl | (simp; done) | (simp [*]; done)), H', ⟨by first | omega | exact Nat.le_refl _⟩, ⟨by repeat (first | (with_reducible first | exact HB.out | apply below_alloc | apply pw_below_drewN | apply below_drew1) | exact HB.out)⟩⟩
    · rw [if_neg c3] at H
      have c3b0 : decide (a0 < 0) = false := decide_eq_false c3
      clear c3
      (first | rw [c3b0] | (simp only [i64_w, i32_w]; rw [c3b0]) | skip)
      have H' := Aside0.mk H
      clear H
      go_wp2
      go_meet
      case rel => exact ⟨_, (decide (a0 > 4294967295)), (by first | rfl | (simp; done) | (simp [*]; done)), H', ⟨by first | omega | exact Nat.le_refl _⟩, ⟨by repeat (first | (with_reducible first | exact HB.out | apply below_alloc | apply pw_below_drewN | apply below_drew1) | exact HB.out)⟩⟩
  case rest =>
    clear HC2
    try clear p2
    try clear c3
    try clear c3b0
    obtain ⟨kq, x11_1, rfl, HA, HJ1, HB⟩ := hcut
    cases kq with
    | zero => exact absurd HA.out (by simp [sextonref01_Number.j0])
    | succ kj1 =>
      have H := HA.out
      clear HA
      simp only [sextonref01_Number.j0] at H
      by_cases c4 : x11_1 = true
      · subst c4
        have H1 : (some ((⟨#[]⟩ : ByteArray), 1)) = some (r1, r2) := by rw [if_pos rfl] at H; exact H
        clear H
        have H := H1
        clear H1
        simp only [Option.some.injEq, Prod.mk.injEq] at H
        obtain ⟨rfl, rfl⟩ := H
        go_wp2
        go_ret2
        exact ⟨by first | rfl | (simp [errW_none, errW_some] <;> rfl) | (simp [*, errW_none, errW_some] <;> rfl), by repeat (first | (with_reducible first | exact HB.out | apply below_alloc | apply pw_below_drewN | apply below_drew1) | exact HB.out)⟩
      · replace c4 := Bool.eq_false_iff.mpr c4
        subst c4
        have H1 : (sextonref01_Number.l0 kj1 a0 (⟨#[]⟩ : ByteArray) 0) = some (r1, r2) := by rw [if_neg (show ¬ (false = true) by decide)] at H; exact H
        clear H
        have H := H1
        clear H1
        have H' := Aside0.mk H
        clear H
        go_wp2
        go_loopg [0, 4, 5] kj1 (fun kq v0 v4 v5 w' => ∃ (x0_2 : Int) (x4_2 : ByteArray) (x5_2 : Int), v0 = .int .i64 x0_2 ∧ v4 = .string x4_2 ∧ v5 = .int .i64 x5_2 ∧ Aside0 (sextonref01_Number.l0 kq x0_2 x4_2 x5_2 = some (r1, r2)) ∧ Aside0 (kq ≤ kj1) ∧ Aside0 (Below w.heap.size w w'))
        case atStart => exact ⟨(a0), ((⟨#[]⟩ : ByteArray)), (0), (by first | rfl | (simp; done) | (simp [*]; done)), (by first | rfl | (simp; done) | (simp [*]; done)), (by first | rfl | (simp; done) | (simp [*]; done)), H', ⟨Nat.le_refl _⟩, ⟨by repeat (first | (with_reducible first | exact HB.out | apply below_alloc | apply pw_below_drewN | apply below_drew1) | exact HB.out)⟩⟩
        case round =>
          clear H'
          try clear p2
          try clear c3
          try clear c3b0
          try clear c4
          try clear p2
          obtain ⟨x0_2, x4_2, x5_2, rfl, rfl, rfl, HA, HK2, HB⟩ := hrel
          cases gk with
          | zero => exact absurd HA.out (by simp [sextonref01_Number.l0])
          | succ k2 =>
            have H := HA.out
            clear HA
            simp only [sextonref01_Number.l0] at H
            by_cases c5 : x0_2 > 0
            · rw [if_pos c5] at H
              have c5b0 : decide (0 < x0_2) = true := decide_eq_true c5
              clear c5
              obtain ⟨y333, hy333⟩ : ∃ y_ : List Int, y_ = (([(Int.tmod x0_2 256) % 256] : List Int)) := ⟨_, rfl⟩
              replace H : (if (strOfNums y333).size + x4_2.size ≤ 9223372036854775807 then (sextonref01_Number.l0 k2 (wrap64 (Int.tdiv x0_2 256)) ((strOfNums y333) ++ x4_2) (wrap64 (x5_2 + 1))) else (none)) = some (r1, r2) := by first | (rw [hy333]; with_reducible exact H) | (have H2_ := (Option.bind_some _ _).symm.trans H; rw [hy333]; with_reducible exact H2_) | (have H2_ := (Option.bind_some _ _).symm.trans H; with_reducible exact H2_) | with_reducible exact H | (rw [hy333]; exact H) | exact H
              have Ny333 := Aside0.mk hy333
              clear hy333
              by_cases c6 : (strOfNums y333).size + x4_2.size ≤ 9223372036854775807
              · rw [if_pos c6] at H
                have c6b0 := eq_true c6
                have c6b1 : decide ((strOfNums y333).size + x4_2.size ≤ 9223372036854775807) = true := decide_eq_true c6
                try have c6b2 : (9223372036854775807 < (strOfNums y333).size + x4_2.size) = False := eq_false (Nat.not_lt.2 c6)
                have H' := Aside0.mk H
                clear H
                go_wp2_with (first | ((with_reducible refine gate_dst (N := 17) rfl ?_); refine Kd.R_lit (Kd.int .u8) _ 5 ?hg (N := 17) ?hd (xs := ([(Int.tmod x0_2 256) % 256] : List Int)) (inner := [.int .u8 ((Int.tmod x0_2 256) % 256)]) (ok := fun _ => True) (okp := fun _ => True) ?hr ?hp (fun _ hk => hk) trivial (Below.refl _ _) (Nat.le_refl _) (by simp) ?_; (case hd => rfl); (case hg => rfl); (case hr => first | (go_simp; done) | (go_simp; rfl)); (case hp => exact (Reps.one (show Kd.M (Kd.int .u8) _ _ _ ((Int.tmod x0_2 256) % 256) [.int .u8 ((Int.tmod x0_2 256) % 256)] from rfl) (Reps.none _ _))); intro v334 w7 ho8 hb hg_ hnew_; clear hg_ hnew_; (first | rw [← Ny333.out] at ho8 | (simp only [Int.reduceToNat] at ho8; rw [← Ny333.out] at ho8)); have n0_ := Aside0.mk (Kd.R_lower ho8 (below_size (by repeat (first | (with_reducible first | exact HB.out | apply below_alloc | apply pw_below_drewN | apply below_drew1) | exact HB.out)))); have n1_ := Aside0.mk (below_step (by repeat (first | (with_reducible first | exact HB.out | apply below_alloc | apply pw_below_drewN | apply below_drew1) | exact HB.out)) hb); clear HB; have HO335 := n0_; have HB := n1_; clear n0_ n1_; clear hb ho8; have hcv9 := own_string (P := Try.prog) Try.underlying74 Try.underlying5 Try.underlying9 (Kd.own_of_R HO335.out)))
                go_roundg k2
                case measure => have := HJ1.out; have := HK2.out; omega
                case rel => exact ⟨(wrap64 (Int.tdiv x0_2 256)), ((strOfNums y333) ++ x4_2), (wrap64 (x5_2 + 1)), (by first | rfl | (simp; done) | (simp [*]; done)), (by first | rfl | (simp; done) | (simp [*]; done)), (by first | rfl | (simp; done) | (simp [*]; done)), H', ⟨by have := HJ1.out; have := HK2.out; omega⟩, ⟨by repeat (first | (with_reducible first | exact HB.out | apply below_alloc | apply pw_below_drewN | apply below_drew1) | exact HB.out)⟩⟩
              · rw [if_neg c6] at H
                exact absurd H (by simp)
            · rw [if_neg c5] at H
              have c5b0 : decide (0 < x0_2) = false := decide_eq_false c5
              clear c5
              obtain ⟨y336, hy336⟩ : ∃ y_ : List Int, y_ = (([(x5_2) % 256] : List Int)) := ⟨_, rfl⟩
              replace H : (if (strOfNums y336).size + x4_2.size ≤ 9223372036854775807 then (some ((strOfNums y336) ++ x4_2, 0)) else (none)) = some (r1, r2) := by first | (rw [hy336]; with_reducible exact H) | (have H2_ := (Option.bind_some _ _).symm.trans H; rw [hy336]; with_reducible exact H2_) | (have H2_ := (Option.bind_some _ _).symm.trans H; with_reducible exact H2_) | with_reducible exact H | (rw [hy336]; exact H) | exact H
              have Ny336 := Aside0.mk hy336
              clear hy336
              by_cases c10 : (strOfNums y336).size + x4_2.size ≤ 9223372036854775807
              · rw [if_pos c10] at H
                have c10b0 := eq_true c10
                have c10b1 : decide ((strOfNums y336).size + x4_2.size ≤ 9223372036854775807) = true := decide_eq_true c10
                try have c10b2 : (9223372036854775807 < (strOfNums y336).size + x4_2.size) = False := eq_false (Nat.not_lt.2 c10)
                simp only [Option.some.injEq, Prod.mk.injEq] at H
                obtain ⟨rfl, rfl⟩ := H
                go_wp2_with (first | ((with_reducible refine gate_dst (N := 27) rfl ?_); refine Kd.R_lit (Kd.int .u8) _ 5 ?hg (N := 27) ?hd (xs := ([(x5_2) % 256] : List Int)) (inner := [.int .u8 ((x5_2) % 256)]) (ok := fun _ => True) (okp := fun _ => True) ?hr ?hp (fun _ hk => hk) trivial (Below.refl _ _) (Nat.le_refl _) (by simp) ?_; (case hd => rfl); (case hg => rfl); (case hr => first | (go_simp; done) | (go_simp; rfl)); (case hp => exact (Reps.one (show Kd.M (Kd.int .u8) _ _ _ ((x5_2) % 256) [.int .u8 ((x5_2) % 256)] from rfl) (Reps.none _ _))); intro v337 w11 ho12 hb hg_ hnew_; clear hg_ hnew_; (first | rw [← Ny336.out] at ho12 | (simp only [Int.reduceToNat] at ho12; rw [← Ny336.out] at ho12)); have n0_ := Aside0.mk (Kd.R_lower ho12 (below_size (by repeat (first | (with_reducible first | exact HB.out | apply below_alloc | apply pw_below_drewN | apply below_drew1) | exact HB.out)))); have n1_ := Aside0.mk (below_step (by repeat (first | (with_reducible first | exact HB.out | apply below_alloc | apply pw_below_drewN | apply below_drew1) | exact HB.out)) hb); clear HB; have HO338 := n0_; have HB := n1_; clear n0_ n1_; clear hb ho12; have hcv13 := own_string (P := Try.prog) Try.underlying74 Try.underlying5 Try.underlying9 (Kd.own_of_R HO338.out)))
                go_ret2
                exact ⟨by first | rfl | (simp [errW_none, errW_some] <;> rfl) | (simp [*, errW_none, errW_some] <;> rfl), by repeat (first | (with_reducible first | exact HB.out | apply below_alloc | apply pw_below_drewN | apply below_drew1) | exact HB.out)⟩
              · rw [if_neg c10] at H
                exact absurd H (by simp)

end Go.Proofs.Ytfejidinfcmfjaa.P
-- Written by a program of this session (xprint.py) over the kit's print.py.
namespace Go.Proofs.Ytfejidinfcmfjaa.P
open Go.RowKit Go.Proofs.YtfejidinfcmfjaaW.PrintWords Go.Proofs.YtfejidinfcmfjaaW.PrintLast Go.Proofs.YtfejidinfcmfjaaW.PrintMore
attribute [local go_sem] max2_int min2_int max_two min_two max_three min_three max_four min_four   -- for this text's walks alone
set_option linter.unusedVariables false
set_option linter.unusedSimpArgs false

/-! ### sextonref01_Text: function 80 -/
def sextonref01_Text.f (k : Nat) (a0 : ByteArray) : Option (ByteArray × Int) := if (a0.size : Int) > 4000 then (some ((⟨#[]⟩ : ByteArray), 2)) else ((sextonref01_Number.f k (a0.size : Int)).bind fun bt339 => (if bt339.1.size + a0.size ≤ 9223372036854775807 then (some (bt339.1 ++ a0, 0)) else (none)))
theorem sextonref01_Text.mono : ∀ a0 k, LeO (sextonref01_Text.f k a0) (sextonref01_Text.f (k + 1) a0) := by
  intro a0 k
  unfold sextonref01_Text.f
  repeat' first
      | (with_reducible exact sextonref01_Number.mono _ _)
      | (with_reducible exact LeO.refl _)
      | (with_reducible exact LeO.none _)
      | (with_reducible refine LeO.ite ?_ ?_)
      | (with_reducible refine LeO.bind ?_ (fun _ => ?_))
      | exact sextonref01_Number.mono _ _
      | exact LeO.none _
      | refine LeO.ite ?_ ?_
      | refine LeO.bind ?_ (fun _ => ?_)
set_option maxHeartbeats 8000000 in
set_option maxRecDepth 100000 in
theorem sextonref01_Text.calls (k : Nat) (a0 : ByteArray) (r1 : ByteArray) (r2 : Int) (w : World) (h : sextonref01_Text.f k a0 = some (r1, r2)) :
    Calls Try.prog 80 #[.string a0] w fun e w' => e = .returned (.tuple #[.string r1, .int .i64 r2]) ∧ Below w.heap.size w w' := by
  have HB := Aside0.mk (Below.refl w.heap.size w)
  have H : (if (a0.size : Int) > 4000 then (some ((⟨#[]⟩ : ByteArray), 2)) else ((sextonref01_Number.f k (a0.size : Int)).bind fun bt339 => (if bt339.1.size + a0.size ≤ 9223372036854775807 then (some (bt339.1 ++ a0, 0)) else (none)))) = some (r1, r2) := h
  clear h
  by_cases c2 : (a0.size : Int) > 4000
  · rw [if_pos c2] at H
    have c2b0 : decide (4000 < (a0.size : Int)) = true := decide_eq_true c2
    have c2b1 : decide (4000 < a0.size) = true := decide_eq_true (by omega)
    clear c2
    simp only [Option.some.injEq, Prod.mk.injEq] at H
    obtain ⟨rfl, rfl⟩ := H
    go_enter Try.func80, Try.ntmps80
    go_wp2
    go_ret2
    exact ⟨by first | rfl | (simp [errW_none, errW_some] <;> rfl) | (simp [*, errW_none, errW_some] <;> rfl), by repeat (first | (with_reducible first | exact HB.out | apply below_alloc | apply pw_below_drewN | apply below_drew1) | exact HB.out)⟩
  · rw [if_neg c2] at H
    have c2b0 : decide (4000 < (a0.size : Int)) = false := decide_eq_false c2
    have c2b1 : decide (4000 < a0.size) = false := decide_eq_false (by omega)
    clear c2
    replace H := Option.bind_eq_some_iff.mp H
    obtain ⟨⟨t339, t340⟩, A30, H⟩ := H
    replace H : (if t339.size + a0.size ≤ 9223372036854775807 then (some (t339 ++ a0, 0)) else (none)) = some (r1, r2) := H
    have A3 := Aside0.mk A30
    clear A30
    by_cases c4 : t339.size + a0.size ≤ 9223372036854775807
    · rw [if_pos c4] at H
      have c4b0 := eq_true c4
      have c4b1 : decide (t339.size + a0.size ≤ 9223372036854775807) = true := decide_eq_true c4
      try have c4b2 : (9223372036854775807 < t339.size + a0.size) = False := eq_false (Nat.not_lt.2 c4)
      simp only [Option.some.injEq, Prod.mk.injEq] at H
      obtain ⟨rfl, rfl⟩ := H
      go_enter Try.func80, Try.ntmps80
      go_wp2_with (first | ((with_reducible refine gate_callee (f := 62) rfl ?_); refine goesL_ (some 12) rfl rfl Try.func62 (by kernel_rfl) rfl #[.int .i64 (a0.size : Int)] rfl (by (try simp only [List.map_toArray, List.map_cons, List.map_nil]); first | done | rfl | (simp only [List.length_drop, List.length_take]; rfl)) ?_; (with_reducible refine (sextonref01_Number.calls k (a0.size : Int) t339 t340 _ A3.out).mono ?_); rintro e w5 ⟨rfl, hb⟩; refine ⟨_, rfl, ?_⟩; have n0_ := Aside0.mk (below_step (by repeat (first | (with_reducible first | exact HB.out | apply below_alloc | apply pw_below_drewN | apply below_drew1) | exact HB.out)) hb); clear HB; have HB := n0_; clear n0_; (try clear hb); (try clear hb2); (try clear hk); (try clear hi)))
      go_ret2
      exact ⟨by first | rfl | (simp [errW_none, errW_some] <;> rfl) | (simp [*, errW_none, errW_some] <;> rfl), by repeat (first | (with_reducible first | exact HB.out | apply below_alloc | apply pw_below_drewN | apply below_drew1) | exact HB.out)⟩
    · rw [if_neg c4] at H
      exact absurd H (by simp)

end Go.Proofs.Ytfejidinfcmfjaa.P
