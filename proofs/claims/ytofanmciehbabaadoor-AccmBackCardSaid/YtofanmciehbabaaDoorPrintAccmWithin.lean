/- A text that a program of this claim (wip/x) laid out of the translation: what Go functions come to, and that they come to it. Lean checks it. -/
import Derived.Test.YtofanmciehbabaaDoorPrint0
namespace Go.Proofs.YtofanmciehbabaaDoor.Print
open Go.RowKit Go.Proofs.YtofanmciehbabaaDoorW.PrintWords Go.Proofs.YtofanmciehbabaaDoorW.PrintLast Go.Proofs.YtofanmciehbabaaDoorW.PrintMore
attribute [local go_sem] max2_int min2_int max_two min_two max_three min_three max_four min_four   -- for this text's walks alone
set_option linter.unusedVariables false
set_option linter.unusedSimpArgs false

/-! ### accm_Within: function 14 -/
def accm_Within.f (a0 : Int) (a1 : Int) : Option (Bool) := some ((Go.bits .andNot .u32 a0 a1) == 0)
set_option maxHeartbeats 8000000 in
set_option maxRecDepth 100000 in
theorem accm_Within.calls (a0 : Int) (a1 : Int) (r : Bool) (w : World) (h : accm_Within.f a0 a1 = some r) :
    Calls Tryd.prog 14 #[.int .u32 a0, .int .u32 a1] w fun e w' => e = .returned (.bool r) ∧ Drawn0 w w' := by
  have H : (some ((Go.bits .andNot .u32 a0 a1) == 0)) = some r := h
  clear h
  obtain rfl := Option.some.inj H
  go_enter Tryd.func14, Tryd.ntmps14
  go_wp2
  go_ret
  exact ⟨by first | rfl | (simp; done) | (simp [*]; done), by repeat (first | exact Drawn0.refl _ | apply Drawn0.step)⟩

end Go.Proofs.YtofanmciehbabaaDoor.Print
