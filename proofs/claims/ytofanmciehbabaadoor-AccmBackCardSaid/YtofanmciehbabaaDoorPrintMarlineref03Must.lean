/- A text that a program of this claim (wip/x) laid out of the translation: what Go functions come to, and that they come to it. Lean checks it. -/
import Derived.Test.YtofanmciehbabaaDoorPrint0
import Derived.Test.YtofanmciehbabaaDoorPrintMarlineref03Has
namespace Go.Proofs.YtofanmciehbabaaDoor.Print
open Go.RowKit Go.Proofs.YtofanmciehbabaaDoorW.PrintWords Go.Proofs.YtofanmciehbabaaDoorW.PrintLast Go.Proofs.YtofanmciehbabaaDoorW.PrintMore
attribute [local go_sem] max2_int min2_int max_two min_two max_three min_three max_four min_four   -- for this text's walks alone
set_option linter.unusedVariables false
set_option linter.unusedSimpArgs false

/-! ### marlineref03_Must: function 10 -/
def marlineref03_Must.f (k : Nat) (a0 : Int) (a1 : Int) : Option (Bool) := if a1 = 125 then (some true) else (if a1 = 126 then (some true) else ((marlineref03_Has.f k a0 a1).bind fun t116 => (some t116)))
theorem marlineref03_Must.mono : ∀ a0 a1 k, LeO (marlineref03_Must.f k a0 a1) (marlineref03_Must.f (k + 1) a0 a1) := by
  intro a0 a1 k
  unfold marlineref03_Must.f
  repeat' first
      | (with_reducible exact marlineref03_Has.mono _ _ _)
      | (with_reducible exact LeO.refl _)
      | (with_reducible exact LeO.none _)
      | (with_reducible refine LeO.ite ?_ ?_)
      | (with_reducible refine LeO.bind ?_ (fun _ => ?_))
      | exact marlineref03_Has.mono _ _ _
      | exact LeO.none _
      | refine LeO.ite ?_ ?_
      | refine LeO.bind ?_ (fun _ => ?_)
set_option maxHeartbeats 8000000 in
set_option maxRecDepth 100000 in
theorem marlineref03_Must.calls (k : Nat) (a0 : Int) (a1 : Int) (r : Bool) (w : World) (h : marlineref03_Must.f k a0 a1 = some r) :
    Calls Tryd.prog 10 #[.int .u32 a0, .int .u8 a1] w fun e w' => e = .returned (.bool r) ∧ Drawn0 w w' := by
  have H : (if a1 = 125 then (some true) else (if a1 = 126 then (some true) else ((marlineref03_Has.f k a0 a1).bind fun t116 => (some t116)))) = some r := h
  clear h
  by_cases c3 : a1 = 125
  · rw [if_pos c3] at H
    have c3b0 : (a1 == 125) = true := beq_iff_eq.mpr c3
    have c3b1 : (a1 != 125) = false := bne_eq_false_iff_eq.mpr c3
    clear c3
    obtain rfl := Option.some.inj H
    go_enter Tryd.func10, Tryd.ntmps10
    go_wp2
    go_ret
    exact ⟨by first | rfl | (simp; done) | (simp [*]; done), by repeat (first | exact Drawn0.refl _ | apply Drawn0.step)⟩
  · rw [if_neg c3] at H
    have c3b0 : (a1 == 125) = false := beq_eq_false_iff_ne.mpr c3
    have c3b1 : (a1 != 125) = true := bne_iff_ne.mpr c3
    by_cases c4 : a1 = 126
    · rw [if_pos c4] at H
      have c4b0 : (a1 == 126) = true := beq_iff_eq.mpr c4
      have c4b1 : (a1 != 126) = false := bne_eq_false_iff_eq.mpr c4
      clear c4
      obtain rfl := Option.some.inj H
      go_enter Tryd.func10, Tryd.ntmps10
      go_wp2
      go_ret
      exact ⟨by first | rfl | (simp; done) | (simp [*]; done), by repeat (first | exact Drawn0.refl _ | apply Drawn0.step)⟩
    · rw [if_neg c4] at H
      have c4b0 : (a1 == 126) = false := beq_eq_false_iff_ne.mpr c4
      have c4b1 : (a1 != 126) = true := bne_iff_ne.mpr c4
      replace H := Option.bind_eq_some_iff.mp H
      obtain ⟨t116, A50, H⟩ := H
      replace H : (some t116) = some r := H
      have A5 := Aside0.mk A50
      clear A50
      obtain rfl := Option.some.inj H
      go_enter Tryd.func10, Tryd.ntmps10
      go_wp2_with (first | (go_at_call 8; (with_reducible refine (marlineref03_Has.calls k a0 a1 t116 _ A5.out).mono ?_); rintro e w' ⟨rfl, ⟨nd, rfl⟩⟩))
      go_ret
      exact ⟨by first | rfl | (simp; done) | (simp [*]; done), by repeat (first | exact Drawn0.refl _ | apply Drawn0.step)⟩

end Go.Proofs.YtofanmciehbabaaDoor.Print
