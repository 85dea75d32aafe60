/- A text that a program of this claim (wip/x) laid out of the translation: what Go functions come to, and that they come to it. Lean checks it. -/
import Derived.Test.YtjmclghjhnbafaaPrint0
namespace Go.Proofs.Ytjmclghjhnbafaa.Print
open Go.RowKit Go.Proofs.YtjmclghjhnbafaaW.PrintWords Go.Proofs.YtjmclghjhnbafaaW.PrintLast Go.Proofs.YtjmclghjhnbafaaW.PrintMore
attribute [local go_sem] max2_int min2_int max_two min_two max_three min_three max_four min_four   -- for this text's walks alone
set_option linter.unusedVariables false
set_option linter.unusedSimpArgs false

/-! ### slices_Grow_byte_byte: function 48 -/
def slices_Grow_byte_byte.f (l0 : List Int) (a1 : Int) : Option (List Int) := if 0 ≤ a1 then (if a1 < 140737488355328 then some [] else none) else none
set_option maxHeartbeats 8000000 in
set_option maxRecDepth 100000 in
theorem slices_Grow_byte_byte.calls (A0 : Option Addr) (c0 : Nat) (l0 : List Int) (a1 : Int) (r : List Int) (w : World) (hr0 : Kd.C (Kd.int .u8) w A0 l0.length l0) (hc0 : l0.length ≤ c0) (h : slices_Grow_byte_byte.f l0 a1 = some r) (hA : A0 = none := by rfl) (hc : c0 = 0 := by rfl) :
    Calls Try.prog 48 #[.slice A0 l0.length c0, .int .i64 a1] w fun e w' => ∃ v0_ : Value, e = .returned (v0_) ∧ Kd.R (Kd.int .u8) 5 w' w.heap.size (fun _ => True) v0_ r ∧ Below w.heap.size w w' := by
  subst hA
  subst hc
  obtain rfl : l0 = [] := List.eq_nil_of_length_eq_zero (by omega)
  clear hr0 hc0
  unfold slices_Grow_byte_byte.f at h
  by_cases h0 : 0 ≤ a1
  · rw [if_pos h0] at h
    by_cases h1 : a1 < 140737488355328
    · rw [if_pos h1] at h
      obtain rfl := Option.some.inj h
      clear h
      have L1 := Aside0.mk h0
      have L2 := Aside0.mk h1
      have HB := Aside0.mk (Below.refl w.heap.size w)
      have d0 : decide (a1 < 0) = false := decide_eq_false (by omega)
      have e1 : wrap64 a1 = a1 := by unfold wrap64; omega
      clear h0 h1
      by_cases h2 : 0 < a1
      · have d1 : decide (0 < a1) = true := decide_eq_true h2
        clear h2
        go_enter Try.func48, Try.ntmps48
        go_wp2_with (first | ((with_reducible refine gate_builtin (b := .append) (xs := #[.tmp 20, .tmp 21]) rfl ?_); at_builtin; refine Kd.R_append_zeros (Kd.int .u8) (w0 := w) w.heap.size rfl (.tmp 20) (.tmp 21) 28 3 5 (.int .u8 0) 1 rfl Try.underlying28 Try.underlying3 info5 rfl (by decide) (by omega) (.slice none 0 0) [] (0 : Int) (wrap64 a1) (fun _ => True) rfl rfl rfl (fun _ _ => trivial) (Kd.R_nil _ _ _ _ _) (by rw [e1]; exact L1.out) ?aB ?aS ?aL ?_; (case aB => exact (by repeat (first | (with_reducible first | exact HB.out | apply below_alloc | apply pw_below_drewN | apply below_drew1) | exact HB.out))); (case aS => exact (below_size (by repeat (first | (with_reducible first | exact HB.out | apply below_alloc | apply pw_below_drewN | apply below_drew1) | exact HB.out)))); (case aL => have h1_ := L1.out; have h2_ := L2.out; rw [e1]; simp only [List.length_nil]; omega); intro v2 w2 ho hb hg hat; have n0_ := Aside0.mk hb; have n1_ := Aside0.mk ho; clear HB hg hat ho hb; have HB := n0_; have HO := n1_; clear n0_ n1_; obtain ⟨A2, c2, eo2⟩ := Kd.R_slice HO.out; subst eo2))
        go_ret
        exact ⟨_, rfl, by have h3 := Kd.R_take HO.out (m := 0) (Nat.zero_le _); exact h3, HB.out⟩
      · have d1 : decide (0 < a1) = false := decide_eq_false h2
        clear h2
        go_enter Try.func48, Try.ntmps48
        go_wp2
        go_ret
        exact ⟨_, rfl, Kd.R_nil _ _ _ _ _, HB.out⟩
    · rw [if_neg h1] at h
      cases h
  · rw [if_neg h0] at h
    cases h


end Go.Proofs.Ytjmclghjhnbafaa.Print
