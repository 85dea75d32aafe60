/- A text that a program of this claim (wip/x) laid out of the translation: what Go functions come to, and that they come to it. Lean checks it. -/
import Derived.Test.YtofanmciehbabaaDoorPrint0
import Derived.Test.YtofanmciehbabaaDoorPrintAccmWithin
import Derived.Test.YtofanmciehbabaaDoorPrintBitsTrailingZeros32
import Derived.Test.YtofanmciehbabaaDoorPrintMarlinelaw03Speaks
namespace Go.Proofs.YtofanmciehbabaaDoor.Print
open Go.RowKit Go.Proofs.YtofanmciehbabaaDoorW.PrintWords Go.Proofs.YtofanmciehbabaaDoorW.PrintLast Go.Proofs.YtofanmciehbabaaDoorW.PrintMore
attribute [local go_sem] max2_int min2_int max_two min_two max_three min_three max_four min_four   -- for this text's walks alone
set_option linter.unusedVariables false
set_option linter.unusedSimpArgs false

/-! ### marlinelaw03_AccmWithin: function 4 -/
mutual
def marlinelaw03_AccmWithin.j0 : Nat → Int → Int → Int → Bool → Option (Bool)
  | 0, _, _, _, _ => none
  | k + 1, x0, x1, x2, x38 => if x38 = true then (none) else ((accm_Within.f x0 x1).bind fun t145 => (if t145 = true then ((accm_Within.f x1 x0).bind fun t146 => (marlinelaw03_AccmWithin.j1 k x0 x1 x2 (t146 != (x0 == x1)))) else (marlinelaw03_AccmWithin.j1 k x0 x1 x2 false)))
def marlinelaw03_AccmWithin.j1 : Nat → Int → Int → Int → Bool → Option (Bool)
  | 0, _, _, _, _ => none
  | k + 1, x0, x1, x2, x50 => if x50 = true then (none) else ((accm_Within.f x0 x1).bind fun t147 => (if t147 = true then ((accm_Within.f x1 x2).bind fun t148 => (if t148 = true then ((accm_Within.f x0 x2).bind fun t149 => (some t149)) else (some true))) else (some true)))
end
def marlinelaw03_AccmWithin.f (k : Nat) (a0 : Int) (a1 : Int) (a2 : Int) : Option (Bool) := (marlinelaw03_speaks.f k).bind fun t139 => (if t139 = true then ((accm_Within.f a0 a0).bind fun t140 => (if t140 = true then ((accm_Within.f a0 4294967295).bind fun t141 => (if t141 = true then ((accm_Within.f 0 a0).bind fun t142 => (if t142 = true then ((accm_Within.f (Go.bits .and .u32 a0 a1) a0).bind fun t143 => (if t143 = true then ((accm_Within.f a0 (Go.bits .or .u32 a0 a1)).bind fun t144 => (marlinelaw03_AccmWithin.j0 k a0 a1 a2 (!t144))) else (marlinelaw03_AccmWithin.j0 k a0 a1 a2 true))) else (marlinelaw03_AccmWithin.j0 k a0 a1 a2 true))) else (marlinelaw03_AccmWithin.j0 k a0 a1 a2 true))) else (marlinelaw03_AccmWithin.j0 k a0 a1 a2 true))) else (none))
theorem marlinelaw03_AccmWithin.mono_l : ∀ k, (∀ y0 y1 y2 y3, LeO (marlinelaw03_AccmWithin.j0 k y0 y1 y2 y3) (marlinelaw03_AccmWithin.j0 (k + 1) y0 y1 y2 y3)) ∧ (∀ y0 y1 y2 y3, LeO (marlinelaw03_AccmWithin.j1 k y0 y1 y2 y3) (marlinelaw03_AccmWithin.j1 (k + 1) y0 y1 y2 y3))
  | 0 => ⟨fun _ _ _ _ r h => by simp [marlinelaw03_AccmWithin.j0] at h, fun _ _ _ _ r h => by simp [marlinelaw03_AccmWithin.j1] at h⟩
  | k + 1 => by
    obtain ⟨ih0, ih1⟩ := marlinelaw03_AccmWithin.mono_l k
    refine ⟨?_, ?_⟩
    · intro y0 y1 y2 y3
      unfold marlinelaw03_AccmWithin.j0
      repeat' first
      | (with_reducible exact ih0 _ _ _ _)
      | (with_reducible exact ih1 _ _ _ _)
      | (with_reducible exact marlinelaw03_speaks.mono _)
      | (with_reducible exact LeO.refl _)
      | (with_reducible exact LeO.none _)
      | (with_reducible refine LeO.ite ?_ ?_)
      | (with_reducible refine LeO.bind ?_ (fun _ => ?_))
      | exact ih0 _ _ _ _
      | exact ih1 _ _ _ _
      | exact marlinelaw03_speaks.mono _
      | exact LeO.none _
      | refine LeO.ite ?_ ?_
      | refine LeO.bind ?_ (fun _ => ?_)
    · intro y0 y1 y2 y3
      unfold marlinelaw03_AccmWithin.j1
      repeat' first
      | (with_reducible exact ih0 _ _ _ _)
      | (with_reducible exact ih1 _ _ _ _)
      | (with_reducible exact marlinelaw03_speaks.mono _)
      | (with_reducible exact LeO.refl _)
      | (with_reducible exact LeO.none _)
      | (with_reducible refine LeO.ite ?_ ?_)
      | (with_reducible refine LeO.bind ?_ (fun _ => ?_))
      | exact ih0 _ _ _ _
      | exact ih1 _ _ _ _
      | exact marlinelaw03_speaks.mono _
      | exact LeO.none _
      | refine LeO.ite ?_ ?_
      | refine LeO.bind ?_ (fun _ => ?_)
theorem marlinelaw03_AccmWithin.mono : ∀ a0 a1 a2 k, LeO (marlinelaw03_AccmWithin.f k a0 a1 a2) (marlinelaw03_AccmWithin.f (k + 1) a0 a1 a2) := by
  intro a0 a1 a2 k
  obtain ⟨ih0, ih1⟩ := marlinelaw03_AccmWithin.mono_l k
  unfold marlinelaw03_AccmWithin.f
  repeat' first
      | (with_reducible exact ih0 _ _ _ _)
      | (with_reducible exact ih1 _ _ _ _)
      | (with_reducible exact marlinelaw03_speaks.mono _)
      | (with_reducible exact LeO.refl _)
      | (with_reducible exact LeO.none _)
      | (with_reducible refine LeO.ite ?_ ?_)
      | (with_reducible refine LeO.bind ?_ (fun _ => ?_))
      | exact ih0 _ _ _ _
      | exact ih1 _ _ _ _
      | exact marlinelaw03_speaks.mono _
      | exact LeO.none _
      | refine LeO.ite ?_ ?_
      | refine LeO.bind ?_ (fun _ => ?_)
set_option maxHeartbeats 8000000 in
set_option maxRecDepth 100000 in
theorem marlinelaw03_AccmWithin.calls (k : Nat) (a0 : Int) (a1 : Int) (a2 : Int) (r : Bool) (w : World) (h : marlinelaw03_AccmWithin.f k a0 a1 a2 = some r) (hGL : GL w := by first | exact hGL | exact hGL.below HB.out | exact hGL.below (by repeat (first | (with_reducible first | exact HB.out | apply below_alloc | apply pw_below_drewN | apply below_drew1) | exact HB.out))) :
    Calls Tryd.prog 4 #[.int .u32 a0, .int .u32 a1, .int .u32 a2] w fun e w' => e = .returned (.bool r) ∧ Below w.heap.size w w' := by
  have HB := Aside0.mk (Below.refl w.heap.size w)
  have H : ((marlinelaw03_speaks.f k).bind fun t139 => (if t139 = true then ((accm_Within.f a0 a0).bind fun t140 => (if t140 = true then ((accm_Within.f a0 4294967295).bind fun t141 => (if t141 = true then ((accm_Within.f 0 a0).bind fun t142 => (if t142 = true then ((accm_Within.f (Go.bits .and .u32 a0 a1) a0).bind fun t143 => (if t143 = true then ((accm_Within.f a0 (Go.bits .or .u32 a0 a1)).bind fun t144 => (marlinelaw03_AccmWithin.j0 k a0 a1 a2 (!t144))) else (marlinelaw03_AccmWithin.j0 k a0 a1 a2 true))) else (marlinelaw03_AccmWithin.j0 k a0 a1 a2 true))) else (marlinelaw03_AccmWithin.j0 k a0 a1 a2 true))) else (marlinelaw03_AccmWithin.j0 k a0 a1 a2 true))) else (none))) = some r := h
  clear h
  replace H := Option.bind_eq_some_iff.mp H
  obtain ⟨t139, A40, H⟩ := H
  replace H : (if t139 = true then ((accm_Within.f a0 a0).bind fun t140 => (if t140 = true then ((accm_Within.f a0 4294967295).bind fun t141 => (if t141 = true then ((accm_Within.f 0 a0).bind fun t142 => (if t142 = true then ((accm_Within.f (Go.bits .and .u32 a0 a1) a0).bind fun t143 => (if t143 = true then ((accm_Within.f a0 (Go.bits .or .u32 a0 a1)).bind fun t144 => (marlinelaw03_AccmWithin.j0 k a0 a1 a2 (!t144))) else (marlinelaw03_AccmWithin.j0 k a0 a1 a2 true))) else (marlinelaw03_AccmWithin.j0 k a0 a1 a2 true))) else (marlinelaw03_AccmWithin.j0 k a0 a1 a2 true))) else (marlinelaw03_AccmWithin.j0 k a0 a1 a2 true))) else (none)) = some r := H
  have A4 := Aside0.mk A40
  clear A40
  by_cases c5 : t139 = true
  · subst c5
    have H1 : ((accm_Within.f a0 a0).bind fun t140 => (if t140 = true then ((accm_Within.f a0 4294967295).bind fun t141 => (if t141 = true then ((accm_Within.f 0 a0).bind fun t142 => (if t142 = true then ((accm_Within.f (Go.bits .and .u32 a0 a1) a0).bind fun t143 => (if t143 = true then ((accm_Within.f a0 (Go.bits .or .u32 a0 a1)).bind fun t144 => (marlinelaw03_AccmWithin.j0 k a0 a1 a2 (!t144))) else (marlinelaw03_AccmWithin.j0 k a0 a1 a2 true))) else (marlinelaw03_AccmWithin.j0 k a0 a1 a2 true))) else (marlinelaw03_AccmWithin.j0 k a0 a1 a2 true))) else (marlinelaw03_AccmWithin.j0 k a0 a1 a2 true))) = some r := by rw [if_pos rfl] at H; exact H
    clear H
    have H := H1
    clear H1
    have HC6 := Aside0.mk H
    clear H
    go_enter Tryd.func4, Tryd.ntmps4
    go_upto_region 3 with (first | ((with_reducible refine gate_callee (f := 6) rfl ?_); refine goesL_ (some 7) rfl rfl Tryd.func6 (by kernel_rfl) rfl #[] rfl (by (try simp only [List.map_toArray, List.map_cons, List.map_nil]); first | done | rfl | (simp only [List.length_drop, List.length_take]; rfl)) ?_; (with_reducible refine (marlinelaw03_speaks.calls k  true _ A4.out).mono ?_); rintro e w7 ⟨rfl, hb⟩; refine ⟨_, rfl, ?_⟩; have n0_ := Aside0.mk (below_step (by repeat (first | (with_reducible first | exact HB.out | apply below_alloc | apply pw_below_drewN | apply below_drew1) | exact HB.out)) hb); clear HB; have HB := n0_; clear n0_; (try clear hb); (try clear hb2); (try clear hk); (try clear hi)))
    (try simp only [Act.put, List.setIfInBounds_toArray, List.set_cons_zero, List.set_cons_succ])
    go_cut [38] (fun v38 wc => ∃ (kq : Nat) (x38_5 : Bool), v38 = .bool x38_5 ∧ Aside0 (marlinelaw03_AccmWithin.j0 kq a0 a1 a2 x38_5 = some r) ∧ Aside0 (kq ≤ k) ∧ Aside0 (Below w.heap.size w wc))
    case first =>
      have H := HC6.out
      clear HC6
      replace H := Option.bind_eq_some_iff.mp H
      obtain ⟨t140, A80, H⟩ := H
      replace H : (if t140 = true then ((accm_Within.f a0 4294967295).bind fun t141 => (if t141 = true then ((accm_Within.f 0 a0).bind fun t142 => (if t142 = true then ((accm_Within.f (Go.bits .and .u32 a0 a1) a0).bind fun t143 => (if t143 = true then ((accm_Within.f a0 (Go.bits .or .u32 a0 a1)).bind fun t144 => (marlinelaw03_AccmWithin.j0 k a0 a1 a2 (!t144))) else (marlinelaw03_AccmWithin.j0 k a0 a1 a2 true))) else (marlinelaw03_AccmWithin.j0 k a0 a1 a2 true))) else (marlinelaw03_AccmWithin.j0 k a0 a1 a2 true))) else (marlinelaw03_AccmWithin.j0 k a0 a1 a2 true)) = some r := H
      have A8 := Aside0.mk A80
      clear A80
      by_cases c9 : t140 = true
      · subst c9
        have H1 : ((accm_Within.f a0 4294967295).bind fun t141 => (if t141 = true then ((accm_Within.f 0 a0).bind fun t142 => (if t142 = true then ((accm_Within.f (Go.bits .and .u32 a0 a1) a0).bind fun t143 => (if t143 = true then ((accm_Within.f a0 (Go.bits .or .u32 a0 a1)).bind fun t144 => (marlinelaw03_AccmWithin.j0 k a0 a1 a2 (!t144))) else (marlinelaw03_AccmWithin.j0 k a0 a1 a2 true))) else (marlinelaw03_AccmWithin.j0 k a0 a1 a2 true))) else (marlinelaw03_AccmWithin.j0 k a0 a1 a2 true))) = some r := by rw [if_pos rfl] at H; exact H
        clear H
        have H := H1
        clear H1
        replace H := Option.bind_eq_some_iff.mp H
        obtain ⟨t141, A100, H⟩ := H
        replace H : (if t141 = true then ((accm_Within.f 0 a0).bind fun t142 => (if t142 = true then ((accm_Within.f (Go.bits .and .u32 a0 a1) a0).bind fun t143 => (if t143 = true then ((accm_Within.f a0 (Go.bits .or .u32 a0 a1)).bind fun t144 => (marlinelaw03_AccmWithin.j0 k a0 a1 a2 (!t144))) else (marlinelaw03_AccmWithin.j0 k a0 a1 a2 true))) else (marlinelaw03_AccmWithin.j0 k a0 a1 a2 true))) else (marlinelaw03_AccmWithin.j0 k a0 a1 a2 true)) = some r := H
        have A10 := Aside0.mk A100
        clear A100
        by_cases c11 : t141 = true
        · subst c11
          have H1 : ((accm_Within.f 0 a0).bind fun t142 => (if t142 = true then ((accm_Within.f (Go.bits .and .u32 a0 a1) a0).bind fun t143 => (if t143 = true then ((accm_Within.f a0 (Go.bits .or .u32 a0 a1)).bind fun t144 => (marlinelaw03_AccmWithin.j0 k a0 a1 a2 (!t144))) else (marlinelaw03_AccmWithin.j0 k a0 a1 a2 true))) else (marlinelaw03_AccmWithin.j0 k a0 a1 a2 true))) = some r := by rw [if_pos rfl] at H; exact H
          clear H
          have H := H1
          clear H1
          replace H := Option.bind_eq_some_iff.mp H
          obtain ⟨t142, A120, H⟩ := H
          replace H : (if t142 = true then ((accm_Within.f (Go.bits .and .u32 a0 a1) a0).bind fun t143 => (if t143 = true then ((accm_Within.f a0 (Go.bits .or .u32 a0 a1)).bind fun t144 => (marlinelaw03_AccmWithin.j0 k a0 a1 a2 (!t144))) else (marlinelaw03_AccmWithin.j0 k a0 a1 a2 true))) else (marlinelaw03_AccmWithin.j0 k a0 a1 a2 true)) = some r := H
          have A12 := Aside0.mk A120
          clear A120
          by_cases c13 : t142 = true
          · subst c13
            have H1 : ((accm_Within.f (Go.bits .and .u32 a0 a1) a0).bind fun t143 => (if t143 = true then ((accm_Within.f a0 (Go.bits .or .u32 a0 a1)).bind fun t144 => (marlinelaw03_AccmWithin.j0 k a0 a1 a2 (!t144))) else (marlinelaw03_AccmWithin.j0 k a0 a1 a2 true))) = some r := by rw [if_pos rfl] at H; exact H
            clear H
            have H := H1
            clear H1
            replace H := Option.bind_eq_some_iff.mp H
            obtain ⟨t143, A140, H⟩ := H
            replace H : (if t143 = true then ((accm_Within.f a0 (Go.bits .or .u32 a0 a1)).bind fun t144 => (marlinelaw03_AccmWithin.j0 k a0 a1 a2 (!t144))) else (marlinelaw03_AccmWithin.j0 k a0 a1 a2 true)) = some r := H
            have A14 := Aside0.mk A140
            clear A140
            by_cases c15 : t143 = true
            · subst c15
              have H1 : ((accm_Within.f a0 (Go.bits .or .u32 a0 a1)).bind fun t144 => (marlinelaw03_AccmWithin.j0 k a0 a1 a2 (!t144))) = some r := by rw [if_pos rfl] at H; exact H
              clear H
              have H := H1
              clear H1
              replace H := Option.bind_eq_some_iff.mp H
              obtain ⟨t144, A160, H⟩ := H
              replace H : (marlinelaw03_AccmWithin.j0 k a0 a1 a2 (!t144)) = some r := H
              have A16 := Aside0.mk A160
              clear A160
              have H' := Aside0.mk H
              clear H
              go_wp2_with (first | ((with_reducible refine gate_callee (f := 14) rfl ?_); refine goesL_ (some 11) rfl rfl Tryd.func14 (by kernel_rfl) rfl #[.int .u32 a0, .int .u32 a0] rfl (by (try simp only [List.map_toArray, List.map_cons, List.map_nil]); first | done | rfl | (simp only [List.length_drop, List.length_take]; rfl)) ?_; (with_reducible refine (accm_Within.calls a0 a0 true _ A8.out).mono ?_); rintro e w' ⟨rfl, ⟨nd, rfl⟩⟩; refine ⟨_, rfl, ?_⟩) | (go_at_call 14; (with_reducible refine (accm_Within.calls a0 4294967295 true _ A10.out).mono ?_); rintro e w' ⟨rfl, ⟨nd, rfl⟩⟩) | (go_at_call 14; (with_reducible refine (accm_Within.calls 0 a0 true _ A12.out).mono ?_); rintro e w' ⟨rfl, ⟨nd, rfl⟩⟩) | (go_at_call 14; (with_reducible refine (accm_Within.calls (Go.bits .and .u32 a0 a1) a0 true _ A14.out).mono ?_); rintro e w' ⟨rfl, ⟨nd, rfl⟩⟩) | (go_at_call 14; (with_reducible refine (accm_Within.calls a0 (Go.bits .or .u32 a0 a1) t144 _ A16.out).mono ?_); rintro e w' ⟨rfl, ⟨nd, rfl⟩⟩))
              go_meet
              case rel => exact ⟨_, (!t144), (by first | rfl | (simp; done) | (simp [*]; done)), H', ⟨by first | omega | exact Nat.le_refl _⟩, ⟨by repeat (first | (with_reducible first | exact HB.out | apply below_alloc | apply pw_below_drewN | apply below_drew1) | exact HB.out)⟩⟩
            · replace c15 := Bool.eq_false_iff.mpr c15
              subst c15
              have H1 : (marlinelaw03_AccmWithin.j0 k a0 a1 a2 true) = some r := by rw [if_neg (show ¬ (false = true) by decide)] at H; exact H
              clear H
              have H := H1
              clear H1
              have H' := Aside0.mk H
              clear H
              go_wp2_with (first | ((with_reducible refine gate_callee (f := 14) rfl ?_); refine goesL_ (some 11) rfl rfl Tryd.func14 (by kernel_rfl) rfl #[.int .u32 a0, .int .u32 a0] rfl (by (try simp only [List.map_toArray, List.map_cons, List.map_nil]); first | done | rfl | (simp only [List.length_drop, List.length_take]; rfl)) ?_; (with_reducible refine (accm_Within.calls a0 a0 true _ A8.out).mono ?_); rintro e w' ⟨rfl, ⟨nd, rfl⟩⟩; refine ⟨_, rfl, ?_⟩) | (go_at_call 14; (with_reducible refine (accm_Within.calls a0 4294967295 true _ A10.out).mono ?_); rintro e w' ⟨rfl, ⟨nd, rfl⟩⟩) | (go_at_call 14; (with_reducible refine (accm_Within.calls 0 a0 true _ A12.out).mono ?_); rintro e w' ⟨rfl, ⟨nd, rfl⟩⟩) | (go_at_call 14; (with_reducible refine (accm_Within.calls (Go.bits .and .u32 a0 a1) a0 false _ A14.out).mono ?_); rintro e w' ⟨rfl, ⟨nd, rfl⟩⟩))
              go_meet
              case rel => exact ⟨_, (true), (by first | rfl | (simp; done) | (simp [*]; done)), H', ⟨by first | omega | exact Nat.le_refl _⟩, ⟨by repeat (first | (with_reducible first | exact HB.out | apply below_alloc | apply pw_below_drewN | apply below_drew1) | exact HB.out)⟩⟩
          · replace c13 := Bool.eq_false_iff.mpr c13
            subst c13
            have H1 : (marlinelaw03_AccmWithin.j0 k a0 a1 a2 true) = some r := by rw [if_neg (show ¬ (false = true) by decide)] at H; exact H
            clear H
            have H := H1
            clear H1
            have H' := Aside0.mk H
            clear H
            go_wp2_with (first | ((with_reducible refine gate_callee (f := 14) rfl ?_); refine goesL_ (some 11) rfl rfl Tryd.func14 (by kernel_rfl) rfl #[.int .u32 a0, .int .u32 a0] rfl (by (try simp only [List.map_toArray, List.map_cons, List.map_nil]); first | done | rfl | (simp only [List.length_drop, List.length_take]; rfl)) ?_; (with_reducible refine (accm_Within.calls a0 a0 true _ A8.out).mono ?_); rintro e w' ⟨rfl, ⟨nd, rfl⟩⟩; refine ⟨_, rfl, ?_⟩) | (go_at_call 14; (with_reducible refine (accm_Within.calls a0 4294967295 true _ A10.out).mono ?_); rintro e w' ⟨rfl, ⟨nd, rfl⟩⟩) | (go_at_call 14; (with_reducible refine (accm_Within.calls 0 a0 false _ A12.out).mono ?_); rintro e w' ⟨rfl, ⟨nd, rfl⟩⟩))
            go_meet
            case rel => exact ⟨_, (true), (by first | rfl | (simp; done) | (simp [*]; done)), H', ⟨by first | omega | exact Nat.le_refl _⟩, ⟨by repeat (first | (with_reducible first | exact HB.out | apply below_alloc | apply pw_below_drewN | apply below_drew1) | exact HB.out)⟩⟩
        · replace c11 := Bool.eq_false_iff.mpr c11
          subst c11
          have H1 : (marlinelaw03_AccmWithin.j0 k a0 a1 a2 true) = some r := by rw [if_neg (show ¬ (false = true) by decide)] at H; exact H
          clear H
          have H := H1
          clear H1
          have H' := Aside0.mk H
          clear H
          go_wp2_with (first | ((with_reducible refine gate_callee (f := 14) rfl ?_); refine goesL_ (some 11) rfl rfl Tryd.func14 (by kernel_rfl) rfl #[.int .u32 a0, .int .u32 a0] rfl (by (try simp only [List.map_toArray, List.map_cons, List.map_nil]); first | done | rfl | (simp only [List.length_drop, List.length_take]; rfl)) ?_; (with_reducible refine (accm_Within.calls a0 a0 true _ A8.out).mono ?_); rintro e w' ⟨rfl, ⟨nd, rfl⟩⟩; refine ⟨_, rfl, ?_⟩) | (go_at_call 14; (with_reducible refine (accm_Within.calls a0 4294967295 false _ A10.out).mono ?_); rintro e w' ⟨rfl, ⟨nd, rfl⟩⟩))
          go_meet
          case rel => exact ⟨_, (true), (by first | rfl | (simp; done) | (simp [*]; done)), H', ⟨by first | omega | exact Nat.le_refl _⟩, ⟨by repeat (first | (with_reducible first | exact HB.out | apply below_alloc | apply pw_below_drewN | apply below_drew1) | exact HB.out)⟩⟩
      · replace c9 := Bool.eq_false_iff.mpr c9
        subst c9
        have H1 : (marlinelaw03_AccmWithin.j0 k a0 a1 a2 true) = some r := by rw [if_neg (show ¬ (false = true) by decide)] at H; exact H
        clear H
        have H := H1
        clear H1
        have H' := Aside0.mk H
        clear H
        go_wp2_with (first | ((with_reducible refine gate_callee (f := 14) rfl ?_); refine goesL_ (some 11) rfl rfl Tryd.func14 (by kernel_rfl) rfl #[.int .u32 a0, .int .u32 a0] rfl (by (try simp only [List.map_toArray, List.map_cons, List.map_nil]); first | done | rfl | (simp only [List.length_drop, List.length_take]; rfl)) ?_; (with_reducible refine (accm_Within.calls a0 a0 false _ A8.out).mono ?_); rintro e w' ⟨rfl, ⟨nd, rfl⟩⟩; refine ⟨_, rfl, ?_⟩))
        go_meet
        case rel => exact ⟨_, (true), (by first | rfl | (simp; done) | (simp [*]; done)), H', ⟨by first | omega | exact Nat.le_refl _⟩, ⟨by repeat (first | (with_reducible first | exact HB.out | apply below_alloc | apply pw_below_drewN | apply below_drew1) | exact HB.out)⟩⟩
    case rest =>
      clear HC6
      try clear c1
      try clear p2
      try clear c4
      try clear c5
      try clear c6
      try clear c9
      try clear c11
      try clear c13
      try clear c14
      try clear c15
      obtain ⟨kq, x38_5, rfl, HA, HJ5, HB⟩ := hcut
      cases kq with
      | zero => exact absurd HA.out (by simp [marlinelaw03_AccmWithin.j0])
      | succ kj5 =>
        have H := HA.out
        clear HA
        simp only [marlinelaw03_AccmWithin.j0] at H
        by_cases c17 : x38_5 = true
        · subst c17
          have H1 : (none) = some r := by rw [if_pos rfl] at H; exact H
          clear H
          have H := H1
          clear H1
          exact absurd H (by simp)
        · replace c17 := Bool.eq_false_iff.mpr c17
          subst c17
          have H1 : ((accm_Within.f a0 a1).bind fun t145 => (if t145 = true then ((accm_Within.f a1 a0).bind fun t146 => (marlinelaw03_AccmWithin.j1 kj5 a0 a1 a2 (t146 != (a0 == a1)))) else (marlinelaw03_AccmWithin.j1 kj5 a0 a1 a2 false))) = some r := by rw [if_neg (show ¬ (false = true) by decide)] at H; exact H
          clear H
          have H := H1
          clear H1
          have HC18 := Aside0.mk H
          clear H
          go_upto_region 5 with (fail)
          go_cut [50] (fun v50 wc => ∃ (kq : Nat) (x50_17 : Bool), v50 = .bool x50_17 ∧ Aside0 (marlinelaw03_AccmWithin.j1 kq a0 a1 a2 x50_17 = some r) ∧ Aside0 (kq ≤ kj5) ∧ Aside0 (Below w.heap.size w wc))
          case first =>
            have H := HC18.out
            clear HC18
            replace H := Option.bind_eq_some_iff.mp H
            obtain ⟨t145, A190, H⟩ := H
            replace H : (if t145 = true then ((accm_Within.f a1 a0).bind fun t146 => (marlinelaw03_AccmWithin.j1 kj5 a0 a1 a2 (t146 != (a0 == a1)))) else (marlinelaw03_AccmWithin.j1 kj5 a0 a1 a2 false)) = some r := H
            have A19 := Aside0.mk A190
            clear A190
            by_cases c20 : t145 = true
            · subst c20
              have H1 : ((accm_Within.f a1 a0).bind fun t146 => (marlinelaw03_AccmWithin.j1 kj5 a0 a1 a2 (t146 != (a0 == a1)))) = some r := by rw [if_pos rfl] at H; exact H
              clear H
              have H := H1
              clear H1
              replace H := Option.bind_eq_some_iff.mp H
              obtain ⟨t146, A210, H⟩ := H
              replace H : (marlinelaw03_AccmWithin.j1 kj5 a0 a1 a2 (t146 != (a0 == a1))) = some r := H
              have A21 := Aside0.mk A210
              clear A210
              have H' := Aside0.mk H
              clear H
              go_wp2_with (first | ((with_reducible refine gate_callee (f := 14) rfl ?_); refine goesL_ (some 41) rfl rfl Tryd.func14 (by kernel_rfl) rfl #[.int .u32 a0, .int .u32 a1] rfl (by (try simp only [List.map_toArray, List.map_cons, List.map_nil]); first | done | rfl | (simp only [List.length_drop, List.length_take]; rfl)) ?_; (with_reducible refine (accm_Within.calls a0 a1 true _ A19.out).mono ?_); rintro e w' ⟨rfl, ⟨nd, rfl⟩⟩; refine ⟨_, rfl, ?_⟩) | (go_at_call 14; (with_reducible refine (accm_Within.calls a1 a0 t146 _ A21.out).mono ?_); rintro e w' ⟨rfl, ⟨nd, rfl⟩⟩))
              go_meet
              case rel => exact ⟨_, ((t146 != (a0 == a1))), (by first | rfl | (simp; done) | (simp [*]; done)), H', ⟨by have := HJ5.out; first | omega | exact Nat.le_refl _⟩, ⟨by repeat (first | (with_reducible first | exact HB.out | apply below_alloc | apply pw_below_drewN | apply below_drew1) | exact HB.out)⟩⟩
            · replace c20 := Bool.eq_false_iff.mpr c20
              subst c20
              have H1 : (marlinelaw03_AccmWithin.j1 kj5 a0 a1 a2 false) = some r := by rw [if_neg (show ¬ (false = true) by decide)] at H; exact H
              clear H
              have H := H1
              clear H1
              have H' := Aside0.mk H
              clear H
              go_wp2_with (first | ((with_reducible refine gate_callee (f := 14) rfl ?_); refine goesL_ (some 41) rfl rfl Tryd.func14 (by kernel_rfl) rfl #[.int .u32 a0, .int .u32 a1] rfl (by (try simp only [List.map_toArray, List.map_cons, List.map_nil]); first | done | rfl | (simp only [List.length_drop, List.length_take]; rfl)) ?_; (with_reducible refine (accm_Within.calls a0 a1 false _ A19.out).mono ?_); rintro e w' ⟨rfl, ⟨nd, rfl⟩⟩; refine ⟨_, rfl, ?_⟩))
              go_meet
              case rel => exact ⟨_, (false), (by first | rfl | (simp; done) | (simp [*]; done)), H', ⟨by have := HJ5.out; first | omega | exact Nat.le_refl _⟩, ⟨by repeat (first | (with_reducible first | exact HB.out | apply below_alloc | apply pw_below_drewN | apply below_drew1) | exact HB.out)⟩⟩
          case rest =>
            clear HC18
            try clear c1
            try clear c2
            try clear p2
            try clear c4
            try clear c5
            try clear c6
            try clear c9
            try clear c11
            try clear c13
            try clear c14
            try clear c15
            try clear c17
            try clear c20
            try clear p2
            obtain ⟨kq, x50_17, rfl, HA, HJ17, HB⟩ := hcut
            cases kq with
            | zero => exact absurd HA.out (by simp [marlinelaw03_AccmWithin.j1])
            | succ kj17 =>
              have H := HA.out
              clear HA
              simp only [marlinelaw03_AccmWithin.j1] at H
              by_cases c22 : x50_17 = true
              · subst c22
                have H1 : (none) = some r := by rw [if_pos rfl] at H; exact H
                clear H
                have H := H1
                clear H1
                exact absurd H (by simp)
              · replace c22 := Bool.eq_false_iff.mpr c22
                subst c22
                have H1 : ((accm_Within.f a0 a1).bind fun t147 => (if t147 = true then ((accm_Within.f a1 a2).bind fun t148 => (if t148 = true then ((accm_Within.f a0 a2).bind fun t149 => (some t149)) else (some true))) else (some true))) = some r := by rw [if_neg (show ¬ (false = true) by decide)] at H; exact H
                clear H
                have H := H1
                clear H1
                replace H := Option.bind_eq_some_iff.mp H
                obtain ⟨t147, A230, H⟩ := H
                replace H : (if t147 = true then ((accm_Within.f a1 a2).bind fun t148 => (if t148 = true then ((accm_Within.f a0 a2).bind fun t149 => (some t149)) else (some true))) else (some true)) = some r := H
                have A23 := Aside0.mk A230
                clear A230
                by_cases c24 : t147 = true
                · subst c24
                  have H1 : ((accm_Within.f a1 a2).bind fun t148 => (if t148 = true then ((accm_Within.f a0 a2).bind fun t149 => (some t149)) else (some true))) = some r := by rw [if_pos rfl] at H; exact H
                  clear H
                  have H := H1
                  clear H1
                  replace H := Option.bind_eq_some_iff.mp H
                  obtain ⟨t148, A250, H⟩ := H
                  replace H : (if t148 = true then ((accm_Within.f a0 a2).bind fun t149 => (some t149)) else (some true)) = some r := H
                  have A25 := Aside0.mk A250
                  clear A250
                  by_cases c26 : t148 = true
                  · subst c26
                    have H1 : ((accm_Within.f a0 a2).bind fun t149 => (some t149)) = some r := by rw [if_pos rfl] at H; exact H
                    clear H
                    have H := H1
                    clear H1
                    replace H := Option.bind_eq_some_iff.mp H
                    obtain ⟨t149, A270, H⟩ := H
                    replace H : (some t149) = some r := H
                    have A27 := Aside0.mk A270
                    clear A270
                    obtain rfl := Option.some.inj H
                    go_wp2_with (first | ((with_reducible refine gate_callee (f := 14) rfl ?_); refine goesL_ (some 53) rfl rfl Tryd.func14 (by kernel_rfl) rfl #[.int .u32 a0, .int .u32 a1] rfl (by (try simp only [List.map_toArray, List.map_cons, List.map_nil]); first | done | rfl | (simp only [List.length_drop, List.length_take]; rfl)) ?_; (with_reducible refine (accm_Within.calls a0 a1 true _ A23.out).mono ?_); rintro e w' ⟨rfl, ⟨nd, rfl⟩⟩; refine ⟨_, rfl, ?_⟩) | (go_at_call 14; (with_reducible refine (accm_Within.calls a1 a2 true _ A25.out).mono ?_); rintro e w' ⟨rfl, ⟨nd, rfl⟩⟩) | (go_at_call 14; (with_reducible refine (accm_Within.calls a0 a2 t149 _ A27.out).mono ?_); rintro e w' ⟨rfl, ⟨nd, rfl⟩⟩))
                    go_ret
                    exact ⟨by first | rfl | (simp [errW_none, errW_some] <;> rfl) | (simp [*, errW_none, errW_some] <;> rfl), by repeat (first | (with_reducible first | exact HB.out | apply below_alloc | apply pw_below_drewN | apply below_drew1) | exact HB.out)⟩
                  · replace c26 := Bool.eq_false_iff.mpr c26
                    subst c26
                    have H1 : (some true) = some r := by rw [if_neg (show ¬ (false = true) by decide)] at H; exact H
                    clear H
                    have H := H1
                    clear H1
                    obtain rfl := Option.some.inj H
                    go_wp2_with (first | ((with_reducible refine gate_callee (f := 14) rfl ?_); refine goesL_ (some 53) rfl rfl Tryd.func14 (by kernel_rfl) rfl #[.int .u32 a0, .int .u32 a1] rfl (by (try simp only [List.map_toArray, List.map_cons, List.map_nil]); first | done | rfl | (simp only [List.length_drop, List.length_take]; rfl)) ?_; (with_reducible refine (accm_Within.calls a0 a1 true _ A23.out).mono ?_); rintro e w' ⟨rfl, ⟨nd, rfl⟩⟩; refine ⟨_, rfl, ?_⟩) | (go_at_call 14; (with_reducible refine (accm_Within.calls a1 a2 false _ A25.out).mono ?_); rintro e w' ⟨rfl, ⟨nd, rfl⟩⟩))
                    go_ret
                    exact ⟨by first | rfl | (simp [errW_none, errW_some] <;> rfl) | (simp [*, errW_none, errW_some] <;> rfl), by repeat (first | (with_reducible first | exact HB.out | apply below_alloc | apply pw_below_drewN | apply below_drew1) | exact HB.out)⟩
                · replace c24 := Bool.eq_false_iff.mpr c24
                  subst c24
                  have H1 : (some true) = some r := by rw [if_neg (show ¬ (false = true) by decide)] at H; exact H
                  clear H
                  have H := H1
                  clear H1
                  obtain rfl := Option.some.inj H
                  go_wp2_with (first | ((with_reducible refine gate_callee (f := 14) rfl ?_); refine goesL_ (some 53) rfl rfl Tryd.func14 (by kernel_rfl) rfl #[.int .u32 a0, .int .u32 a1] rfl (by (try simp only [List.map_toArray, List.map_cons, List.map_nil]); first | done | rfl | (simp only [List.length_drop, List.length_take]; rfl)) ?_; (with_reducible refine (accm_Within.calls a0 a1 false _ A23.out).mono ?_); rintro e w' ⟨rfl, ⟨nd, rfl⟩⟩; refine ⟨_, rfl, ?_⟩))
                  go_ret
                  exact ⟨by first | rfl | (simp [errW_none, errW_some] <;> rfl) | (simp [*, errW_none, errW_some] <;> rfl), by repeat (first | (with_reducible first | exact HB.out | apply below_alloc | apply pw_below_drewN | apply below_drew1) | exact HB.out)⟩
  · replace c5 := Bool.eq_false_iff.mpr c5
    subst c5
    have H1 : (none) = some r := by rw [if_neg (show ¬ (false = true) by decide)] at H; exact H
    clear H
    have H := H1
    clear H1
    exact absurd H (by simp)

/-- THE ONE PURE STATEMENT of marlinelaw03_AccmWithin: yours. -/
def marlinelaw03_AccmWithin.Pure : Prop := ∀ (a0 : Int) (a1 : Int) (a2 : Int), (Lit.int .u32 a0).wf = true → (Lit.int .u32 a1).wf = true → (Lit.int .u32 a2).wf = true → ∃ k, marlinelaw03_AccmWithin.f k a0 a1 a2 = some true
theorem marlinelaw03_AccmWithin.walk (P : marlinelaw03_AccmWithin.Pure) (a0 : Int) (a1 : Int) (a2 : Int) (w : World) (hGL : GL w) (w0 : (Lit.int .u32 a0).wf = true) (w1 : (Lit.int .u32 a1).wf = true) (w2 : (Lit.int .u32 a2).wf = true) :
    Calls Tryd.prog 4 #[.int .u32 a0, .int .u32 a1, .int .u32 a2] w fun e w' => e = .returned (.bool true) ∧ Below w.heap.size w w' := by
  obtain ⟨k, h⟩ := P a0 a1 a2 w0 w1 w2
  refine (marlinelaw03_AccmWithin.calls k a0 a1 a2 true w h).mono ?_
  rintro e w' ⟨rfl, hd⟩
  exact ⟨rfl, hd⟩

end Go.Proofs.YtofanmciehbabaaDoor.Print
