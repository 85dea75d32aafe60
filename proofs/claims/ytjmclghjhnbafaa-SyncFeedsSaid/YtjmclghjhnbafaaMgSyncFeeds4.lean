/- Texts of this claim, several in one: what Go functions come to, and plain words on it; each says itself what it proves. -/
import Derived.Test.YtjmclghjhnbafaaMgSyncFeeds1
import Derived.Test.YtjmclghjhnbafaaMgSyncFeeds2
import Derived.Test.YtjmclghjhnbafaaMgSyncFeeds3
/- A text that a program of this claim (wip/x) laid out of the translation: what Go functions come to, and that they come to it. Lean checks it. -/
namespace Go.Proofs.Ytjmclghjhnbafaa.Print
open Go.RowKit Go.Proofs.YtjmclghjhnbafaaW.PrintWords Go.Proofs.YtjmclghjhnbafaaW.PrintLast Go.Proofs.YtjmclghjhnbafaaW.PrintMore
attribute [local go_sem] max2_int min2_int max_two min_two max_three min_three max_four min_four   -- for this text's walks alone
set_option linter.unusedVariables false
set_option linter.unusedSimpArgs false

/-! ### marlinelaw07_same: function 26 -/
def marlinelaw07_same.l0 : Nat → List (S54) → List (S54) → Int → Int → Option (Bool)
  | 0, _, _, _, _ => none
  | k + 1, x0, x1, x12, x13 => if x13 < x12 then (if 0 ≤ x13 then (if x13 < (x0.length : Int) then (if x13 < (x1.length : Int) then (if ((rd_T54 x0 x13).f0) = ((rd_T54 x1 x13).f0) then ((marlineref01_Equal.f k ((rd_T54 x0 x13).f1) ((rd_T54 x1 x13).f1)).bind fun t307 => (if t307 = true then (marlinelaw07_same.l0 k x0 x1 x12 (wrap64 (x13 + 1))) else (some false))) else (some false)) else (none)) else (none)) else (none)) else (some true)
def marlinelaw07_same.f (k : Nat) (l0 : List (S54)) (l1 : List (S54)) : Option (Bool) := if (l0.length : Int) = (l1.length : Int) then (marlinelaw07_same.l0 k l0 l1 (l0.length : Int) 0) else (some false)
theorem marlinelaw07_same.mono_l : ∀ k, (∀ y0 y1 y2 y3, LeO (marlinelaw07_same.l0 k y0 y1 y2 y3) (marlinelaw07_same.l0 (k + 1) y0 y1 y2 y3))
  | 0 => fun _ _ _ _ r h => by simp [marlinelaw07_same.l0] at h
  | k + 1 => by
    have ih0 := marlinelaw07_same.mono_l k
    · intro y0 y1 y2 y3
      unfold marlinelaw07_same.l0
      repeat' first
      | (with_reducible exact ih0 _ _ _ _)
      | (with_reducible exact marlineref01_Equal.mono _ _ _)
      | (with_reducible exact LeO.refl _)
      | (with_reducible exact LeO.none _)
      | (with_reducible refine LeO.ite ?_ ?_)
      | (with_reducible refine LeO.bind ?_ (fun _ => ?_))
      | exact ih0 _ _ _ _
      | exact marlineref01_Equal.mono _ _ _
      | exact LeO.none _
      | refine LeO.ite ?_ ?_
      | refine LeO.bind ?_ (fun _ => ?_)
theorem marlinelaw07_same.mono : ∀ a0 a1 k, LeO (marlinelaw07_same.f k a0 a1) (marlinelaw07_same.f (k + 1) a0 a1) := by
  intro a0 a1 k
  have ih0 := marlinelaw07_same.mono_l k
  unfold marlinelaw07_same.f
  repeat' first
      | (with_reducible exact ih0 _ _ _ _)
      | (with_reducible exact marlineref01_Equal.mono _ _ _)
      | (with_reducible exact LeO.refl _)
      | (with_reducible exact LeO.none _)
      | (with_reducible refine LeO.ite ?_ ?_)
      | (with_reducible refine LeO.bind ?_ (fun _ => ?_))
      | exact ih0 _ _ _ _
      | exact marlineref01_Equal.mono _ _ _
      | exact LeO.none _
      | refine LeO.ite ?_ ?_
      | refine LeO.bind ?_ (fun _ => ?_)
set_option maxHeartbeats 8000000 in
set_option maxRecDepth 100000 in
theorem marlinelaw07_same.calls (k : Nat) (A0 : Option Addr) (c0 : Nat) (l0 : List (S54)) (A1 : Option Addr) (c1 : Nat) (l1 : List (S54)) (r : Bool) (w : World) (hr0 : Kd.C k54 w A0 l0.length l0) (hc0 : l0.length ≤ c0) (hr1 : Kd.C k54 w A1 l1.length l1) (hc1 : l1.length ≤ c1) (h : marlinelaw07_same.f k l0 l1 = some r) :
    Calls Try.prog 26 #[.slice A0 l0.length c0, .slice A1 l1.length c1] w fun e w' => e = .returned (.bool r) ∧ Drawn0 w w' := by
  have HR0 := Aside0.mk hr0
  have HC0 := Aside0.mk hc0
  clear hr0 hc0
  have HR1 := Aside0.mk hr1
  have HC1 := Aside0.mk hc1
  clear hr1 hc1
  have H : (if (l0.length : Int) = (l1.length : Int) then (marlinelaw07_same.l0 k l0 l1 (l0.length : Int) 0) else (some false)) = some r := h
  clear h
  by_cases c3 : (l0.length : Int) = (l1.length : Int)
  · rw [if_pos c3] at H
    have c3b0 : ((l0.length : Int) == (l1.length : Int)) = true := beq_iff_eq.mpr c3
    have c3b1 : ((l0.length : Int) != (l1.length : Int)) = false := bne_eq_false_iff_eq.mpr c3
    have c3b2 : (l0.length == l1.length) = true := by first | simpa using c3 | (simp at c3 ⊢; omega)
    clear c3
    have H' := Aside0.mk H
    clear H
    go_enter Try.func26, Try.ntmps26
    go_wp2
    repeat (go_quiet (fail); try go_wp2)
    go_loopg [13] k (fun kq v13 w' => ∃ (x13_1 : Int), v13 = .int .i64 x13_1 ∧ Aside0 (marlinelaw07_same.l0 kq l0 l1 (l0.length : Int) x13_1 = some r) ∧ Aside0 (kq ≤ k) ∧ Drawn0 w w')
    case atStart => exact ⟨(0), (by first | rfl | (simp; done) | (simp [*]; done)), H', ⟨Nat.le_refl _⟩, by repeat (first | exact Drawn0.refl _ | apply Drawn0.step)⟩
    case round =>
      clear H'
      try clear c1
      try clear c2
      try clear p2
      try clear c3
      try clear c3b0
      try clear c3b1
      try clear c3b2
      obtain ⟨x13_1, rfl, HA, HK1, ⟨m1, rfl⟩⟩ := hrel
      cases gk with
      | zero => exact absurd HA.out (by simp [marlinelaw07_same.l0])
      | succ k1 =>
        have H := HA.out
        clear HA
        simp only [marlinelaw07_same.l0] at H
        by_cases c4 : x13_1 < (l0.length : Int)
        · rw [if_pos c4] at H
          have c4b0 : decide (x13_1 < (l0.length : Int)) = true := decide_eq_true c4
          clear c4
          by_cases c5 : 0 ≤ x13_1
          · rw [if_pos c5] at H
            have c5b0 : decide (0 ≤ x13_1) = true := decide_eq_true c5
            clear c5
            by_cases c6 : x13_1 < (l0.length : Int)
            · rw [if_pos c6] at H
              have c6b0 : decide (x13_1 < (l0.length : Int)) = true := decide_eq_true c6
              clear c6
              by_cases c7 : x13_1 < (l1.length : Int)
              · rw [if_pos c7] at H
                have c7b0 : decide (x13_1 < (l1.length : Int)) = true := decide_eq_true c7
                clear c7
                by_cases c8 : ((rd_T54 l0 x13_1).f0) = ((rd_T54 l1 x13_1).f0)
                · rw [if_pos c8] at H
                  have c8b0 : (((rd_T54 l0 x13_1).f0) == ((rd_T54 l1 x13_1).f0)) = true := beq_iff_eq.mpr c8
                  have c8b1 : (((rd_T54 l0 x13_1).f0) != ((rd_T54 l1 x13_1).f0)) = false := bne_eq_false_iff_eq.mpr c8
                  clear c8
                  replace H := Option.bind_eq_some_iff.mp H
                  obtain ⟨t307, A90, H⟩ := H
                  replace H : (if t307 = true then (marlinelaw07_same.l0 k1 l0 l1 (l0.length : Int) (wrap64 (x13_1 + 1))) else (some false)) = some r := H
                  have A9 := Aside0.mk A90
                  clear A90
                  by_cases c10 : t307 = true
                  · subst c10
                    have H1 : (marlinelaw07_same.l0 k1 l0 l1 (l0.length : Int) (wrap64 (x13_1 + 1))) = some r := by rw [if_pos rfl] at H; exact H
                    clear H
                    have H := H1
                    clear H1
                    have H' := Aside0.mk H
                    clear H
                    have p303 : 0 ≤ (x13_1 : Int) := of_decide_eq_true (by first | (with_reducible assumption) | assumption)
                    have q303 : x13_1 < (l0.length : Int) := of_decide_eq_true (by first | (with_reducible assumption) | assumption)
                    (try clear hHeld)
                    obtain ⟨ad303, A303_1, c303_1, e303, hx303_0, hx303_1, hl303_1, hi303_1⟩ := at_T54 HR0.out x13_1 p303 q303
                    cases e303
                    have HR303_1 := Aside0.mk hi303_1
                    have HC303_1 := Aside0.mk hl303_1
                    clear hi303_1 hl303_1
                    replace p303 := eq_true p303
                    replace q303 := eq_true q303
                    have p304 : 0 ≤ (x13_1 : Int) := of_decide_eq_true (by first | (with_reducible assumption) | assumption)
                    have q304 : x13_1 < (l1.length : Int) := of_decide_eq_true (by first | (with_reducible assumption) | assumption)
                    (try clear hHeld)
                    obtain ⟨ad304, A304_1, c304_1, e304, hx304_0, hx304_1, hl304_1, hi304_1⟩ := at_T54 HR1.out x13_1 p304 q304
                    cases e304
                    have HR304_1 := Aside0.mk hi304_1
                    have HC304_1 := Aside0.mk hl304_1
                    clear hi304_1 hl304_1
                    replace p304 := eq_true p304
                    replace q304 := eq_true q304
                    have p305 : 0 ≤ (x13_1 : Int) := of_decide_eq_true (by first | (with_reducible assumption) | assumption)
                    have q305 : x13_1 < (l0.length : Int) := of_decide_eq_true (by first | (with_reducible assumption) | assumption)
                    (try clear hHeld)
                    obtain ⟨ad305, A305_1, c305_1, e305, hx305_0, hx305_1, hl305_1, hi305_1⟩ := at_T54 HR0.out x13_1 p305 q305
                    obtain rfl : ad303 = ad305 := (by injection e305)
                    have HR305_1 := Aside0.mk hi305_1
                    have HC305_1 := Aside0.mk hl305_1
                    clear hi305_1 hl305_1
                    replace p305 := eq_true p305
                    replace q305 := eq_true q305
                    have ea_ := Option.some.inj (hx303_1.symm.trans hx305_1)
                    injection ea_ with ea_ en_ ec_
                    subst ea_
                    subst ec_
                    clear en_
                    have p306 : 0 ≤ (x13_1 : Int) := of_decide_eq_true (by first | (with_reducible assumption) | assumption)
                    have q306 : x13_1 < (l1.length : Int) := of_decide_eq_true (by first | (with_reducible assumption) | assumption)
                    (try clear hHeld)
                    obtain ⟨ad306, A306_1, c306_1, e306, hx306_0, hx306_1, hl306_1, hi306_1⟩ := at_T54 HR1.out x13_1 p306 q306
                    obtain rfl : ad304 = ad306 := (by injection e306)
                    have HR306_1 := Aside0.mk hi306_1
                    have HC306_1 := Aside0.mk hl306_1
                    clear hi306_1 hl306_1
                    replace p306 := eq_true p306
                    replace q306 := eq_true q306
                    have ea_ := Option.some.inj (hx304_1.symm.trans hx306_1)
                    injection ea_ with ea_ en_ ec_
                    subst ea_
                    subst ec_
                    clear en_
                    go_wp2_with (first | (go_at_call 17; (with_reducible refine (marlineref01_Equal.calls k1 _ _ ((rd_T54 l0 x13_1).f1) _ _ ((rd_T54 l1 x13_1).f1) true _ ?side1 ?side2 ?side3 ?side4 A9.out).mono ?_); (case side1 => repeat (first | exact HR305_1.out | (with_reducible refine Kd.C_alloc ?_ _) | (with_reducible refine Kd.C_drewN ?_ _) | (with_reducible refine Kd.C_drew ?_))); (case side2 => exact HC305_1.out); (case side3 => repeat (first | exact HR306_1.out | (with_reducible refine Kd.C_alloc ?_ _) | (with_reducible refine Kd.C_drewN ?_ _) | (with_reducible refine Kd.C_drew ?_))); (case side4 => exact HC306_1.out); rintro e w' ⟨rfl, ⟨nd, rfl⟩⟩; (try first | exact ⟨rfl, _, World.drewN_drewN _ _ _⟩ | exact ⟨rfl, _, Eq.trans (World.drewN_drewN _ _ _) (congrArg (World.drewN _) (Nat.add_assoc _ _ _))⟩)))
                    repeat (go_quiet (first | (go_at_call 17; (with_reducible refine (marlineref01_Equal.calls k1 _ _ ((rd_T54 l0 x13_1).f1) _ _ ((rd_T54 l1 x13_1).f1) true _ ?side1 ?side2 ?side3 ?side4 A9.out).mono ?_); (case side1 => repeat (first | exact HR305_1.out | (with_reducible refine Kd.C_alloc ?_ _) | (with_reducible refine Kd.C_drewN ?_ _) | (with_reducible refine Kd.C_drew ?_))); (case side2 => exact HC305_1.out); (case side3 => repeat (first | exact HR306_1.out | (with_reducible refine Kd.C_alloc ?_ _) | (with_reducible refine Kd.C_drewN ?_ _) | (with_reducible refine Kd.C_drew ?_))); (case side4 => exact HC306_1.out); rintro e w' ⟨rfl, ⟨nd, rfl⟩⟩; (try first | exact ⟨rfl, _, World.drewN_drewN _ _ _⟩ | exact ⟨rfl, _, Eq.trans (World.drewN_drewN _ _ _) (congrArg (World.drewN _) (Nat.add_assoc _ _ _))⟩))); try go_wp2_with (first | (go_at_call 17; (with_reducible refine (marlineref01_Equal.calls k1 _ _ ((rd_T54 l0 x13_1).f1) _ _ ((rd_T54 l1 x13_1).f1) true _ ?side1 ?side2 ?side3 ?side4 A9.out).mono ?_); (case side1 => repeat (first | exact HR305_1.out | (with_reducible refine Kd.C_alloc ?_ _) | (with_reducible refine Kd.C_drewN ?_ _) | (with_reducible refine Kd.C_drew ?_))); (case side2 => exact HC305_1.out); (case side3 => repeat (first | exact HR306_1.out | (with_reducible refine Kd.C_alloc ?_ _) | (with_reducible refine Kd.C_drewN ?_ _) | (with_reducible refine Kd.C_drew ?_))); (case side4 => exact HC306_1.out); rintro e w' ⟨rfl, ⟨nd, rfl⟩⟩; (try first | exact ⟨rfl, _, World.drewN_drewN _ _ _⟩ | exact ⟨rfl, _, Eq.trans (World.drewN_drewN _ _ _) (congrArg (World.drewN _) (Nat.add_assoc _ _ _))⟩))))
                    go_roundg k1
                    case measure => have := HK1.out; omega
                    case rel => exact ⟨(wrap64 (x13_1 + 1)), (by first | rfl | (simp; done) | (simp [*]; done)), H', ⟨by have := HK1.out; omega⟩, by repeat (first | exact Drawn0.refl _ | apply Drawn0.step)⟩
                  · replace c10 := Bool.eq_false_iff.mpr c10
                    subst c10
                    have H1 : (some false) = some r := by rw [if_neg (show ¬ (false = true) by decide)] at H; exact H
                    clear H
                    have H := H1
                    clear H1
                    obtain rfl := Option.some.inj H
                    have p303 : 0 ≤ (x13_1 : Int) := of_decide_eq_true (by first | (with_reducible assumption) | assumption)
                    have q303 : x13_1 < (l0.length : Int) := of_decide_eq_true (by first | (with_reducible assumption) | assumption)
                    (try clear hHeld)
                    obtain ⟨ad303, A303_1, c303_1, e303, hx303_0, hx303_1, hl303_1, hi303_1⟩ := at_T54 HR0.out x13_1 p303 q303
                    cases e303
                    have HR303_1 := Aside0.mk hi303_1
                    have HC303_1 := Aside0.mk hl303_1
                    clear hi303_1 hl303_1
                    replace p303 := eq_true p303
                    replace q303 := eq_true q303
                    have p304 : 0 ≤ (x13_1 : Int) := of_decide_eq_true (by first | (with_reducible assumption) | assumption)
                    have q304 : x13_1 < (l1.length : Int) := of_decide_eq_true (by first | (with_reducible assumption) | assumption)
                    (try clear hHeld)
                    obtain ⟨ad304, A304_1, c304_1, e304, hx304_0, hx304_1, hl304_1, hi304_1⟩ := at_T54 HR1.out x13_1 p304 q304
                    cases e304
                    have HR304_1 := Aside0.mk hi304_1
                    have HC304_1 := Aside0.mk hl304_1
                    clear hi304_1 hl304_1
                    replace p304 := eq_true p304
                    replace q304 := eq_true q304
                    have p305 : 0 ≤ (x13_1 : Int) := of_decide_eq_true (by first | (with_reducible assumption) | assumption)
                    have q305 : x13_1 < (l0.length : Int) := of_decide_eq_true (by first | (with_reducible assumption) | assumption)
                    (try clear hHeld)
                    obtain ⟨ad305, A305_1, c305_1, e305, hx305_0, hx305_1, hl305_1, hi305_1⟩ := at_T54 HR0.out x13_1 p305 q305
                    obtain rfl : ad303 = ad305 := (by injection e305)
                    have HR305_1 := Aside0.mk hi305_1
                    have HC305_1 := Aside0.mk hl305_1
                    clear hi305_1 hl305_1
                    replace p305 := eq_true p305
                    replace q305 := eq_true q305
                    have ea_ := Option.some.inj (hx303_1.symm.trans hx305_1)
                    injection ea_ with ea_ en_ ec_
                    subst ea_
                    subst ec_
                    clear en_
                    have p306 : 0 ≤ (x13_1 : Int) := of_decide_eq_true (by first | (with_reducible assumption) | assumption)
                    have q306 : x13_1 < (l1.length : Int) := of_decide_eq_true (by first | (with_reducible assumption) | assumption)
                    (try clear hHeld)
                    obtain ⟨ad306, A306_1, c306_1, e306, hx306_0, hx306_1, hl306_1, hi306_1⟩ := at_T54 HR1.out x13_1 p306 q306
                    obtain rfl : ad304 = ad306 := (by injection e306)
                    have HR306_1 := Aside0.mk hi306_1
                    have HC306_1 := Aside0.mk hl306_1
                    clear hi306_1 hl306_1
                    replace p306 := eq_true p306
                    replace q306 := eq_true q306
                    have ea_ := Option.some.inj (hx304_1.symm.trans hx306_1)
                    injection ea_ with ea_ en_ ec_
                    subst ea_
                    subst ec_
                    clear en_
                    go_wp2_with (first | (go_at_call 17; (with_reducible refine (marlineref01_Equal.calls k1 _ _ ((rd_T54 l0 x13_1).f1) _ _ ((rd_T54 l1 x13_1).f1) false _ ?side1 ?side2 ?side3 ?side4 A9.out).mono ?_); (case side1 => repeat (first | exact HR305_1.out | (with_reducible refine Kd.C_alloc ?_ _) | (with_reducible refine Kd.C_drewN ?_ _) | (with_reducible refine Kd.C_drew ?_))); (case side2 => exact HC305_1.out); (case side3 => repeat (first | exact HR306_1.out | (with_reducible refine Kd.C_alloc ?_ _) | (with_reducible refine Kd.C_drewN ?_ _) | (with_reducible refine Kd.C_drew ?_))); (case side4 => exact HC306_1.out); rintro e w' ⟨rfl, ⟨nd, rfl⟩⟩; (try first | exact ⟨rfl, _, World.drewN_drewN _ _ _⟩ | exact ⟨rfl, _, Eq.trans (World.drewN_drewN _ _ _) (congrArg (World.drewN _) (Nat.add_assoc _ _ _))⟩)))
                    repeat (go_quiet (first | (go_at_call 17; (with_reducible refine (marlineref01_Equal.calls k1 _ _ ((rd_T54 l0 x13_1).f1) _ _ ((rd_T54 l1 x13_1).f1) false _ ?side1 ?side2 ?side3 ?side4 A9.out).mono ?_); (case side1 => repeat (first | exact HR305_1.out | (with_reducible refine Kd.C_alloc ?_ _) | (with_reducible refine Kd.C_drewN ?_ _) | (with_reducible refine Kd.C_drew ?_))); (case side2 => exact HC305_1.out); (case side3 => repeat (first | exact HR306_1.out | (with_reducible refine Kd.C_alloc ?_ _) | (with_reducible refine Kd.C_drewN ?_ _) | (with_reducible refine Kd.C_drew ?_))); (case side4 => exact HC306_1.out); rintro e w' ⟨rfl, ⟨nd, rfl⟩⟩; (try first | exact ⟨rfl, _, World.drewN_drewN _ _ _⟩ | exact ⟨rfl, _, Eq.trans (World.drewN_drewN _ _ _) (congrArg (World.drewN _) (Nat.add_assoc _ _ _))⟩))); try go_wp2_with (first | (go_at_call 17; (with_reducible refine (marlineref01_Equal.calls k1 _ _ ((rd_T54 l0 x13_1).f1) _ _ ((rd_T54 l1 x13_1).f1) false _ ?side1 ?side2 ?side3 ?side4 A9.out).mono ?_); (case side1 => repeat (first | exact HR305_1.out | (with_reducible refine Kd.C_alloc ?_ _) | (with_reducible refine Kd.C_drewN ?_ _) | (with_reducible refine Kd.C_drew ?_))); (case side2 => exact HC305_1.out); (case side3 => repeat (first | exact HR306_1.out | (with_reducible refine Kd.C_alloc ?_ _) | (with_reducible refine Kd.C_drewN ?_ _) | (with_reducible refine Kd.C_drew ?_))); (case side4 => exact HC306_1.out); rintro e w' ⟨rfl, ⟨nd, rfl⟩⟩; (try first | exact ⟨rfl, _, World.drewN_drewN _ _ _⟩ | exact ⟨rfl, _, Eq.trans (World.drewN_drewN _ _ _) (congrArg (World.drewN _) (Nat.add_assoc _ _ _))⟩))))
                    go_ret
                    exact ⟨by first | rfl | (simp; done) | (simp [*]; done), by repeat (first | exact Drawn0.refl _ | apply Drawn0.step)⟩
                · rw [if_neg c8] at H
                  have c8b0 : (((rd_T54 l0 x13_1).f0) == ((rd_T54 l1 x13_1).f0)) = false := beq_eq_false_iff_ne.mpr c8
                  have c8b1 : (((rd_T54 l0 x13_1).f0) != ((rd_T54 l1 x13_1).f0)) = true := bne_iff_ne.mpr c8
                  obtain rfl := Option.some.inj H
                  have p303 : 0 ≤ (x13_1 : Int) := of_decide_eq_true (by first | (with_reducible assumption) | assumption)
                  have q303 : x13_1 < (l0.length : Int) := of_decide_eq_true (by first | (with_reducible assumption) | assumption)
                  (try clear hHeld)
                  obtain ⟨ad303, A303_1, c303_1, e303, hx303_0, hx303_1, hl303_1, hi303_1⟩ := at_T54 HR0.out x13_1 p303 q303
                  cases e303
                  have HR303_1 := Aside0.mk hi303_1
                  have HC303_1 := Aside0.mk hl303_1
                  clear hi303_1 hl303_1
                  replace p303 := eq_true p303
                  replace q303 := eq_true q303
                  have p304 : 0 ≤ (x13_1 : Int) := of_decide_eq_true (by first | (with_reducible assumption) | assumption)
                  have q304 : x13_1 < (l1.length : Int) := of_decide_eq_true (by first | (with_reducible assumption) | assumption)
                  (try clear hHeld)
                  obtain ⟨ad304, A304_1, c304_1, e304, hx304_0, hx304_1, hl304_1, hi304_1⟩ := at_T54 HR1.out x13_1 p304 q304
                  cases e304
                  have HR304_1 := Aside0.mk hi304_1
                  have HC304_1 := Aside0.mk hl304_1
                  clear hi304_1 hl304_1
                  replace p304 := eq_true p304
                  replace q304 := eq_true q304
                  go_wp2
                  repeat (go_quiet (fail); try go_wp2)
                  go_ret
                  exact ⟨by first | rfl | (simp; done) | (simp [*]; done), by repeat (first | exact Drawn0.refl _ | apply Drawn0.step)⟩
              · rw [if_neg c7] at H
                exact absurd H (by simp)
            · rw [if_neg c6] at H
              exact absurd H (by simp)
          · rw [if_neg c5] at H
            exact absurd H (by simp)
        · rw [if_neg c4] at H
          have c4b0 : decide (x13_1 < (l0.length : Int)) = false := decide_eq_false c4
          clear c4
          obtain rfl := Option.some.inj H
          go_wp2
          repeat (go_quiet (fail); try go_wp2)
          go_ret
          exact ⟨by first | rfl | (simp; done) | (simp [*]; done), by repeat (first | exact Drawn0.refl _ | apply Drawn0.step)⟩
  · rw [if_neg c3] at H
    have c3b0 : ((l0.length : Int) == (l1.length : Int)) = false := beq_eq_false_iff_ne.mpr c3
    have c3b1 : ((l0.length : Int) != (l1.length : Int)) = true := bne_iff_ne.mpr c3
    have c3b2 : (l0.length == l1.length) = false := by first | simpa using c3 | (simp at c3 ⊢; omega)
    obtain rfl := Option.some.inj H
    go_enter Try.func26, Try.ntmps26
    go_wp2
    repeat (go_quiet (fail); try go_wp2)
    go_ret
    exact ⟨by first | rfl | (simp; done) | (simp [*]; done), by repeat (first | exact Drawn0.refl _ | apply Drawn0.step)⟩

end Go.Proofs.Ytjmclghjhnbafaa.Print

/- The synchronous deframer as a fold, in plain words: chunks joined, how much is told and kept; speaks, same and right of its laws. -/
namespace Go.Proofs.Ytjmclghjhnbafaa.Sp
open Go.RowKit Go.Proofs.Ytjmclghjhnbafaa.Print Go.Proofs.YtjmclghjhnbafaaW.PrintWords Go.Proofs.YtjmclghjhnbafaaW.PrintLast Go.Proofs.Ytjmclghjhnbafaa.Pl
set_option linter.unusedVariables false
theorem sstep_out (m : Int) (o : List S54) (s : Sst) (c : Int) : sstep m (o, s) c = (o ++ (sstep m ([], s) c).1, (sstep m ([], s) c).2) := by
  unfold sstep
  by_cases h1 : sbit c = true
  · simp [h1]
  · simp only [if_neg h1]
    by_cases h2 : s.ones = 6
    · simp only [if_pos h2]
      by_cases h3 : s.any = true <;> simp [h3]
    · simp [h2]
theorem sfold_out (m : Int) : ∀ (l : List Int) (o : List S54) (s : Sst), l.foldl (sstep m) (o, s) = (o ++ (sfeed m s l).1, (sfeed m s l).2)
  | [], o, s => by simp [sfeed]
  | c :: t, o, s => by
    unfold sfeed
    rw [List.foldl_cons, List.foldl_cons, sstep_out m o s c]
    rw [sfold_out m t (o ++ (sstep m ([], s) c).1) (sstep m ([], s) c).2]
    have h := sfold_out m t (sstep m ([], s) c).1 (sstep m ([], s) c).2
    rw [show ((sstep m ([], s) c).1, (sstep m ([], s) c).2) = sstep m ([], s) c from rfl] at h
    rw [h, List.append_assoc]
theorem sfeed_append (m : Int) (s : Sst) (a b : List Int) : sfeed m s (a ++ b) = ((sfeed m s a).1 ++ (sfeed m (sfeed m s a).2 b).1, (sfeed m (sfeed m s a).2 b).2) := by
  have h := sfold_out m b (sfeed m s a).1 (sfeed m s a).2
  rw [show ((sfeed m s a).1, (sfeed m s a).2) = sfeed m s a from rfl] at h
  rw [← h]
  unfold sfeed
  rw [List.foldl_append]
theorem sfeed_cons (m : Int) (s : Sst) (c : Int) (t : List Int) : sfeed m s (c :: t) = ((sstep m ([], s) c).1 ++ (sfeed m (sstep m ([], s) c).2 t).1, (sfeed m (sstep m ([], s) c).2 t).2) := by
  have h := sfold_out m t (sstep m ([], s) c).1 (sstep m ([], s) c).2
  rw [show ((sstep m ([], s) c).1, (sstep m ([], s) c).2) = sstep m ([], s) c from rfl] at h
  rw [← h]
  rfl
theorem sok0 {n : Nat} (h : n ≤ 100000) : Sok s00 n := ⟨by simp only [s00, List.length_nil]; omega, Bytes.nil, by simp [s00], by simp only [s00]; omega⟩
theorem Sok.le {s : Sst} {n k : Nat} (h : Sok s n) (hk : k ≤ n) : Sok s k := ⟨by have := h.len; omega, h.byt, h.on0, by have := h.on1; omega⟩
theorem Sok.after {m : Int} {s : Sst} {n : Nat} {l : List Int} (h : Sok s (n + l.length)) : Sok (sfeed m s l).2 n ∧ (sfeed m s l).1.length ≤ l.length := by
  have := Sok.fold m l ([], s) n h
  simpa [sfeed] using this
theorem soc_len (l : List Int) : (soc l).length ≤ l.length / 8 := by
  unfold soc
  split
  · rw [octs_length]; exact Nat.le_refl _
  · simp
theorem sseg_len (m : Int) (s : Sst) : (sseg m s (soc s.bits)).length ≤ s.bits.length / 8 := by
  unfold sseg
  split
  · exact soc_len _
  · simp
theorem sstep_seg {m : Int} {s : Sst} {n : Nat} (h : Sok s n) (c : Int) : ∀ x ∈ (sstep m ([], s) c).1, x.f1.length ≤ 1000000 := by
  intro x hx
  unfold sstep at hx
  split at hx
  · simp at hx
  · split at hx
    · simp only at hx
      split at hx
      · rw [List.nil_append, List.mem_singleton] at hx
        subst hx
        have h1 := sseg_len m s
        have h2 := h.len
        simp only at h1 ⊢
        omega
      · simp at hx
    · simp at hx
theorem sfeed_seg {m : Int} : ∀ (l : List Int) (s : Sst), Sok s l.length → ∀ x ∈ (sfeed m s l).1, x.f1.length ≤ 1000000
  | [], s, h => by simp [sfeed]
  | c :: t, s, h => by
    intro x hx
    rw [sfeed_cons] at hx
    rcases List.mem_append.1 hx with hx | hx
    · exact sstep_seg h c x hx
    · exact sfeed_seg t _ (Sok.step (p := ([], s)) h c).1 x hx
/-- Feed's function is the fold, where what is kept is small. -/
theorem FeedS (m : Int) (s : Sst) (l : List Int) (h : Sok s l.length) :
    sync_Deframer_Feed.f m s.bits s.many s.any s.broken s.ones s.zero s.stuff l = some ((sfeed m s l).1, (sfeed m s l).2.bits, (sfeed m s l).2.many, (sfeed m s l).2.any, (sfeed m s l).2.broken, (sfeed m s l).2.ones, (sfeed m s l).2.zero, (sfeed m s l).2.stuff) := by
  unfold sync_Deframer_Feed.f
  rw [if_pos ⟨h.len, List.all_eq_true.2 (fun x hx => decide_eq_true (h.byt x hx)), h.on0, h.on1⟩]
theorem FeedS0 (m : Int) (l : List Int) (h : l.length ≤ 100000) :
    sync_Deframer_Feed.f m [] 0 false false 0 false false l = some ((sfeed m s00 l).1, (sfeed m s00 l).2.bits, (sfeed m s00 l).2.many, (sfeed m s00 l).2.any, (sfeed m s00 l).2.broken, (sfeed m s00 l).2.ones, (sfeed m s00 l).2.zero, (sfeed m s00 l).2.stuff) :=
  FeedS m s00 l (sok0 h)
theorem sfeed_speaks : (sfeed 9 s00 [0, 1, 1, 1, 1, 1, 1, 0, 0, 0, 0, 0, 0, 0, 0, 0, 0, 1, 1, 1, 1, 1, 1, 0]).1 = [⟨0, [0]⟩] := by kernel_rfl
theorem wrap_speaks : wrapZ [0] = [0, 1, 1, 1, 1, 1, 1, 0, 0, 0, 0, 0, 0, 0, 0, 0, 0, 1, 1, 1, 1, 1, 1, 0] := by kernel_rfl
theorem Speaks07 : Ev (fun k => marlinelaw07_speaks.f k) true := by
  unfold marlinelaw07_speaks.f
  refine Ev.bind (WrapZ [0] (by simp) (bytes_lit (by decide))) ?_
  rw [wrap_speaks, FeedS0 9 _ (by simp)]
  refine Ev.name ?_
  simp only [sfeed_speaks]
  refine Ev.pos (by simp) (Ev.pos (by simp) (Ev.pos (by simp) (Ev.pos rfl ?_)))
  refine Ev.bind (Equal [0] [0] (by unfold Lim; simp)) (Ev.end_ (by simp))
/-! ### same -/
def SegsOk (l : List S54) : Prop := l.length ≤ 1000000 ∧ ∀ s ∈ l, Lim s.f1
theorem rdT_drop {xs : List S54} {i : Nat} {b : S54} {t : List S54} (h : xs.drop i = b :: t) : rd_T54 xs (i : Int) = b ∧ xs.drop (i + 1) = t ∧ i < xs.length := by
  have h1 : i < xs.length := by
    apply Decidable.byContradiction
    intro hn
    rw [List.drop_of_length_le (by omega)] at h
    cases h
  have h2 := List.drop_eq_getElem_cons h1
  rw [h] at h2
  injection h2 with h3 h4
  refine ⟨?_, h4.symm, h1⟩
  unfold rd_T54
  rw [Int.toNat_natCast, List.getD_eq_getElem?_getD, List.getElem?_eq_getElem h1]
  exact h3.symm
theorem Same_l0 (l : List S54) (ok : SegsOk l) : ∀ (t : List S54) (i : Nat), l.drop i = t → Ev (fun k => marlinelaw07_same.l0 k l l (l.length : Int) i) true
  | [], i, h => by
    have h3 : l.length ≤ i := by
      have := congrArg List.length h
      simp at this; omega
    exact Ev.step (fun k => by simp only [marlinelaw07_same.l0]; rw [if_neg (by omega)]) (Ev.end_ rfl)
  | c :: t, i, h => by
    obtain ⟨e1, e2, e3⟩ := rdT_drop h
    have h0 := ok.1
    have hc : Lim c.f1 := ok.2 c (by
      have : c ∈ l.drop i := by rw [h]; simp
      exact List.mem_of_mem_drop this)
    refine Ev.step (fun k => by simp only [marlinelaw07_same.l0]; rw [if_pos (by omega), if_pos (by omega), if_pos (by omega), if_pos (by omega), if_pos trivial, e1, suc i (by omega)]) ?_
    refine Ev.bind (Equal c.f1 c.f1 hc) (Ev.pos (by simp) ?_)
    exact Same_l0 l ok t (i + 1) e2
theorem SameD (l : List S54) (ok : SegsOk l) : Ev (fun k => marlinelaw07_same.f k l l) true := by
  unfold marlinelaw07_same.f
  exact Ev.pos rfl (Same_l0 l ok l 0 rfl)
/-! ### right -/
def tot : List (List Int) → Int
  | [] => 0
  | c :: t => c.length + tot t
theorem tot_nn (l : List (List Int)) : 0 ≤ tot l := by
  induction l with
  | nil => simp [tot]
  | cons c t ih => simp only [tot]; omega
def SegsLim (l : List (List Int)) : Prop := ∀ c ∈ l, (c.length : Int) ≤ 140737488351232
theorem rdL_drop {xs : List (List Int)} {i : Nat} {b : List Int} {t : List (List Int)} (h : xs.drop i = b :: t) : rd_L1 xs (i : Int) = b ∧ xs.drop (i + 1) = t ∧ i < xs.length := by
  have h1 : i < xs.length := by
    apply Decidable.byContradiction
    intro hn
    rw [List.drop_of_length_le (by omega)] at h
    cases h
  have h2 := List.drop_eq_getElem_cons h1
  rw [h] at h2
  injection h2 with h3 h4
  refine ⟨?_, h4.symm, h1⟩
  unfold rd_L1
  rw [Int.toNat_natCast, List.getD_eq_getElem?_getD, List.getElem?_eq_getElem h1]
  exact h3.symm
theorem dropL_nil {xs : List (List Int)} {i : Nat} (h : xs.drop i = []) : xs.length ≤ i := by
  have := congrArg List.length h
  simp at this; omega
/-- What right answers: whether few octets, where the chunks are no more than 60; no matter what where there are more. -/
theorem Right_l0 (m : Int) (l : List (List Int)) (hs : SegsLim l) (hl : l.length ≤ 5864062014634) : ∀ (t : List (List Int)) (i : Nat) (n : Int), l.drop i = t →
    ∃ n' : Int, (l.length ≤ 60 → 0 ≤ n → n + 140737488351232 * t.length ≤ 140737488351232 * 60 → n' = n + tot t) ∧ Ev (fun k => marlinelaw07_right.l0 k m l n l (l.length : Int) i) (if m ≥ 1 ∧ m ≤ 1048576 ∧ (l.length : Int) ≤ 60 then decide (n' ≤ 900) else false)
  | [], i, n, h => by
    have h3 := dropL_nil h
    refine ⟨n, fun _ _ _ => by simp [tot], Ev.step (fun k => by simp only [marlinelaw07_right.l0]; rw [if_neg (by omega)]) ?_⟩
    by_cases h1 : m ≥ 1
    · refine Ev.pos h1 ?_
      by_cases h2 : m ≤ 1048576
      · refine Ev.pos h2 ?_
        by_cases h4 : (l.length : Int) ≤ 60
        · exact Ev.pos h4 (Ev.end_ (by rw [if_pos ⟨h1, h2, h4⟩]))
        · exact Ev.neg h4 (Ev.end_ (by rw [if_neg (fun h => h4 h.2.2)]))
      · exact Ev.neg h2 (Ev.end_ (by rw [if_neg (fun h => h2 h.2.1)]))
    · exact Ev.neg h1 (Ev.end_ (by rw [if_neg (fun h => h1 h.1)]))
  | c :: t, i, n, h => by
    obtain ⟨e1, e2, e3⟩ := rdL_drop h
    have hc := hs c (List.mem_of_mem_drop (by rw [h]; simp : c ∈ l.drop i))
    obtain ⟨n', k1, k2⟩ := Right_l0 m l hs hl t (i + 1) (wrap64 (n + c.length)) e2
    refine ⟨n', ?_, Ev.step (fun k => by simp only [marlinelaw07_right.l0]; rw [if_pos (by omega), if_pos (by omega), if_pos (by omega), e1, show wrap64 ((i : Int) + 1) = ((i + 1 : Nat) : Int) by rw [w64 (by omega) (by omega)]; omega]) k2⟩
    intro a b d
    simp only [List.length_cons] at d
    have w : wrap64 (n + c.length) = n + c.length := w64 (by omega) (by omega)
    rw [w] at k1
    rw [k1 a (by omega) (by omega)]
    simp only [tot]
    omega
theorem RightD (m : Int) (l : List (List Int)) (hs : SegsLim l) (hl : l.length ≤ 5864062014634) : ∃ b : Bool, (b = true → 1 ≤ m ∧ m ≤ 1048576 ∧ l.length ≤ 60 ∧ tot l ≤ 900) ∧ Ev (fun k => marlinelaw07_right.f k m l) b := by
  obtain ⟨n', k1, k2⟩ := Right_l0 m l hs hl l 0 0 rfl
  refine ⟨_, ?_, k2⟩
  intro h
  by_cases h1 : m ≥ 1 ∧ m ≤ 1048576 ∧ (l.length : Int) ≤ 60
  · rw [if_pos h1, decide_eq_true_iff] at h
    have := k1 (by omega) (by omega) (by omega)
    exact ⟨by omega, by omega, by omega, by omega⟩
  · rw [if_neg h1] at h; cases h
theorem segs_ok (m : Int) (l : List Int) (h : l.length ≤ 100000) : SegsOk (sfeed m s00 l).1 := by
  have h1 := sok0 h
  have h2 := (Sok.after (m := m) (n := 0) (l := l) (by rw [Nat.zero_add]; exact h1)).2
  exact ⟨by omega, fun x hx => by have := sfeed_seg l s00 h1 x hx; unfold Lim; omega⟩
end Go.Proofs.Ytjmclghjhnbafaa.Sp

/- How much the synchronous deframer tells and keeps; what a flag does to it. -/
namespace Go.Proofs.Ytjmclghjhnbafaa.Sp
open Go.RowKit Go.Proofs.Ytjmclghjhnbafaa.Print Go.Proofs.YtjmclghjhnbafaaW.PrintWords Go.Proofs.YtjmclghjhnbafaaW.PrintLast Go.Proofs.Ytjmclghjhnbafaa.Pl
set_option linter.unusedVariables false
theorem wm {m : Int} (h1 : 1 ≤ m) (h2 : m ≤ 1048576) : wrap64 (8 * m) = 8 * m := w64 (by omega) (by omega)
theorem sput_cap {m : Int} (h1 : 1 ≤ m) (h2 : m ≤ 1048576) (b : Int) : ∀ (k : Nat) (s : Sst), (s.bits.length : Int) ≤ 8 * m → ((sput m b k s).bits.length : Int) ≤ 8 * m
  | 0, s, h => h
  | k + 1, s, h => by
    have ih := sput_cap h1 h2 b k s h
    simp only [sput, sput1, wm h1 h2]
    split
    · rw [List.length_append]; simp only [List.length_cons, List.length_nil]; omega
    · exact ih
/-- What is kept fits, and is no more than was fed. -/
structure Ib (m : Int) (s : Sst) (n : Nat) : Prop where
  cap : (s.bits.length : Int) ≤ 8 * m
  bud : (s.bits.length : Int) + (if s.zero = true then 1 else 0) + s.ones ≤ n
  on0 : 0 ≤ s.ones
theorem ssettle_b {m : Int} (h1 : 1 ≤ m) (h2 : m ≤ 1048576) (s : Sst) (h : (s.bits.length : Int) ≤ 8 * m) : ((ssettle m s).bits.length : Int) ≤ 8 * m ∧ ((ssettle m s).bits.length : Int) ≤ s.bits.length + (if s.zero = true then 1 else 0) := by
  unfold ssettle
  by_cases hz : s.zero = true
  · rw [if_pos hz, if_pos hz]
    by_cases hs : s.stuff = true
    · rw [if_pos hs]; simp only; exact ⟨h, by omega⟩
    · rw [if_neg hs]
      have a := sput_cap h1 h2 0 1 { s with any := true } h
      have b := sput_len m 0 1 { s with any := true }
      simp only at a b ⊢
      exact ⟨a, by omega⟩
  · rw [if_neg hz, if_neg hz]
    exact ⟨h, by omega⟩
theorem srow_b {m : Int} (h1 : 1 ≤ m) (h2 : m ≤ 1048576) (s : Sst) (h : (s.bits.length : Int) ≤ 8 * m) (h0 : 0 ≤ s.ones) : ((srow m s).bits.length : Int) ≤ 8 * m ∧ ((srow m s).bits.length : Int) ≤ s.bits.length + (if s.zero = true then 1 else 0) + s.ones := by
  obtain ⟨a, b⟩ := ssettle_b h1 h2 s h
  have c := sput_cap h1 h2 1 (min s.ones 5).toNat (srow1 (ssettle m s)) a
  have d := sput_len m 1 (min s.ones 5).toNat (srow1 (ssettle m s))
  rw [show (srow1 (ssettle m s)).bits = (ssettle m s).bits from rfl] at d
  unfold srow
  exact ⟨c, by omega⟩
def Good7 (m : Int) (x : S54) : Prop := (x.f0 = 0 → (x.f1.length : Int) ≤ m) ∧ (x.f0 ≠ 0 → x.f1.length = 0)
def sum7 : List S54 → Nat
  | [] => 0
  | s :: t => s.f1.length + sum7 t
theorem sum7_append (a b : List S54) : sum7 (a ++ b) = sum7 a + sum7 b := by
  induction a with
  | nil => simp [sum7]
  | cons s t ih => simp only [List.cons_append, sum7, ih]; omega
theorem sstep_inv {m : Int} (h1 : 1 ≤ m) (h2 : m ≤ 1048576) {s : Sst} {n : Nat} (hn : n ≤ 100000) (h : Ib m s n) (c : Int) :
    (∀ x ∈ (sstep m ([], s) c).1, Good7 m x) ∧ ∃ n' : Nat, 8 * sum7 (sstep m ([], s) c).1 + n' ≤ n + 1 ∧ Ib m (sstep m ([], s) c).2 n' := by
  obtain ⟨a, b, d⟩ := h
  have hz0 : (0 : Int) ≤ (if s.zero = true then (1 : Int) else 0) := by split <;> omega
  unfold sstep
  by_cases hb : sbit c = true
  · have w : wrap64 (s.ones + 1) = s.ones + 1 := w64 (by omega) (by omega)
    rw [if_pos hb]
    refine ⟨fun x hx => by simp at hx, n + 1, by simp [sum7], a, ?_, by simp only; rw [w]; omega⟩
    show (s.bits.length : Int) + (if s.zero = true then (1 : Int) else 0) + wrap64 (s.ones + 1) ≤ ((n + 1 : Nat) : Int)
    rw [w]
    omega
  · rw [if_neg hb]
    by_cases h6 : s.ones = 6
    · simp only [if_pos h6]
      refine ⟨?_, 0, ?_, by simp [s00]; omega, by simp [s00], by simp [s00]⟩
      · intro x hx
        split at hx
        · rw [List.nil_append, List.mem_singleton] at hx
          subst hx
          have hl := sseg_len m s
          refine ⟨fun _ => by simp only; omega, fun hk => ?_⟩
          simp only at hk ⊢
          unfold sseg
          rw [if_neg hk]
          rfl
        · simp at hx
      · split
        · have hl := sseg_len m s
          simp only [List.nil_append, sum7]
          split at b <;> omega
        · simp [sum7]
    · simp only [if_neg h6]
      obtain ⟨e, f⟩ := srow_b h1 h2 s a d
      refine ⟨fun x hx => by simp at hx, n + 1, by simp [sum7], e, ?_, by simp⟩
      simp only [if_true]
      omega
theorem sfeed_inv {m : Int} (h1 : 1 ≤ m) (h2 : m ≤ 1048576) : ∀ (l : List Int) (s : Sst) (n : Nat), n + l.length ≤ 100000 → Ib m s n → (∀ x ∈ (sfeed m s l).1, Good7 m x) ∧ 8 * sum7 (sfeed m s l).1 ≤ n + l.length
  | [], s, n, hn, h => by simp [sfeed, sum7]
  | c :: t, s, n, hn, h => by
    simp only [List.length_cons] at hn ⊢
    obtain ⟨a, n', b, d⟩ := sstep_inv h1 h2 (by omega) h c
    obtain ⟨e, f⟩ := sfeed_inv h1 h2 t _ n' (by omega) d
    rw [sfeed_cons]
    refine ⟨fun x hx => ?_, by simp only [sum7_append]; omega⟩
    rcases List.mem_append.1 hx with hx | hx
    · exact a x hx
    · exact e x hx
/-! ### a flag -/
theorem feed_ones (m : Int) (s : Sst) (h : s.ones = 0) : (sfeed m s [1, 1, 1, 1, 1, 1, 0]).2 = s00 := by
  obtain ⟨bits, many, any, broken, ones, zero, stuff⟩ := s
  simp only at h
  subst h
  kernel_rfl
theorem step_zero (m : Int) (s : Sst) : (sstep m ([], s) 0).2.ones = 0 := by
  unfold sstep
  rw [if_neg (by decide)]
  split <;> rfl
theorem feed_flag (m : Int) (s : Sst) : (sfeed m s flag).2 = s00 := by
  unfold flag
  rw [sfeed_cons]
  exact feed_ones m _ (step_zero m s)
theorem flag_none (m : Int) : sfeed m s00 flag = ([], s00) := by kernel_rfl
theorem flag_none1 (m : Int) : sfeed m s00 (flag.drop 1) = ([], s00) := by kernel_rfl
end Go.Proofs.Ytjmclghjhnbafaa.Sp

/- The synchronous deframer's fold against a stream, parted: plain words. No condition but the bounds. -/
namespace Go.Proofs.Ytjmclghjhnbafaa.Sp
open Go.RowKit Go.Proofs.Ytjmclghjhnbafaa.Print Go.Proofs.YtjmclghjhnbafaaW.PrintWords Go.Proofs.YtjmclghjhnbafaaW.PrintLast Go.Proofs.Ytjmclghjhnbafaa.Pl
set_option linter.unusedVariables false
/-! ### rows of 1s -/
def Odd7 (l : List Int) : Prop := ∀ x ∈ l, x % 2 = 1
theorem Odd7.tail {c : Int} {t : List Int} (h : Odd7 (c :: t)) : Odd7 t := fun x hx => h x (by simp [hx])
theorem Odd7.head {c : Int} {t : List Int} (h : Odd7 (c :: t)) : c % 2 = 1 := h c (by simp)
theorem Odd7.snoc {c : Int} {t : List Int} (h : Odd7 t) (hc : c % 2 = 1) : Odd7 (t ++ [c]) := fun x hx => by
  rcases List.mem_append.1 hx with hx | hx
  · exact h x hx
  · rw [List.mem_singleton.1 hx]; exact hc
theorem last_ones : ∀ (o : List Int) (n : Int), Odd7 o → last n o = n + o.length
  | [], n, h => by simp [last]
  | c :: t, n, h => by
    rw [last, h.head, last_ones t _ h.tail]
    simp only [List.length_cons]
    omega
theorem peak_ones : ∀ (o : List Int) (n : Int), 0 ≤ n → Odd7 o → peak n o = if o.length = 0 then 0 else n + o.length
  | [], n, h0, h => by simp [peak]
  | c :: t, n, h0, h => by
    rw [peak, h.head, peak_ones t _ (by omega) h.tail]
    simp only [List.length_cons]
    split <;> omega
theorem rem_ones : ∀ (o : List Int) (n : Int), 0 ≤ n → n + o.length ≤ 5 → Odd7 o → rem n o = List.replicate o.length 1
  | [], n, h0, h5, h => by simp [rem]
  | c :: t, n, h0, h5, h => by
    simp only [List.length_cons] at h5
    rw [rem, if_neg (by omega), h.head, rem_ones t _ (by omega) (by omega) h.tail]
    rfl
theorem rem_append : ∀ (a b : List Int) (n : Int), rem n (a ++ b) = rem n a ++ rem (last n a) b
  | [], b, n => rfl
  | c :: t, b, n => by
    simp only [List.cons_append, rem, last]
    split
    · exact rem_append t b _
    · rw [rem_append t b _]; rfl
theorem last_snoc (a : List Int) (c : Int) : last 0 (a ++ [c]) = (last 0 a + 1) * (c % 2) := by rw [last_append]; rfl
theorem last_len (a : List Int) : last 0 a ≤ a.length := by
  have h1 := last_le_peak 0 a (by omega)
  have h2 := run_le a
  unfold run at h2
  omega
theorem sstep_cap {m : Int} (h1 : 1 ≤ m) (h2 : m ≤ 1048576) (s : Sst) (c : Int) (h : (s.bits.length : Int) ≤ 8 * m) : ((sstep m ([], s) c).2.bits.length : Int) ≤ 8 * m := by
  unfold sstep
  split
  · exact h
  · split
    · simp [s00]; omega
    · exact sput_cap h1 h2 1 _ _ (show ((srow1 (ssettle m s)).bits.length : Int) ≤ 8 * m from (ssettle_b h1 h2 s h).1)
theorem sfeed_cap {m : Int} (h1 : 1 ≤ m) (h2 : m ≤ 1048576) : ∀ (l : List Int) (s : Sst), (s.bits.length : Int) ≤ 8 * m → ((sfeed m s l).2.bits.length : Int) ≤ 8 * m
  | [], s, h => h
  | c :: t, s, h => by
    rw [sfeed_cons]
    exact sfeed_cap h1 h2 t _ (sstep_cap h1 h2 s c h)
/-! ### a stream, parted -/
def segZ (cur : List Int) : List Int := cur.take (cur.length - 7)
def partsZ : List Int → List Int → List (List Int)
  | cur, [] => []
  | cur, c :: t => if c % 2 = 0 ∧ last 0 cur = 6 then segZ cur :: partsZ [] t else partsZ (cur ++ [c]) t
def tellZ (m : Int) (raw : List Int) : Int × List Int × Bool :=
  if raw.length = 0 then (0, [], false) else if run raw > 5 then (2, [], true) else if (rem 0 raw).length % 8 = 0 then (if ((octs (rem 0 raw)).length : Int) > m then (4, [], true) else (0, octs (rem 0 raw), true)) else (3, [], true)
def allZ (m : Int) : List (List Int) → List S74
  | [] => []
  | s :: t => if (tellZ m s).2.2 = true then ⟨(tellZ m s).1, (tellZ m s).2.1⟩ :: allZ m t else allZ m t
def s74 (x : S54) : S74 := ⟨x.f0, x.f1⟩
/-! ### what is kept -/
theorem sput_take {m : Int} (h1 : 1 ≤ m) (h2 : m ≤ 1048576) (b : Int) : ∀ (n : Nat) (s : Sst) (L : List Int), s.bits = L.take (8 * m).toNat → s.many = L.length → L.length + n ≤ 1000000 →
    sput m b n s = { s with bits := (L ++ List.replicate n b).take (8 * m).toNat, many := L.length + n }
  | 0, s, L, hb, hm, hl => by
    obtain ⟨bits, many, any, broken, ones, zero, stuff⟩ := s
    simp only at hb hm
    subst hb hm
    simp [sput]
  | n + 1, s, L, hb, hm, hl => by
    have ih := sput_take h1 h2 b n s L hb hm (by omega)
    have w : wrap64 ((L.length : Int) + n + 1) = L.length + (n + 1 : Nat) := by rw [w64 (by omega) (by omega)]; omega
    rw [sput, ih]
    unfold sput1
    simp only [wm h1 h2, w]
    have e : L ++ List.replicate (n + 1) b = (L ++ List.replicate n b) ++ [b] := by rw [List.replicate_succ', List.append_assoc]
    have hlen : (L ++ List.replicate n b).length = L.length + n := by rw [List.length_append, List.length_replicate]
    rw [e]
    by_cases h : L.length + n < (8 * m).toNat
    · have t1 : (L ++ List.replicate n b).take (8 * m).toNat = L ++ List.replicate n b := List.take_of_length_le (by omega)
      rw [t1, if_pos (by omega), List.take_of_length_le (by rw [List.length_append]; simp only [List.length_cons, List.length_nil]; omega)]
    · have t2 : ((L ++ List.replicate n b) ++ [b]).take (8 * m).toNat = (L ++ List.replicate n b).take (8 * m).toNat := List.take_append_of_le_length (by omega)
      rw [if_neg (by rw [List.length_take]; omega), t2]
/-- Behind a part that a 0 has ended. -/
structure Cz (m : Int) (q : List Int) (s : Sst) : Prop where
  any : s.any = decide (q.length ≠ 0)
  broken : s.broken = decide (run q > 5)
  left : run q ≤ 5 → s.bits = (rem 0 q).take (8 * m).toNat ∧ s.many = (rem 0 q).length
inductive Rz (m : Int) (cur : List Int) (s : Sst) : Prop where
  | a : s.zero = false → Odd7 cur → s.ones = cur.length → s.bits = [] → s.many = 0 → s.any = false → s.broken = false → Rz m cur s
  | b (q : List Int) (c0 : Int) (o : List Int) : s.zero = true → cur = q ++ c0 :: o → c0 % 2 = 0 → Odd7 o → s.ones = o.length → s.stuff = (last 0 q == 5) → Cz m q s → Rz m cur s
theorem last_b (q : List Int) {c0 : Int} {o : List Int} (h0 : c0 % 2 = 0) (ho : Odd7 o) : last 0 (q ++ c0 :: o) = o.length := by
  rw [last_append, last, h0, last_ones o _ ho]; omega
theorem Rz.ones {m : Int} {cur : List Int} {s : Sst} (h : Rz m cur s) : s.ones = last 0 cur := by
  cases h with
  | a z o k b mm a br => rw [last_ones cur 0 o, k]; omega
  | b q c0 o z e h0 ho k st c => rw [e, last_b q h0 ho, k]
theorem run_b (q : List Int) {c0 : Int} {o : List Int} (h0 : c0 % 2 = 0) (ho : Odd7 o) : run (q ++ c0 :: o) = max (run q) o.length := by
  unfold run
  have hl := last_nonneg 0 q (by omega)
  have hp := peak_nonneg 0 q (by omega)
  rw [peak_append 0 q _ (by omega), peak, h0]
  simp only [Int.mul_zero]
  rw [peak_ones o 0 (by omega) ho]
  split <;> omega
theorem rem_b (q : List Int) {c0 : Int} {o : List Int} (h0 : c0 % 2 = 0) (ho : Odd7 o) (h5 : o.length ≤ 5) : rem 0 (q ++ c0 :: o) = (rem 0 q ++ (if last 0 q = 5 then [] else [0])) ++ List.replicate o.length 1 := by
  rw [rem_append, rem, h0]
  simp only [Int.mul_zero]
  rw [rem_ones o 0 (by omega) (by omega) ho]
  split <;> simp
/-- A row that is no flag's ends. -/
theorem Cz_row {m : Int} (h1 : 1 ≤ m) (h2 : m ≤ 1048576) {cur : List Int} {s : Sst} (h : Rz m cur s) (hl : cur.length ≤ 100000) (h6 : s.ones ≠ 6) : Cz m cur (srow m s) := by
  cases h with
  | a z o k b mm a br =>
    have es : ssettle m s = s := by unfold ssettle; rw [if_neg (by rw [z]; decide)]
    have hr : run cur = cur.length := by unfold run; rw [peak_ones cur 0 (by omega) o]; split <;> omega
    have e := sput_take h1 h2 1 (min s.ones 5).toNat (srow1 s) [] (by show s.bits = _; rw [b]; simp) (by show s.many = _; rw [mm]; simp) (by simp only [List.length_nil]; omega)
    unfold srow
    rw [es, e]
    refine ⟨?_, ?_, ?_⟩
    · show (srow1 s).any = _
      unfold srow1
      simp only
      rw [k, a]
      by_cases h0 : cur.length = 0
      · rw [if_neg (by omega), decide_eq_false (by omega)]
      · rw [if_pos (by omega), decide_eq_true (by omega)]
    · show (srow1 s).broken = _
      unfold srow1
      simp only
      rw [k] at h6 ⊢
      rw [br, hr]
      by_cases h7 : (cur.length : Int) > 6
      · rw [if_pos h7, decide_eq_true (by omega)]
      · rw [if_neg h7, decide_eq_false (by omega)]
    · intro h5
      rw [hr] at h5
      rw [rem_ones cur 0 (by omega) (by omega) o, k, show (min (cur.length : Int) 5).toNat = cur.length by omega]
      simp
  | b q c0 o z e h0 ho k st c =>
    subst e
    have hq : q.length ≤ 100000 := by rw [List.length_append] at hl; omega
    have ho5 : o.length ≤ 100000 := by rw [List.length_append, List.length_cons] at hl; omega
    have hrl := rem_len 0 q
    have hr := run_b q h0 ho
    obtain ⟨c1, c2, c3⟩ := c
    have hany : (srow m s).any = true := by
      have e1 : ∀ n s', (sput m 1 n s').any = s'.any := by
        intro n s'
        induction n with
        | zero => rfl
        | succ n ih => exact ih
      unfold srow
      rw [e1]
      unfold srow1
      simp only
      have : (ssettle m s).any = true := by
        unfold ssettle
        rw [if_pos z]
        split
        · rfl
        · rfl
      rw [this]
      split <;> rfl
    have hbr : (srow m s).broken = if s.ones > 6 then true else s.broken := by
      have e1 : ∀ b n s', (sput m b n s').broken = s'.broken := by
        intro b n s'
        induction n with
        | zero => rfl
        | succ n ih => exact ih
      unfold srow
      rw [e1]
      unfold srow1
      simp only
      rw [ssettle_ones]
      have : (ssettle m s).broken = s.broken := by
        unfold ssettle
        rw [if_pos z]
        split
        · rfl
        · exact e1 0 1 { s with any := true }
      rw [this]
    refine ⟨?_, ?_, ?_⟩
    · rw [hany, decide_eq_true (by rw [List.length_append, List.length_cons]; omega)]
    · rw [hbr, hr, c2, k]
      rw [k] at h6
      by_cases h7 : (o.length : Int) > 6
      · rw [if_pos h7, decide_eq_true (by omega)]
      · rw [if_neg h7]
        apply decide_eq_decide.2
        omega
    · intro h5
      rw [hr] at h5
      obtain ⟨d1, d2⟩ := c3 (by omega)
      rw [rem_b q h0 ho (by omega)]
      have hset : ∃ sx : Sst, ssettle m s = sx ∧ sx.bits = (rem 0 q ++ (if last 0 q = 5 then [] else [0])).take (8 * m).toNat ∧ sx.many = (rem 0 q ++ (if last 0 q = 5 then [] else [0])).length ∧ sx.ones = s.ones := by
        refine ⟨_, rfl, ?_⟩
        unfold ssettle
        rw [if_pos z]
        by_cases hs : last 0 q = 5
        · rw [if_pos (by rw [st, hs]; rfl), if_pos hs]
          rw [List.append_nil]
          exact ⟨d1, d2, rfl⟩
        · rw [if_neg (by rw [st]; simp [hs]), if_neg hs]
          have e := sput_take h1 h2 0 1 { s with any := true } (rem 0 q) d1 d2 (by omega)
          rw [e]
          refine ⟨rfl, ?_, rfl⟩
          simp
      obtain ⟨sx, ex, f1, f2, f3⟩ := hset
      have hlen : (rem 0 q ++ (if last 0 q = 5 then [] else [0])).length ≤ q.length + 1 := by
        rw [List.length_append]
        split <;> simp <;> omega
      have e := sput_take h1 h2 1 (min s.ones 5).toNat (srow1 sx) _ f1 f2 (by omega)
      unfold srow
      rw [ex, e, k, show (min (o.length : Int) 5).toNat = o.length by omega]
      refine ⟨rfl, ?_⟩
      simp only [List.length_append, List.length_replicate]
      omega
/-- What is kept, one bit more. -/
theorem Rz.snoc {m : Int} (h1 : 1 ≤ m) (h2 : m ≤ 1048576) {cur : List Int} {s : Sst} (h : Rz m cur s) (hl : cur.length ≤ 99999) {c : Int} (hc : Byte c) (hf : ¬ (c % 2 = 0 ∧ last 0 cur = 6)) :
    (sstep m ([], s) c).1 = [] ∧ Rz m (cur ++ [c]) (sstep m ([], s) c).2 := by
  have ho := h.ones
  have hll := last_len cur
  have hl0 := last_nonneg 0 cur (by omega)
  have hsb : sbit c = (c % 2 == 1) := by unfold sbit; rw [and1 hc]
  unfold sstep
  by_cases hb : c % 2 = 1
  · have w : wrap64 (s.ones + 1) = s.ones + 1 := w64 (by omega) (by omega)
    rw [if_pos (by rw [hsb, hb]; rfl)]
    refine ⟨rfl, ?_⟩
    simp only [w]
    cases h with
    | a z o k b mm a br => exact .a z (o.snoc hb) (by simp only; rw [k, List.length_append]; simp) b mm a br
    | b q c0 o z e h0 ho' k st cz =>
      exact .b q c0 (o ++ [c]) z (by rw [e, List.append_assoc]; rfl) h0 (ho'.snoc hb) (by simp only; rw [k, List.length_append]; simp) st ⟨cz.any, cz.broken, cz.left⟩
  · have h6 : s.ones ≠ 6 := fun e => hf ⟨by omega, by rw [← ho]; exact e⟩
    rw [if_neg (by rw [hsb]; simp [hb])]
    simp only [if_neg h6]
    refine ⟨trivial, ?_⟩
    have cz := Cz_row h1 h2 h (by omega) h6
    exact .b cur c [] rfl rfl (by omega) (fun x hx => by simp at hx) (by simp) (by simp only; rw [ho]) ⟨cz.any, cz.broken, cz.left⟩
/-- A flag. -/
theorem Rz.flag {m : Int} (h1 : 1 ≤ m) (h2 : m ≤ 1048576) {cur : List Int} {s : Sst} (h : Rz m cur s) (hl : cur.length ≤ 99999) {c : Int} (hc : Byte c) (hf : c % 2 = 0 ∧ last 0 cur = 6) :
    (sstep m ([], s) c).1.map s74 = (if (tellZ m (segZ cur)).2.2 = true then [⟨(tellZ m (segZ cur)).1, (tellZ m (segZ cur)).2.1⟩] else []) ∧ (sstep m ([], s) c).2 = s00 := by
  have ho := h.ones
  rw [hf.2] at ho
  have hsb : sbit c = (c % 2 == 1) := by unfold sbit; rw [and1 hc]
  unfold sstep
  rw [if_neg (by rw [hsb, hf.1]; decide)]
  simp only [if_pos ho]
  refine ⟨?_, trivial⟩
  cases h with
  | a z o k b mm a br =>
    have e : segZ cur = [] := by unfold segZ; rw [show cur.length - 7 = 0 by omega]; rfl
    rw [e, if_neg (by rw [a]; decide)]
    simp [tellZ]
  | b q c0 o z e h0 ho' k st cz =>
    have hol : o.length = 6 := by omega
    have es : segZ cur = q := by
      unfold segZ
      rw [e, List.length_append, List.length_cons, hol, show q.length + (6 + 1) - 7 = q.length by omega, List.take_left' rfl]
    have hq : q.length ≤ 100000 := by rw [e, List.length_append] at hl; omega
    have hrl := rem_len 0 q
    rw [es]
    obtain ⟨c1, c2, c3⟩ := cz
    unfold tellZ
    by_cases hq0 : q.length = 0
    · rw [if_pos hq0, if_neg (by rw [c1, decide_eq_false (by omega)]; decide)]
      simp
    · rw [if_neg hq0, if_pos (by rw [c1, decide_eq_true (by omega)])]
      simp only [List.nil_append, List.map_cons, List.map_nil]
      by_cases hr : run q > 5
      · have hk : skind m s = 2 := by unfold skind; rw [if_pos (by rw [c2, decide_eq_true hr])]
        rw [if_pos hr]
        unfold s74 sseg
        rw [hk, if_neg (by decide)]
        rfl
      · obtain ⟨d1, d2⟩ := c3 (by omega)
        have hb : s.broken ≠ true := by rw [c2, decide_eq_false hr]; decide
        rw [if_neg hr]
        have ht : s.many.tmod 8 = ((rem 0 q).length % 8 : Nat) := by
          rw [d2, Int.tmod_eq_emod_of_nonneg (by omega)]
          omega
        by_cases h8 : (rem 0 q).length % 8 = 0
        · rw [if_pos h8, octs_length]
          by_cases hm : (((rem 0 q).length / 8 : Nat) : Int) > m
          · have hk : skind m s = 4 := by unfold skind; rw [if_neg hb, if_neg (by rw [ht, h8]; simp), if_pos (by rw [d2, wm h1 h2]; omega)]
            rw [if_pos hm]
            unfold s74 sseg
            rw [hk, if_neg (by decide)]
            rfl
          · have hk : skind m s = 0 := by unfold skind; rw [if_neg hb, if_neg (by rw [ht, h8]; simp), if_neg (by rw [d2, wm h1 h2]; omega)]
            rw [if_neg hm]
            unfold s74 sseg
            rw [hk, if_pos rfl]
            have eb : s.bits = rem 0 q := by rw [d1]; exact List.take_of_length_le (by omega)
            rw [eb]
            unfold soc
            rw [if_pos h8]
            rfl
        · have hk : skind m s = 3 := by unfold skind; rw [if_neg hb, if_pos (by rw [ht]; omega)]
          rw [if_neg h8]
          unfold s74 sseg
          rw [hk, if_neg (by decide)]
          rfl
theorem Rz.s00 (m : Int) : Rz m [] s00 := .a rfl (fun x hx => by simp at hx) rfl rfl rfl rfl rfl
theorem sfeed_all {m : Int} (h1 : 1 ≤ m) (h2 : m ≤ 1048576) : ∀ (t cur : List Int) (s : Sst), Bytes t → cur.length + t.length ≤ 99999 → Rz m cur s → allZ m (partsZ cur t) = (sfeed m s t).1.map s74
  | [], cur, s, hb, hl, h => by simp [sfeed, partsZ, allZ]
  | c :: t, cur, s, hb, hl, h => by
    simp only [List.length_cons] at hl
    rw [sfeed_cons, List.map_append]
    by_cases hf : c % 2 = 0 ∧ last 0 cur = 6
    · obtain ⟨a, b⟩ := h.flag h1 h2 (by omega) hb.head hf
      have ih := sfeed_all h1 h2 t [] Print.s00 hb.tail (by simp only [List.length_nil]; omega) (Rz.s00 m)
      rw [a, b, ← ih]
      simp only [partsZ, if_pos hf, allZ]
      split <;> rfl
    · obtain ⟨a, b⟩ := h.snoc h1 h2 (by omega) hb.head hf
      have ih := sfeed_all h1 h2 t (cur ++ [c]) _ hb.tail (by rw [List.length_append]; simp only [List.length_cons, List.length_nil]; omega) b
      rw [a, ← ih]
      simp only [partsZ, if_neg hf]
      rfl
end Go.Proofs.Ytjmclghjhnbafaa.Sp

/- The reference of layer 7, in plain words: a row of 1s, a stream parted, a segment told, all that it tells; the layer's list and the reference's compared. -/
namespace Go.Proofs.Ytjmclghjhnbafaa.Sp
open Go.RowKit Go.Proofs.Ytjmclghjhnbafaa.Print Go.Proofs.YtjmclghjhnbafaaW.PrintWords Go.Proofs.YtjmclghjhnbafaaW.PrintLast Go.Proofs.Ytjmclghjhnbafaa.Pl
set_option linter.unusedVariables false
theorem bytesAt {l : List Int} (h : Bytes l) {i : Nat} {c : Int} {t : List Int} (e : l.drop i = c :: t) : Byte c := by
  have h4 := h.drop i
  rw [e] at h4
  exact h4.head
theorem rdAt {l : List Int} {j : Nat} (h : j < l.length) : rd l (j : Int) = l[j] := by
  unfold rd
  rw [Int.toNat_natCast, List.getD_eq_getElem?_getD, List.getElem?_eq_getElem h]
  rfl
theorem takeS {l : List Int} {j : Nat} (h : j < l.length) : l.take (j + 1) = l.take j ++ [l[j]] := List.take_succ_eq_append_getElem h
theorem RowAhead_l0 (l : List Int) (hl : l.length ≤ 2000) (hb : Bytes l) (i : Nat) (hi : i ≤ l.length) : ∀ (j n : Nat), j + n = i → last 0 (l.take i) = last 0 (l.take j) + n → Ev (fun k => marlineref07_rowAhead.l0 k l i n) (last 0 (l.take i))
  | 0, n, hj, h => by
    refine Ev.step (fun k => by simp only [marlineref07_rowAhead.l0]; rw [if_neg (by omega)]) (Ev.end_ ?_)
    rw [h]
    simp [last]
  | j + 1, n, hj, h => by
    have e : wrap64 (wrap64 ((i : Int) - 1) - n) = (j : Int) := by
      rw [w64 (x := (i : Int) - 1) (by omega) (by omega), w64 (by omega) (by omega)]
      omega
    have hjl : j < l.length := by omega
    have hc : Byte l[j] := hb _ (List.getElem_mem _)
    have hs := last_snoc (l.take j) l[j]
    rw [← takeS hjl] at hs
    have ht : Int.tmod (rd l (j : Int)) 2 = l[j] % 2 := by rw [rdAt hjl, Int.tmod_eq_emod_of_nonneg hc.1]
    refine Ev.step (fun k => by simp only [marlineref07_rowAhead.l0]; rw [if_pos (by omega), e, if_pos (by omega), if_pos (by omega), ht, suc n (by omega)]) ?_
    by_cases ho : l[j] % 2 = 1
    · rw [ho, Int.mul_one] at hs
      have ih := RowAhead_l0 l hl hb i hi j (n + 1) (by omega) (by rw [h, hs]; omega)
      exact Ev.pos ho ih
    · have h0 : l[j] % 2 = 0 := by omega
      rw [h0, Int.mul_zero] at hs
      exact Ev.neg ho (Ev.end_ (by rw [h, hs]; omega))
theorem RowAhead (l : List Int) (hl : l.length ≤ 2000) (hb : Bytes l) (i : Nat) (hi : i ≤ l.length) : Ev (fun k => marlineref07_rowAhead.f k l i) (last 0 (l.take i)) := by
  unfold marlineref07_rowAhead.f
  exact RowAhead_l0 l hl hb i hi i 0 (by omega) (by omega)
theorem partsZ_len : ∀ (t cur : List Int), (partsZ cur t).length ≤ t.length
  | [], cur => by simp [partsZ]
  | c :: t, cur => by
    simp only [partsZ, List.length_cons]
    split
    · have := partsZ_len t []; simp only [List.length_cons]; omega
    · have := partsZ_len t (cur ++ [c]); omega
theorem partsZ_ok : ∀ (t cur : List Int), Bytes t → Bytes cur → ∀ s ∈ partsZ cur t, s.length ≤ cur.length + t.length ∧ Bytes s
  | [], cur, hb, hc => by simp [partsZ]
  | c :: t, cur, hb, hc => by
    intro s hs
    simp only [partsZ] at hs
    simp only [List.length_cons]
    split at hs
    · rcases List.mem_cons.1 hs with rfl | hs
      · exact ⟨by unfold segZ; rw [List.length_take]; omega, by unfold segZ; exact hc.take _⟩
      · have := partsZ_ok t [] hb.tail Bytes.nil s hs
        exact ⟨by have := this.1; simp only [List.length_nil] at this; omega, this.2⟩
    · have := partsZ_ok t (cur ++ [c]) hb.tail (hc.append (Bytes.cons hb.head Bytes.nil)) s hs
      exact ⟨by have := this.1; simp only [List.length_append, List.length_cons, List.length_nil] at this; omega, this.2⟩
theorem PartsZ_l0 (l : List Int) (hl : l.length ≤ 2000) (hb : Bytes l) : ∀ (t : List Int) (i j : Nat) (x : List (List Int)), l.drop i = t → j ≤ i → i ≤ l.length → x.length ≤ i → last 0 (l.take i) = last 0 ((l.take i).drop j) →
    Ev (fun k => marlineref07_Parts.l0 k l x j i) (x ++ partsZ ((l.take i).drop j) t)
  | [], i, j, x, h, hj, hi, hx, hla => by
    have h3 := drop_nil_len h
    exact Ev.step (fun k => by simp only [marlineref07_Parts.l0]; rw [if_neg (by omega)]) (Ev.end_ (by simp [partsZ]))
  | c :: t, i, j, x, h, hj, hi, hx, hla => by
    obtain ⟨e1, e2, e3⟩ := rd_drop h
    have hc := bytesAt hb h
    have hci : l[i] = c := by rw [← rdAt e3, e1]
    have ht : l.take (i + 1) = l.take i ++ [c] := by rw [takeS e3, hci]
    have hs := last_snoc (l.take i) c
    rw [← ht] at hs
    have hcl : ((l.take i).drop j).length = i - j := by rw [List.length_drop, List.length_take]; omega
    have hll := last_len ((l.take i).drop j)
    have hd : (l.take (i + 1)).drop j = (l.take i).drop j ++ [c] := by rw [ht, List.drop_append_of_le_length (by rw [List.length_take]; omega)]
    refine Ev.step (fun k => by simp only [marlineref07_Parts.l0]; rw [if_pos (by omega), if_pos (by omega), e1, Int.tmod_eq_emod_of_nonneg hc.1]) ?_
    have next : ¬ (c % 2 = 0 ∧ last 0 ((l.take i).drop j) = 6) → Ev (fun k => marlineref07_Parts.j1 k l x j i true) (x ++ partsZ ((l.take i).drop j) (c :: t)) := by
      intro hf
      have ih := PartsZ_l0 l hl hb t (i + 1) j x e2 (by omega) (by omega) (by omega) (by rw [hd, last_snoc, hs, hla])
      rw [hd] at ih
      simp only [partsZ, if_neg hf]
      exact Ev.step (fun k => by simp only [marlineref07_Parts.j1]; rw [if_pos trivial, suc i (by omega)]) ih
    by_cases ho : c % 2 = 1
    · exact Ev.pos ho (next (fun hf => by omega))
    · refine Ev.neg ho (Ev.bind (RowAhead l hl hb i (by omega)) ?_)
      by_cases h6 : last 0 (l.take i) = 6
      · have h0 : c % 2 = 0 := by omega
        rw [h6]
        have hf : c % 2 = 0 ∧ last 0 ((l.take i).drop j) = 6 := ⟨h0, by rw [← hla]; exact h6⟩
        have ih := PartsZ_l0 l hl hb t (i + 1) (i + 1) (x ++ [segZ ((l.take i).drop j)]) e2 (by omega) (by omega) (by simp only [List.length_append, List.length_cons, List.length_nil]; omega) (by rw [hs, h0, Int.mul_zero, List.drop_of_length_le (by rw [List.length_take]; omega)]; rfl)
        rw [show (l.take (i + 1)).drop (i + 1) = [] from List.drop_of_length_le (by rw [List.length_take]; omega), List.append_assoc] at ih
        have w6 : wrap64 ((i : Int) - 6) = i - 6 := w64 (by omega) (by omega)
        have hi6 : j + 6 ≤ i := by omega
        simp only [partsZ, if_pos hf]
        refine Ev.step (fun k => by simp only [marlineref07_Parts.j1]; rw [if_neg (by decide), w6]) ?_
        by_cases hg : (i : Int) - 6 > j
        · have w7 : wrap64 ((i : Int) - 6 - 1) = ((i - 7 : Nat) : Int) := by rw [w64 (by omega) (by omega)]; omega
          rw [w7]
          have es : (l.take (i - 7)).drop j = segZ ((l.take i).drop j) := by
            unfold segZ
            rw [hcl, List.take_drop, List.take_take, show min (j + (i - j - 7)) i = i - 7 by omega]
          refine Ev.pos hg (Ev.step (fun k => by simp only [marlineref07_Parts.j2]; rw [if_neg (by omega), if_pos (by omega), if_pos (by omega), if_pos (by omega), if_pos (by omega), Int.toNat_natCast, Int.toNat_natCast, es, suc i (by omega)]) ?_)
          exact ih
        · have e6 : (i : Int) - 6 = ((i - 6 : Nat) : Int) := by omega
          have es : (l.take (i - 6)).drop j = segZ ((l.take i).drop j) := by
            unfold segZ
            rw [hcl, show i - j - 7 = 0 by omega, List.take_zero, List.drop_of_length_le (by rw [List.length_take]; omega)]
          rw [e6]
          refine Ev.neg (by omega) (Ev.step (fun k => by simp only [marlineref07_Parts.j2]; rw [if_neg (by omega), if_pos (by omega), if_pos (by omega), if_pos (by omega), if_pos (by omega), Int.toNat_natCast, Int.toNat_natCast, es, suc i (by omega)]) ?_)
          exact ih
      · have hb6 : (last 0 (l.take i) != 6) = true := by simp [h6]
        rw [hb6]
        exact next (fun hf => h6 (by rw [hla]; exact hf.2))
theorem PartsZ (l : List Int) (hl : l.length ≤ 2000) (hb : Bytes l) : Ev (fun k => marlineref07_Parts.f k l) (partsZ [] l) := by
  unfold marlineref07_Parts.f
  exact PartsZ_l0 l hl hb l 0 0 [] rfl (by omega) (by omega) (by simp) (by simp)
theorem TellZ (m : Int) (l : List Int) (hl : l.length ≤ 2000) (hb : Bytes l) : Ev (fun k => marlineref07_Tell.f k m l) (tellZ m l) := by
  unfold marlineref07_Tell.f
  have hrl := rem_len 0 l
  have hrb : Bytes (rem 0 l) := bytes_of_bits (rem_bits 0 l)
  by_cases h0 : l.length = 0
  · rw [show tellZ m l = (0, [], false) by unfold tellZ; rw [if_pos h0]]
    exact Ev.pos (by omega) (Ev.now _)
  · refine Ev.neg (by omega) (Ev.bind (rRemove l (by unfold Lim; omega) hb) ?_)
    by_cases hr : run l > 5
    · rw [show tellZ m l = (2, [], true) by unfold tellZ; rw [if_neg h0, if_pos hr], if_pos hr]
      exact Ev.neg (by decide) (Ev.now _)
    · rw [if_neg hr]
      refine Ev.pos rfl (Ev.bind (rOctets (rem 0 l) (by unfold Lim; omega) hrb) ?_)
      by_cases h8 : (rem 0 l).length % 8 = 0
      · rw [if_pos h8]
        by_cases hm : ((octs (rem 0 l)).length : Int) > m
        · rw [show tellZ m l = (4, [], true) by unfold tellZ; rw [if_neg h0, if_neg hr, if_pos h8, if_pos hm]]
          exact Ev.pos rfl (Ev.pos hm (Ev.now _))
        · rw [show tellZ m l = (0, octs (rem 0 l), true) by unfold tellZ; rw [if_neg h0, if_neg hr, if_pos h8, if_neg hm]]
          exact Ev.pos rfl (Ev.neg hm (Ev.now _))
      · rw [if_neg h8, show tellZ m l = (3, [], true) by unfold tellZ; rw [if_neg h0, if_neg hr, if_neg h8]]
        exact Ev.neg (by decide) (Ev.now _)
theorem AllZ_l0 (m : Int) (segs : List (List Int)) (hn : segs.length ≤ 2000) (hs : ∀ s ∈ segs, s.length ≤ 2000 ∧ Bytes s) : ∀ (t : List (List Int)) (i : Nat) (x : List S74), segs.drop i = t → x.length ≤ i →
    Ev (fun k => marlineref07_All.l0 k m x segs i) (x ++ allZ m t)
  | [], i, x, h, hx => by
    have h3 := dropL_nil h
    exact Ev.step (fun k => by simp only [marlineref07_All.l0]; rw [if_neg (by omega)]) (Ev.end_ (by simp [allZ]))
  | c :: t, i, x, h, hx => by
    obtain ⟨e1, e2, e3⟩ := rdL_drop h
    have hc := hs c (List.mem_of_mem_drop (by rw [h]; simp : c ∈ segs.drop i))
    refine Ev.step (fun k => by simp only [marlineref07_All.l0]; rw [if_pos (by omega), if_pos (by omega), e1, suc i (by omega)]) ?_
    refine Ev.bind (TellZ m c hc.1 hc.2) ?_
    by_cases h0 : (tellZ m c).2.2 = true
    · have ih := AllZ_l0 m segs hn hs t (i + 1) (x ++ [⟨(tellZ m c).1, (tellZ m c).2.1⟩]) e2 (by simp only [List.length_append, List.length_cons, List.length_nil]; omega)
      rw [show x ++ allZ m (c :: t) = (x ++ [⟨(tellZ m c).1, (tellZ m c).2.1⟩]) ++ allZ m t by simp [allZ, h0]]
      exact Ev.pos h0 (Ev.pos (by omega) ih)
    · have ih := AllZ_l0 m segs hn hs t (i + 1) x e2 (by omega)
      rw [show x ++ allZ m (c :: t) = x ++ allZ m t by simp [allZ, h0]]
      exact Ev.neg h0 ih
theorem AllZ (m : Int) (h1 : 1 ≤ m) (h2 : m ≤ 1048576) (l : List Int) (hl : l.length ≤ 2000) (hb : Bytes l) : Ev (fun k => marlineref07_All.f k m l) ((sfeed m s00 l).1.map s74) := by
  unfold marlineref07_All.f
  refine Ev.bind (PartsZ l hl hb) ?_
  rw [← sfeed_all h1 h2 l [] s00 hb (by simp only [List.length_nil]; omega) (Rz.s00 m)]
  have hn := partsZ_len l []
  exact AllZ_l0 m (partsZ [] l) (by omega) (fun s hs => by have := partsZ_ok l [] hb Bytes.nil s hs; exact ⟨by have := this.1; simp only [List.length_nil] at this; omega, this.2⟩) _ 0 [] rfl (by simp)
/-! ### the lists compared -/
theorem rd74 {l : List S54} {i : Nat} (h : i < l.length) : rd_T74 (l.map s74) (i : Int) = s74 (rd_T54 l (i : Int)) := by
  unfold rd_T74 rd_T54
  rw [Int.toNat_natCast, List.getD_eq_getElem?_getD, List.getD_eq_getElem?_getD, List.getElem?_map, List.getElem?_eq_getElem h]
  rfl
theorem SameR_l0 (l : List S54) (ok : SegsOk l) : ∀ (t : List S54) (i : Nat), l.drop i = t → Ev (fun k => marlinelaw07_Same.l0 k l (l.map s74) (l.length : Int) i) true
  | [], i, h => by
    have h3 : l.length ≤ i := by
      have := congrArg List.length h
      simp at this; omega
    exact Ev.step (fun k => by simp only [marlinelaw07_Same.l0]; rw [if_neg (by omega)]) (Ev.end_ rfl)
  | c :: t, i, h => by
    obtain ⟨e1, e2, e3⟩ := rdT_drop h
    have h0 := ok.1
    have hc : Lim c.f1 := ok.2 c (List.mem_of_mem_drop (by rw [h]; simp : c ∈ l.drop i))
    refine Ev.step (fun k => by simp only [marlinelaw07_Same.l0]; rw [if_pos (by omega), if_pos (by omega), if_pos (by omega), if_pos (by rw [List.length_map]; omega), rd74 e3, e1, suc i (by omega)]) ?_
    refine Ev.pos rfl (Ev.bind (Equal c.f1 c.f1 hc) (Ev.pos (by simp) ?_))
    exact SameR_l0 l ok t (i + 1) e2
theorem SameR (l : List S54) (ok : SegsOk l) : Ev (fun k => marlinelaw07_Same.f k l (l.map s74)) true := by
  unfold marlinelaw07_Same.f
  exact Ev.pos (by rw [List.length_map]) (SameR_l0 l ok l 0 rfl)
end Go.Proofs.Ytjmclghjhnbafaa.Sp

/- The statement SyncFeeds, in plain words. -/
namespace Go.Proofs.Ytjmclghjhnbafaa.Sp
open Go.RowKit Go.Proofs.Ytjmclghjhnbafaa.Print Go.Proofs.YtjmclghjhnbafaaW.PrintWords Go.Proofs.YtjmclghjhnbafaaW.PrintLast Go.Proofs.Ytjmclghjhnbafaa.Pl
set_option linter.unusedVariables false
theorem held_eq (n : Nat) (h : n ≤ 2000000) : wrap64 (Int.tdiv (wrap64 ((n : Int) + 7)) 8) = (((n + 7) / 8 : Nat) : Int) := by
  have e : (n : Int) + 7 = ((n + 7 : Nat) : Int) := by omega
  rw [w64 (x := (n : Int) + 7) (by omega) (by omega), e, Int.tdiv_eq_ediv_of_nonneg (Int.natCast_nonneg _)]
  rw [show ((n + 7 : Nat) : Int) / 8 = (((n + 7) / 8 : Nat) : Int) by omega]
  exact w64 (by omega) (by omega)
theorem Feeds_l0 (m : Int) (h1 : 1 ≤ m) (h2 : m ≤ 1048576) (ls : List (List Int)) (hn : ls.length ≤ 60) (hb : ∀ c ∈ ls, Bytes c) : ∀ (t : List (List Int)) (i : Nat) (s : Sst) (y : List S54) (l : List Int), ls.drop i = t → l.length + tot t ≤ 900 → Bytes l → (y, s) = sfeed m s00 l → (s.bits.length : Int) ≤ 8 * m →
    Ev (fun k => marlinelaw07_SyncFeeds.l0 k m l y ls (ls.length : Int) i m s.bits s.many s.any s.broken s.ones s.zero s.stuff) true
  | [], i, s, y, l, h, hi, hl, hy, hk => by
    have h3 := dropL_nil h
    exact Ev.step (fun k => by simp only [marlinelaw07_SyncFeeds.l0]; rw [if_neg (by omega)]) (Ev.end_ rfl)
  | c :: t, i, s, y, l, h, hi, hl, hy, hk => by
    obtain ⟨e1, e2, e3⟩ := rdL_drop h
    have hc := hb c (List.mem_of_mem_drop (by rw [h]; simp : c ∈ ls.drop i))
    simp only [tot] at hi
    have ht := tot_nn t
    have hs := Sok.after (m := m) (n := c.length) (l := l) (sok0 (by omega))
    rw [← hy] at hs
    simp only at hs
    have hF := FeedS m s c hs.1
    have hfl := Sok.after (m := m) (n := 0) (l := c) (by rw [Nat.zero_add]; exact hs.1)
    have hy2 : (y ++ (sfeed m s c).1, (sfeed m s c).2) = sfeed m s00 (l ++ c) := by rw [sfeed_append, ← hy]
    have hall := AllZ m h1 h2 (l ++ c) (by rw [List.length_append]; omega) (hl.append hc)
    have ok := segs_ok m (l ++ c) (by rw [List.length_append]; omega)
    rw [← hy2] at hall ok
    have hq := SameR _ ok
    have hk2 : ((sfeed m s c).2.bits.length : Int) ≤ 8 * m := by
      have := (sfeed_cap h1 h2 (l ++ c) s00 (by simp [s00]; omega))
      rw [← hy2] at this
      exact this
    have hk3 := hfl.1.len
    generalize sfeed m s c = F at hF hfl hy2 hall ok hq hk2 hk3
    obtain ⟨o, s2⟩ := F
    simp only at hF hfl hy2 hall ok hq hk2 hk3
    have w1 := held_eq s2.bits.length (by omega)
    have hh : (((s2.bits.length + 7) / 8 : Nat) : Int) ≤ m + 1 := by omega
    have w2 : wrap64 (m + 1) = m + 1 := w64 (by omega) (by omega)
    refine Ev.step (fun k => by simp only [marlinelaw07_SyncFeeds.l0]; rw [if_pos (by omega), if_pos (by omega), if_pos (by omega), e1, hF]) ?_
    refine Ev.name ?_
    simp only
    refine Ev.pos (by omega) ?_
    refine Ev.name ?_
    refine Ev.pos (by omega) ?_
    refine Ev.name ?_
    refine Ev.bind hall ?_
    refine Ev.bind hq ?_
    refine Ev.pos rfl ?_
    rw [w1, w2]
    refine Ev.neg (Int.not_lt.2 (Int.natCast_nonneg _)) ?_
    rw [decide_eq_false (Int.not_lt.2 hh)]
    refine Ev.step (fun k => by simp only [marlinelaw07_SyncFeeds.j2]; rw [if_neg (by decide), suc i (by omega)]) ?_
    exact Feeds_l0 m h1 h2 ls hn hb t (i + 1) s2 (y ++ o) (l ++ c) e2 (by rw [List.length_append]; omega) (hl.append hc) hy2 hk2
theorem SyncFeeds : marlinelaw07_SyncFeeds.Pure := by
  intro a0 l1 h0 hw
  obtain ⟨⟨hn, hn2⟩, hy⟩ := hw
  have hb : ∀ c ∈ l1, Bytes c := fun c hc => bytes_of_wf (hy c hc).2
  refine Ev.rounds ?_
  unfold marlinelaw07_SyncFeeds.f
  refine Ev.bind Speaks07 (Ev.pos rfl ?_)
  obtain ⟨b, hb1, hb2⟩ := RightD a0 l1 (fun c hc => by have := (hy c hc).1.2; omega) (by omega)
  refine Ev.bind hb2 ?_
  cases b with
  | false => exact Ev.step (fun k => by simp only [marlinelaw07_SyncFeeds.j0]; rw [if_pos (by decide)]) (Ev.bind Speaks07 (Ev.now _))
  | true =>
    obtain ⟨q3, q4, q1, q2⟩ := hb1 rfl
    refine Ev.step (fun k => by simp only [marlinelaw07_SyncFeeds.j0]; rw [if_neg (by decide)]) ?_
    exact Feeds_l0 a0 q3 q4 l1 q1 hb l1 0 s00 [] [] rfl (by simp only [List.length_nil]; omega) Bytes.nil rfl (by simp [s00]; omega)
end Go.Proofs.Ytjmclghjhnbafaa.Sp

/- The plain part of marlinelaw07.SyncFeeds: its printed form gives true for every input in its kinds' ranges. -/
namespace Go.Proofs.Ytjmclghjhnbafaa.Pure
open Go.Proofs.Ytjmclghjhnbafaa.Print
theorem SyncFeeds : marlinelaw07_SyncFeeds.Pure := Go.Proofs.Ytjmclghjhnbafaa.Sp.SyncFeeds
end Go.Proofs.Ytjmclghjhnbafaa.Pure

/- Words on rows of rows, for the law's row. No condition. -/
namespace Go.Proofs.Ytjmclghjhnbafaa.Print
open Go.RowKit Go.Proofs.YtjmclghjhnbafaaW.PrintWords Go.Proofs.YtjmclghjhnbafaaW.PrintLast Go.Proofs.YtjmclghjhnbafaaW.PrintMore
/-! ### how what came in reads: words of this claim's own, over any program -/
namespace XRow
variable {H : Type} {enc : TypeId × Value → H} {P : Program} {w : World} {α : Type}
/-- Whatever reads as data at type t, no heavier than a machine reaches, holds the cells of one x of kind d, in its range. -/
def Opens (enc : TypeId × Value → H) (P : Program) (w : World) (t : TypeId) (d : Kd α) (wf : α → Prop) : Prop :=
  ∀ fuel cs x, DataW.trod enc P w 0 (fun _ => true) true fuel t cs = some x → (∀ n ∈ x.1.weights P t, n ≤ reachBytes) → ∃ a, d.K w a cs ∧ wf a
theorem opens_int {t : TypeId} {k : IntKind} (ht : P.underlying t = some (.int k)) : Opens enc P w t (Kd.int k) (fun n => (Lit.int k n).wf = true) := by
  intro fuel cs x hx _
  obtain ⟨n, rfl, _, hw⟩ := DataW.trod_int ht hx
  exact ⟨n, rfl, hw⟩
theorem opens_bool {t : TypeId} (ht : P.underlying t = some .bool) : Opens enc P w t Kd.bool (fun _ => True) := by
  intro fuel cs x hx _
  obtain ⟨b, rfl, _⟩ := DataW.trod_bool ht hx
  exact ⟨b, rfl, trivial⟩
theorem cells_at {a : Addr} {n : Nat} {cs : List Value} (h : w.cells? 0 a n = some cs) : cs.length = n ∧ ∀ i u, cs[i]? = some u → w.cell? (a.add i) = some u := by
  obtain ⟨_, hlen, hc⟩ := World.cells?_some h
  refine ⟨hlen, fun i u hu => ?_⟩
  have hi : i < n := by rw [← hlen]; exact (List.getElem?_eq_some_iff.1 hu).1
  rw [← hu]
  exact hc i hi
theorem weights_all {e : TypeId} : ∀ {ds : List (DataW H)} {d : DataW H}, d ∈ ds → ∀ n ∈ d.weights P e, n ∈ DataW.weightsAll P e ds
  | [], _, h, _, _ => by simp at h
  | _ :: ds, d, h, n, hn => by
    simp only [DataW.weightsAll, List.mem_append]
    rcases List.mem_cons.1 h with rfl | h
    · exact Or.inl hn
    · exact Or.inr (weights_all h n hn)
theorem opens_slice {t e : TypeId} {d : Kd α} {wf : α → Prop} (ht : P.underlying t = some (.slice e)) (hC : P.cellsOf e = d.sz) {B : Nat} (hB : P.bytesOf e = B) (hE : Opens enc P w e d wf) :
    Opens enc P w t (Kd.slice e d) (fun l => (l.length ≤ 9223372036854775807 ∧ l.length * B ≤ 140737488351232) ∧ ∀ y ∈ l, wf y) := by
  intro fuel cs x hx hz
  rcases DataW.trod_slice ht hx with ⟨rfl, _⟩ | ⟨a, len, cap, elems, rest, n, _, rfl, he, _, hl, hm, hlen, hel, _, _⟩
  · exact ⟨[], ⟨none, 0, rfl, Nat.le_refl _, Kd.C_nil d w⟩, by simp, by simp⟩
  have hm' : cap ≤ 9223372036854775807 := by simpa [maxLen] using hm
  subst he
  simp only [DataW.weights, ht, List.mem_cons, List.mem_append] at hz
  have hB' : len * B ≤ 140737488351232 := by
    have h1 := hz _ (Or.inl rfl)
    rw [hB, List.length_map, hlen] at h1
    exact Nat.le_trans (Nat.mul_le_mul_right _ (Nat.le_add_right _ _)) h1
  have key : ∀ i, i < len → ∃ y, ∃ c, w.cells? 0 (a.add (i * d.sz)) d.sz = some c ∧ d.K w y c ∧ wf y := by
    intro i hi
    have h := hel i hi
    rw [hC, List.getElem?_eq_getElem (by omega)] at h
    obtain ⟨c, hc, ht⟩ := Option.bind_eq_some_iff.1 h
    obtain ⟨y, hk, hw⟩ := hE n c _ ht (fun m hm => hz m (Or.inr (Or.inl (weights_all (List.mem_map.2 ⟨_, List.getElem_mem _, rfl⟩) m hm))))
    exact ⟨y, c, hc, hk, hw⟩
  have hf : ∃ f : (i : Nat) → i < len → α, ∀ i (hi : i < len), ∃ c, w.cells? 0 (a.add (i * d.sz)) d.sz = some c ∧ d.K w (f i hi) c ∧ wf (f i hi) :=
    ⟨fun i hi => Classical.choose (key i hi), fun i hi => Classical.choose_spec (key i hi)⟩
  obtain ⟨f, hf⟩ := hf
  have hll : (List.ofFn (fun i : Fin len => f i.1 i.2)).length = len := by simp
  refine ⟨List.ofFn (fun i : Fin len => f i.1 i.2), ⟨some a, cap, by rw [hll], by rw [hll]; exact hl, rfl, by rw [hll]; omega, fun _ => ⟨a, rfl, fun j p hj => ?_⟩⟩, ⟨by rw [hll]; omega, by rw [hll]; exact hB'⟩, fun y hy => ?_⟩
  · obtain ⟨hj1, hj2⟩ := List.getElem?_eq_some_iff.1 hj
    rw [hll] at hj1
    have e : f j hj1 = p := by rw [← hj2]; simp
    obtain ⟨c, hc, hk, _⟩ := hf j hj1
    obtain ⟨hcl, hcc⟩ := cells_at hc
    refine ⟨c, hcl, e ▸ hk, fun i u hu => ?_⟩
    have h := hcc i u hu
    rwa [add_add] at h
  · obtain ⟨⟨i, hi⟩, rfl⟩ := List.mem_ofFn.1 hy
    obtain ⟨_, _, _, hw⟩ := hf i hi
    exact hw
theorem field_weights {t : TypeId} {fs : Array Field} {xs : List (DataW H × List MemPlace)} (ht : P.underlying t = some (.struct fs)) (hz : ∀ n ∈ (DataW.agg (xs.map (·.1))).weights P t, n ≤ reachBytes) {j : Nat} {f : Field} {x : DataW H × List MemPlace} (hf : fs[j]? = some f) (hx : xs[j]? = some x) : ∀ n ∈ x.1.weights P f.type, n ≤ reachBytes := by
  intro n hn
  refine hz n ?_
  simp only [DataW.weights, ht]
  exact DataW.weights_mem_each (j := j) (by simp [hf]) (by simp [hx]) n hn
theorem arg_weights {ts : List TypeId} {ds : List (DataW H)} (hsz : (DataW.weightsEach P ts ds).all (· ≤ reachBytes) = true) {j : Nat} {t : TypeId} {d : DataW H} (ht : ts[j]? = some t) (hd : ds[j]? = some d) : ∀ n ∈ d.weights P t, n ≤ reachBytes :=
  fun n hn => by simpa using List.all_eq_true.1 hsz n (DataW.weights_mem_each ht hd n hn)
theorem seg (cs : List Value) (o s : Nat) : cs.drop o = (cs.drop o).take s ++ cs.drop (o + s) := by rw [← List.drop_drop, List.take_append_drop]
theorem seg_last {cs : List Value} {o s : Nat} (h : cs.length = o + s) : cs.drop o = (cs.drop o).take s := by rw [List.take_of_length_le]; rw [List.length_drop]; omega
end XRow
end Go.Proofs.Ytjmclghjhnbafaa.Print
