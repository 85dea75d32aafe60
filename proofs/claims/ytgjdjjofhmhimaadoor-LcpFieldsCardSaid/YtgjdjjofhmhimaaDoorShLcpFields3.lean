/- Texts of this claim, several in one, told shortly by a program of this claim (wip/x/shrink.py): what Go functions come to, and plain words on it. -/
import Derived.Test.YtgjdjjofhmhimaaDoorShLcpFields2
namespace Go.Proofs.YtgjdjjofhmhimaaDoor.Print
open Go.RowKit Go.Proofs.YtgjdjjofhmhimaaDoorW.PrintWords Go.Proofs.YtgjdjjofhmhimaaDoorW.PrintLast Go.Proofs.YtgjdjjofhmhimaaDoorW.PrintMore
attribute [local go_sem] max2_int min2_int max_two min_two max_three min_three max_four min_four
set_option linter.unusedVariables false
set_option linter.unusedSimpArgs false
mutual
def marlineref14_Size.j3 : Nat → Int → Int → Option (Int × Int)
 | 0, _, _ => none
 | k + 1, x0, x1 => if x0 = 32801 then (if x1 = 2 then (some (2, 253)) else (if x1 = 3 then (marlineref14_Size.j4 k x0 x1 true) else (if x1 ≥ 129 then (marlineref14_Size.j4 k x0 x1 (decide (x1 ≤ 132))) else (marlineref14_Size.j4 k x0 x1 false)))) else (marlineref14_Size.j5 k x0 x1)
def marlineref14_Size.j5 : Nat → Int → Int → Option (Int × Int)
 | 0, _, _ => none
 | k + 1, x0, x1 => if x0 = 32855 then (marlineref14_Size.j6 k x0 x1 (x1 == 1)) else (marlineref14_Size.j6 k x0 x1 false)
def marlineref14_Size.j6 : Nat → Int → Int → Bool → Option (Int × Int)
 | 0, _, _, _ => none
 | k + 1, x0, x1, x41 => if x41 = true then (some (8, 8)) else (if x0 = 32855 then (if x1 = 2 then (some (2, 253)) else (some (0, 253))) else (some (0, 253)))
def marlineref14_Size.j4 : Nat → Int → Int → Bool → Option (Int × Int)
 | 0, _, _, _ => none
 | k + 1, x0, x1, x35 => if x35 = true then (some (4, 4)) else (marlineref14_Size.j5 k x0 x1)
def marlineref14_Size.j0 : Nat → Int → Int → Int → Bool → Option (Int × Int)
 | 0, _, _, _, _ => none
 | k + 1, x0, x1, x8, x11 => if x11 = true then (some (4, 4)) else (if x8 = 3 then (marlineref14_Size.j1 k x0 x1 x8 (x8 == 3)) else (marlineref14_Size.j1 k x0 x1 x8 (x8 == 4)))
def marlineref14_Size.j1 : Nat → Int → Int → Int → Bool → Option (Int × Int)
 | 0, _, _, _, _ => none
 | k + 1, x0, x1, x8, x14 => if x14 = true then (some (2, 253)) else (if x8 = 7 then (marlineref14_Size.j2 k x0 x1 x8 (x8 == 7)) else (marlineref14_Size.j2 k x0 x1 x8 (x8 == 8)))
def marlineref14_Size.j2 : Nat → Int → Int → Int → Bool → Option (Int × Int)
 | 0, _, _, _, _ => none
 | k + 1, x0, x1, x8, x17 => if x17 = true then (some (0, 0)) else (if x8 = 9 then (some (1, 1)) else (marlineref14_Size.j3 k x0 x1))
end
def marlineref14_Size.f (k : Nat) (a0 : Int) (a1 : Int) : Option (Int × Int) := if a0 = 49185 then (if a1 = 1 then (some (2, 2)) else (if a1 = 2 then (marlineref14_Size.j0 k a0 a1 a1 (a1 == 2)) else (marlineref14_Size.j0 k a0 a1 a1 (a1 == 5)))) else (marlineref14_Size.j3 k a0 a1)
set_option maxHeartbeats 8000000 in
set_option maxRecDepth 100000 in
theorem marlineref14_Size.calls (k : Nat) (a0 : Int) (a1 : Int) (r1 : Int) (r2 : Int) (w : World) (h : marlineref14_Size.f k a0 a1 = some (r1, r2)) :
 Calls Tryd.prog 36 #[.int .i64 a0, .int .u8 a1] w fun e w' => e = .returned (.tuple #[.int .i64 r1, .int .i64 r2]) ∧ Drawn0 w w' := by
 have H : (if a0 = 49185 then (if a1 = 1 then (some (2, 2)) else (if a1 = 2 then (marlineref14_Size.j0 k a0 a1 a1 (a1 == 2)) else (marlineref14_Size.j0 k a0 a1 a1 (a1 == 5)))) else (marlineref14_Size.j3 k a0 a1)) = some (r1, r2) := h
 clear h
 have HC3 := Aside0.mk H
 clear H
 go_enter Tryd.func36, Tryd.ntmps36
 go_upto_if 7 with (fail)
 go_cut [] (fun wc => ∃ (kq : Nat), Aside0 (marlineref14_Size.j3 kq a0 a1 = some (r1, r2)) ∧ Aside0 (kq ≤ k) ∧ Drawn0 w wc)
 case first =>
  have H := HC3.out
  clear HC3
  by_cases c4 : a0 = 49185
  · rw [if_pos c4] at H
    have c4b0 : (a0 == 49185) = true := beq_iff_eq.mpr c4
    have c4b1 : (a0 != 49185) = false := bne_eq_false_iff_eq.mpr c4
    clear c4
    (first | rw [c4b0] | (simp only [i64_w, i32_w]; rw [c4b0]) | skip)
    by_cases c5 : a1 = 1
    · rw [if_pos c5] at H
      have c5b0 : (a1 == 1) = true := beq_iff_eq.mpr c5
      have c5b1 : (a1 != 1) = false := bne_eq_false_iff_eq.mpr c5
      clear c5
      simp only [Option.some.injEq, Prod.mk.injEq] at H
      obtain ⟨rfl, rfl⟩ := H
      go_wp2
      go_ret2
      exact ⟨by first | rfl | (simp; done) | (simp [*]; done), by repeat (first | exact Drawn0.refl _ | apply Drawn0.step)⟩
    · rw [if_neg c5] at H
      have c5b0 : (a1 == 1) = false := beq_eq_false_iff_ne.mpr c5
      have c5b1 : (a1 != 1) = true := bne_iff_ne.mpr c5
      have HC6 := Aside0.mk H
      clear H
      go_upto_if 11 with (fail)
      go_cut [11] (fun v11 wc => ∃ (kq : Nat) (x11_5 : Bool), v11 = .bool x11_5 ∧ Aside0 (marlineref14_Size.j0 kq a0 a1 a1 x11_5 = some (r1, r2)) ∧ Aside0 (kq ≤ k) ∧ Drawn0 w wc)
      case first =>
       have H := HC6.out
       clear HC6
       by_cases c7 : a1 = 2
       · rw [if_pos c7] at H
         have c7b0 : (a1 == 2) = true := beq_iff_eq.mpr c7
         have c7b1 : (a1 != 2) = false := bne_eq_false_iff_eq.mpr c7
         clear c7
         (first | rw [c7b0] | (simp only [i64_w, i32_w]; rw [c7b0]) | skip)
         have H' := Aside0.mk H
         clear H
         go_wp2
         go_meet
         case rel => exact ⟨_, ((a1 == 2)), (by first | rfl | (simp; done) | (simp [*]; done)), H', ⟨by first | omega | exact Nat.le_refl _⟩, by repeat (first | exact Drawn0.refl _ | apply Drawn0.step)⟩
       · rw [if_neg c7] at H
         have c7b0 : (a1 == 2) = false := beq_eq_false_iff_ne.mpr c7
         have c7b1 : (a1 != 2) = true := bne_iff_ne.mpr c7
         (first | rw [c7b0] | (simp only [i64_w, i32_w]; rw [c7b0]) | skip)
         have H' := Aside0.mk H
         clear H
         go_wp2
         go_meet
         case rel => exact ⟨_, ((a1 == 5)), (by first | rfl | (simp; done) | (simp [*]; done)), H', ⟨by first | omega | exact Nat.le_refl _⟩, by repeat (first | exact Drawn0.refl _ | apply Drawn0.step)⟩
      case rest =>
       clear HC6
       try clear p2
       try clear c3
       try clear c4
       try clear c4b0
       try clear c4b1
       try clear c5
       try clear c5b0
       try clear c5b1
       try clear c7
       try clear c7b0
       try clear c7b1
       obtain ⟨kq, x11_5, rfl, HA, HJ5, ⟨mc5, rfl⟩⟩ := hcut
       cases kq with
       | zero => exact absurd HA.out (by simp [marlineref14_Size.j0])
       | succ kj5 =>
        have H := HA.out
        clear HA
        simp only [marlineref14_Size.j0] at H
        by_cases c8 : x11_5 = true
        · subst c8
          have H1 : (some (4, 4)) = some (r1, r2) := by rw [if_pos rfl] at H; exact H
          clear H
          have H := H1
          clear H1
          simp only [Option.some.injEq, Prod.mk.injEq] at H
          obtain ⟨rfl, rfl⟩ := H
          go_wp2
          go_ret2
          exact ⟨by first | rfl | (simp; done) | (simp [*]; done), by repeat (first | exact Drawn0.refl _ | apply Drawn0.step)⟩
        · replace c8 := Bool.eq_false_iff.mpr c8
          subst c8
          have H1 : (if a1 = 3 then (marlineref14_Size.j1 kj5 a0 a1 a1 (a1 == 3)) else (marlineref14_Size.j1 kj5 a0 a1 a1 (a1 == 4))) = some (r1, r2) := by rw [if_neg (show ¬ (false = true) by decide)] at H; exact H
          clear H
          have H := H1
          clear H1
          have HC9 := Aside0.mk H
          clear H
          go_upto_if 14 with (fail)
          go_cut [14] (fun v14 wc => ∃ (kq : Nat) (x14_8 : Bool), v14 = .bool x14_8 ∧ Aside0 (marlineref14_Size.j1 kq a0 a1 a1 x14_8 = some (r1, r2)) ∧ Aside0 (kq ≤ kj5) ∧ Drawn0 w wc)
          case first =>
           have H := HC9.out
           clear HC9
           by_cases c10 : a1 = 3
           · rw [if_pos c10] at H
             have c10b0 : (a1 == 3) = true := beq_iff_eq.mpr c10
             have c10b1 : (a1 != 3) = false := bne_eq_false_iff_eq.mpr c10
             clear c10
             (first | rw [c10b0] | (simp only [i64_w, i32_w]; rw [c10b0]) | skip)
             have H' := Aside0.mk H
             clear H
             go_wp2
             go_meet
             case rel => exact ⟨_, ((a1 == 3)), (by first | rfl | (simp; done) | (simp [*]; done)), H', ⟨by have := HJ5.out; first | omega | exact Nat.le_refl _⟩, by repeat (first | exact Drawn0.refl _ | apply Drawn0.step)⟩
           · rw [if_neg c10] at H
             have c10b0 : (a1 == 3) = false := beq_eq_false_iff_ne.mpr c10
             have c10b1 : (a1 != 3) = true := bne_iff_ne.mpr c10
             (first | rw [c10b0] | (simp only [i64_w, i32_w]; rw [c10b0]) | skip)
             have H' := Aside0.mk H
             clear H
             go_wp2
             go_meet
             case rel => exact ⟨_, ((a1 == 4)), (by first | rfl | (simp; done) | (simp [*]; done)), H', ⟨by have := HJ5.out; first | omega | exact Nat.le_refl _⟩, by repeat (first | exact Drawn0.refl _ | apply Drawn0.step)⟩
          case rest =>
           clear HC9
           try clear c1
           try clear p2
           try clear c3
           try clear c4
           try clear c4b0
           try clear c4b1
           try clear c5
           try clear c5b0
           try clear c5b1
           try clear c7
           try clear c7b0
           try clear c7b1
           try clear c8
           try clear c10
           try clear c10b0
           try clear c10b1
           try clear p2
           obtain ⟨kq, x14_8, rfl, HA, HJ8, ⟨mc8, rfl⟩⟩ := hcut
           cases kq with
           | zero => exact absurd HA.out (by simp [marlineref14_Size.j1])
           | succ kj8 =>
            have H := HA.out
            clear HA
            simp only [marlineref14_Size.j1] at H
            by_cases c11 : x14_8 = true
            · subst c11
              have H1 : (some (2, 253)) = some (r1, r2) := by rw [if_pos rfl] at H; exact H
              clear H
              have H := H1
              clear H1
              simp only [Option.some.injEq, Prod.mk.injEq] at H
              obtain ⟨rfl, rfl⟩ := H
              go_wp2
              go_ret2
              exact ⟨by first | rfl | (simp; done) | (simp [*]; done), by repeat (first | exact Drawn0.refl _ | apply Drawn0.step)⟩
            · replace c11 := Bool.eq_false_iff.mpr c11
              subst c11
              have H1 : (if a1 = 7 then (marlineref14_Size.j2 kj8 a0 a1 a1 (a1 == 7)) else (marlineref14_Size.j2 kj8 a0 a1 a1 (a1 == 8))) = some (r1, r2) := by rw [if_neg (show ¬ (false = true) by decide)] at H; exact H
              clear H
              have H := H1
              clear H1
              have HC12 := Aside0.mk H
              clear H
              go_upto_if 17 with (fail)
              go_cut [17] (fun v17 wc => ∃ (kq : Nat) (x17_11 : Bool), v17 = .bool x17_11 ∧ Aside0 (marlineref14_Size.j2 kq a0 a1 a1 x17_11 = some (r1, r2)) ∧ Aside0 (kq ≤ kj8) ∧ Drawn0 w wc)
              case first =>
               have H := HC12.out
               clear HC12
               by_cases c13 : a1 = 7
               · rw [if_pos c13] at H
                 have c13b0 : (a1 == 7) = true := beq_iff_eq.mpr c13
                 have c13b1 : (a1 != 7) = false := bne_eq_false_iff_eq.mpr c13
                 clear c13
                 (first | rw [c13b0] | (simp only [i64_w, i32_w]; rw [c13b0]) | skip)
                 have H' := Aside0.mk H
                 clear H
                 go_wp2
                 go_meet
                 case rel => exact ⟨_, ((a1 == 7)), (by first | rfl | (simp; done) | (simp [*]; done)), H', ⟨by have := HJ5.out; have := HJ8.out; first | omega | exact Nat.le_refl _⟩, by repeat (first | exact Drawn0.refl _ | apply Drawn0.step)⟩
               · rw [if_neg c13] at H
                 have c13b0 : (a1 == 7) = false := beq_eq_false_iff_ne.mpr c13
                 have c13b1 : (a1 != 7) = true := bne_iff_ne.mpr c13
                 (first | rw [c13b0] | (simp only [i64_w, i32_w]; rw [c13b0]) | skip)
                 have H' := Aside0.mk H
                 clear H
                 go_wp2
                 go_meet
                 case rel => exact ⟨_, ((a1 == 8)), (by first | rfl | (simp; done) | (simp [*]; done)), H', ⟨by have := HJ5.out; have := HJ8.out; first | omega | exact Nat.le_refl _⟩, by repeat (first | exact Drawn0.refl _ | apply Drawn0.step)⟩
              case rest =>
               clear HC12
               try clear c1
               try clear p2
               try clear c3
               try clear c4
               try clear c4b0
               try clear c4b1
               try clear c5
               try clear c5b0
               try clear c5b1
               try clear c7
               try clear c7b0
               try clear c7b1
               try clear c8
               try clear c10
               try clear c10b0
               try clear c10b1
               try clear c11
               try clear c13
               try clear c13b0
               try clear c13b1
               try clear p2
               obtain ⟨kq, x17_11, rfl, HA, HJ11, ⟨mc11, rfl⟩⟩ := hcut
               cases kq with
               | zero => exact absurd HA.out (by simp [marlineref14_Size.j2])
               | succ kj11 =>
                have H := HA.out
                clear HA
                simp only [marlineref14_Size.j2] at H
                by_cases c14 : x17_11 = true
                · subst c14
                  have H1 : (some (0, 0)) = some (r1, r2) := by rw [if_pos rfl] at H; exact H
                  clear H
                  have H := H1
                  clear H1
                  simp only [Option.some.injEq, Prod.mk.injEq] at H
                  obtain ⟨rfl, rfl⟩ := H
                  go_wp2
                  go_ret2
                  exact ⟨by first | rfl | (simp; done) | (simp [*]; done), by repeat (first | exact Drawn0.refl _ | apply Drawn0.step)⟩
                · replace c14 := Bool.eq_false_iff.mpr c14
                  subst c14
                  have H1 : (if a1 = 9 then (some (1, 1)) else (marlineref14_Size.j3 kj11 a0 a1)) = some (r1, r2) := by rw [if_neg (show ¬ (false = true) by decide)] at H; exact H
                  clear H
                  have H := H1
                  clear H1
                  by_cases c15 : a1 = 9
                  · rw [if_pos c15] at H
                    have c15b0 : (a1 == 9) = true := beq_iff_eq.mpr c15
                    have c15b1 : (a1 != 9) = false := bne_eq_false_iff_eq.mpr c15
                    clear c15
                    simp only [Option.some.injEq, Prod.mk.injEq] at H
                    obtain ⟨rfl, rfl⟩ := H
                    go_wp2
                    go_ret2
                    exact ⟨by first | rfl | (simp; done) | (simp [*]; done), by repeat (first | exact Drawn0.refl _ | apply Drawn0.step)⟩
                  · rw [if_neg c15] at H
                    have c15b0 : (a1 == 9) = false := beq_eq_false_iff_ne.mpr c15
                    have c15b1 : (a1 != 9) = true := bne_iff_ne.mpr c15
                    have H' := Aside0.mk H
                    clear H
                    go_wp2
                    go_meet
                    case rel => exact ⟨_, H', ⟨by have := HJ5.out; have := HJ8.out; have := HJ11.out; first | omega | exact Nat.le_refl _⟩, by repeat (first | exact Drawn0.refl _ | apply Drawn0.step)⟩
  · rw [if_neg c4] at H
    have c4b0 : (a0 == 49185) = false := beq_eq_false_iff_ne.mpr c4
    have c4b1 : (a0 != 49185) = true := bne_iff_ne.mpr c4
    (first | rw [c4b0] | (simp only [i64_w, i32_w]; rw [c4b0]) | skip)
    have H' := Aside0.mk H
    clear H
    go_wp2
    go_meet
    case rel => exact ⟨_, H', ⟨by first | omega | exact Nat.le_refl _⟩, by repeat (first | exact Drawn0.refl _ | apply Drawn0.step)⟩
 case rest =>
  clear HC3
  try clear c1
  try clear p2
  try clear c3
  try clear c4
  try clear c4b0
  try clear c4b1
  try clear c5
  try clear c5b0
  try clear c5b1
  try clear c7
  try clear c7b0
  try clear c7b1
  try clear c8
  try clear c10
  try clear c10b0
  try clear c10b1
  try clear c11
  try clear c13
  try clear c13b0
  try clear c13b1
  try clear c14
  try clear c15
  try clear c15b0
  try clear c15b1
  try clear p2
  obtain ⟨kq, HA, HJ2, ⟨mc2, rfl⟩⟩ := hcut
  cases kq with
  | zero => exact absurd HA.out (by simp [marlineref14_Size.j3])
  | succ kj2 =>
   have H := HA.out
   clear HA
   simp only [marlineref14_Size.j3] at H
   have HC16 := Aside0.mk H
   clear H
   go_upto_if 23 with (fail)
   go_cut [] (fun wc => ∃ (kq : Nat), Aside0 (marlineref14_Size.j5 kq a0 a1 = some (r1, r2)) ∧ Aside0 (kq ≤ kj2) ∧ Drawn0 w wc)
   case first =>
    have H := HC16.out
    clear HC16
    by_cases c17 : a0 = 32801
    · rw [if_pos c17] at H
      have c17b0 : (a0 == 32801) = true := beq_iff_eq.mpr c17
      have c17b1 : (a0 != 32801) = false := bne_eq_false_iff_eq.mpr c17
      clear c17
      (first | rw [c17b0] | (simp only [i64_w, i32_w]; rw [c17b0]) | skip)
      by_cases c18 : a1 = 2
      · rw [if_pos c18] at H
        have c18b0 : (a1 == 2) = true := beq_iff_eq.mpr c18
        have c18b1 : (a1 != 2) = false := bne_eq_false_iff_eq.mpr c18
        clear c18
        simp only [Option.some.injEq, Prod.mk.injEq] at H
        obtain ⟨rfl, rfl⟩ := H
        go_wp2
        go_ret2
        exact ⟨by first | rfl | (simp; done) | (simp [*]; done), by repeat (first | exact Drawn0.refl _ | apply Drawn0.step)⟩
      · rw [if_neg c18] at H
        have c18b0 : (a1 == 2) = false := beq_eq_false_iff_ne.mpr c18
        have c18b1 : (a1 != 2) = true := bne_iff_ne.mpr c18
        have HC19 := Aside0.mk H
        clear H
        go_upto_region 19 with (fail)
        go_cut [35] (fun v35 wc => ∃ (kq : Nat) (x35_18 : Bool), v35 = .bool x35_18 ∧ Aside0 (marlineref14_Size.j4 kq a0 a1 x35_18 = some (r1, r2)) ∧ Aside0 (kq ≤ kj2) ∧ Drawn0 w wc)
        case first =>
         have H := HC19.out
         clear HC19
         by_cases c20 : a1 = 3
         · rw [if_pos c20] at H
           have c20b0 : (a1 == 3) = true := beq_iff_eq.mpr c20
           have c20b1 : (a1 != 3) = false := bne_eq_false_iff_eq.mpr c20
           clear c20
           (first | rw [c20b0] | (simp only [i64_w, i32_w]; rw [c20b0]) | skip)
           have H' := Aside0.mk H
           clear H
           go_wp2
           go_meet
           case rel => exact ⟨_, (true), (by first | rfl | (simp; done) | (simp [*]; done)), H', ⟨by have := HJ2.out; first | omega | exact Nat.le_refl _⟩, by repeat (first | exact Drawn0.refl _ | apply Drawn0.step)⟩
         · rw [if_neg c20] at H
           have c20b0 : (a1 == 3) = false := beq_eq_false_iff_ne.mpr c20
           have c20b1 : (a1 != 3) = true := bne_iff_ne.mpr c20
           (first | rw [c20b0] | (simp only [i64_w, i32_w]; rw [c20b0]) | skip)
           by_cases c21 : a1 ≥ 129
           · rw [if_pos c21] at H
             have c21b0 : decide (129 ≤ a1) = true := decide_eq_true c21
             clear c21
             have H' := Aside0.mk H
             clear H
             go_wp2
             go_meet
             case rel => exact ⟨_, (decide (a1 ≤ 132)), (by first | rfl | (simp; done) | (simp [*]; done)), H', ⟨by have := HJ2.out; first | omega | exact Nat.le_refl _⟩, by repeat (first | exact Drawn0.refl _ | apply Drawn0.step)⟩
           · rw [if_neg c21] at H
             have c21b0 : decide (129 ≤ a1) = false := decide_eq_false c21
             clear c21
             have H' := Aside0.mk H
             clear H
             go_wp2
             go_meet
             case rel => exact ⟨_, (false), (by first | rfl | (simp; done) | (simp [*]; done)), H', ⟨by have := HJ2.out; first | omega | exact Nat.le_refl _⟩, by repeat (first | exact Drawn0.refl _ | apply Drawn0.step)⟩
        case rest =>
         clear HC19
         try clear c1
         try clear c2
         try clear p2
         try clear c3
         try clear c4
         try clear c4b0
         try clear c4b1
         try clear c5
         try clear c5b0
         try clear c5b1
         try clear c7
         try clear c7b0
         try clear c7b1
         try clear c8
         try clear c10
         try clear c10b0
         try clear c10b1
         try clear c11
         try clear c13
         try clear c13b0
         try clear c13b1
         try clear c14
         try clear c15
         try clear c15b0
         try clear c15b1
         try clear c17
         try clear c17b0
         try clear c17b1
         try clear c18
         try clear c18b0
         try clear c18b1
         try clear c20
         try clear c20b0
         try clear c20b1
         try clear c21
         try clear c21b0
         try clear p2
         obtain ⟨kq, x35_18, rfl, HA, HJ18, ⟨mc18, rfl⟩⟩ := hcut
         cases kq with
         | zero => exact absurd HA.out (by simp [marlineref14_Size.j4])
         | succ kj18 =>
          have H := HA.out
          clear HA
          simp only [marlineref14_Size.j4] at H
          by_cases c22 : x35_18 = true
          · subst c22
            have H1 : (some (4, 4)) = some (r1, r2) := by rw [if_pos rfl] at H; exact H
            clear H
            have H := H1
            clear H1
            simp only [Option.some.injEq, Prod.mk.injEq] at H
            obtain ⟨rfl, rfl⟩ := H
            go_wp2
            go_ret2
            exact ⟨by first | rfl | (simp; done) | (simp [*]; done), by repeat (first | exact Drawn0.refl _ | apply Drawn0.step)⟩
          · replace c22 := Bool.eq_false_iff.mpr c22
            subst c22
            have H1 : (marlineref14_Size.j5 kj18 a0 a1) = some (r1, r2) := by rw [if_neg (show ¬ (false = true) by decide)] at H; exact H
            clear H
            have H := H1
            clear H1
            have H' := Aside0.mk H
            clear H
            go_wp2
            go_meet
            case rel => exact ⟨_, H', ⟨by have := HJ2.out; have := HJ18.out; first | omega | exact Nat.le_refl _⟩, by repeat (first | exact Drawn0.refl _ | apply Drawn0.step)⟩
    · rw [if_neg c17] at H
      have c17b0 : (a0 == 32801) = false := beq_eq_false_iff_ne.mpr c17
      have c17b1 : (a0 != 32801) = true := bne_iff_ne.mpr c17
      (first | rw [c17b0] | (simp only [i64_w, i32_w]; rw [c17b0]) | skip)
      have H' := Aside0.mk H
      clear H
      go_wp2
      go_meet
      case rel => exact ⟨_, H', ⟨by have := HJ2.out; first | omega | exact Nat.le_refl _⟩, by repeat (first | exact Drawn0.refl _ | apply Drawn0.step)⟩
   case rest =>
    clear HC16
    try clear c1
    try clear c2
    try clear p2
    try clear c3
    try clear c4
    try clear c4b0
    try clear c4b1
    try clear c5
    try clear c5b0
    try clear c5b1
    try clear c7
    try clear c7b0
    try clear c7b1
    try clear c8
    try clear c10
    try clear c10b0
    try clear c10b1
    try clear c11
    try clear c13
    try clear c13b0
    try clear c13b1
    try clear c14
    try clear c15
    try clear c15b0
    try clear c15b1
    try clear c17
    try clear c17b0
    try clear c17b1
    try clear c18
    try clear c18b0
    try clear c18b1
    try clear c20
    try clear c20b0
    try clear c20b1
    try clear c21
    try clear c21b0
    try clear c22
    try clear p2
    obtain ⟨kq, HA, HJ15, ⟨mc15, rfl⟩⟩ := hcut
    cases kq with
    | zero => exact absurd HA.out (by simp [marlineref14_Size.j5])
    | succ kj15 =>
     have H := HA.out
     clear HA
     simp only [marlineref14_Size.j5] at H
     have HC23 := Aside0.mk H
     clear H
     go_upto_region 21 with (fail)
     go_cut [41] (fun v41 wc => ∃ (kq : Nat) (x41_22 : Bool), v41 = .bool x41_22 ∧ Aside0 (marlineref14_Size.j6 kq a0 a1 x41_22 = some (r1, r2)) ∧ Aside0 (kq ≤ kj15) ∧ Drawn0 w wc)
     case first =>
      have H := HC23.out
      clear HC23
      by_cases c24 : a0 = 32855
      · rw [if_pos c24] at H
        have c24b0 : (a0 == 32855) = true := beq_iff_eq.mpr c24
        have c24b1 : (a0 != 32855) = false := bne_eq_false_iff_eq.mpr c24
        clear c24
        (first | rw [c24b0] | (simp only [i64_w, i32_w]; rw [c24b0]) | skip)
        have H' := Aside0.mk H
        clear H
        go_wp2
        go_meet
        case rel => exact ⟨_, ((a1 == 1)), (by first | rfl | (simp; done) | (simp [*]; done)), H', ⟨by have := HJ2.out; have := HJ15.out; first | omega | exact Nat.le_refl _⟩, by repeat (first | exact Drawn0.refl _ | apply Drawn0.step)⟩
      · rw [if_neg c24] at H
        have c24b0 : (a0 == 32855) = false := beq_eq_false_iff_ne.mpr c24
        have c24b1 : (a0 != 32855) = true := bne_iff_ne.mpr c24
        (first | rw [c24b0] | (simp only [i64_w, i32_w]; rw [c24b0]) | skip)
        have H' := Aside0.mk H
        clear H
        go_wp2
        go_meet
        case rel => exact ⟨_, (false), (by first | rfl | (simp; done) | (simp [*]; done)), H', ⟨by have := HJ2.out; have := HJ15.out; first | omega | exact Nat.le_refl _⟩, by repeat (first | exact Drawn0.refl _ | apply Drawn0.step)⟩
     case rest =>
      clear HC23
      try clear c1
      try clear c2
      try clear p2
      try clear c3
      try clear c4
      try clear c4b0
      try clear c4b1
      try clear c5
      try clear c5b0
      try clear c5b1
      try clear c7
      try clear c7b0
      try clear c7b1
      try clear c8
      try clear c10
      try clear c10b0
      try clear c10b1
      try clear c11
      try clear c13
      try clear c13b0
      try clear c13b1
      try clear c14
      try clear c15
      try clear c15b0
      try clear c15b1
      try clear c17
      try clear c17b0
      try clear c17b1
      try clear c18
      try clear c18b0
      try clear c18b1
      try clear c20
      try clear c20b0
      try clear c20b1
      try clear c21
      try clear c21b0
      try clear c22
      try clear c24
      try clear c24b0
      try clear c24b1
      try clear p2
      obtain ⟨kq, x41_22, rfl, HA, HJ22, ⟨mc22, rfl⟩⟩ := hcut
      cases kq with
      | zero => exact absurd HA.out (by simp [marlineref14_Size.j6])
      | succ kj22 =>
       have H := HA.out
       clear HA
       simp only [marlineref14_Size.j6] at H
       by_cases c25 : x41_22 = true
       · subst c25
         have H1 : (some (8, 8)) = some (r1, r2) := by rw [if_pos rfl] at H; exact H
         clear H
         have H := H1
         clear H1
         simp only [Option.some.injEq, Prod.mk.injEq] at H
         obtain ⟨rfl, rfl⟩ := H
         go_wp2
         go_ret2
         exact ⟨by first | rfl | (simp; done) | (simp [*]; done), by repeat (first | exact Drawn0.refl _ | apply Drawn0.step)⟩
       · replace c25 := Bool.eq_false_iff.mpr c25
         subst c25
         have H1 : (if a0 = 32855 then (if a1 = 2 then (some (2, 253)) else (some (0, 253))) else (some (0, 253))) = some (r1, r2) := by rw [if_neg (show ¬ (false = true) by decide)] at H; exact H
         clear H
         have H := H1
         clear H1
         by_cases c26 : a0 = 32855
         · rw [if_pos c26] at H
           have c26b0 : (a0 == 32855) = true := beq_iff_eq.mpr c26
           have c26b1 : (a0 != 32855) = false := bne_eq_false_iff_eq.mpr c26
           clear c26
           by_cases c27 : a1 = 2
           · rw [if_pos c27] at H
             have c27b0 : (a1 == 2) = true := beq_iff_eq.mpr c27
             have c27b1 : (a1 != 2) = false := bne_eq_false_iff_eq.mpr c27
             clear c27
             simp only [Option.some.injEq, Prod.mk.injEq] at H
             obtain ⟨rfl, rfl⟩ := H
             go_wp2
             go_ret2
             exact ⟨by first | rfl | (simp; done) | (simp [*]; done), by repeat (first | exact Drawn0.refl _ | apply Drawn0.step)⟩
           · rw [if_neg c27] at H
             have c27b0 : (a1 == 2) = false := beq_eq_false_iff_ne.mpr c27
             have c27b1 : (a1 != 2) = true := bne_iff_ne.mpr c27
             simp only [Option.some.injEq, Prod.mk.injEq] at H
             obtain ⟨rfl, rfl⟩ := H
             go_wp2
             go_ret2
             exact ⟨by first | rfl | (simp; done) | (simp [*]; done), by repeat (first | exact Drawn0.refl _ | apply Drawn0.step)⟩
         · rw [if_neg c26] at H
           have c26b0 : (a0 == 32855) = false := beq_eq_false_iff_ne.mpr c26
           have c26b1 : (a0 != 32855) = true := bne_iff_ne.mpr c26
           simp only [Option.some.injEq, Prod.mk.injEq] at H
           obtain ⟨rfl, rfl⟩ := H
           go_wp2
           go_ret2
           exact ⟨by first | rfl | (simp; done) | (simp [*]; done), by repeat (first | exact Drawn0.refl _ | apply Drawn0.step)⟩
end Go.Proofs.YtgjdjjofhmhimaaDoor.Print
namespace Go.Proofs.YtgjdjjofhmhimaaDoor.Print
open Go.RowKit Go.Proofs.YtgjdjjofhmhimaaDoorW.PrintWords Go.Proofs.YtgjdjjofhmhimaaDoorW.PrintLast Go.Proofs.YtgjdjjofhmhimaaDoorW.PrintMore
attribute [local go_sem] max2_int min2_int max_two min_two max_three min_three max_four min_four
set_option linter.unusedVariables false
set_option linter.unusedSimpArgs false
def marlineref14_Right.l0 : Nat → Int → List (S34) → Int → Option (Bool)
 | 0, _, _, _ => none
 | k + 1, x0, x1, x5 => if x5 < (x1.length : Int) then (if 0 ≤ x5 then ((marlineref14_Size.f k x0 ((rd_T34 x1 x5).f0)).bind fun bt167 => (if (((rd_T34 x1 x5).f1).length : Int) < bt167.1 then (some false) else (if (((rd_T34 x1 x5).f1).length : Int) > bt167.2 then (some false) else (marlineref14_Right.l0 k x0 x1 (wrap64 (x5 + 1)))))) else (none)) else (some true)
def marlineref14_Right.f (k : Nat) (a0 : Int) (l1 : List (S34)) : Option (Bool) := marlineref14_Right.l0 k a0 l1 0
set_option maxHeartbeats 8000000 in
set_option maxRecDepth 100000 in
theorem marlineref14_Right.calls (k : Nat) (a0 : Int) (A1 : Option Addr) (c1 : Nat) (l1 : List (S34)) (r : Bool) (w : World) (hr1 : Kd.C k34 w A1 l1.length l1) (hc1 : l1.length ≤ c1) (h : marlineref14_Right.f k a0 l1 = some r) :
 Calls Tryd.prog 29 #[.int .i64 a0, .slice A1 l1.length c1] w fun e w' => e = .returned (.bool r) ∧ Drawn0 w w' := by
 have HR1 := Aside0.mk hr1
 have HC1 := Aside0.mk hc1
 clear hr1 hc1
 have H : (marlineref14_Right.l0 k a0 l1 0) = some r := h
 clear h
 have H' := Aside0.mk H
 clear H
 go_enter Tryd.func29, Tryd.ntmps29
 go_wp2
 go_loopg [5] k (fun kq v5 w' => ∃ (x5_1 : Int), v5 = .int .i64 x5_1 ∧ Aside0 (marlineref14_Right.l0 kq a0 l1 x5_1 = some r) ∧ Aside0 (kq ≤ k) ∧ Drawn0 w w')
 case atStart => exact ⟨(0), (by first | rfl | (simp; done) | (simp [*]; done)), H', ⟨Nat.le_refl _⟩, by repeat (first | exact Drawn0.refl _ | apply Drawn0.step)⟩
 case round =>
  clear H'
  try clear c1
  try clear c2
  try clear p2
  obtain ⟨x5_1, rfl, HA, HK1, ⟨m1, rfl⟩⟩ := hrel
  cases gk with
  | zero => exact absurd HA.out (by simp [marlineref14_Right.l0])
  | succ k1 =>
   have H := HA.out
   clear HA
   simp only [marlineref14_Right.l0] at H
   by_cases c3 : x5_1 < (l1.length : Int)
   · rw [if_pos c3] at H
     have c3b0 : decide (x5_1 < (l1.length : Int)) = true := decide_eq_true c3
     clear c3
     by_cases c4 : 0 ≤ x5_1
     · rw [if_pos c4] at H
       have c4b0 : decide (0 ≤ x5_1) = true := decide_eq_true c4
       clear c4
       replace H := Option.bind_eq_some_iff.mp H
       obtain ⟨⟨t167, t168⟩, A50, H⟩ := H
       replace H : (if (((rd_T34 l1 x5_1).f1).length : Int) < t167 then (some false) else (if (((rd_T34 l1 x5_1).f1).length : Int) > t168 then (some false) else (marlineref14_Right.l0 k1 a0 l1 (wrap64 (x5_1 + 1))))) = some r := H
       have A5 := Aside0.mk A50
       clear A50
       by_cases c6 : (((rd_T34 l1 x5_1).f1).length : Int) < t167
       · rw [if_pos c6] at H
         have c6b0 : decide ((((rd_T34 l1 x5_1).f1).length : Int) < t167) = true := decide_eq_true c6
         clear c6
         obtain rfl := Option.some.inj H
         have p166 : 0 ≤ (x5_1 : Int) := of_decide_eq_true (by first | (with_reducible assumption) | assumption)
         have q166 : x5_1 < (l1.length : Int) := of_decide_eq_true (by first | (with_reducible assumption) | assumption)
         (try clear hHeld)
         obtain ⟨ad166, A166_1, c166_1, e166, hx166_0, hx166_1, hl166_1, hi166_1⟩ := at_T34 HR1.out x5_1 p166 q166
         cases e166
         have HR166_1 := Aside0.mk hi166_1
         have HC166_1 := Aside0.mk hl166_1
         clear hi166_1 hl166_1
         replace p166 := eq_true p166
         replace q166 := eq_true q166
         go_wp2_with (first | ((with_reducible refine gate_callee (f := 36) rfl ?_); refine goesL_ (some 21) rfl rfl Tryd.func36 (by kernel_rfl) rfl #[.int .i64 a0, .int .u8 ((rd_T34 l1 x5_1).f0)] rfl (by (try simp only [List.map_toArray, List.map_cons, List.map_nil]); first | done | rfl | (simp only [List.length_drop, List.length_take]; rfl)) ?_; (with_reducible refine (marlineref14_Size.calls k1 a0 ((rd_T34 l1 x5_1).f0) t167 t168 _ A5.out).mono ?_); rintro e w' ⟨rfl, ⟨nd, rfl⟩⟩; refine ⟨_, rfl, ?_⟩; have p169 : 0 ≤ (x5_1 : Int) := of_decide_eq_true (by first | (with_reducible assumption) | assumption); have q169 : x5_1 < (l1.length : Int) := of_decide_eq_true (by first | (with_reducible assumption) | assumption); (try clear hHeld); obtain ⟨ad169, A169_1, c169_1, e169, hx169_0, hx169_1, hl169_1, hi169_1⟩ := at_T34 HR1.out x5_1 p169 q169; obtain rfl : ad166 = ad169 := (by injection e169); have HR169_1 := Aside0.mk hi169_1; have HC169_1 := Aside0.mk hl169_1; clear hi169_1 hl169_1; replace p169 := eq_true p169; replace q169 := eq_true q169; have ea_ := Option.some.inj (hx166_1.symm.trans hx169_1); injection ea_ with ea_ en_ ec_; subst ea_; subst ec_; clear en_))
         go_ret
         exact ⟨by first | rfl | (simp; done) | (simp [*]; done), by repeat (first | exact Drawn0.refl _ | apply Drawn0.step)⟩
       · rw [if_neg c6] at H
         have c6b0 : decide ((((rd_T34 l1 x5_1).f1).length : Int) < t167) = false := decide_eq_false c6
         clear c6
         by_cases c7 : (((rd_T34 l1 x5_1).f1).length : Int) > t168
         · rw [if_pos c7] at H
           have c7b0 : decide (t168 < (((rd_T34 l1 x5_1).f1).length : Int)) = true := decide_eq_true c7
           clear c7
           obtain rfl := Option.some.inj H
           have p166 : 0 ≤ (x5_1 : Int) := of_decide_eq_true (by first | (with_reducible assumption) | assumption)
           have q166 : x5_1 < (l1.length : Int) := of_decide_eq_true (by first | (with_reducible assumption) | assumption)
           (try clear hHeld)
           obtain ⟨ad166, A166_1, c166_1, e166, hx166_0, hx166_1, hl166_1, hi166_1⟩ := at_T34 HR1.out x5_1 p166 q166
           cases e166
           have HR166_1 := Aside0.mk hi166_1
           have HC166_1 := Aside0.mk hl166_1
           clear hi166_1 hl166_1
           replace p166 := eq_true p166
           replace q166 := eq_true q166
           go_wp2_with (first | ((with_reducible refine gate_callee (f := 36) rfl ?_); refine goesL_ (some 21) rfl rfl Tryd.func36 (by kernel_rfl) rfl #[.int .i64 a0, .int .u8 ((rd_T34 l1 x5_1).f0)] rfl (by (try simp only [List.map_toArray, List.map_cons, List.map_nil]); first | done | rfl | (simp only [List.length_drop, List.length_take]; rfl)) ?_; (with_reducible refine (marlineref14_Size.calls k1 a0 ((rd_T34 l1 x5_1).f0) t167 t168 _ A5.out).mono ?_); rintro e w' ⟨rfl, ⟨nd, rfl⟩⟩; refine ⟨_, rfl, ?_⟩; have p169 : 0 ≤ (x5_1 : Int) := of_decide_eq_true (by first | (with_reducible assumption) | assumption); have q169 : x5_1 < (l1.length : Int) := of_decide_eq_true (by first | (with_reducible assumption) | assumption); (try clear hHeld); obtain ⟨ad169, A169_1, c169_1, e169, hx169_0, hx169_1, hl169_1, hi169_1⟩ := at_T34 HR1.out x5_1 p169 q169; obtain rfl : ad166 = ad169 := (by injection e169); have HR169_1 := Aside0.mk hi169_1; have HC169_1 := Aside0.mk hl169_1; clear hi169_1 hl169_1; replace p169 := eq_true p169; replace q169 := eq_true q169; have ea_ := Option.some.inj (hx166_1.symm.trans hx169_1); injection ea_ with ea_ en_ ec_; subst ea_; subst ec_; clear en_; have p170 : 0 ≤ (x5_1 : Int) := of_decide_eq_true (by first | (with_reducible assumption) | assumption); have q170 : x5_1 < (l1.length : Int) := of_decide_eq_true (by first | (with_reducible assumption) | assumption); (try clear hHeld); obtain ⟨ad170, A170_1, c170_1, e170, hx170_0, hx170_1, hl170_1, hi170_1⟩ := at_T34 HR1.out x5_1 p170 q170; obtain rfl : ad166 = ad170 := (by injection e170); have HR170_1 := Aside0.mk hi170_1; have HC170_1 := Aside0.mk hl170_1; clear hi170_1 hl170_1; replace p170 := eq_true p170; replace q170 := eq_true q170; have ea_ := Option.some.inj (hx166_1.symm.trans hx170_1); injection ea_ with ea_ en_ ec_; subst ea_; subst ec_; clear en_))
           go_ret
           exact ⟨by first | rfl | (simp; done) | (simp [*]; done), by repeat (first | exact Drawn0.refl _ | apply Drawn0.step)⟩
         · rw [if_neg c7] at H
           have c7b0 : decide (t168 < (((rd_T34 l1 x5_1).f1).length : Int)) = false := decide_eq_false c7
           clear c7
           have H' := Aside0.mk H
           clear H
           have p166 : 0 ≤ (x5_1 : Int) := of_decide_eq_true (by first | (with_reducible assumption) | assumption)
           have q166 : x5_1 < (l1.length : Int) := of_decide_eq_true (by first | (with_reducible assumption) | assumption)
           (try clear hHeld)
           obtain ⟨ad166, A166_1, c166_1, e166, hx166_0, hx166_1, hl166_1, hi166_1⟩ := at_T34 HR1.out x5_1 p166 q166
           cases e166
           have HR166_1 := Aside0.mk hi166_1
           have HC166_1 := Aside0.mk hl166_1
           clear hi166_1 hl166_1
           replace p166 := eq_true p166
           replace q166 := eq_true q166
           go_wp2_with (first | ((with_reducible refine gate_callee (f := 36) rfl ?_); refine goesL_ (some 21) rfl rfl Tryd.func36 (by kernel_rfl) rfl #[.int .i64 a0, .int .u8 ((rd_T34 l1 x5_1).f0)] rfl (by (try simp only [List.map_toArray, List.map_cons, List.map_nil]); first | done | rfl | (simp only [List.length_drop, List.length_take]; rfl)) ?_; (with_reducible refine (marlineref14_Size.calls k1 a0 ((rd_T34 l1 x5_1).f0) t167 t168 _ A5.out).mono ?_); rintro e w' ⟨rfl, ⟨nd, rfl⟩⟩; refine ⟨_, rfl, ?_⟩; have p169 : 0 ≤ (x5_1 : Int) := of_decide_eq_true (by first | (with_reducible assumption) | assumption); have q169 : x5_1 < (l1.length : Int) := of_decide_eq_true (by first | (with_reducible assumption) | assumption); (try clear hHeld); obtain ⟨ad169, A169_1, c169_1, e169, hx169_0, hx169_1, hl169_1, hi169_1⟩ := at_T34 HR1.out x5_1 p169 q169; obtain rfl : ad166 = ad169 := (by injection e169); have HR169_1 := Aside0.mk hi169_1; have HC169_1 := Aside0.mk hl169_1; clear hi169_1 hl169_1; replace p169 := eq_true p169; replace q169 := eq_true q169; have ea_ := Option.some.inj (hx166_1.symm.trans hx169_1); injection ea_ with ea_ en_ ec_; subst ea_; subst ec_; clear en_; have p170 : 0 ≤ (x5_1 : Int) := of_decide_eq_true (by first | (with_reducible assumption) | assumption); have q170 : x5_1 < (l1.length : Int) := of_decide_eq_true (by first | (with_reducible assumption) | assumption); (try clear hHeld); obtain ⟨ad170, A170_1, c170_1, e170, hx170_0, hx170_1, hl170_1, hi170_1⟩ := at_T34 HR1.out x5_1 p170 q170; obtain rfl : ad166 = ad170 := (by injection e170); have HR170_1 := Aside0.mk hi170_1; have HC170_1 := Aside0.mk hl170_1; clear hi170_1 hl170_1; replace p170 := eq_true p170; replace q170 := eq_true q170; have ea_ := Option.some.inj (hx166_1.symm.trans hx170_1); injection ea_ with ea_ en_ ec_; subst ea_; subst ec_; clear en_))
           go_roundg k1
           case measure => have := HK1.out; omega
           case rel => exact ⟨(wrap64 (x5_1 + 1)), (by first | rfl | (simp; done) | (simp [*]; done)), H', ⟨by have := HK1.out; omega⟩, by repeat (first | exact Drawn0.refl _ | apply Drawn0.step)⟩
     · rw [if_neg c4] at H
       exact absurd H (by simp)
   · rw [if_neg c3] at H
     have c3b0 : decide (x5_1 < (l1.length : Int)) = false := decide_eq_false c3
     clear c3
     obtain rfl := Option.some.inj H
     go_wp2
     go_ret
     exact ⟨by first | rfl | (simp; done) | (simp [*]; done), by repeat (first | exact Drawn0.refl _ | apply Drawn0.step)⟩
end Go.Proofs.YtgjdjjofhmhimaaDoor.Print
namespace Go.Proofs.YtgjdjjofhmhimaaDoor.Print
open Go.RowKit Go.Proofs.YtgjdjjofhmhimaaDoorW.PrintWords Go.Proofs.YtgjdjjofhmhimaaDoorW.PrintLast Go.Proofs.YtgjdjjofhmhimaaDoorW.PrintMore
attribute [local go_sem] max2_int min2_int max_two min_two max_three min_three max_four min_four
set_option linter.unusedVariables false
set_option linter.unusedSimpArgs false
def marlineref14_Put.f (k : Nat) (a0 : Int) (l1 : List (S34)) : Option (List Int × Int) := (marlineref14_Right.f k a0 l1).bind fun t187 => (if t187 = true then ((marlineref12_Put.f k l1).bind fun bt188 => (some (bt188.1, bt188.2))) else (some (([] : List Int), 4)))
set_option maxHeartbeats 8000000 in
set_option maxRecDepth 100000 in
theorem marlineref14_Put.calls (k : Nat) (a0 : Int) (A1 : Option Addr) (c1 : Nat) (l1 : List (S34)) (r1 : List Int) (r2 : Int) (w : World) (hr1 : Kd.C k34 w A1 l1.length l1) (hc1 : l1.length ≤ c1) (h : marlineref14_Put.f k a0 l1 = some (r1, r2)) :
 Calls Tryd.prog 15 #[.int .i64 a0, .slice A1 l1.length c1] w fun e w' => ∃ v0_ : Value, e = .returned (.tuple #[v0_, .int .i64 r2]) ∧ Kd.R (Kd.int .u8) 5 w' w.heap.size (fun _ => True) v0_ r1 ∧ Below w.heap.size w w' := by
 have HR1 := Aside0.mk hr1
 have HC1 := Aside0.mk hc1
 clear hr1 hc1
 have HB := Aside0.mk (Below.refl w.heap.size w)
 have H : ((marlineref14_Right.f k a0 l1).bind fun t187 => (if t187 = true then ((marlineref12_Put.f k l1).bind fun bt188 => (some (bt188.1, bt188.2))) else (some (([] : List Int), 4)))) = some (r1, r2) := h
 clear h
 replace H := Option.bind_eq_some_iff.mp H
 obtain ⟨t187, A30, H⟩ := H
 replace H : (if t187 = true then ((marlineref12_Put.f k l1).bind fun bt188 => (some (bt188.1, bt188.2))) else (some (([] : List Int), 4))) = some (r1, r2) := H
 have A3 := Aside0.mk A30
 clear A30
 by_cases c4 : t187 = true
 · subst c4
   have H1 : ((marlineref12_Put.f k l1).bind fun bt188 => (some (bt188.1, bt188.2))) = some (r1, r2) := by rw [if_pos rfl] at H; exact H
   clear H
   have H := H1
   clear H1
   replace H := Option.bind_eq_some_iff.mp H
   obtain ⟨⟨t188, t189⟩, A50, H⟩ := H
   replace H : (some (t188, t189)) = some (r1, r2) := H
   have A5 := Aside0.mk A50
   clear A50
   simp only [Option.some.injEq, Prod.mk.injEq] at H
   obtain ⟨rfl, rfl⟩ := H
   go_enter Tryd.func15, Tryd.ntmps15
   go_wp2_with (first | ((with_reducible refine gate_callee (f := 29) rfl ?_); refine goesL_ (some 8) rfl rfl Tryd.func29 (by kernel_rfl) rfl #[.int .i64 a0, .slice A1 l1.length c1] rfl (by (try simp only [List.map_toArray, List.map_cons, List.map_nil]); first | done | rfl | (simp only [List.length_drop, List.length_take]; rfl)) ?_; (with_reducible refine (marlineref14_Right.calls k a0 _ _ l1 true _ ?side1 ?side2 A3.out).mono ?_); (case side1 => repeat (first | exact HR1.out | (with_reducible refine Kd.C_alloc ?_ _) | (with_reducible refine Kd.C_drewN ?_ _) | (with_reducible refine Kd.C_drew ?_))); (case side2 => exact HC1.out); rintro e w' ⟨rfl, ⟨nd, rfl⟩⟩; refine ⟨_, rfl, ?_⟩) | ((with_reducible refine gate_callee (f := 30) rfl ?_); refine goesL_ (some 11) rfl rfl Tryd.func30 (by kernel_rfl) rfl #[.slice A1 l1.length c1] rfl (by (try simp only [List.map_toArray, List.map_cons, List.map_nil]); first | done | rfl | (simp only [List.length_drop, List.length_take]; rfl)) ?_; (with_reducible refine (marlineref12_Put.calls k _ _ l1 t188 t189 _ ?side1 ?side2 A5.out).mono ?_); (case side1 => repeat (first | exact HR1.out | (with_reducible refine Kd.C_alloc ?_ _) | (with_reducible refine Kd.C_drewN ?_ _) | (with_reducible refine Kd.C_drew ?_))); (case side2 => exact HC1.out); rintro e w6 ⟨v190, rfl, ho0, hb⟩; refine ⟨_, rfl, ?_⟩; have n0_ := Aside0.mk (Kd.R_lower ho0 (below_size (by repeat (first | (with_reducible first | exact HB.out | apply below_alloc | apply pw_below_drewN | apply below_drew1) | exact HB.out)))); have n1_ := Aside0.mk (below_step (by repeat (first | (with_reducible first | exact HB.out | apply below_alloc | apply pw_below_drewN | apply below_drew1) | exact HB.out)) hb); clear HB; have HO191 := n0_; have HB := n1_; clear n0_ n1_; (try clear hb); (try clear hb2); (try clear hk); (try clear hi); (try clear ho0)))
   go_ret2
   exact ⟨_, by first | rfl | (simp [errW_none, errW_some] <;> rfl) | (simp [*, errW_none, errW_some] <;> rfl), by (with_reducible repeat (first | apply Kd.R_alloc | apply Kd.R_drewN | apply Kd.R_drew)); exact HO191.out, by repeat (first | (with_reducible first | exact HB.out | apply below_alloc | apply pw_below_drewN | apply below_drew1) | exact HB.out)⟩
 · replace c4 := Bool.eq_false_iff.mpr c4
   subst c4
   have H1 : (some (([] : List Int), 4)) = some (r1, r2) := by rw [if_neg (show ¬ (false = true) by decide)] at H; exact H
   clear H
   have H := H1
   clear H1
   simp only [Option.some.injEq, Prod.mk.injEq] at H
   obtain ⟨rfl, rfl⟩ := H
   go_enter Tryd.func15, Tryd.ntmps15
   go_wp2_with (first | ((with_reducible refine gate_callee (f := 29) rfl ?_); refine goesL_ (some 8) rfl rfl Tryd.func29 (by kernel_rfl) rfl #[.int .i64 a0, .slice A1 l1.length c1] rfl (by (try simp only [List.map_toArray, List.map_cons, List.map_nil]); first | done | rfl | (simp only [List.length_drop, List.length_take]; rfl)) ?_; (with_reducible refine (marlineref14_Right.calls k a0 _ _ l1 false _ ?side1 ?side2 A3.out).mono ?_); (case side1 => repeat (first | exact HR1.out | (with_reducible refine Kd.C_alloc ?_ _) | (with_reducible refine Kd.C_drewN ?_ _) | (with_reducible refine Kd.C_drew ?_))); (case side2 => exact HC1.out); rintro e w' ⟨rfl, ⟨nd, rfl⟩⟩; refine ⟨_, rfl, ?_⟩))
   go_ret2
   exact ⟨_, by first | rfl | (simp [errW_none, errW_some] <;> rfl) | (simp [*, errW_none, errW_some] <;> rfl), by first | exact Kd.R_nil _ _ _ _ _ | exact Kd.N_nil _ _ _ _ _ | exact Kd.V_nil _ _ _ _ _ | exact Kd.Q_nil _ _ _ _ _ | exact Kd.S_nil _ _ _ _ _, by repeat (first | (with_reducible first | exact HB.out | apply below_alloc | apply pw_below_drewN | apply below_drew1) | exact HB.out)⟩
end Go.Proofs.YtgjdjjofhmhimaaDoor.Print
namespace Go.Proofs.YtgjdjjofhmhimaaDoor.Print
open Go.RowKit Go.Proofs.YtgjdjjofhmhimaaDoorW.PrintWords Go.Proofs.YtgjdjjofhmhimaaDoorW.PrintLast Go.Proofs.YtgjdjjofhmhimaaDoorW.PrintMore
attribute [local go_sem] max2_int min2_int max_two min_two max_three min_three max_four min_four
set_option linter.unusedVariables false
set_option linter.unusedSimpArgs false
def marlineref15_Number.l0 : Nat → Int → Int → List Int → Int → Option (List Int)
 | 0, _, _, _, _ => none
 | k + 1, x0, x1, x5, x6 => if x6 < x1 then ((some (([(Int.tmod x0 256) % 256] : List Int) : List Int)).bind fun y201 => (if y201.length + x5.length < 140737488355328 then (marlineref15_Number.l0 k (wrap64 (Int.tdiv x0 256)) x1 (y201 ++ x5) (wrap64 (x6 + 1))) else (none))) else (some x5)
def marlineref15_Number.f (k : Nat) (a0 : Int) (a1 : Int) : Option (List Int) := marlineref15_Number.l0 k a0 a1 (([] : List Int)) 0
set_option maxHeartbeats 8000000 in
set_option maxRecDepth 100000 in
theorem marlineref15_Number.calls (k : Nat) (a0 : Int) (a1 : Int) (r : List Int) (w : World) (h : marlineref15_Number.f k a0 a1 = some r) :
 Calls Tryd.prog 17 #[.int .i64 a0, .int .i64 a1] w fun e w' => ∃ v0_ : Value, e = .returned (v0_) ∧ Kd.R (Kd.int .u8) 5 w' w.heap.size (fun _ => True) v0_ r ∧ Below w.heap.size w w' := by
 have HB := Aside0.mk (Below.refl w.heap.size w)
 have H : (marlineref15_Number.l0 k a0 a1 (([] : List Int)) 0) = some r := h
 clear h
 obtain ⟨y198, hy198⟩ : ∃ y_ : List Int, y_ = (([] : List Int)) := ⟨_, rfl⟩
 replace H : (marlineref15_Number.l0 k a0 a1 y198 0) = some r := by first | (rw [hy198]; with_reducible exact H) | (have H2_ := (Option.bind_some _ _).symm.trans H; rw [hy198]; with_reducible exact H2_) | (have H2_ := (Option.bind_some _ _).symm.trans H; with_reducible exact H2_) | with_reducible exact H | (rw [hy198]; exact H) | exact H
 have Ny198 := Aside0.mk hy198
 clear hy198
 have H' := Aside0.mk H
 clear H
 go_enter Tryd.func17, Tryd.ntmps17
 go_wp2_with (first | ((with_reducible refine gate_dst (N := 7) rfl ?_); refine Kd.R_lit (Kd.int .u8) _ 5 ?hg (N := 7) ?hd (xs := ([] : List Int)) (inner := []) (ok := fun _ => True) (okp := fun _ => True) ?hr ?hp (fun _ hk => hk) trivial (Below.refl _ _) (Nat.le_refl _) (by simp) ?_; (case hd => rfl); (case hg => rfl); (case hr => first | (go_simp; done) | (go_simp; simp only [IntKind.wrap_u8, IntKind.wrap_u16, IntKind.wrap_u32, IntKind.wrap_u64]; done) | (go_simp; simp only [IntKind.wrap_u8, IntKind.wrap_u16, IntKind.wrap_u32, IntKind.wrap_u64, Int.tmod_eq_emod_of_nonneg (Int.natCast_nonneg _), Int.emod_emod]; done) | (go_simp; rfl)); (case hp => exact (Reps.none _ _)); intro v199 w3 ho4 hb hg_ hnew_; clear hg_ hnew_; (first | rw [← Ny198.out] at ho4 | (simp only [Int.reduceToNat] at ho4; rw [← Ny198.out] at ho4)); have n0_ := Aside0.mk (Kd.R_lower ho4 (below_size (by repeat (first | (with_reducible first | exact HB.out | apply below_alloc | apply pw_below_drewN | apply below_drew1) | exact HB.out)))); have n1_ := Aside0.mk (below_step (by repeat (first | (with_reducible first | exact HB.out | apply below_alloc | apply pw_below_drewN | apply below_drew1) | exact HB.out)) hb); clear HB; have HO200 := n0_; have HB := n1_; clear n0_ n1_; clear hb ho4))
 go_loopg [0, 5, 6] k (fun kq v0 v5 v6 w' => ∃ (x0_1 : Int) (x5_1 : List Int) (x6_1 : Int), v0 = .int .i64 x0_1 ∧ v6 = .int .i64 x6_1 ∧ Aside0 (marlineref15_Number.l0 kq x0_1 a1 x5_1 x6_1 = some r) ∧ Aside0 (kq ≤ k) ∧ Aside0 (Kd.R (Kd.int .u8) 5 w' w.heap.size (fun _ => True) v5 x5_1) ∧ Aside0 (Below w.heap.size w w'))
 case atStart => exact ⟨(a0), (y198), (0), (by first | rfl | (simp; done) | (simp [*]; done)), (by first | rfl | (simp; done) | (simp [*]; done)), H', ⟨Nat.le_refl _⟩, ⟨by (with_reducible repeat (first | apply Kd.R_alloc | apply Kd.R_drewN | apply Kd.R_drew)); exact HO200.out⟩, ⟨by repeat (first | (with_reducible first | exact HB.out | apply below_alloc | apply pw_below_drewN | apply below_drew1) | exact HB.out)⟩⟩
 case round =>
  clear H'
  try clear c1
  try clear p2
  obtain ⟨x0_1, x5_1, x6_1, rfl, rfl, HA, HK1, HO_5, HB⟩ := hrel
  cases gk with
  | zero => exact absurd HA.out (by simp [marlineref15_Number.l0])
  | succ k1 =>
   have H := HA.out
   clear HA
   simp only [marlineref15_Number.l0] at H
   by_cases c5 : x6_1 < a1
   · rw [if_pos c5] at H
     have c5b0 : decide (x6_1 < a1) = true := decide_eq_true c5
     clear c5
     obtain ⟨y201, hy201⟩ : ∃ y_ : List Int, y_ = (([(Int.tmod x0_1 256) % 256] : List Int)) := ⟨_, rfl⟩
     replace H : (if y201.length + x5_1.length < 140737488355328 then (marlineref15_Number.l0 k1 (wrap64 (Int.tdiv x0_1 256)) a1 (y201 ++ x5_1) (wrap64 (x6_1 + 1))) else (none)) = some r := by first | (rw [hy201]; with_reducible exact H) | (have H2_ := (Option.bind_some _ _).symm.trans H; rw [hy201]; with_reducible exact H2_) | (have H2_ := (Option.bind_some _ _).symm.trans H; with_reducible exact H2_) | with_reducible exact H | (rw [hy201]; exact H) | exact H
     have Ny201 := Aside0.mk hy201
     clear hy201
     by_cases c6 : y201.length + x5_1.length < 140737488355328
     · rw [if_pos c6] at H
       have LMc6 := Aside0.mk c6
       clear c6
       obtain ⟨y204, hy204⟩ : ∃ y_ : List Int, y_ = (y201 ++ x5_1) := ⟨_, rfl⟩
       replace H : (marlineref15_Number.l0 k1 (wrap64 (Int.tdiv x0_1 256)) a1 y204 (wrap64 (x6_1 + 1))) = some r := by first | (rw [hy204]; with_reducible exact H) | (have H2_ := (Option.bind_some _ _).symm.trans H; rw [hy204]; with_reducible exact H2_) | (have H2_ := (Option.bind_some _ _).symm.trans H; with_reducible exact H2_) | with_reducible exact H | (rw [hy204]; exact H) | exact H
       have Ny204 := Aside0.mk hy204
       clear hy204
       have H' := Aside0.mk H
       clear H
       go_wp2_with (first | ((with_reducible refine gate_dst (N := 16) rfl ?_); refine Kd.R_lit (Kd.int .u8) _ 5 ?hg (N := 16) ?hd (xs := ([(Int.tmod x0_1 256) % 256] : List Int)) (inner := [.int .u8 ((Int.tmod x0_1 256) % 256)]) (ok := fun _ => True) (okp := fun _ => True) ?hr ?hp (fun _ hk => hk) trivial (Below.refl _ _) (Nat.le_refl _) (by simp) ?_; (case hd => rfl); (case hg => rfl); (case hr => first | (go_simp; done) | (go_simp; simp only [IntKind.wrap_u8, IntKind.wrap_u16, IntKind.wrap_u32, IntKind.wrap_u64]; done) | (go_simp; simp only [IntKind.wrap_u8, IntKind.wrap_u16, IntKind.wrap_u32, IntKind.wrap_u64, Int.tmod_eq_emod_of_nonneg (Int.natCast_nonneg _), Int.emod_emod]; done) | (go_simp; rfl)); (case hp => exact (Reps.one (show Kd.M (Kd.int .u8) _ _ _ ((Int.tmod x0_1 256) % 256) [.int .u8 ((Int.tmod x0_1 256) % 256)] from rfl) (Reps.none _ _))); intro v202 w7 ho8 hb hg_ hnew_; clear hg_ hnew_; (first | rw [← Ny201.out] at ho8 | (simp only [Int.reduceToNat] at ho8; rw [← Ny201.out] at ho8)); have n0_ := Aside0.mk (Kd.R_elder' (by (with_reducible repeat (first | apply Kd.R_alloc | apply Kd.R_drewN | apply Kd.R_drew)); exact HO_5.out) (Kd.R_base ho8) hb); have n1_ := Aside0.mk (Kd.R_lower (Kd.R_new' ho8 (Kd.R_lt (by (with_reducible repeat (first | apply Kd.R_alloc | apply Kd.R_drewN | apply Kd.R_drew)); exact HO_5.out))) (below_size (by repeat (first | (with_reducible first | exact HB.out | apply below_alloc | apply pw_below_drewN | apply below_drew1) | exact HB.out)))); have n2_ := Aside0.mk (below_step (by repeat (first | (with_reducible first | exact HB.out | apply below_alloc | apply pw_below_drewN | apply below_drew1) | exact HB.out)) hb); clear HO_5; clear HB; have HO_5 := n0_; have HO203 := n1_; have HB := n2_; clear n0_ n1_ n2_; clear hb ho8; obtain ⟨Ao10, co10, eo10⟩ := Kd.R_slice HO_5.out; subst eo10) | ((with_reducible refine gate_builtin (b := .append) (xs := #[.tmp 16, .tmp 17]) rfl ?_); at_builtin; refine Kd.R_append_rows (Kd.int .u8) (w0 := w) w.heap.size rfl (.tmp 16) (.tmp 17) 25 5 (.int .u8 0) 1 rfl Tryd.underlying25 info5 rfl (by decide) (by omega) v202 y201 x5_1 _ _ _ (fun k_ => some k_ ≠ (.slice Ao10 x5_1.length co10 : Value).ownBlock) (fun _ => False) rfl rfl ?aO ?aR (fun _ _ h => h) (fun _ h => h.elim) ?aF ?aB ?aS ?aL ?_; (case aR => repeat (first | exact (Kd.R_reads' HO_5.out).2.2 | (with_reducible refine Kd.C_alloc ?_ _) | (with_reducible refine Kd.C_drewN ?_ _) | (with_reducible refine Kd.C_drew ?_))); (case aB => exact (by repeat (first | (with_reducible first | exact HB.out | apply below_alloc | apply pw_below_drewN | apply below_drew1) | exact HB.out))); (case aF => exact (fun k_ hk => Kd.fresh' (Kd.R_lt (by (with_reducible repeat (first | apply Kd.R_alloc | apply Kd.R_drewN | apply Kd.R_drew)); exact HO_5.out)) k_ hk)); (case aO => exact (by (with_reducible repeat (first | apply Kd.R_alloc | apply Kd.R_drewN | apply Kd.R_drew)); exact Kd.R_mono HO203.out (fun _ hk => hk.2))); (case aS => exact (below_size (by repeat (first | (with_reducible first | exact HB.out | apply below_alloc | apply pw_below_drewN | apply below_drew1) | exact HB.out)))); (case aL => have := LMc6.out; omega); intro v205 w9 ho hb hg hat; rw [← Ny204.out] at ho; have n0_ := Aside0.mk (Kd.R_after (ok := (fun _ => True)) (by (with_reducible repeat (first | apply Kd.R_alloc | apply Kd.R_drewN | apply Kd.R_drew)); exact HO_5.out) hg hat); have n1_ := Aside0.mk (hb); have n2_ := Aside0.mk (ho); clear HO_5; clear HB; clear HO203; have HO_5 := n0_; have HB := n1_; have HO206 := n2_; clear n0_ n1_ n2_; clear ho hb hg hat))
       go_roundg k1
       case measure => have := HK1.out; omega
       case rel => exact ⟨(wrap64 (Int.tdiv x0_1 256)), (y204), (wrap64 (x6_1 + 1)), (by first | rfl | (simp; done) | (simp [*]; done)), (by first | rfl | (simp; done) | (simp [*]; done)), H', ⟨by have := HK1.out; omega⟩, ⟨by (with_reducible repeat (first | apply Kd.R_alloc | apply Kd.R_drewN | apply Kd.R_drew)); exact Kd.R_mono HO206.out (fun _ hk => trivial)⟩, ⟨by repeat (first | (with_reducible first | exact HB.out | apply below_alloc | apply pw_below_drewN | apply below_drew1) | exact HB.out)⟩⟩
     · rw [if_neg c6] at H
       exact absurd H (by simp)
   · rw [if_neg c5] at H
     have c5b0 : decide (x6_1 < a1) = false := decide_eq_false c5
     clear c5
     obtain rfl := Option.some.inj H
     go_wp2
     go_ret
     exact ⟨_, by first | rfl | (simp [errW_none, errW_some] <;> rfl) | (simp [*, errW_none, errW_some] <;> rfl), by (with_reducible repeat (first | apply Kd.R_alloc | apply Kd.R_drewN | apply Kd.R_drew)); exact HO_5.out, by repeat (first | (with_reducible first | exact HB.out | apply below_alloc | apply pw_below_drewN | apply below_drew1) | exact HB.out)⟩
end Go.Proofs.YtgjdjjofhmhimaaDoor.Print
namespace Go.Proofs.YtgjdjjofhmhimaaDoor.Print
open Go.RowKit Go.Proofs.YtgjdjjofhmhimaaDoorW.PrintWords Go.Proofs.YtgjdjjofhmhimaaDoorW.PrintLast Go.Proofs.YtgjdjjofhmhimaaDoorW.PrintMore
attribute [local go_sem] max2_int min2_int max_two min_two max_three min_three max_four min_four
set_option linter.unusedVariables false
set_option linter.unusedSimpArgs false
mutual
def marlineref15_Put.j0 : Nat → Bool → Int → Int → Int → List (S34) → Int → Int → List Int → List Int → List Int → List Int → Option (List Int × Int)
 | 0, _, _, _, _, _, _, _, _, _, _, _ => none
 | k + 1, x4, x208000, x208001, x208002, x208003, x208004, x208005, x208006, x208007, x208008, x208009 => if x208001 = 9 then (marlineref15_Put.j1 k x4 true x208000 x208001 x208002 x208003 x208004 x208005 x208006 x208007 x208008 x208009) else (if x208001 = 10 then (marlineref15_Put.j1 k x4 true x208000 x208001 x208002 x208003 x208004 x208005 x208006 x208007 x208008 x208009) else (marlineref15_Put.j1 k x4 (x208001 == 11) x208000 x208001 x208002 x208003 x208004 x208005 x208006 x208007 x208008 x208009))
def marlineref15_Put.j1 : Nat → Bool → Bool → Int → Int → Int → List (S34) → Int → Int → List Int → List Int → List Int → List Int → Option (List Int × Int)
 | 0, _, _, _, _, _, _, _, _, _, _, _, _ => none
 | k + 1, x4, x5, x208000, x208001, x208002, x208003, x208004, x208005, x208006, x208007, x208008, x208009 => if x4 = true then (if (x208008.length : Int) > 0 then (marlineref15_Put.j2 k x4 x5 true x208000 x208001 x208002 x208003 x208004 x208005 x208006 x208007 x208008 x208009) else (if x208001 = 8 then (if x5 = true then (if (x208006.length : Int) > 0 then (marlineref15_Put.j2 k x4 x5 true x208000 x208001 x208002 x208003 x208004 x208005 x208006 x208007 x208008 x208009) else (if (x208007.length : Int) > 0 then (marlineref15_Put.j2 k x4 x5 true x208000 x208001 x208002 x208003 x208004 x208005 x208006 x208007 x208008 x208009) else (marlineref15_Put.j2 k x4 x5 (decide ((x208009.length : Int) > 0)) x208000 x208001 x208002 x208003 x208004 x208005 x208006 x208007 x208008 x208009))) else (if x208005 = 0 then (if (x208006.length : Int) > 0 then (marlineref15_Put.j2 k x4 x5 true x208000 x208001 x208002 x208003 x208004 x208005 x208006 x208007 x208008 x208009) else (if (x208007.length : Int) > 0 then (marlineref15_Put.j2 k x4 x5 true x208000 x208001 x208002 x208003 x208004 x208005 x208006 x208007 x208008 x208009) else (marlineref15_Put.j2 k x4 x5 (decide ((x208009.length : Int) > 0)) x208000 x208001 x208002 x208003 x208004 x208005 x208006 x208007 x208008 x208009))) else (marlineref15_Put.j2 k x4 x5 true x208000 x208001 x208002 x208003 x208004 x208005 x208006 x208007 x208008 x208009))) else (if x208004 = 0 then (if x5 = true then (if (x208006.length : Int) > 0 then (marlineref15_Put.j2 k x4 x5 true x208000 x208001 x208002 x208003 x208004 x208005 x208006 x208007 x208008 x208009) else (if (x208007.length : Int) > 0 then (marlineref15_Put.j2 k x4 x5 true x208000 x208001 x208002 x208003 x208004 x208005 x208006 x208007 x208008 x208009) else (marlineref15_Put.j2 k x4 x5 (decide ((x208009.length : Int) > 0)) x208000 x208001 x208002 x208003 x208004 x208005 x208006 x208007 x208008 x208009))) else (if x208005 = 0 then (if (x208006.length : Int) > 0 then (marlineref15_Put.j2 k x4 x5 true x208000 x208001 x208002 x208003 x208004 x208005 x208006 x208007 x208008 x208009) else (if (x208007.length : Int) > 0 then (marlineref15_Put.j2 k x4 x5 true x208000 x208001 x208002 x208003 x208004 x208005 x208006 x208007 x208008 x208009) else (marlineref15_Put.j2 k x4 x5 (decide ((x208009.length : Int) > 0)) x208000 x208001 x208002 x208003 x208004 x208005 x208006 x208007 x208008 x208009))) else (marlineref15_Put.j2 k x4 x5 true x208000 x208001 x208002 x208003 x208004 x208005 x208006 x208007 x208008 x208009))) else (marlineref15_Put.j2 k x4 x5 true x208000 x208001 x208002 x208003 x208004 x208005 x208006 x208007 x208008 x208009)))) else (if (x208003.length : Int) > 0 then (marlineref15_Put.j2 k x4 x5 true x208000 x208001 x208002 x208003 x208004 x208005 x208006 x208007 x208008 x208009) else (if x208001 = 8 then (if x5 = true then (if (x208006.length : Int) > 0 then (marlineref15_Put.j2 k x4 x5 true x208000 x208001 x208002 x208003 x208004 x208005 x208006 x208007 x208008 x208009) else (if (x208007.length : Int) > 0 then (marlineref15_Put.j2 k x4 x5 true x208000 x208001 x208002 x208003 x208004 x208005 x208006 x208007 x208008 x208009) else (marlineref15_Put.j2 k x4 x5 (decide ((x208009.length : Int) > 0)) x208000 x208001 x208002 x208003 x208004 x208005 x208006 x208007 x208008 x208009))) else (if x208005 = 0 then (if (x208006.length : Int) > 0 then (marlineref15_Put.j2 k x4 x5 true x208000 x208001 x208002 x208003 x208004 x208005 x208006 x208007 x208008 x208009) else (if (x208007.length : Int) > 0 then (marlineref15_Put.j2 k x4 x5 true x208000 x208001 x208002 x208003 x208004 x208005 x208006 x208007 x208008 x208009) else (marlineref15_Put.j2 k x4 x5 (decide ((x208009.length : Int) > 0)) x208000 x208001 x208002 x208003 x208004 x208005 x208006 x208007 x208008 x208009))) else (marlineref15_Put.j2 k x4 x5 true x208000 x208001 x208002 x208003 x208004 x208005 x208006 x208007 x208008 x208009))) else (if x208004 = 0 then (if x5 = true then (if (x208006.length : Int) > 0 then (marlineref15_Put.j2 k x4 x5 true x208000 x208001 x208002 x208003 x208004 x208005 x208006 x208007 x208008 x208009) else (if (x208007.length : Int) > 0 then (marlineref15_Put.j2 k x4 x5 true x208000 x208001 x208002 x208003 x208004 x208005 x208006 x208007 x208008 x208009) else (marlineref15_Put.j2 k x4 x5 (decide ((x208009.length : Int) > 0)) x208000 x208001 x208002 x208003 x208004 x208005 x208006 x208007 x208008 x208009))) else (if x208005 = 0 then (if (x208006.length : Int) > 0 then (marlineref15_Put.j2 k x4 x5 true x208000 x208001 x208002 x208003 x208004 x208005 x208006 x208007 x208008 x208009) else (if (x208007.length : Int) > 0 then (marlineref15_Put.j2 k x4 x5 true x208000 x208001 x208002 x208003 x208004 x208005 x208006 x208007 x208008 x208009) else (marlineref15_Put.j2 k x4 x5 (decide ((x208009.length : Int) > 0)) x208000 x208001 x208002 x208003 x208004 x208005 x208006 x208007 x208008 x208009))) else (marlineref15_Put.j2 k x4 x5 true x208000 x208001 x208002 x208003 x208004 x208005 x208006 x208007 x208008 x208009))) else (marlineref15_Put.j2 k x4 x5 true x208000 x208001 x208002 x208003 x208004 x208005 x208006 x208007 x208008 x208009))))
def marlineref15_Put.j2 : Nat → Bool → Bool → Bool → Int → Int → Int → List (S34) → Int → Int → List Int → List Int → List Int → List Int → Option (List Int × Int)
 | 0, _, _, _, _, _, _, _, _, _, _, _, _, _ => none
 | k + 1, x4, x5, x86, x208000, x208001, x208002, x208003, x208004, x208005, x208006, x208007, x208008, x208009 => if x86 = true then (some (([] : List Int), 9)) else (if x4 = true then ((marlineref14_Put.f k 49185 x208003).bind fun bt208 => (if bt208.2 = 0 then ((marlineref13_Put.f x208001 x208002 bt208.1).bind fun bt212 => (some (bt212.1, bt212.2))) else (some (([] : List Int), bt208.2)))) else (if x208001 = 8 then ((marlineref15_Number.f k (wrap64 (x208004)) 2).bind fun t219 => (marlineref15_Put.j3 k x5 t219 x208000 x208001 x208002 x208003 x208004 x208005 x208006 x208007 x208008 x208009)) else (marlineref15_Put.j3 k x5 (([] : List Int)) x208000 x208001 x208002 x208003 x208004 x208005 x208006 x208007 x208008 x208009)))
def marlineref15_Put.j3 : Nat → Bool → List Int → Int → Int → Int → List (S34) → Int → Int → List Int → List Int → List Int → List Int → Option (List Int × Int)
 | 0, _, _, _, _, _, _, _, _, _, _, _, _ => none
 | k + 1, x5, x8, x208000, x208001, x208002, x208003, x208004, x208005, x208006, x208007, x208008, x208009 => if x5 = true then ((marlineref15_Number.f k (wrap64 (x208005)) 4).bind fun t222 => (marlineref15_Put.j4 k t222 x208000 x208001 x208002 x208003 x208004 x208005 x208006 x208007 x208008 x208009)) else (marlineref15_Put.j4 k x8 x208000 x208001 x208002 x208003 x208004 x208005 x208006 x208007 x208008 x208009)
def marlineref15_Put.j4 : Nat → List Int → Int → Int → Int → List (S34) → Int → Int → List Int → List Int → List Int → List Int → Option (List Int × Int)
 | 0, _, _, _, _, _, _, _, _, _, _, _ => none
 | k + 1, x8, x208000, x208001, x208002, x208003, x208004, x208005, x208006, x208007, x208008, x208009 => if x8.length + x208008.length < 140737488355328 then ((marlineref13_Put.f x208001 x208002 (x8 ++ x208008)).bind fun bt228 => (some (bt228.1, bt228.2))) else (none)
end
def marlineref15_Put.f (k : Nat) (a0_0 : Int) (a0_1 : Int) (a0_2 : Int) (l0_3 : List (S34)) (a0_4 : Int) (a0_5 : Int) (l0_6 : List Int) (l0_7 : List Int) (l0_8 : List Int) (l0_9 : List Int) : Option (List Int × Int) := if a0_0 = 49185 then (if a0_1 ≥ 1 then (marlineref15_Put.j0 k (decide (a0_1 ≤ 4)) a0_0 a0_1 a0_2 l0_3 a0_4 a0_5 l0_6 l0_7 l0_8 l0_9) else (marlineref15_Put.j0 k false a0_0 a0_1 a0_2 l0_3 a0_4 a0_5 l0_6 l0_7 l0_8 l0_9)) else (some (([] : List Int), 8))
def marlineref15_Put.T17 : Bool × List (List Nat × List Nat) := (true, [([], []), ([0], [0]), ([], []), ([2], [2]), ([], []), ([], []), ([5], [5]), ([4, 6], [4, 6]), ([1, 3, 7, 7], [1, 3, 7]), ([8], [8]), ([8], [8]), ([9, 8, 0, 1, 2, 3, 4, 5, 6, 7, 8, 9, 10], [9]), ([10, 11, 0, 1, 2, 3, 4, 5, 6, 7, 8, 9, 10, 11], [10])])
def marlineref15_Put.B17 : List Nat := [0, 1, 0, 4, 0, 0, 32, 112, 255, 511, 511, 2047, 4095]
theorem marlineref15_Put.tab17 : rtab .any (opsOf Tryd.f7 17) = marlineref15_Put.T17 := by kernel_rfl
theorem marlineref15_Put.bits17 : waitsOk marlineref15_Put.T17.2 marlineref15_Put.B17 = true := by kernel_rfl
set_option maxHeartbeats 8000000 in
set_option maxRecDepth 100000 in
theorem marlineref15_Put.calls (k : Nat) (a0_0 : Int) (a0_1 : Int) (a0_2 : Int) (A0_3 : Option Addr) (c0_3 : Nat) (l0_3 : List (S34)) (a0_4 : Int) (a0_5 : Int) (A0_6 : Option Addr) (c0_6 : Nat) (l0_6 : List Int) (A0_7 : Option Addr) (c0_7 : Nat) (l0_7 : List Int) (A0_8 : Option Addr) (c0_8 : Nat) (l0_8 : List Int) (A0_9 : Option Addr) (c0_9 : Nat) (l0_9 : List Int) (r1 : List Int) (r2 : Int) (w : World) (hr0_3 : Kd.C k34 w A0_3 l0_3.length l0_3) (hc0_3 : l0_3.length ≤ c0_3) (hr0_6 : Kd.C (Kd.int .u8) w A0_6 l0_6.length l0_6) (hc0_6 : l0_6.length ≤ c0_6) (hr0_7 : Kd.C (Kd.int .u8) w A0_7 l0_7.length l0_7) (hc0_7 : l0_7.length ≤ c0_7) (hr0_8 : Kd.C (Kd.int .u8) w A0_8 l0_8.length l0_8) (hc0_8 : l0_8.length ≤ c0_8) (hr0_9 : Kd.C (Kd.int .u32) w A0_9 l0_9.length l0_9) (hc0_9 : l0_9.length ≤ c0_9) (h : marlineref15_Put.f k a0_0 a0_1 a0_2 l0_3 a0_4 a0_5 l0_6 l0_7 l0_8 l0_9 = some (r1, r2)) :
 Calls Tryd.prog 7 #[.agg #[.int .u16 a0_0, .int .u8 a0_1, .int .u8 a0_2, .slice A0_3 l0_3.length c0_3, .int .u16 a0_4, .int .u32 a0_5, .slice A0_6 l0_6.length c0_6, .slice A0_7 l0_7.length c0_7, .slice A0_8 l0_8.length c0_8, .slice A0_9 l0_9.length c0_9]] w fun e w' => ∃ v0_ : Value, e = .returned (.tuple #[v0_, .int .i64 r2]) ∧ Kd.R (Kd.int .u8) 5 w' w.heap.size (fun _ => True) v0_ r1 ∧ Below w.heap.size w w' := by
 have hu28 := Tryd.underlying28
 have HR0_3 := Aside0.mk hr0_3
 have HC0_3 := Aside0.mk hc0_3
 clear hr0_3 hc0_3
 have HR0_6 := Aside0.mk hr0_6
 have HC0_6 := Aside0.mk hc0_6
 clear hr0_6 hc0_6
 have HR0_7 := Aside0.mk hr0_7
 have HC0_7 := Aside0.mk hc0_7
 clear hr0_7 hc0_7
 have HR0_8 := Aside0.mk hr0_8
 have HC0_8 := Aside0.mk hc0_8
 clear hr0_8 hc0_8
 have HR0_9 := Aside0.mk hr0_9
 have HC0_9 := Aside0.mk hc0_9
 clear hr0_9 hc0_9
 have HB := Aside0.mk (Below.refl w.heap.size w)
 have H : (if a0_0 = 49185 then (if a0_1 ≥ 1 then (marlineref15_Put.j0 k (decide (a0_1 ≤ 4)) a0_0 a0_1 a0_2 l0_3 a0_4 a0_5 l0_6 l0_7 l0_8 l0_9) else (marlineref15_Put.j0 k false a0_0 a0_1 a0_2 l0_3 a0_4 a0_5 l0_6 l0_7 l0_8 l0_9)) else (some (([] : List Int), 8))) = some (r1, r2) := h
 clear h
 by_cases c2 : a0_0 = 49185
 · rw [if_pos c2] at H
   have c2b0 : (a0_0 == 49185) = true := beq_iff_eq.mpr c2
   have c2b1 : (a0_0 != 49185) = false := bne_eq_false_iff_eq.mpr c2
   clear c2
   have HC3 := Aside0.mk H
   clear H
   go_enter Tryd.func7, Tryd.ntmps7
   go_upto_region 3 with (first | ((with_reducible refine gate_dst (N := 1) rfl ?_); (try (refine gate_guard (by rfl) ?_; dsimp only)); refine box_event ?hg (N := 1) ?hd (cs := #[.int .u16 a0_0, .int .u8 a0_1, .int .u8 a0_2, .slice A0_3 l0_3.length c0_3, .int .u16 a0_4, .int .u32 a0_5, .slice A0_6 l0_6.length c0_6, .slice A0_7 l0_7.length c0_7, .slice A0_8 l0_8.length c0_8, .slice A0_9 l0_9.length c0_9]) (t := 28) ?hr ?_; (case hd => rfl); (case hg => rfl); (case hr => first | (go_simp; done) | (go_simp; simp only [IntKind.wrap_u8, IntKind.wrap_u16, IntKind.wrap_u32, IntKind.wrap_u64]; done) | (go_simp; simp only [IntKind.wrap_u8, IntKind.wrap_u16, IntKind.wrap_u32, IntKind.wrap_u64, Int.tmod_eq_emod_of_nonneg (Int.natCast_nonneg _), Int.emod_emod]; done) | (go_simp; rfl)); intro gb207 hg w4 hbox hb; have n0_ := Aside0.mk (below_step (by repeat (first | (with_reducible first | exact HB.out | apply below_alloc | apply pw_below_drewN | apply below_drew1) | exact HB.out)) hb); have n1_ := Aside0.mk (hbox); have n2_ := Aside0.mk ((by rw [hg]; exact (below_size (by repeat (first | (with_reducible first | exact HB.out | apply below_alloc | apply pw_below_drewN | apply below_drew1) | exact HB.out))) : w.heap.size ≤ gb207)); have n3_ := Aside0.mk ((by rw [hg]; exact (below_size (by repeat (first | (with_reducible first | exact HB.out | apply below_alloc | apply pw_below_drewN | apply below_drew1) | exact HB.out))) : w.heap.size ≤ gb207)); clear HB; have HB := n0_; have BK207 := n1_; have GW207 := n2_; have GE207 := n3_; clear n0_ n1_ n2_ n3_; clear hb hbox hg; obtain ⟨⟨hcz5_0, hcz5_1, hcz5_2, hcz5_3, hcz5_4, hcz5_5, hcz5_6, hcz5_7, hcz5_8, hcz5_9⟩, hfz5_0, hfz5_1, hfz5_2, hfz5_3, hfz5_4, hfz5_5, hfz5_6, hfz5_7, hfz5_8, hfz5_9⟩ := cz10 BK207.out))
   (try simp only [Act.put, List.setIfInBounds_toArray, List.set_cons_zero, List.set_cons_succ])
   go_cut [4] (fun v4 wc => ∃ (kq : Nat) (x4_2 : Bool), v4 = .bool x4_2 ∧ Aside0 (marlineref15_Put.j0 kq x4_2 a0_0 a0_1 a0_2 l0_3 a0_4 a0_5 l0_6 l0_7 l0_8 l0_9 = some (r1, r2)) ∧ Aside0 (kq ≤ k) ∧ Aside0 (wc.heap[gb207]? = some (.cells #[.int .u16 a0_0, .int .u8 a0_1, .int .u8 a0_2, (.slice A0_3 l0_3.length c0_3), .int .u16 a0_4, .int .u32 a0_5, (.slice A0_6 l0_6.length c0_6), (.slice A0_7 l0_7.length c0_7), (.slice A0_8 l0_8.length c0_8), (.slice A0_9 l0_9.length c0_9)] 28 (0, 0))) ∧ Aside0 (Below w.heap.size w wc))
   case first =>
    have H := HC3.out
    clear HC3
    by_cases c6 : a0_1 ≥ 1
    · rw [if_pos c6] at H
      have c6b0 : decide (1 ≤ a0_1) = true := decide_eq_true c6
      clear c6
      (first | rw [c6b0] | (simp only [i64_w, i32_w]; rw [c6b0]) | skip)
      have H' := Aside0.mk H
      clear H
      obtain ⟨⟨hcz7_0, hcz7_1, hcz7_2, hcz7_3, hcz7_4, hcz7_5, hcz7_6, hcz7_7, hcz7_8, hcz7_9⟩, hfz7_0, hfz7_1, hfz7_2, hfz7_3, hfz7_4, hfz7_5, hfz7_6, hfz7_7, hfz7_8, hfz7_9⟩ := cz10 BK207.out
      go_wp2
      go_meet
      case rel => exact ⟨_, (decide (a0_1 ≤ 4)), (by first | rfl | (simp; done) | (simp [*]; done)), H', ⟨by first | omega | exact Nat.le_refl _⟩, ⟨by (with_reducible repeat (first | refine blk_drewN ?_ _ | refine blk_drew ?_ | refine blk_alloc ?_ _)); exact BK207.out⟩, ⟨by repeat (first | (with_reducible first | exact HB.out | apply below_alloc | apply pw_below_drewN | apply below_drew1 | refine below_set ?_ GE207.out) | exact HB.out)⟩⟩
    · rw [if_neg c6] at H
      have c6b0 : decide (1 ≤ a0_1) = false := decide_eq_false c6
      clear c6
      (first | rw [c6b0] | (simp only [i64_w, i32_w]; rw [c6b0]) | skip)
      have H' := Aside0.mk H
      clear H
      obtain ⟨⟨hcz8_0, hcz8_1, hcz8_2, hcz8_3, hcz8_4, hcz8_5, hcz8_6, hcz8_7, hcz8_8, hcz8_9⟩, hfz8_0, hfz8_1, hfz8_2, hfz8_3, hfz8_4, hfz8_5, hfz8_6, hfz8_7, hfz8_8, hfz8_9⟩ := cz10 BK207.out
      go_wp2
      go_meet
      case rel => exact ⟨_, (false), (by first | rfl | (simp; done) | (simp [*]; done)), H', ⟨by first | omega | exact Nat.le_refl _⟩, ⟨by (with_reducible repeat (first | refine blk_drewN ?_ _ | refine blk_drew ?_ | refine blk_alloc ?_ _)); exact BK207.out⟩, ⟨by repeat (first | (with_reducible first | exact HB.out | apply below_alloc | apply pw_below_drewN | apply below_drew1 | refine below_set ?_ GE207.out) | exact HB.out)⟩⟩
   case rest =>
    clear HC3
    try clear c2
    try clear c2b0
    try clear c2b1
    try clear p2
    try clear c6
    try clear c6b0
    try clear c7
    try clear hcz5_0 hcz5_1 hcz5_2 hcz5_3 hcz5_4 hcz5_5 hcz5_6 hcz5_7 hcz5_8 hcz5_9 hfz5_0 hfz5_1 hfz5_2 hfz5_3 hfz5_4 hfz5_5 hfz5_6 hfz5_7 hfz5_8 hfz5_9
    try clear hcz7_0 hcz7_1 hcz7_2 hcz7_3 hcz7_4 hcz7_5 hcz7_6 hcz7_7 hcz7_8 hcz7_9 hfz7_0 hfz7_1 hfz7_2 hfz7_3 hfz7_4 hfz7_5 hfz7_6 hfz7_7 hfz7_8 hfz7_9
    try clear hcz8_0 hcz8_1 hcz8_2 hcz8_3 hcz8_4 hcz8_5 hcz8_6 hcz8_7 hcz8_8 hcz8_9 hfz8_0 hfz8_1 hfz8_2 hfz8_3 hfz8_4 hfz8_5 hfz8_6 hfz8_7 hfz8_8 hfz8_9
    obtain ⟨kq, x4_2, rfl, HA, HJ2, BK207, HB⟩ := hcut
    cases kq with
    | zero => exact absurd HA.out (by simp [marlineref15_Put.j0])
    | succ kj2 =>
     have H := HA.out
     clear HA
     simp only [marlineref15_Put.j0] at H
     have HC9 := Aside0.mk H
     clear H
     go_upto_region 4 with (fail)
     go_cut [5] (fun v5 wc => ∃ (kq : Nat) (x5_8 : Bool), v5 = .bool x5_8 ∧ Aside0 (marlineref15_Put.j1 kq x4_2 x5_8 a0_0 a0_1 a0_2 l0_3 a0_4 a0_5 l0_6 l0_7 l0_8 l0_9 = some (r1, r2)) ∧ Aside0 (kq ≤ kj2) ∧ Aside0 (wc.heap[gb207]? = some (.cells #[.int .u16 a0_0, .int .u8 a0_1, .int .u8 a0_2, (.slice A0_3 l0_3.length c0_3), .int .u16 a0_4, .int .u32 a0_5, (.slice A0_6 l0_6.length c0_6), (.slice A0_7 l0_7.length c0_7), (.slice A0_8 l0_8.length c0_8), (.slice A0_9 l0_9.length c0_9)] 28 (0, 0))) ∧ Aside0 (Below w.heap.size w wc))
     case first =>
      have H := HC9.out
      clear HC9
      by_cases c10 : a0_1 = 9
      · rw [if_pos c10] at H
        have c10b0 : (a0_1 == 9) = true := beq_iff_eq.mpr c10
        have c10b1 : (a0_1 != 9) = false := bne_eq_false_iff_eq.mpr c10
        clear c10
        (first | rw [c10b0] | (simp only [i64_w, i32_w]; rw [c10b0]) | skip)
        have H' := Aside0.mk H
        clear H
        obtain ⟨⟨hcz11_0, hcz11_1, hcz11_2, hcz11_3, hcz11_4, hcz11_5, hcz11_6, hcz11_7, hcz11_8, hcz11_9⟩, hfz11_0, hfz11_1, hfz11_2, hfz11_3, hfz11_4, hfz11_5, hfz11_6, hfz11_7, hfz11_8, hfz11_9⟩ := cz10 BK207.out
        go_wp2
        go_meet
        case rel => exact ⟨_, (true), (by first | rfl | (simp; done) | (simp [*]; done)), H', ⟨by have := HJ2.out; first | omega | exact Nat.le_refl _⟩, ⟨by (with_reducible repeat (first | refine blk_drewN ?_ _ | refine blk_drew ?_ | refine blk_alloc ?_ _)); exact BK207.out⟩, ⟨by repeat (first | (with_reducible first | exact HB.out | apply below_alloc | apply pw_below_drewN | apply below_drew1 | refine below_set ?_ GE207.out) | exact HB.out)⟩⟩
      · rw [if_neg c10] at H
        have c10b0 : (a0_1 == 9) = false := beq_eq_false_iff_ne.mpr c10
        have c10b1 : (a0_1 != 9) = true := bne_iff_ne.mpr c10
        (first | rw [c10b0] | (simp only [i64_w, i32_w]; rw [c10b0]) | skip)
        by_cases c12 : a0_1 = 10
        · rw [if_pos c12] at H
          have c12b0 : (a0_1 == 10) = true := beq_iff_eq.mpr c12
          have c12b1 : (a0_1 != 10) = false := bne_eq_false_iff_eq.mpr c12
          clear c12
          have H' := Aside0.mk H
          clear H
          obtain ⟨⟨hcz13_0, hcz13_1, hcz13_2, hcz13_3, hcz13_4, hcz13_5, hcz13_6, hcz13_7, hcz13_8, hcz13_9⟩, hfz13_0, hfz13_1, hfz13_2, hfz13_3, hfz13_4, hfz13_5, hfz13_6, hfz13_7, hfz13_8, hfz13_9⟩ := cz10 BK207.out
          go_wp2
          go_meet
          case rel => exact ⟨_, (true), (by first | rfl | (simp; done) | (simp [*]; done)), H', ⟨by have := HJ2.out; first | omega | exact Nat.le_refl _⟩, ⟨by (with_reducible repeat (first | refine blk_drewN ?_ _ | refine blk_drew ?_ | refine blk_alloc ?_ _)); exact BK207.out⟩, ⟨by repeat (first | (with_reducible first | exact HB.out | apply below_alloc | apply pw_below_drewN | apply below_drew1 | refine below_set ?_ GE207.out) | exact HB.out)⟩⟩
        · rw [if_neg c12] at H
          have c12b0 : (a0_1 == 10) = false := beq_eq_false_iff_ne.mpr c12
          have c12b1 : (a0_1 != 10) = true := bne_iff_ne.mpr c12
          have H' := Aside0.mk H
          clear H
          obtain ⟨⟨hcz14_0, hcz14_1, hcz14_2, hcz14_3, hcz14_4, hcz14_5, hcz14_6, hcz14_7, hcz14_8, hcz14_9⟩, hfz14_0, hfz14_1, hfz14_2, hfz14_3, hfz14_4, hfz14_5, hfz14_6, hfz14_7, hfz14_8, hfz14_9⟩ := cz10 BK207.out
          go_wp2
          go_meet
          case rel => exact ⟨_, ((a0_1 == 11)), (by first | rfl | (simp; done) | (simp [*]; done)), H', ⟨by have := HJ2.out; first | omega | exact Nat.le_refl _⟩, ⟨by (with_reducible repeat (first | refine blk_drewN ?_ _ | refine blk_drew ?_ | refine blk_alloc ?_ _)); exact BK207.out⟩, ⟨by repeat (first | (with_reducible first | exact HB.out | apply below_alloc | apply pw_below_drewN | apply below_drew1 | refine below_set ?_ GE207.out) | exact HB.out)⟩⟩
     case rest =>
      clear HC9
      try clear c1
      try clear c2
      try clear c2b0
      try clear c2b1
      try clear p2
      try clear c6
      try clear c6b0
      try clear c7
      try clear c10
      try clear c10b0
      try clear c10b1
      try clear c12
      try clear c12b0
      try clear c12b1
      try clear hcz11_0 hcz11_1 hcz11_2 hcz11_3 hcz11_4 hcz11_5 hcz11_6 hcz11_7 hcz11_8 hcz11_9 hfz11_0 hfz11_1 hfz11_2 hfz11_3 hfz11_4 hfz11_5 hfz11_6 hfz11_7 hfz11_8 hfz11_9
      try clear hcz13_0 hcz13_1 hcz13_2 hcz13_3 hcz13_4 hcz13_5 hcz13_6 hcz13_7 hcz13_8 hcz13_9 hfz13_0 hfz13_1 hfz13_2 hfz13_3 hfz13_4 hfz13_5 hfz13_6 hfz13_7 hfz13_8 hfz13_9
      try clear hcz14_0 hcz14_1 hcz14_2 hcz14_3 hcz14_4 hcz14_5 hcz14_6 hcz14_7 hcz14_8 hcz14_9 hfz14_0 hfz14_1 hfz14_2 hfz14_3 hfz14_4 hfz14_5 hfz14_6 hfz14_7 hfz14_8 hfz14_9
      try clear hcz5_0 hcz5_1 hcz5_2 hcz5_3 hcz5_4 hcz5_5 hcz5_6 hcz5_7 hcz5_8 hcz5_9 hfz5_0 hfz5_1 hfz5_2 hfz5_3 hfz5_4 hfz5_5 hfz5_6 hfz5_7 hfz5_8 hfz5_9
      try clear hcz7_0 hcz7_1 hcz7_2 hcz7_3 hcz7_4 hcz7_5 hcz7_6 hcz7_7 hcz7_8 hcz7_9 hfz7_0 hfz7_1 hfz7_2 hfz7_3 hfz7_4 hfz7_5 hfz7_6 hfz7_7 hfz7_8 hfz7_9
      try clear hcz8_0 hcz8_1 hcz8_2 hcz8_3 hcz8_4 hcz8_5 hcz8_6 hcz8_7 hcz8_8 hcz8_9 hfz8_0 hfz8_1 hfz8_2 hfz8_3 hfz8_4 hfz8_5 hfz8_6 hfz8_7 hfz8_8 hfz8_9
      try clear p2
      obtain ⟨kq, x5_8, rfl, HA, HJ8, BK207, HB⟩ := hcut
      cases kq with
      | zero => exact absurd HA.out (by simp [marlineref15_Put.j1])
      | succ kj8 =>
       have H := HA.out
       clear HA
       simp only [marlineref15_Put.j1] at H
       have HC15 := Aside0.mk H
       clear H
       go_upto_region 5 with (fail)
       go_cut [86] (fun v86 wc => ∃ (kq : Nat) (x86_14 : Bool), v86 = .bool x86_14 ∧ Aside0 (marlineref15_Put.j2 kq x4_2 x5_8 x86_14 a0_0 a0_1 a0_2 l0_3 a0_4 a0_5 l0_6 l0_7 l0_8 l0_9 = some (r1, r2)) ∧ Aside0 (kq ≤ kj8) ∧ Aside0 (wc.heap[gb207]? = some (.cells #[.int .u16 a0_0, .int .u8 a0_1, .int .u8 a0_2, (.slice A0_3 l0_3.length c0_3), .int .u16 a0_4, .int .u32 a0_5, (.slice A0_6 l0_6.length c0_6), (.slice A0_7 l0_7.length c0_7), (.slice A0_8 l0_8.length c0_8), (.slice A0_9 l0_9.length c0_9)] 28 (0, 0))) ∧ Aside0 (Below w.heap.size w wc))
       case first =>
        have H := HC15.out
        clear HC15
        by_cases c16 : x4_2 = true
        · subst c16
          have H1 : (if (l0_8.length : Int) > 0 then (marlineref15_Put.j2 kj8 true x5_8 true a0_0 a0_1 a0_2 l0_3 a0_4 a0_5 l0_6 l0_7 l0_8 l0_9) else (if a0_1 = 8 then (if x5_8 = true then (if (l0_6.length : Int) > 0 then (marlineref15_Put.j2 kj8 true x5_8 true a0_0 a0_1 a0_2 l0_3 a0_4 a0_5 l0_6 l0_7 l0_8 l0_9) else (if (l0_7.length : Int) > 0 then (marlineref15_Put.j2 kj8 true x5_8 true a0_0 a0_1 a0_2 l0_3 a0_4 a0_5 l0_6 l0_7 l0_8 l0_9) else (marlineref15_Put.j2 kj8 true x5_8 (decide ((l0_9.length : Int) > 0)) a0_0 a0_1 a0_2 l0_3 a0_4 a0_5 l0_6 l0_7 l0_8 l0_9))) else (if a0_5 = 0 then (if (l0_6.length : Int) > 0 then (marlineref15_Put.j2 kj8 true x5_8 true a0_0 a0_1 a0_2 l0_3 a0_4 a0_5 l0_6 l0_7 l0_8 l0_9) else (if (l0_7.length : Int) > 0 then (marlineref15_Put.j2 kj8 true x5_8 true a0_0 a0_1 a0_2 l0_3 a0_4 a0_5 l0_6 l0_7 l0_8 l0_9) else (marlineref15_Put.j2 kj8 true x5_8 (decide ((l0_9.length : Int) > 0)) a0_0 a0_1 a0_2 l0_3 a0_4 a0_5 l0_6 l0_7 l0_8 l0_9))) else (marlineref15_Put.j2 kj8 true x5_8 true a0_0 a0_1 a0_2 l0_3 a0_4 a0_5 l0_6 l0_7 l0_8 l0_9))) else (if a0_4 = 0 then (if x5_8 = true then (if (l0_6.length : Int) > 0 then (marlineref15_Put.j2 kj8 true x5_8 true a0_0 a0_1 a0_2 l0_3 a0_4 a0_5 l0_6 l0_7 l0_8 l0_9) else (if (l0_7.length : Int) > 0 then (marlineref15_Put.j2 kj8 true x5_8 true a0_0 a0_1 a0_2 l0_3 a0_4 a0_5 l0_6 l0_7 l0_8 l0_9) else (marlineref15_Put.j2 kj8 true x5_8 (decide ((l0_9.length : Int) > 0)) a0_0 a0_1 a0_2 l0_3 a0_4 a0_5 l0_6 l0_7 l0_8 l0_9))) else (if a0_5 = 0 then (if (l0_6.length : Int) > 0 then (marlineref15_Put.j2 kj8 true x5_8 true a0_0 a0_1 a0_2 l0_3 a0_4 a0_5 l0_6 l0_7 l0_8 l0_9) else (if (l0_7.length : Int) > 0 then (marlineref15_Put.j2 kj8 true x5_8 true a0_0 a0_1 a0_2 l0_3 a0_4 a0_5 l0_6 l0_7 l0_8 l0_9) else (marlineref15_Put.j2 kj8 true x5_8 (decide ((l0_9.length : Int) > 0)) a0_0 a0_1 a0_2 l0_3 a0_4 a0_5 l0_6 l0_7 l0_8 l0_9))) else (marlineref15_Put.j2 kj8 true x5_8 true a0_0 a0_1 a0_2 l0_3 a0_4 a0_5 l0_6 l0_7 l0_8 l0_9))) else (marlineref15_Put.j2 kj8 true x5_8 true a0_0 a0_1 a0_2 l0_3 a0_4 a0_5 l0_6 l0_7 l0_8 l0_9)))) = some (r1, r2) := by rw [if_pos rfl] at H; exact H
          clear H
          have H := H1
          clear H1
          by_cases c17 : (l0_8.length : Int) > 0
          · rw [if_pos c17] at H
            have c17b0 : decide (0 < (l0_8.length : Int)) = true := decide_eq_true c17
            have c17b1 : decide (0 < l0_8.length) = true := decide_eq_true (by omega)
            clear c17
            (first | rw [c17b0] | (simp only [i64_w, i32_w]; rw [c17b0]) | skip)
            have H' := Aside0.mk H
            clear H
            obtain ⟨⟨hcz18_0, hcz18_1, hcz18_2, hcz18_3, hcz18_4, hcz18_5, hcz18_6, hcz18_7, hcz18_8, hcz18_9⟩, hfz18_0, hfz18_1, hfz18_2, hfz18_3, hfz18_4, hfz18_5, hfz18_6, hfz18_7, hfz18_8, hfz18_9⟩ := cz10 BK207.out
            go_wp2
            go_meet
            case rel => exact ⟨_, (true), (by first | rfl | (simp; done) | (simp [*]; done)), H', ⟨by have := HJ2.out; have := HJ8.out; first | omega | exact Nat.le_refl _⟩, ⟨by (with_reducible repeat (first | refine blk_drewN ?_ _ | refine blk_drew ?_ | refine blk_alloc ?_ _)); exact BK207.out⟩, ⟨by repeat (first | (with_reducible first | exact HB.out | apply below_alloc | apply pw_below_drewN | apply below_drew1 | refine below_set ?_ GE207.out) | exact HB.out)⟩⟩
          · rw [if_neg c17] at H
            have c17b0 : decide (0 < (l0_8.length : Int)) = false := decide_eq_false c17
            have c17b1 : decide (0 < l0_8.length) = false := decide_eq_false (by omega)
            clear c17
            (first | rw [c17b0] | (simp only [i64_w, i32_w]; rw [c17b0]) | skip)
            by_cases c19 : a0_1 = 8
            · rw [if_pos c19] at H
              have c19b0 : (a0_1 == 8) = true := beq_iff_eq.mpr c19
              have c19b1 : (a0_1 != 8) = false := bne_eq_false_iff_eq.mpr c19
              clear c19
              by_cases c20 : x5_8 = true
              · subst c20
                have H1 : (if (l0_6.length : Int) > 0 then (marlineref15_Put.j2 kj8 true true true a0_0 a0_1 a0_2 l0_3 a0_4 a0_5 l0_6 l0_7 l0_8 l0_9) else (if (l0_7.length : Int) > 0 then (marlineref15_Put.j2 kj8 true true true a0_0 a0_1 a0_2 l0_3 a0_4 a0_5 l0_6 l0_7 l0_8 l0_9) else (marlineref15_Put.j2 kj8 true true (decide ((l0_9.length : Int) > 0)) a0_0 a0_1 a0_2 l0_3 a0_4 a0_5 l0_6 l0_7 l0_8 l0_9))) = some (r1, r2) := by rw [if_pos rfl] at H; exact H
                clear H
                have H := H1
                clear H1
                by_cases c21 : (l0_6.length : Int) > 0
                · rw [if_pos c21] at H
                  have c21b0 : decide (0 < (l0_6.length : Int)) = true := decide_eq_true c21
                  have c21b1 : decide (0 < l0_6.length) = true := decide_eq_true (by omega)
                  clear c21
                  have H' := Aside0.mk H
                  clear H
                  obtain ⟨⟨hcz22_0, hcz22_1, hcz22_2, hcz22_3, hcz22_4, hcz22_5, hcz22_6, hcz22_7, hcz22_8, hcz22_9⟩, hfz22_0, hfz22_1, hfz22_2, hfz22_3, hfz22_4, hfz22_5, hfz22_6, hfz22_7, hfz22_8, hfz22_9⟩ := cz10 BK207.out
                  go_wp2
                  go_meet
                  case rel => exact ⟨_, (true), (by first | rfl | (simp; done) | (simp [*]; done)), H', ⟨by have := HJ2.out; have := HJ8.out; first | omega | exact Nat.le_refl _⟩, ⟨by (with_reducible repeat (first | refine blk_drewN ?_ _ | refine blk_drew ?_ | refine blk_alloc ?_ _)); exact BK207.out⟩, ⟨by repeat (first | (with_reducible first | exact HB.out | apply below_alloc | apply pw_below_drewN | apply below_drew1 | refine below_set ?_ GE207.out) | exact HB.out)⟩⟩
                · rw [if_neg c21] at H
                  have c21b0 : decide (0 < (l0_6.length : Int)) = false := decide_eq_false c21
                  have c21b1 : decide (0 < l0_6.length) = false := decide_eq_false (by omega)
                  clear c21
                  by_cases c23 : (l0_7.length : Int) > 0
                  · rw [if_pos c23] at H
                    have c23b0 : decide (0 < (l0_7.length : Int)) = true := decide_eq_true c23
                    have c23b1 : decide (0 < l0_7.length) = true := decide_eq_true (by omega)
                    clear c23
                    have H' := Aside0.mk H
                    clear H
                    obtain ⟨⟨hcz24_0, hcz24_1, hcz24_2, hcz24_3, hcz24_4, hcz24_5, hcz24_6, hcz24_7, hcz24_8, hcz24_9⟩, hfz24_0, hfz24_1, hfz24_2, hfz24_3, hfz24_4, hfz24_5, hfz24_6, hfz24_7, hfz24_8, hfz24_9⟩ := cz10 BK207.out
                    go_wp2
                    go_meet
                    case rel => exact ⟨_, (true), (by first | rfl | (simp; done) | (simp [*]; done)), H', ⟨by have := HJ2.out; have := HJ8.out; first | omega | exact Nat.le_refl _⟩, ⟨by (with_reducible repeat (first | refine blk_drewN ?_ _ | refine blk_drew ?_ | refine blk_alloc ?_ _)); exact BK207.out⟩, ⟨by repeat (first | (with_reducible first | exact HB.out | apply below_alloc | apply pw_below_drewN | apply below_drew1 | refine below_set ?_ GE207.out) | exact HB.out)⟩⟩
                  · rw [if_neg c23] at H
                    have c23b0 : decide (0 < (l0_7.length : Int)) = false := decide_eq_false c23
                    have c23b1 : decide (0 < l0_7.length) = false := decide_eq_false (by omega)
                    clear c23
                    have H' := Aside0.mk H
                    clear H
                    obtain ⟨⟨hcz25_0, hcz25_1, hcz25_2, hcz25_3, hcz25_4, hcz25_5, hcz25_6, hcz25_7, hcz25_8, hcz25_9⟩, hfz25_0, hfz25_1, hfz25_2, hfz25_3, hfz25_4, hfz25_5, hfz25_6, hfz25_7, hfz25_8, hfz25_9⟩ := cz10 BK207.out
                    go_wp2
                    go_meet
                    case rel => exact ⟨_, (decide ((l0_9.length : Int) > 0)), (by first | rfl | (simp; done) | (simp [*]; done)), H', ⟨by have := HJ2.out; have := HJ8.out; first | omega | exact Nat.le_refl _⟩, ⟨by (with_reducible repeat (first | refine blk_drewN ?_ _ | refine blk_drew ?_ | refine blk_alloc ?_ _)); exact BK207.out⟩, ⟨by repeat (first | (with_reducible first | exact HB.out | apply below_alloc | apply pw_below_drewN | apply below_drew1 | refine below_set ?_ GE207.out) | exact HB.out)⟩⟩
              · replace c20 := Bool.eq_false_iff.mpr c20
                subst c20
                have H1 : (if a0_5 = 0 then (if (l0_6.length : Int) > 0 then (marlineref15_Put.j2 kj8 true false true a0_0 a0_1 a0_2 l0_3 a0_4 a0_5 l0_6 l0_7 l0_8 l0_9) else (if (l0_7.length : Int) > 0 then (marlineref15_Put.j2 kj8 true false true a0_0 a0_1 a0_2 l0_3 a0_4 a0_5 l0_6 l0_7 l0_8 l0_9) else (marlineref15_Put.j2 kj8 true false (decide ((l0_9.length : Int) > 0)) a0_0 a0_1 a0_2 l0_3 a0_4 a0_5 l0_6 l0_7 l0_8 l0_9))) else (marlineref15_Put.j2 kj8 true false true a0_0 a0_1 a0_2 l0_3 a0_4 a0_5 l0_6 l0_7 l0_8 l0_9)) = some (r1, r2) := by rw [if_neg (show ¬ (false = true) by decide)] at H; exact H
                clear H
                have H := H1
                clear H1
                by_cases c26 : a0_5 = 0
                · rw [if_pos c26] at H
                  have c26b0 : (a0_5 == 0) = true := beq_iff_eq.mpr c26
                  have c26b1 : (a0_5 != 0) = false := bne_eq_false_iff_eq.mpr c26
                  clear c26
                  by_cases c27 : (l0_6.length : Int) > 0
                  · rw [if_pos c27] at H
                    have c27b0 : decide (0 < (l0_6.length : Int)) = true := decide_eq_true c27
                    have c27b1 : decide (0 < l0_6.length) = true := decide_eq_true (by omega)
                    clear c27
                    have H' := Aside0.mk H
                    clear H
                    obtain ⟨⟨hcz28_0, hcz28_1, hcz28_2, hcz28_3, hcz28_4, hcz28_5, hcz28_6, hcz28_7, hcz28_8, hcz28_9⟩, hfz28_0, hfz28_1, hfz28_2, hfz28_3, hfz28_4, hfz28_5, hfz28_6, hfz28_7, hfz28_8, hfz28_9⟩ := cz10 BK207.out
                    go_wp2
                    go_meet
                    case rel => exact ⟨_, (true), (by first | rfl | (simp; done) | (simp [*]; done)), H', ⟨by have := HJ2.out; have := HJ8.out; first | omega | exact Nat.le_refl _⟩, ⟨by (with_reducible repeat (first | refine blk_drewN ?_ _ | refine blk_drew ?_ | refine blk_alloc ?_ _)); exact BK207.out⟩, ⟨by repeat (first | (with_reducible first | exact HB.out | apply below_alloc | apply pw_below_drewN | apply below_drew1 | refine below_set ?_ GE207.out) | exact HB.out)⟩⟩
                  · rw [if_neg c27] at H
                    have c27b0 : decide (0 < (l0_6.length : Int)) = false := decide_eq_false c27
                    have c27b1 : decide (0 < l0_6.length) = false := decide_eq_false (by omega)
                    clear c27
                    by_cases c29 : (l0_7.length : Int) > 0
                    · rw [if_pos c29] at H
                      have c29b0 : decide (0 < (l0_7.length : Int)) = true := decide_eq_true c29
                      have c29b1 : decide (0 < l0_7.length) = true := decide_eq_true (by omega)
                      clear c29
                      have H' := Aside0.mk H
                      clear H
                      obtain ⟨⟨hcz30_0, hcz30_1, hcz30_2, hcz30_3, hcz30_4, hcz30_5, hcz30_6, hcz30_7, hcz30_8, hcz30_9⟩, hfz30_0, hfz30_1, hfz30_2, hfz30_3, hfz30_4, hfz30_5, hfz30_6, hfz30_7, hfz30_8, hfz30_9⟩ := cz10 BK207.out
                      go_wp2
                      go_meet
                      case rel => exact ⟨_, (true), (by first | rfl | (simp; done) | (simp [*]; done)), H', ⟨by have := HJ2.out; have := HJ8.out; first | omega | exact Nat.le_refl _⟩, ⟨by (with_reducible repeat (first | refine blk_drewN ?_ _ | refine blk_drew ?_ | refine blk_alloc ?_ _)); exact BK207.out⟩, ⟨by repeat (first | (with_reducible first | exact HB.out | apply below_alloc | apply pw_below_drewN | apply below_drew1 | refine below_set ?_ GE207.out) | exact HB.out)⟩⟩
                    · rw [if_neg c29] at H
                      have c29b0 : decide (0 < (l0_7.length : Int)) = false := decide_eq_false c29
                      have c29b1 : decide (0 < l0_7.length) = false := decide_eq_false (by omega)
                      clear c29
                      have H' := Aside0.mk H
                      clear H
                      obtain ⟨⟨hcz31_0, hcz31_1, hcz31_2, hcz31_3, hcz31_4, hcz31_5, hcz31_6, hcz31_7, hcz31_8, hcz31_9⟩, hfz31_0, hfz31_1, hfz31_2, hfz31_3, hfz31_4, hfz31_5, hfz31_6, hfz31_7, hfz31_8, hfz31_9⟩ := cz10 BK207.out
                      go_wp2
                      go_meet
                      case rel => exact ⟨_, (decide ((l0_9.length : Int) > 0)), (by first | rfl | (simp; done) | (simp [*]; done)), H', ⟨by have := HJ2.out; have := HJ8.out; first | omega | exact Nat.le_refl _⟩, ⟨by (with_reducible repeat (first | refine blk_drewN ?_ _ | refine blk_drew ?_ | refine blk_alloc ?_ _)); exact BK207.out⟩, ⟨by repeat (first | (with_reducible first | exact HB.out | apply below_alloc | apply pw_below_drewN | apply below_drew1 | refine below_set ?_ GE207.out) | exact HB.out)⟩⟩
                · rw [if_neg c26] at H
                  have c26b0 : (a0_5 == 0) = false := beq_eq_false_iff_ne.mpr c26
                  have c26b1 : (a0_5 != 0) = true := bne_iff_ne.mpr c26
                  have H' := Aside0.mk H
                  clear H
                  obtain ⟨⟨hcz32_0, hcz32_1, hcz32_2, hcz32_3, hcz32_4, hcz32_5, hcz32_6, hcz32_7, hcz32_8, hcz32_9⟩, hfz32_0, hfz32_1, hfz32_2, hfz32_3, hfz32_4, hfz32_5, hfz32_6, hfz32_7, hfz32_8, hfz32_9⟩ := cz10 BK207.out
                  go_wp2
                  go_meet
                  case rel => exact ⟨_, (true), (by first | rfl | (simp; done) | (simp [*]; done)), H', ⟨by have := HJ2.out; have := HJ8.out; first | omega | exact Nat.le_refl _⟩, ⟨by (with_reducible repeat (first | refine blk_drewN ?_ _ | refine blk_drew ?_ | refine blk_alloc ?_ _)); exact BK207.out⟩, ⟨by repeat (first | (with_reducible first | exact HB.out | apply below_alloc | apply pw_below_drewN | apply below_drew1 | refine below_set ?_ GE207.out) | exact HB.out)⟩⟩
            · rw [if_neg c19] at H
              have c19b0 : (a0_1 == 8) = false := beq_eq_false_iff_ne.mpr c19
              have c19b1 : (a0_1 != 8) = true := bne_iff_ne.mpr c19
              by_cases c33 : a0_4 = 0
              · rw [if_pos c33] at H
                have c33b0 : (a0_4 == 0) = true := beq_iff_eq.mpr c33
                have c33b1 : (a0_4 != 0) = false := bne_eq_false_iff_eq.mpr c33
                clear c33
                by_cases c34 : x5_8 = true
                · subst c34
                  have H1 : (if (l0_6.length : Int) > 0 then (marlineref15_Put.j2 kj8 true true true a0_0 a0_1 a0_2 l0_3 a0_4 a0_5 l0_6 l0_7 l0_8 l0_9) else (if (l0_7.length : Int) > 0 then (marlineref15_Put.j2 kj8 true true true a0_0 a0_1 a0_2 l0_3 a0_4 a0_5 l0_6 l0_7 l0_8 l0_9) else (marlineref15_Put.j2 kj8 true true (decide ((l0_9.length : Int) > 0)) a0_0 a0_1 a0_2 l0_3 a0_4 a0_5 l0_6 l0_7 l0_8 l0_9))) = some (r1, r2) := by rw [if_pos rfl] at H; exact H
                  clear H
                  have H := H1
                  clear H1
                  by_cases c35 : (l0_6.length : Int) > 0
                  · rw [if_pos c35] at H
                    have c35b0 : decide (0 < (l0_6.length : Int)) = true := decide_eq_true c35
                    have c35b1 : decide (0 < l0_6.length) = true := decide_eq_true (by omega)
                    clear c35
                    have H' := Aside0.mk H
                    clear H
                    obtain ⟨⟨hcz36_0, hcz36_1, hcz36_2, hcz36_3, hcz36_4, hcz36_5, hcz36_6, hcz36_7, hcz36_8, hcz36_9⟩, hfz36_0, hfz36_1, hfz36_2, hfz36_3, hfz36_4, hfz36_5, hfz36_6, hfz36_7, hfz36_8, hfz36_9⟩ := cz10 BK207.out
                    go_wp2
                    go_meet
                    case rel => exact ⟨_, (true), (by first | rfl | (simp; done) | (simp [*]; done)), H', ⟨by have := HJ2.out; have := HJ8.out; first | omega | exact Nat.le_refl _⟩, ⟨by (with_reducible repeat (first | refine blk_drewN ?_ _ | refine blk_drew ?_ | refine blk_alloc ?_ _)); exact BK207.out⟩, ⟨by repeat (first | (with_reducible first | exact HB.out | apply below_alloc | apply pw_below_drewN | apply below_drew1 | refine below_set ?_ GE207.out) | exact HB.out)⟩⟩
                  · rw [if_neg c35] at H
                    have c35b0 : decide (0 < (l0_6.length : Int)) = false := decide_eq_false c35
                    have c35b1 : decide (0 < l0_6.length) = false := decide_eq_false (by omega)
                    clear c35
                    by_cases c37 : (l0_7.length : Int) > 0
                    · rw [if_pos c37] at H
                      have c37b0 : decide (0 < (l0_7.length : Int)) = true := decide_eq_true c37
                      have c37b1 : decide (0 < l0_7.length) = true := decide_eq_true (by omega)
                      clear c37
                      have H' := Aside0.mk H
                      clear H
                      obtain ⟨⟨hcz38_0, hcz38_1, hcz38_2, hcz38_3, hcz38_4, hcz38_5, hcz38_6, hcz38_7, hcz38_8, hcz38_9⟩, hfz38_0, hfz38_1, hfz38_2, hfz38_3, hfz38_4, hfz38_5, hfz38_6, hfz38_7, hfz38_8, hfz38_9⟩ := cz10 BK207.out
                      go_wp2
                      go_meet
                      case rel => exact ⟨_, (true), (by first | rfl | (simp; done) | (simp [*]; done)), H', ⟨by have := HJ2.out; have := HJ8.out; first | omega | exact Nat.le_refl _⟩, ⟨by (with_reducible repeat (first | refine blk_drewN ?_ _ | refine blk_drew ?_ | refine blk_alloc ?_ _)); exact BK207.out⟩, ⟨by repeat (first | (with_reducible first | exact HB.out | apply below_alloc | apply pw_below_drewN | apply below_drew1 | refine below_set ?_ GE207.out) | exact HB.out)⟩⟩
                    · rw [if_neg c37] at H
                      have c37b0 : decide (0 < (l0_7.length : Int)) = false := decide_eq_false c37
                      have c37b1 : decide (0 < l0_7.length) = false := decide_eq_false (by omega)
                      clear c37
                      have H' := Aside0.mk H
                      clear H
                      obtain ⟨⟨hcz39_0, hcz39_1, hcz39_2, hcz39_3, hcz39_4, hcz39_5, hcz39_6, hcz39_7, hcz39_8, hcz39_9⟩, hfz39_0, hfz39_1, hfz39_2, hfz39_3, hfz39_4, hfz39_5, hfz39_6, hfz39_7, hfz39_8, hfz39_9⟩ := cz10 BK207.out
                      go_wp2
                      go_meet
                      case rel => exact ⟨_, (decide ((l0_9.length : Int) > 0)), (by first | rfl | (simp; done) | (simp [*]; done)), H', ⟨by have := HJ2.out; have := HJ8.out; first | omega | exact Nat.le_refl _⟩, ⟨by (with_reducible repeat (first | refine blk_drewN ?_ _ | refine blk_drew ?_ | refine blk_alloc ?_ _)); exact BK207.out⟩, ⟨by repeat (first | (with_reducible first | exact HB.out | apply below_alloc | apply pw_below_drewN | apply below_drew1 | refine below_set ?_ GE207.out) | exact HB.out)⟩⟩
                · replace c34 := Bool.eq_false_iff.mpr c34
                  subst c34
                  have H1 : (if a0_5 = 0 then (if (l0_6.length : Int) > 0 then (marlineref15_Put.j2 kj8 true false true a0_0 a0_1 a0_2 l0_3 a0_4 a0_5 l0_6 l0_7 l0_8 l0_9) else (if (l0_7.length : Int) > 0 then (marlineref15_Put.j2 kj8 true false true a0_0 a0_1 a0_2 l0_3 a0_4 a0_5 l0_6 l0_7 l0_8 l0_9) else (marlineref15_Put.j2 kj8 true false (decide ((l0_9.length : Int) > 0)) a0_0 a0_1 a0_2 l0_3 a0_4 a0_5 l0_6 l0_7 l0_8 l0_9))) else (marlineref15_Put.j2 kj8 true false true a0_0 a0_1 a0_2 l0_3 a0_4 a0_5 l0_6 l0_7 l0_8 l0_9)) = some (r1, r2) := by rw [if_neg (show ¬ (false = true) by decide)] at H; exact H
                  clear H
                  have H := H1
                  clear H1
                  by_cases c40 : a0_5 = 0
                  · rw [if_pos c40] at H
                    have c40b0 : (a0_5 == 0) = true := beq_iff_eq.mpr c40
                    have c40b1 : (a0_5 != 0) = false := bne_eq_false_iff_eq.mpr c40
                    clear c40
                    by_cases c41 : (l0_6.length : Int) > 0
                    · rw [if_pos c41] at H
                      have c41b0 : decide (0 < (l0_6.length : Int)) = true := decide_eq_true c41
                      have c41b1 : decide (0 < l0_6.length) = true := decide_eq_true (by omega)
                      clear c41
                      have H' := Aside0.mk H
                      clear H
                      obtain ⟨⟨hcz42_0, hcz42_1, hcz42_2, hcz42_3, hcz42_4, hcz42_5, hcz42_6, hcz42_7, hcz42_8, hcz42_9⟩, hfz42_0, hfz42_1, hfz42_2, hfz42_3, hfz42_4, hfz42_5, hfz42_6, hfz42_7, hfz42_8, hfz42_9⟩ := cz10 BK207.out
                      go_wp2
                      go_meet
                      case rel => exact ⟨_, (true), (by first | rfl | (simp; done) | (simp [*]; done)), H', ⟨by have := HJ2.out; have := HJ8.out; first | omega | exact Nat.le_refl _⟩, ⟨by (with_reducible repeat (first | refine blk_drewN ?_ _ | refine blk_drew ?_ | refine blk_alloc ?_ _)); exact BK207.out⟩, ⟨by repeat (first | (with_reducible first | exact HB.out | apply below_alloc | apply pw_below_drewN | apply below_drew1 | refine below_set ?_ GE207.out) | exact HB.out)⟩⟩
                    · rw [if_neg c41] at H
                      have c41b0 : decide (0 < (l0_6.length : Int)) = false := decide_eq_false c41
                      have c41b1 : decide (0 < l0_6.length) = false := decide_eq_false (by omega)
                      clear c41
                      by_cases c43 : (l0_7.length : Int) > 0
                      · rw [if_pos c43] at H
                        have c43b0 : decide (0 < (l0_7.length : Int)) = true := decide_eq_true c43
                        have c43b1 : decide (0 < l0_7.length) = true := decide_eq_true (by omega)
                        clear c43
                        have H' := Aside0.mk H
                        clear H
                        obtain ⟨⟨hcz44_0, hcz44_1, hcz44_2, hcz44_3, hcz44_4, hcz44_5, hcz44_6, hcz44_7, hcz44_8, hcz44_9⟩, hfz44_0, hfz44_1, hfz44_2, hfz44_3, hfz44_4, hfz44_5, hfz44_6, hfz44_7, hfz44_8, hfz44_9⟩ := cz10 BK207.out
                        go_wp2
                        go_meet
                        case rel => exact ⟨_, (true), (by first | rfl | (simp; done) | (simp [*]; done)), H', ⟨by have := HJ2.out; have := HJ8.out; first | omega | exact Nat.le_refl _⟩, ⟨by (with_reducible repeat (first | refine blk_drewN ?_ _ | refine blk_drew ?_ | refine blk_alloc ?_ _)); exact BK207.out⟩, ⟨by repeat (first | (with_reducible first | exact HB.out | apply below_alloc | apply pw_below_drewN | apply below_drew1 | refine below_set ?_ GE207.out) | exact HB.out)⟩⟩
                      · rw [if_neg c43] at H
                        have c43b0 : decide (0 < (l0_7.length : Int)) = false := decide_eq_false c43
                        have c43b1 : decide (0 < l0_7.length) = false := decide_eq_false (by omega)
                        clear c43
                        have H' := Aside0.mk H
                        clear H
                        obtain ⟨⟨hcz45_0, hcz45_1, hcz45_2, hcz45_3, hcz45_4, hcz45_5, hcz45_6, hcz45_7, hcz45_8, hcz45_9⟩, hfz45_0, hfz45_1, hfz45_2, hfz45_3, hfz45_4, hfz45_5, hfz45_6, hfz45_7, hfz45_8, hfz45_9⟩ := cz10 BK207.out
                        go_wp2
                        go_meet
                        case rel => exact ⟨_, (decide ((l0_9.length : Int) > 0)), (by first | rfl | (simp; done) | (simp [*]; done)), H', ⟨by have := HJ2.out; have := HJ8.out; first | omega | exact Nat.le_refl _⟩, ⟨by (with_reducible repeat (first | refine blk_drewN ?_ _ | refine blk_drew ?_ | refine blk_alloc ?_ _)); exact BK207.out⟩, ⟨by repeat (first | (with_reducible first | exact HB.out | apply below_alloc | apply pw_below_drewN | apply below_drew1 | refine below_set ?_ GE207.out) | exact HB.out)⟩⟩
                  · rw [if_neg c40] at H
                    have c40b0 : (a0_5 == 0) = false := beq_eq_false_iff_ne.mpr c40
                    have c40b1 : (a0_5 != 0) = true := bne_iff_ne.mpr c40
                    have H' := Aside0.mk H
                    clear H
                    obtain ⟨⟨hcz46_0, hcz46_1, hcz46_2, hcz46_3, hcz46_4, hcz46_5, hcz46_6, hcz46_7, hcz46_8, hcz46_9⟩, hfz46_0, hfz46_1, hfz46_2, hfz46_3, hfz46_4, hfz46_5, hfz46_6, hfz46_7, hfz46_8, hfz46_9⟩ := cz10 BK207.out
                    go_wp2
                    go_meet
                    case rel => exact ⟨_, (true), (by first | rfl | (simp; done) | (simp [*]; done)), H', ⟨by have := HJ2.out; have := HJ8.out; first | omega | exact Nat.le_refl _⟩, ⟨by (with_reducible repeat (first | refine blk_drewN ?_ _ | refine blk_drew ?_ | refine blk_alloc ?_ _)); exact BK207.out⟩, ⟨by repeat (first | (with_reducible first | exact HB.out | apply below_alloc | apply pw_below_drewN | apply below_drew1 | refine below_set ?_ GE207.out) | exact HB.out)⟩⟩
              · rw [if_neg c33] at H
                have c33b0 : (a0_4 == 0) = false := beq_eq_false_iff_ne.mpr c33
                have c33b1 : (a0_4 != 0) = true := bne_iff_ne.mpr c33
                have H' := Aside0.mk H
                clear H
                obtain ⟨⟨hcz47_0, hcz47_1, hcz47_2, hcz47_3, hcz47_4, hcz47_5, hcz47_6, hcz47_7, hcz47_8, hcz47_9⟩, hfz47_0, hfz47_1, hfz47_2, hfz47_3, hfz47_4, hfz47_5, hfz47_6, hfz47_7, hfz47_8, hfz47_9⟩ := cz10 BK207.out
                go_wp2
                go_meet
                case rel => exact ⟨_, (true), (by first | rfl | (simp; done) | (simp [*]; done)), H', ⟨by have := HJ2.out; have := HJ8.out; first | omega | exact Nat.le_refl _⟩, ⟨by (with_reducible repeat (first | refine blk_drewN ?_ _ | refine blk_drew ?_ | refine blk_alloc ?_ _)); exact BK207.out⟩, ⟨by repeat (first | (with_reducible first | exact HB.out | apply below_alloc | apply pw_below_drewN | apply below_drew1 | refine below_set ?_ GE207.out) | exact HB.out)⟩⟩
        · replace c16 := Bool.eq_false_iff.mpr c16
          subst c16
          have H1 : (if (l0_3.length : Int) > 0 then (marlineref15_Put.j2 kj8 false x5_8 true a0_0 a0_1 a0_2 l0_3 a0_4 a0_5 l0_6 l0_7 l0_8 l0_9) else (if a0_1 = 8 then (if x5_8 = true then (if (l0_6.length : Int) > 0 then (marlineref15_Put.j2 kj8 false x5_8 true a0_0 a0_1 a0_2 l0_3 a0_4 a0_5 l0_6 l0_7 l0_8 l0_9) else (if (l0_7.length : Int) > 0 then (marlineref15_Put.j2 kj8 false x5_8 true a0_0 a0_1 a0_2 l0_3 a0_4 a0_5 l0_6 l0_7 l0_8 l0_9) else (marlineref15_Put.j2 kj8 false x5_8 (decide ((l0_9.length : Int) > 0)) a0_0 a0_1 a0_2 l0_3 a0_4 a0_5 l0_6 l0_7 l0_8 l0_9))) else (if a0_5 = 0 then (if (l0_6.length : Int) > 0 then (marlineref15_Put.j2 kj8 false x5_8 true a0_0 a0_1 a0_2 l0_3 a0_4 a0_5 l0_6 l0_7 l0_8 l0_9) else (if (l0_7.length : Int) > 0 then (marlineref15_Put.j2 kj8 false x5_8 true a0_0 a0_1 a0_2 l0_3 a0_4 a0_5 l0_6 l0_7 l0_8 l0_9) else (marlineref15_Put.j2 kj8 false x5_8 (decide ((l0_9.length : Int) > 0)) a0_0 a0_1 a0_2 l0_3 a0_4 a0_5 l0_6 l0_7 l0_8 l0_9))) else (marlineref15_Put.j2 kj8 false x5_8 true a0_0 a0_1 a0_2 l0_3 a0_4 a0_5 l0_6 l0_7 l0_8 l0_9))) else (if a0_4 = 0 then (if x5_8 = true then (if (l0_6.length : Int) > 0 then (marlineref15_Put.j2 kj8 false x5_8 true a0_0 a0_1 a0_2 l0_3 a0_4 a0_5 l0_6 l0_7 l0_8 l0_9) else (if (l0_7.length : Int) > 0 then (marlineref15_Put.j2 kj8 false x5_8 true a0_0 a0_1 a0_2 l0_3 a0_4 a0_5 l0_6 l0_7 l0_8 l0_9) else (marlineref15_Put.j2 kj8 false x5_8 (decide ((l0_9.length : Int) > 0)) a0_0 a0_1 a0_2 l0_3 a0_4 a0_5 l0_6 l0_7 l0_8 l0_9))) else (if a0_5 = 0 then (if (l0_6.length : Int) > 0 then (marlineref15_Put.j2 kj8 false x5_8 true a0_0 a0_1 a0_2 l0_3 a0_4 a0_5 l0_6 l0_7 l0_8 l0_9) else (if (l0_7.length : Int) > 0 then (marlineref15_Put.j2 kj8 false x5_8 true a0_0 a0_1 a0_2 l0_3 a0_4 a0_5 l0_6 l0_7 l0_8 l0_9) else (marlineref15_Put.j2 kj8 false x5_8 (decide ((l0_9.length : Int) > 0)) a0_0 a0_1 a0_2 l0_3 a0_4 a0_5 l0_6 l0_7 l0_8 l0_9))) else (marlineref15_Put.j2 kj8 false x5_8 true a0_0 a0_1 a0_2 l0_3 a0_4 a0_5 l0_6 l0_7 l0_8 l0_9))) else (marlineref15_Put.j2 kj8 false x5_8 true a0_0 a0_1 a0_2 l0_3 a0_4 a0_5 l0_6 l0_7 l0_8 l0_9)))) = some (r1, r2) := by rw [if_neg (show ¬ (false = true) by decide)] at H; exact H
          clear H
          have H := H1
          clear H1
          by_cases c48 : (l0_3.length : Int) > 0
          · rw [if_pos c48] at H
            have c48b0 : decide (0 < (l0_3.length : Int)) = true := decide_eq_true c48
            have c48b1 : decide (0 < l0_3.length) = true := decide_eq_true (by omega)
            clear c48
            have H' := Aside0.mk H
            clear H
            obtain ⟨⟨hcz49_0, hcz49_1, hcz49_2, hcz49_3, hcz49_4, hcz49_5, hcz49_6, hcz49_7, hcz49_8, hcz49_9⟩, hfz49_0, hfz49_1, hfz49_2, hfz49_3, hfz49_4, hfz49_5, hfz49_6, hfz49_7, hfz49_8, hfz49_9⟩ := cz10 BK207.out
            go_wp2
            go_meet
            case rel => exact ⟨_, (true), (by first | rfl | (simp; done) | (simp [*]; done)), H', ⟨by have := HJ2.out; have := HJ8.out; first | omega | exact Nat.le_refl _⟩, ⟨by (with_reducible repeat (first | refine blk_drewN ?_ _ | refine blk_drew ?_ | refine blk_alloc ?_ _)); exact BK207.out⟩, ⟨by repeat (first | (with_reducible first | exact HB.out | apply below_alloc | apply pw_below_drewN | apply below_drew1 | refine below_set ?_ GE207.out) | exact HB.out)⟩⟩
          · rw [if_neg c48] at H
            have c48b0 : decide (0 < (l0_3.length : Int)) = false := decide_eq_false c48
            have c48b1 : decide (0 < l0_3.length) = false := decide_eq_false (by omega)
            clear c48
            by_cases c50 : a0_1 = 8
            · rw [if_pos c50] at H
              have c50b0 : (a0_1 == 8) = true := beq_iff_eq.mpr c50
              have c50b1 : (a0_1 != 8) = false := bne_eq_false_iff_eq.mpr c50
              clear c50
              by_cases c51 : x5_8 = true
              · subst c51
                have H1 : (if (l0_6.length : Int) > 0 then (marlineref15_Put.j2 kj8 false true true a0_0 a0_1 a0_2 l0_3 a0_4 a0_5 l0_6 l0_7 l0_8 l0_9) else (if (l0_7.length : Int) > 0 then (marlineref15_Put.j2 kj8 false true true a0_0 a0_1 a0_2 l0_3 a0_4 a0_5 l0_6 l0_7 l0_8 l0_9) else (marlineref15_Put.j2 kj8 false true (decide ((l0_9.length : Int) > 0)) a0_0 a0_1 a0_2 l0_3 a0_4 a0_5 l0_6 l0_7 l0_8 l0_9))) = some (r1, r2) := by rw [if_pos rfl] at H; exact H
                clear H
                have H := H1
                clear H1
                by_cases c52 : (l0_6.length : Int) > 0
                · rw [if_pos c52] at H
                  have c52b0 : decide (0 < (l0_6.length : Int)) = true := decide_eq_true c52
                  have c52b1 : decide (0 < l0_6.length) = true := decide_eq_true (by omega)
                  clear c52
                  have H' := Aside0.mk H
                  clear H
                  obtain ⟨⟨hcz53_0, hcz53_1, hcz53_2, hcz53_3, hcz53_4, hcz53_5, hcz53_6, hcz53_7, hcz53_8, hcz53_9⟩, hfz53_0, hfz53_1, hfz53_2, hfz53_3, hfz53_4, hfz53_5, hfz53_6, hfz53_7, hfz53_8, hfz53_9⟩ := cz10 BK207.out
                  go_wp2
                  go_meet
                  case rel => exact ⟨_, (true), (by first | rfl | (simp; done) | (simp [*]; done)), H', ⟨by have := HJ2.out; have := HJ8.out; first | omega | exact Nat.le_refl _⟩, ⟨by (with_reducible repeat (first | refine blk_drewN ?_ _ | refine blk_drew ?_ | refine blk_alloc ?_ _)); exact BK207.out⟩, ⟨by repeat (first | (with_reducible first | exact HB.out | apply below_alloc | apply pw_below_drewN | apply below_drew1 | refine below_set ?_ GE207.out) | exact HB.out)⟩⟩
                · rw [if_neg c52] at H
                  have c52b0 : decide (0 < (l0_6.length : Int)) = false := decide_eq_false c52
                  have c52b1 : decide (0 < l0_6.length) = false := decide_eq_false (by omega)
                  clear c52
                  by_cases c54 : (l0_7.length : Int) > 0
                  · rw [if_pos c54] at H
                    have c54b0 : decide (0 < (l0_7.length : Int)) = true := decide_eq_true c54
                    have c54b1 : decide (0 < l0_7.length) = true := decide_eq_true (by omega)
                    clear c54
                    have H' := Aside0.mk H
                    clear H
                    obtain ⟨⟨hcz55_0, hcz55_1, hcz55_2, hcz55_3, hcz55_4, hcz55_5, hcz55_6, hcz55_7, hcz55_8, hcz55_9⟩, hfz55_0, hfz55_1, hfz55_2, hfz55_3, hfz55_4, hfz55_5, hfz55_6, hfz55_7, hfz55_8, hfz55_9⟩ := cz10 BK207.out
                    go_wp2
                    go_meet
                    case rel => exact ⟨_, (true), (by first | rfl | (simp; done) | (simp [*]; done)), H', ⟨by have := HJ2.out; have := HJ8.out; first | omega | exact Nat.le_refl _⟩, ⟨by (with_reducible repeat (first | refine blk_drewN ?_ _ | refine blk_drew ?_ | refine blk_alloc ?_ _)); exact BK207.out⟩, ⟨by repeat (first | (with_reducible first | exact HB.out | apply below_alloc | apply pw_below_drewN | apply below_drew1 | refine below_set ?_ GE207.out) | exact HB.out)⟩⟩
                  · rw [if_neg c54] at H
                    have c54b0 : decide (0 < (l0_7.length : Int)) = false := decide_eq_false c54
                    have c54b1 : decide (0 < l0_7.length) = false := decide_eq_false (by omega)
                    clear c54
                    have H' := Aside0.mk H
                    clear H
                    obtain ⟨⟨hcz56_0, hcz56_1, hcz56_2, hcz56_3, hcz56_4, hcz56_5, hcz56_6, hcz56_7, hcz56_8, hcz56_9⟩, hfz56_0, hfz56_1, hfz56_2, hfz56_3, hfz56_4, hfz56_5, hfz56_6, hfz56_7, hfz56_8, hfz56_9⟩ := cz10 BK207.out
                    go_wp2
                    go_meet
                    case rel => exact ⟨_, (decide ((l0_9.length : Int) > 0)), (by first | rfl | (simp; done) | (simp [*]; done)), H', ⟨by have := HJ2.out; have := HJ8.out; first | omega | exact Nat.le_refl _⟩, ⟨by (with_reducible repeat (first | refine blk_drewN ?_ _ | refine blk_drew ?_ | refine blk_alloc ?_ _)); exact BK207.out⟩, ⟨by repeat (first | (with_reducible first | exact HB.out | apply below_alloc | apply pw_below_drewN | apply below_drew1 | refine below_set ?_ GE207.out) | exact HB.out)⟩⟩
              · replace c51 := Bool.eq_false_iff.mpr c51
                subst c51
                have H1 : (if a0_5 = 0 then (if (l0_6.length : Int) > 0 then (marlineref15_Put.j2 kj8 false false true a0_0 a0_1 a0_2 l0_3 a0_4 a0_5 l0_6 l0_7 l0_8 l0_9) else (if (l0_7.length : Int) > 0 then (marlineref15_Put.j2 kj8 false false true a0_0 a0_1 a0_2 l0_3 a0_4 a0_5 l0_6 l0_7 l0_8 l0_9) else (marlineref15_Put.j2 kj8 false false (decide ((l0_9.length : Int) > 0)) a0_0 a0_1 a0_2 l0_3 a0_4 a0_5 l0_6 l0_7 l0_8 l0_9))) else (marlineref15_Put.j2 kj8 false false true a0_0 a0_1 a0_2 l0_3 a0_4 a0_5 l0_6 l0_7 l0_8 l0_9)) = some (r1, r2) := by rw [if_neg (show ¬ (false = true) by decide)] at H; exact H
                clear H
                have H := H1
                clear H1
                by_cases c57 : a0_5 = 0
                · rw [if_pos c57] at H
                  have c57b0 : (a0_5 == 0) = true := beq_iff_eq.mpr c57
                  have c57b1 : (a0_5 != 0) = false := bne_eq_false_iff_eq.mpr c57
                  clear c57
                  by_cases c58 : (l0_6.length : Int) > 0
                  · rw [if_pos c58] at H
                    have c58b0 : decide (0 < (l0_6.length : Int)) = true := decide_eq_true c58
                    have c58b1 : decide (0 < l0_6.length) = true := decide_eq_true (by omega)
                    clear c58
                    have H' := Aside0.mk H
                    clear H
                    obtain ⟨⟨hcz59_0, hcz59_1, hcz59_2, hcz59_3, hcz59_4, hcz59_5, hcz59_6, hcz59_7, hcz59_8, hcz59_9⟩, hfz59_0, hfz59_1, hfz59_2, hfz59_3, hfz59_4, hfz59_5, hfz59_6, hfz59_7, hfz59_8, hfz59_9⟩ := cz10 BK207.out
                    go_wp2
                    go_meet
                    case rel => exact ⟨_, (true), (by first | rfl | (simp; done) | (simp [*]; done)), H', ⟨by have := HJ2.out; have := HJ8.out; first | omega | exact Nat.le_refl _⟩, ⟨by (with_reducible repeat (first | refine blk_drewN ?_ _ | refine blk_drew ?_ | refine blk_alloc ?_ _)); exact BK207.out⟩, ⟨by repeat (first | (with_reducible first | exact HB.out | apply below_alloc | apply pw_below_drewN | apply below_drew1 | refine below_set ?_ GE207.out) | exact HB.out)⟩⟩
                  · rw [if_neg c58] at H
                    have c58b0 : decide (0 < (l0_6.length : Int)) = false := decide_eq_false c58
                    have c58b1 : decide (0 < l0_6.length) = false := decide_eq_false (by omega)
                    clear c58
                    by_cases c60 : (l0_7.length : Int) > 0
                    · rw [if_pos c60] at H
                      have c60b0 : decide (0 < (l0_7.length : Int)) = true := decide_eq_true c60
                      have c60b1 : decide (0 < l0_7.length) = true := decide_eq_true (by omega)
                      clear c60
                      have H' := Aside0.mk H
                      clear H
                      obtain ⟨⟨hcz61_0, hcz61_1, hcz61_2, hcz61_3, hcz61_4, hcz61_5, hcz61_6, hcz61_7, hcz61_8, hcz61_9⟩, hfz61_0, hfz61_1, hfz61_2, hfz61_3, hfz61_4, hfz61_5, hfz61_6, hfz61_7, hfz61_8, hfz61_9⟩ := cz10 BK207.out
                      go_wp2
                      go_meet
                      case rel => exact ⟨_, (true), (by first | rfl | (simp; done) | (simp [*]; done)), H', ⟨by have := HJ2.out; have := HJ8.out; first | omega | exact Nat.le_refl _⟩, ⟨by (with_reducible repeat (first | refine blk_drewN ?_ _ | refine blk_drew ?_ | refine blk_alloc ?_ _)); exact BK207.out⟩, ⟨by repeat (first | (with_reducible first | exact HB.out | apply below_alloc | apply pw_below_drewN | apply below_drew1 | refine below_set ?_ GE207.out) | exact HB.out)⟩⟩
                    · rw [if_neg c60] at H
                      have c60b0 : decide (0 < (l0_7.length : Int)) = false := decide_eq_false c60
                      have c60b1 : decide (0 < l0_7.length) = false := decide_eq_false (by omega)
                      clear c60
                      have H' := Aside0.mk H
                      clear H
                      obtain ⟨⟨hcz62_0, hcz62_1, hcz62_2, hcz62_3, hcz62_4, hcz62_5, hcz62_6, hcz62_7, hcz62_8, hcz62_9⟩, hfz62_0, hfz62_1, hfz62_2, hfz62_3, hfz62_4, hfz62_5, hfz62_6, hfz62_7, hfz62_8, hfz62_9⟩ := cz10 BK207.out
                      go_wp2
                      go_meet
                      case rel => exact ⟨_, (decide ((l0_9.length : Int) > 0)), (by first | rfl | (simp; done) | (simp [*]; done)), H', ⟨by have := HJ2.out; have := HJ8.out; first | omega | exact Nat.le_refl _⟩, ⟨by (with_reducible repeat (first | refine blk_drewN ?_ _ | refine blk_drew ?_ | refine blk_alloc ?_ _)); exact BK207.out⟩, ⟨by repeat (first | (with_reducible first | exact HB.out | apply below_alloc | apply pw_below_drewN | apply below_drew1 | refine below_set ?_ GE207.out) | exact HB.out)⟩⟩
                · rw [if_neg c57] at H
                  have c57b0 : (a0_5 == 0) = false := beq_eq_false_iff_ne.mpr c57
                  have c57b1 : (a0_5 != 0) = true := bne_iff_ne.mpr c57
                  have H' := Aside0.mk H
                  clear H
                  obtain ⟨⟨hcz63_0, hcz63_1, hcz63_2, hcz63_3, hcz63_4, hcz63_5, hcz63_6, hcz63_7, hcz63_8, hcz63_9⟩, hfz63_0, hfz63_1, hfz63_2, hfz63_3, hfz63_4, hfz63_5, hfz63_6, hfz63_7, hfz63_8, hfz63_9⟩ := cz10 BK207.out
                  go_wp2
                  go_meet
                  case rel => exact ⟨_, (true), (by first | rfl | (simp; done) | (simp [*]; done)), H', ⟨by have := HJ2.out; have := HJ8.out; first | omega | exact Nat.le_refl _⟩, ⟨by (with_reducible repeat (first | refine blk_drewN ?_ _ | refine blk_drew ?_ | refine blk_alloc ?_ _)); exact BK207.out⟩, ⟨by repeat (first | (with_reducible first | exact HB.out | apply below_alloc | apply pw_below_drewN | apply below_drew1 | refine below_set ?_ GE207.out) | exact HB.out)⟩⟩
            · rw [if_neg c50] at H
              have c50b0 : (a0_1 == 8) = false := beq_eq_false_iff_ne.mpr c50
              have c50b1 : (a0_1 != 8) = true := bne_iff_ne.mpr c50
              by_cases c64 : a0_4 = 0
              · rw [if_pos c64] at H
                have c64b0 : (a0_4 == 0) = true := beq_iff_eq.mpr c64
                have c64b1 : (a0_4 != 0) = false := bne_eq_false_iff_eq.mpr c64
                clear c64
                by_cases c65 : x5_8 = true
                · subst c65
                  have H1 : (if (l0_6.length : Int) > 0 then (marlineref15_Put.j2 kj8 false true true a0_0 a0_1 a0_2 l0_3 a0_4 a0_5 l0_6 l0_7 l0_8 l0_9) else (if (l0_7.length : Int) > 0 then (marlineref15_Put.j2 kj8 false true true a0_0 a0_1 a0_2 l0_3 a0_4 a0_5 l0_6 l0_7 l0_8 l0_9) else (marlineref15_Put.j2 kj8 false true (decide ((l0_9.length : Int) > 0)) a0_0 a0_1 a0_2 l0_3 a0_4 a0_5 l0_6 l0_7 l0_8 l0_9))) = some (r1, r2) := by rw [if_pos rfl] at H; exact H
                  clear H
                  have H := H1
                  clear H1
                  by_cases c66 : (l0_6.length : Int) > 0
                  · rw [if_pos c66] at H
                    have c66b0 : decide (0 < (l0_6.length : Int)) = true := decide_eq_true c66
                    have c66b1 : decide (0 < l0_6.length) = true := decide_eq_true (by omega)
                    clear c66
                    have H' := Aside0.mk H
                    clear H
                    obtain ⟨⟨hcz67_0, hcz67_1, hcz67_2, hcz67_3, hcz67_4, hcz67_5, hcz67_6, hcz67_7, hcz67_8, hcz67_9⟩, hfz67_0, hfz67_1, hfz67_2, hfz67_3, hfz67_4, hfz67_5, hfz67_6, hfz67_7, hfz67_8, hfz67_9⟩ := cz10 BK207.out
                    go_wp2
                    go_meet
                    case rel => exact ⟨_, (true), (by first | rfl | (simp; done) | (simp [*]; done)), H', ⟨by have := HJ2.out; have := HJ8.out; first | omega | exact Nat.le_refl _⟩, ⟨by (with_reducible repeat (first | refine blk_drewN ?_ _ | refine blk_drew ?_ | refine blk_alloc ?_ _)); exact BK207.out⟩, ⟨by repeat (first | (with_reducible first | exact HB.out | apply below_alloc | apply pw_below_drewN | apply below_drew1 | refine below_set ?_ GE207.out) | exact HB.out)⟩⟩
                  · rw [if_neg c66] at H
                    have c66b0 : decide (0 < (l0_6.length : Int)) = false := decide_eq_false c66
                    have c66b1 : decide (0 < l0_6.length) = false := decide_eq_false (by omega)
                    clear c66
                    by_cases c68 : (l0_7.length : Int) > 0
                    · rw [if_pos c68] at H
                      have c68b0 : decide (0 < (l0_7.length : Int)) = true := decide_eq_true c68
                      have c68b1 : decide (0 < l0_7.length) = true := decide_eq_true (by omega)
                      clear c68
                      have H' := Aside0.mk H
                      clear H
                      obtain ⟨⟨hcz69_0, hcz69_1, hcz69_2, hcz69_3, hcz69_4, hcz69_5, hcz69_6, hcz69_7, hcz69_8, hcz69_9⟩, hfz69_0, hfz69_1, hfz69_2, hfz69_3, hfz69_4, hfz69_5, hfz69_6, hfz69_7, hfz69_8, hfz69_9⟩ := cz10 BK207.out
                      go_wp2
                      go_meet
                      case rel => exact ⟨_, (true), (by first | rfl | (simp; done) | (simp [*]; done)), H', ⟨by have := HJ2.out; have := HJ8.out; first | omega | exact Nat.le_refl _⟩, ⟨by (with_reducible repeat (first | refine blk_drewN ?_ _ | refine blk_drew ?_ | refine blk_alloc ?_ _)); exact BK207.out⟩, ⟨by repeat (first | (with_reducible first | exact HB.out | apply below_alloc | apply pw_below_drewN | apply below_drew1 | refine below_set ?_ GE207.out) | exact HB.out)⟩⟩
                    · rw [if_neg c68] at H
                      have c68b0 : decide (0 < (l0_7.length : Int)) = false := decide_eq_false c68
                      have c68b1 : decide (0 < l0_7.length) = false := decide_eq_false (by omega)
                      clear c68
                      have H' := Aside0.mk H
                      clear H
                      obtain ⟨⟨hcz70_0, hcz70_1, hcz70_2, hcz70_3, hcz70_4, hcz70_5, hcz70_6, hcz70_7, hcz70_8, hcz70_9⟩, hfz70_0, hfz70_1, hfz70_2, hfz70_3, hfz70_4, hfz70_5, hfz70_6, hfz70_7, hfz70_8, hfz70_9⟩ := cz10 BK207.out
                      go_wp2
                      go_meet
                      case rel => exact ⟨_, (decide ((l0_9.length : Int) > 0)), (by first | rfl | (simp; done) | (simp [*]; done)), H', ⟨by have := HJ2.out; have := HJ8.out; first | omega | exact Nat.le_refl _⟩, ⟨by (with_reducible repeat (first | refine blk_drewN ?_ _ | refine blk_drew ?_ | refine blk_alloc ?_ _)); exact BK207.out⟩, ⟨by repeat (first | (with_reducible first | exact HB.out | apply below_alloc | apply pw_below_drewN | apply below_drew1 | refine below_set ?_ GE207.out) | exact HB.out)⟩⟩
                · replace c65 := Bool.eq_false_iff.mpr c65
                  subst c65
                  have H1 : (if a0_5 = 0 then (if (l0_6.length : Int) > 0 then (marlineref15_Put.j2 kj8 false false true a0_0 a0_1 a0_2 l0_3 a0_4 a0_5 l0_6 l0_7 l0_8 l0_9) else (if (l0_7.length : Int) > 0 then (marlineref15_Put.j2 kj8 false false true a0_0 a0_1 a0_2 l0_3 a0_4 a0_5 l0_6 l0_7 l0_8 l0_9) else (marlineref15_Put.j2 kj8 false false (decide ((l0_9.length : Int) > 0)) a0_0 a0_1 a0_2 l0_3 a0_4 a0_5 l0_6 l0_7 l0_8 l0_9))) else (marlineref15_Put.j2 kj8 false false true a0_0 a0_1 a0_2 l0_3 a0_4 a0_5 l0_6 l0_7 l0_8 l0_9)) = some (r1, r2) := by rw [if_neg (show ¬ (false = true) by decide)] at H; exact H
                  clear H
                  have H := H1
                  clear H1
                  by_cases c71 : a0_5 = 0
                  · rw [if_pos c71] at H
                    have c71b0 : (a0_5 == 0) = true := beq_iff_eq.mpr c71
                    have c71b1 : (a0_5 != 0) = false := bne_eq_false_iff_eq.mpr c71
                    clear c71
                    by_cases c72 : (l0_6.length : Int) > 0
                    · rw [if_pos c72] at H
                      have c72b0 : decide (0 < (l0_6.length : Int)) = true := decide_eq_true c72
                      have c72b1 : decide (0 < l0_6.length) = true := decide_eq_true (by omega)
                      clear c72
                      have H' := Aside0.mk H
                      clear H
                      obtain ⟨⟨hcz73_0, hcz73_1, hcz73_2, hcz73_3, hcz73_4, hcz73_5, hcz73_6, hcz73_7, hcz73_8, hcz73_9⟩, hfz73_0, hfz73_1, hfz73_2, hfz73_3, hfz73_4, hfz73_5, hfz73_6, hfz73_7, hfz73_8, hfz73_9⟩ := cz10 BK207.out
                      go_wp2
                      go_meet
                      case rel => exact ⟨_, (true), (by first | rfl | (simp; done) | (simp [*]; done)), H', ⟨by have := HJ2.out; have := HJ8.out; first | omega | exact Nat.le_refl _⟩, ⟨by (with_reducible repeat (first | refine blk_drewN ?_ _ | refine blk_drew ?_ | refine blk_alloc ?_ _)); exact BK207.out⟩, ⟨by repeat (first | (with_reducible first | exact HB.out | apply below_alloc | apply pw_below_drewN | apply below_drew1 | refine below_set ?_ GE207.out) | exact HB.out)⟩⟩
                    · rw [if_neg c72] at H
                      have c72b0 : decide (0 < (l0_6.length : Int)) = false := decide_eq_false c72
                      have c72b1 : decide (0 < l0_6.length) = false := decide_eq_false (by omega)
                      clear c72
                      by_cases c74 : (l0_7.length : Int) > 0
                      · rw [if_pos c74] at H
                        have c74b0 : decide (0 < (l0_7.length : Int)) = true := decide_eq_true c74
                        have c74b1 : decide (0 < l0_7.length) = true := decide_eq_true (by omega)
                        clear c74
                        have H' := Aside0.mk H
                        clear H
                        obtain ⟨⟨hcz75_0, hcz75_1, hcz75_2, hcz75_3, hcz75_4, hcz75_5, hcz75_6, hcz75_7, hcz75_8, hcz75_9⟩, hfz75_0, hfz75_1, hfz75_2, hfz75_3, hfz75_4, hfz75_5, hfz75_6, hfz75_7, hfz75_8, hfz75_9⟩ := cz10 BK207.out
                        go_wp2
                        go_meet
                        case rel => exact ⟨_, (true), (by first | rfl | (simp; done) | (simp [*]; done)), H', ⟨by have := HJ2.out; have := HJ8.out; first | omega | exact Nat.le_refl _⟩, ⟨by (with_reducible repeat (first | refine blk_drewN ?_ _ | refine blk_drew ?_ | refine blk_alloc ?_ _)); exact BK207.out⟩, ⟨by repeat (first | (with_reducible first | exact HB.out | apply below_alloc | apply pw_below_drewN | apply below_drew1 | refine below_set ?_ GE207.out) | exact HB.out)⟩⟩
                      · rw [if_neg c74] at H
                        have c74b0 : decide (0 < (l0_7.length : Int)) = false := decide_eq_false c74
                        have c74b1 : decide (0 < l0_7.length) = false := decide_eq_false (by omega)
                        clear c74
                        have H' := Aside0.mk H
                        clear H
                        obtain ⟨⟨hcz76_0, hcz76_1, hcz76_2, hcz76_3, hcz76_4, hcz76_5, hcz76_6, hcz76_7, hcz76_8, hcz76_9⟩, hfz76_0, hfz76_1, hfz76_2, hfz76_3, hfz76_4, hfz76_5, hfz76_6, hfz76_7, hfz76_8, hfz76_9⟩ := cz10 BK207.out
                        go_wp2
                        go_meet
                        case rel => exact ⟨_, (decide ((l0_9.length : Int) > 0)), (by first | rfl | (simp; done) | (simp [*]; done)), H', ⟨by have := HJ2.out; have := HJ8.out; first | omega | exact Nat.le_refl _⟩, ⟨by (with_reducible repeat (first | refine blk_drewN ?_ _ | refine blk_drew ?_ | refine blk_alloc ?_ _)); exact BK207.out⟩, ⟨by repeat (first | (with_reducible first | exact HB.out | apply below_alloc | apply pw_below_drewN | apply below_drew1 | refine below_set ?_ GE207.out) | exact HB.out)⟩⟩
                  · rw [if_neg c71] at H
                    have c71b0 : (a0_5 == 0) = false := beq_eq_false_iff_ne.mpr c71
                    have c71b1 : (a0_5 != 0) = true := bne_iff_ne.mpr c71
                    have H' := Aside0.mk H
                    clear H
                    obtain ⟨⟨hcz77_0, hcz77_1, hcz77_2, hcz77_3, hcz77_4, hcz77_5, hcz77_6, hcz77_7, hcz77_8, hcz77_9⟩, hfz77_0, hfz77_1, hfz77_2, hfz77_3, hfz77_4, hfz77_5, hfz77_6, hfz77_7, hfz77_8, hfz77_9⟩ := cz10 BK207.out
                    go_wp2
                    go_meet
                    case rel => exact ⟨_, (true), (by first | rfl | (simp; done) | (simp [*]; done)), H', ⟨by have := HJ2.out; have := HJ8.out; first | omega | exact Nat.le_refl _⟩, ⟨by (with_reducible repeat (first | refine blk_drewN ?_ _ | refine blk_drew ?_ | refine blk_alloc ?_ _)); exact BK207.out⟩, ⟨by repeat (first | (with_reducible first | exact HB.out | apply below_alloc | apply pw_below_drewN | apply below_drew1 | refine below_set ?_ GE207.out) | exact HB.out)⟩⟩
              · rw [if_neg c64] at H
                have c64b0 : (a0_4 == 0) = false := beq_eq_false_iff_ne.mpr c64
                have c64b1 : (a0_4 != 0) = true := bne_iff_ne.mpr c64
                have H' := Aside0.mk H
                clear H
                obtain ⟨⟨hcz78_0, hcz78_1, hcz78_2, hcz78_3, hcz78_4, hcz78_5, hcz78_6, hcz78_7, hcz78_8, hcz78_9⟩, hfz78_0, hfz78_1, hfz78_2, hfz78_3, hfz78_4, hfz78_5, hfz78_6, hfz78_7, hfz78_8, hfz78_9⟩ := cz10 BK207.out
                go_wp2
                go_meet
                case rel => exact ⟨_, (true), (by first | rfl | (simp; done) | (simp [*]; done)), H', ⟨by have := HJ2.out; have := HJ8.out; first | omega | exact Nat.le_refl _⟩, ⟨by (with_reducible repeat (first | refine blk_drewN ?_ _ | refine blk_drew ?_ | refine blk_alloc ?_ _)); exact BK207.out⟩, ⟨by repeat (first | (with_reducible first | exact HB.out | apply below_alloc | apply pw_below_drewN | apply below_drew1 | refine below_set ?_ GE207.out) | exact HB.out)⟩⟩
       case rest =>
        clear HC15
        try clear c1
        try clear p2
        try clear c3
        try clear c4
        try clear c5
        try clear c6
        try clear c7
        try clear c16
        try clear c33
        try clear c33b0
        try clear c33b1
        try clear c40
        try clear c40b0
        try clear c40b1
        try clear c48
        try clear c48b0
        try clear c48b1
        try clear c50
        try clear c50b0
        try clear c50b1
        try clear c51
        try clear c52
        try clear c52b0
        try clear c52b1
        try clear c54
        try clear c54b0
        try clear c54b1
        try clear c57
        try clear c57b0
        try clear c57b1
        try clear c58
        try clear c58b0
        try clear c58b1
        try clear c60
        try clear c60b0
        try clear c60b1
        try clear c64
        try clear c64b0
        try clear c64b1
        try clear c65
        try clear c66
        try clear c66b0
        try clear c66b1
        try clear c68
        try clear c68b0
        try clear c68b1
        try clear c71
        try clear c71b0
        try clear c71b1
        try clear c72
        try clear c72b0
        try clear c72b1
        try clear c74
        try clear c74b0
        try clear c74b1
        try clear hcz46_0 hcz46_1 hcz46_2 hcz46_3 hcz46_4 hcz46_5 hcz46_6 hcz46_7 hcz46_8 hcz46_9 hfz46_0 hfz46_1 hfz46_2 hfz46_3 hfz46_4 hfz46_5 hfz46_6 hfz46_7 hfz46_8 hfz46_9
        try clear hcz47_0 hcz47_1 hcz47_2 hcz47_3 hcz47_4 hcz47_5 hcz47_6 hcz47_7 hcz47_8 hcz47_9 hfz47_0 hfz47_1 hfz47_2 hfz47_3 hfz47_4 hfz47_5 hfz47_6 hfz47_7 hfz47_8 hfz47_9
        try clear hcz49_0 hcz49_1 hcz49_2 hcz49_3 hcz49_4 hcz49_5 hcz49_6 hcz49_7 hcz49_8 hcz49_9 hfz49_0 hfz49_1 hfz49_2 hfz49_3 hfz49_4 hfz49_5 hfz49_6 hfz49_7 hfz49_8 hfz49_9
        try clear hcz53_0 hcz53_1 hcz53_2 hcz53_3 hcz53_4 hcz53_5 hcz53_6 hcz53_7 hcz53_8 hcz53_9 hfz53_0 hfz53_1 hfz53_2 hfz53_3 hfz53_4 hfz53_5 hfz53_6 hfz53_7 hfz53_8 hfz53_9
        try clear hcz55_0 hcz55_1 hcz55_2 hcz55_3 hcz55_4 hcz55_5 hcz55_6 hcz55_7 hcz55_8 hcz55_9 hfz55_0 hfz55_1 hfz55_2 hfz55_3 hfz55_4 hfz55_5 hfz55_6 hfz55_7 hfz55_8 hfz55_9
        try clear hcz56_0 hcz56_1 hcz56_2 hcz56_3 hcz56_4 hcz56_5 hcz56_6 hcz56_7 hcz56_8 hcz56_9 hfz56_0 hfz56_1 hfz56_2 hfz56_3 hfz56_4 hfz56_5 hfz56_6 hfz56_7 hfz56_8 hfz56_9
        try clear hcz59_0 hcz59_1 hcz59_2 hcz59_3 hcz59_4 hcz59_5 hcz59_6 hcz59_7 hcz59_8 hcz59_9 hfz59_0 hfz59_1 hfz59_2 hfz59_3 hfz59_4 hfz59_5 hfz59_6 hfz59_7 hfz59_8 hfz59_9
        try clear hcz61_0 hcz61_1 hcz61_2 hcz61_3 hcz61_4 hcz61_5 hcz61_6 hcz61_7 hcz61_8 hcz61_9 hfz61_0 hfz61_1 hfz61_2 hfz61_3 hfz61_4 hfz61_5 hfz61_6 hfz61_7 hfz61_8 hfz61_9
        try clear hcz62_0 hcz62_1 hcz62_2 hcz62_3 hcz62_4 hcz62_5 hcz62_6 hcz62_7 hcz62_8 hcz62_9 hfz62_0 hfz62_1 hfz62_2 hfz62_3 hfz62_4 hfz62_5 hfz62_6 hfz62_7 hfz62_8 hfz62_9
        try clear hcz63_0 hcz63_1 hcz63_2 hcz63_3 hcz63_4 hcz63_5 hcz63_6 hcz63_7 hcz63_8 hcz63_9 hfz63_0 hfz63_1 hfz63_2 hfz63_3 hfz63_4 hfz63_5 hfz63_6 hfz63_7 hfz63_8 hfz63_9
        try clear hcz67_0 hcz67_1 hcz67_2 hcz67_3 hcz67_4 hcz67_5 hcz67_6 hcz67_7 hcz67_8 hcz67_9 hfz67_0 hfz67_1 hfz67_2 hfz67_3 hfz67_4 hfz67_5 hfz67_6 hfz67_7 hfz67_8 hfz67_9
        try clear hcz69_0 hcz69_1 hcz69_2 hcz69_3 hcz69_4 hcz69_5 hcz69_6 hcz69_7 hcz69_8 hcz69_9 hfz69_0 hfz69_1 hfz69_2 hfz69_3 hfz69_4 hfz69_5 hfz69_6 hfz69_7 hfz69_8 hfz69_9
        try clear hcz70_0 hcz70_1 hcz70_2 hcz70_3 hcz70_4 hcz70_5 hcz70_6 hcz70_7 hcz70_8 hcz70_9 hfz70_0 hfz70_1 hfz70_2 hfz70_3 hfz70_4 hfz70_5 hfz70_6 hfz70_7 hfz70_8 hfz70_9
        try clear hcz73_0 hcz73_1 hcz73_2 hcz73_3 hcz73_4 hcz73_5 hcz73_6 hcz73_7 hcz73_8 hcz73_9 hfz73_0 hfz73_1 hfz73_2 hfz73_3 hfz73_4 hfz73_5 hfz73_6 hfz73_7 hfz73_8 hfz73_9
        try clear hcz75_0 hcz75_1 hcz75_2 hcz75_3 hcz75_4 hcz75_5 hcz75_6 hcz75_7 hcz75_8 hcz75_9 hfz75_0 hfz75_1 hfz75_2 hfz75_3 hfz75_4 hfz75_5 hfz75_6 hfz75_7 hfz75_8 hfz75_9
        try clear hcz76_0 hcz76_1 hcz76_2 hcz76_3 hcz76_4 hcz76_5 hcz76_6 hcz76_7 hcz76_8 hcz76_9 hfz76_0 hfz76_1 hfz76_2 hfz76_3 hfz76_4 hfz76_5 hfz76_6 hfz76_7 hfz76_8 hfz76_9
        try clear hcz77_0 hcz77_1 hcz77_2 hcz77_3 hcz77_4 hcz77_5 hcz77_6 hcz77_7 hcz77_8 hcz77_9 hfz77_0 hfz77_1 hfz77_2 hfz77_3 hfz77_4 hfz77_5 hfz77_6 hfz77_7 hfz77_8 hfz77_9
        try clear hcz78_0 hcz78_1 hcz78_2 hcz78_3 hcz78_4 hcz78_5 hcz78_6 hcz78_7 hcz78_8 hcz78_9 hfz78_0 hfz78_1 hfz78_2 hfz78_3 hfz78_4 hfz78_5 hfz78_6 hfz78_7 hfz78_8 hfz78_9
        obtain ⟨kq, x86_14, rfl, HA, HJ14, BK207, HB⟩ := hcut
        cases kq with
        | zero => exact absurd HA.out (by simp [marlineref15_Put.j2])
        | succ kj14 =>
         have H := HA.out
         clear HA
         simp only [marlineref15_Put.j2] at H
         by_cases c79 : x86_14 = true
         · subst c79
           have H1 : (some (([] : List Int), 9)) = some (r1, r2) := by rw [if_pos rfl] at H; exact H
           clear H
           have H := H1
           clear H1
           simp only [Option.some.injEq, Prod.mk.injEq] at H
           obtain ⟨rfl, rfl⟩ := H
           go_wp2
           go_ret2
           exact ⟨_, by first | rfl | (simp [errW_none, errW_some] <;> rfl) | (simp [*, errW_none, errW_some] <;> rfl), by first | exact Kd.R_nil _ _ _ _ _ | exact Kd.N_nil _ _ _ _ _ | exact Kd.V_nil _ _ _ _ _ | exact Kd.Q_nil _ _ _ _ _ | exact Kd.S_nil _ _ _ _ _, by repeat (first | (with_reducible first | exact HB.out | apply below_alloc | apply pw_below_drewN | apply below_drew1 | refine below_set ?_ GE207.out) | exact HB.out)⟩
         · replace c79 := Bool.eq_false_iff.mpr c79
           subst c79
           have H1 : (if x4_2 = true then ((marlineref14_Put.f kj14 49185 l0_3).bind fun bt208 => (if bt208.2 = 0 then ((marlineref13_Put.f a0_1 a0_2 bt208.1).bind fun bt212 => (some (bt212.1, bt212.2))) else (some (([] : List Int), bt208.2)))) else (if a0_1 = 8 then ((marlineref15_Number.f kj14 (wrap64 (a0_4)) 2).bind fun t219 => (marlineref15_Put.j3 kj14 x5_8 t219 a0_0 a0_1 a0_2 l0_3 a0_4 a0_5 l0_6 l0_7 l0_8 l0_9)) else (marlineref15_Put.j3 kj14 x5_8 (([] : List Int)) a0_0 a0_1 a0_2 l0_3 a0_4 a0_5 l0_6 l0_7 l0_8 l0_9))) = some (r1, r2) := by rw [if_neg (show ¬ (false = true) by decide)] at H; exact H
           clear H
           have H := H1
           clear H1
           by_cases c80 : x4_2 = true
           · subst c80
             have H1 : ((marlineref14_Put.f kj14 49185 l0_3).bind fun bt208 => (if bt208.2 = 0 then ((marlineref13_Put.f a0_1 a0_2 bt208.1).bind fun bt212 => (some (bt212.1, bt212.2))) else (some (([] : List Int), bt208.2)))) = some (r1, r2) := by rw [if_pos rfl] at H; exact H
             clear H
             have H := H1
             clear H1
             replace H := Option.bind_eq_some_iff.mp H
             obtain ⟨⟨t208, t209⟩, A810, H⟩ := H
             replace H : (if t209 = 0 then ((marlineref13_Put.f a0_1 a0_2 t208).bind fun bt212 => (some (bt212.1, bt212.2))) else (some (([] : List Int), t209))) = some (r1, r2) := H
             have A81 := Aside0.mk A810
             clear A810
             by_cases c82 : t209 = 0
             · rw [if_pos c82] at H
               have c82b0 : (t209 == 0) = true := beq_iff_eq.mpr c82
               have c82b1 : (t209 != 0) = false := bne_eq_false_iff_eq.mpr c82
               clear c82
               replace H := Option.bind_eq_some_iff.mp H
               obtain ⟨⟨t212, t213⟩, A830, H⟩ := H
               replace H : (some (t212, t213)) = some (r1, r2) := H
               have A83 := Aside0.mk A830
               clear A830
               simp only [Option.some.injEq, Prod.mk.injEq] at H
               obtain ⟨rfl, rfl⟩ := H
               obtain ⟨⟨hcz84_0, hcz84_1, hcz84_2, hcz84_3, hcz84_4, hcz84_5, hcz84_6, hcz84_7, hcz84_8, hcz84_9⟩, hfz84_0, hfz84_1, hfz84_2, hfz84_3, hfz84_4, hfz84_5, hfz84_6, hfz84_7, hfz84_8, hfz84_9⟩ := cz10 BK207.out
               go_wp2_with (first | ((with_reducible refine gate_callee (f := 15) rfl ?_); refine goesL_ (some 91) rfl rfl Tryd.func15 (by kernel_rfl) rfl #[.int .i64 49185, .slice A0_3 l0_3.length c0_3] rfl (by (try simp only [List.map_toArray, List.map_cons, List.map_nil]); first | done | rfl | (simp only [List.length_drop, List.length_take]; rfl)) ?_; (with_reducible refine (marlineref14_Put.calls kj14 49185 _ _ l0_3 t208 t209 _ ?side1 ?side2 A81.out).mono ?_); (case side1 => repeat (first | exact (Kd.C_below HR0_3.out HB.out) | (with_reducible refine Kd.C_alloc ?_ _) | (with_reducible refine Kd.C_drewN ?_ _) | (with_reducible refine Kd.C_drew ?_))); (case side2 => exact HC0_3.out); rintro e w85 ⟨v210, rfl, ho0, hb⟩; refine ⟨_, rfl, ?_⟩; have n0_ := Aside0.mk (Kd.R_lower ho0 (below_size (by repeat (first | (with_reducible first | exact HB.out | apply below_alloc | apply pw_below_drewN | apply below_drew1 | refine below_set ?_ GE207.out) | exact HB.out)))); have n1_ := Aside0.mk (blk_below (g := gb207) (o := .cells #[.int .u16 a0_0, .int .u8 a0_1, .int .u8 a0_2, .slice A0_3 l0_3.length c0_3, .int .u16 a0_4, .int .u32 a0_5, .slice A0_6 l0_6.length c0_6, .slice A0_7 l0_7.length c0_7, .slice A0_8 l0_8.length c0_8, .slice A0_9 l0_9.length c0_9] 28 (0, 0)) (by (with_reducible repeat (first | refine blk_drewN ?_ _ | refine blk_drew ?_ | refine blk_alloc ?_ _)); exact BK207.out) hb); have n2_ := Aside0.mk (below_step (by repeat (first | (with_reducible first | exact HB.out | apply below_alloc | apply pw_below_drewN | apply below_drew1 | refine below_set ?_ GE207.out) | exact HB.out)) hb); clear BK207; clear HB; have HO211 := n0_; have BK207 := n1_; have HB := n2_; clear n0_ n1_ n2_; (try clear hb); (try clear hb2); (try clear hk); (try clear hi); (try clear ho0); obtain ⟨⟨hcz86_0, hcz86_1, hcz86_2, hcz86_3, hcz86_4, hcz86_5, hcz86_6, hcz86_7, hcz86_8, hcz86_9⟩, hfz86_0, hfz86_1, hfz86_2, hfz86_3, hfz86_4, hfz86_5, hfz86_6, hfz86_7, hfz86_8, hfz86_9⟩ := cz10 BK207.out; obtain ⟨Ao87, co87, eo87⟩ := Kd.R_slice HO211.out; subst eo87) | ((with_reducible refine gate_callee (f := 16) rfl ?_); refine goesL_ (some 102) rfl rfl Tryd.func16 (by kernel_rfl) rfl #[.int .u8 a0_1, .int .u8 a0_2, .slice Ao87 t208.length co87] rfl (by (try simp only [List.map_toArray, List.map_cons, List.map_nil]); first | done | rfl | (simp only [List.length_drop, List.length_take]; rfl)) ?_; (with_reducible refine (marlineref13_Put.calls a0_1 a0_2 _ _ t208 t212 t213 _ ?side1 ?side2 A83.out).mono ?_); (case side1 => repeat (first | exact (Kd.R_reads' HO211.out).2.2 | (with_reducible refine Kd.C_alloc ?_ _) | (with_reducible refine Kd.C_drewN ?_ _) | (with_reducible refine Kd.C_drew ?_))); (case side2 => exact (Kd.R_reads' HO211.out).2.1); rintro e w88 ⟨v214, rfl, ho0, hb⟩; refine ⟨_, rfl, ?_⟩; have n0_ := Aside0.mk (Kd.R_elder' (by (with_reducible repeat (first | apply Kd.R_alloc | apply Kd.R_drewN | apply Kd.R_drew)); exact HO211.out) (Kd.R_base ho0) hb); have n1_ := Aside0.mk (Kd.R_lower (Kd.R_new' ho0 (Kd.R_lt (by (with_reducible repeat (first | apply Kd.R_alloc | apply Kd.R_drewN | apply Kd.R_drew)); exact HO211.out))) (below_size (by repeat (first | (with_reducible first | exact HB.out | apply below_alloc | apply pw_below_drewN | apply below_drew1 | refine below_set ?_ GE207.out) | exact HB.out)))); have n2_ := Aside0.mk (blk_below (g := gb207) (o := .cells #[.int .u16 a0_0, .int .u8 a0_1, .int .u8 a0_2, .slice A0_3 l0_3.length c0_3, .int .u16 a0_4, .int .u32 a0_5, .slice A0_6 l0_6.length c0_6, .slice A0_7 l0_7.length c0_7, .slice A0_8 l0_8.length c0_8, .slice A0_9 l0_9.length c0_9] 28 (0, 0)) (by (with_reducible repeat (first | refine blk_drewN ?_ _ | refine blk_drew ?_ | refine blk_alloc ?_ _)); exact BK207.out) hb); have n3_ := Aside0.mk (below_step (by repeat (first | (with_reducible first | exact HB.out | apply below_alloc | apply pw_below_drewN | apply below_drew1 | refine below_set ?_ GE207.out) | exact HB.out)) hb); clear HO211; clear BK207; clear HB; have HO211 := n0_; have HO215 := n1_; have BK207 := n2_; have HB := n3_; clear n0_ n1_ n2_ n3_; (try clear hb); (try clear hb2); (try clear hk); (try clear hi); (try clear ho0)))
               go_ret2
               exact ⟨_, by first | rfl | (simp [errW_none, errW_some] <;> rfl) | (simp [*, errW_none, errW_some] <;> rfl), by (with_reducible repeat (first | apply Kd.R_alloc | apply Kd.R_drewN | apply Kd.R_drew)); exact Kd.R_mono HO215.out (fun _ hk => trivial), by repeat (first | (with_reducible first | exact HB.out | apply below_alloc | apply pw_below_drewN | apply below_drew1 | refine below_set ?_ GE207.out) | exact HB.out)⟩
             · rw [if_neg c82] at H
               have c82b0 : (t209 == 0) = false := beq_eq_false_iff_ne.mpr c82
               have c82b1 : (t209 != 0) = true := bne_iff_ne.mpr c82
               simp only [Option.some.injEq, Prod.mk.injEq] at H
               obtain ⟨rfl, rfl⟩ := H
               obtain ⟨⟨hcz89_0, hcz89_1, hcz89_2, hcz89_3, hcz89_4, hcz89_5, hcz89_6, hcz89_7, hcz89_8, hcz89_9⟩, hfz89_0, hfz89_1, hfz89_2, hfz89_3, hfz89_4, hfz89_5, hfz89_6, hfz89_7, hfz89_8, hfz89_9⟩ := cz10 BK207.out
               go_wp2_with (first | ((with_reducible refine gate_callee (f := 15) rfl ?_); refine goesL_ (some 91) rfl rfl Tryd.func15 (by kernel_rfl) rfl #[.int .i64 49185, .slice A0_3 l0_3.length c0_3] rfl (by (try simp only [List.map_toArray, List.map_cons, List.map_nil]); first | done | rfl | (simp only [List.length_drop, List.length_take]; rfl)) ?_; (with_reducible refine (marlineref14_Put.calls kj14 49185 _ _ l0_3 t208 t209 _ ?side1 ?side2 A81.out).mono ?_); (case side1 => repeat (first | exact (Kd.C_below HR0_3.out HB.out) | (with_reducible refine Kd.C_alloc ?_ _) | (with_reducible refine Kd.C_drewN ?_ _) | (with_reducible refine Kd.C_drew ?_))); (case side2 => exact HC0_3.out); rintro e w90 ⟨v210, rfl, ho0, hb⟩; refine ⟨_, rfl, ?_⟩; have n0_ := Aside0.mk (Kd.R_lower ho0 (below_size (by repeat (first | (with_reducible first | exact HB.out | apply below_alloc | apply pw_below_drewN | apply below_drew1 | refine below_set ?_ GE207.out) | exact HB.out)))); have n1_ := Aside0.mk (blk_below (g := gb207) (o := .cells #[.int .u16 a0_0, .int .u8 a0_1, .int .u8 a0_2, .slice A0_3 l0_3.length c0_3, .int .u16 a0_4, .int .u32 a0_5, .slice A0_6 l0_6.length c0_6, .slice A0_7 l0_7.length c0_7, .slice A0_8 l0_8.length c0_8, .slice A0_9 l0_9.length c0_9] 28 (0, 0)) (by (with_reducible repeat (first | refine blk_drewN ?_ _ | refine blk_drew ?_ | refine blk_alloc ?_ _)); exact BK207.out) hb); have n2_ := Aside0.mk (below_step (by repeat (first | (with_reducible first | exact HB.out | apply below_alloc | apply pw_below_drewN | apply below_drew1 | refine below_set ?_ GE207.out) | exact HB.out)) hb); clear BK207; clear HB; have HO211 := n0_; have BK207 := n1_; have HB := n2_; clear n0_ n1_ n2_; (try clear hb); (try clear hb2); (try clear hk); (try clear hi); (try clear ho0)))
               go_ret2
               exact ⟨_, by first | rfl | (simp [errW_none, errW_some] <;> rfl) | (simp [*, errW_none, errW_some] <;> rfl), by first | exact Kd.R_nil _ _ _ _ _ | exact Kd.N_nil _ _ _ _ _ | exact Kd.V_nil _ _ _ _ _ | exact Kd.Q_nil _ _ _ _ _ | exact Kd.S_nil _ _ _ _ _, by repeat (first | (with_reducible first | exact HB.out | apply below_alloc | apply pw_below_drewN | apply below_drew1 | refine below_set ?_ GE207.out) | exact HB.out)⟩
           · replace c80 := Bool.eq_false_iff.mpr c80
             subst c80
             have H1 : (if a0_1 = 8 then ((marlineref15_Number.f kj14 (wrap64 (a0_4)) 2).bind fun t219 => (marlineref15_Put.j3 kj14 x5_8 t219 a0_0 a0_1 a0_2 l0_3 a0_4 a0_5 l0_6 l0_7 l0_8 l0_9)) else (marlineref15_Put.j3 kj14 x5_8 (([] : List Int)) a0_0 a0_1 a0_2 l0_3 a0_4 a0_5 l0_6 l0_7 l0_8 l0_9)) = some (r1, r2) := by rw [if_neg (show ¬ (false = true) by decide)] at H; exact H
             clear H
             have H := H1
             clear H1
             obtain ⟨y216, hy216⟩ : ∃ y_ : List Int, y_ = (([] : List Int)) := ⟨_, rfl⟩
             replace H : (if a0_1 = 8 then ((marlineref15_Number.f kj14 (wrap64 (a0_4)) 2).bind fun t219 => (marlineref15_Put.j3 kj14 x5_8 t219 a0_0 a0_1 a0_2 l0_3 a0_4 a0_5 l0_6 l0_7 l0_8 l0_9)) else (marlineref15_Put.j3 kj14 x5_8 y216 a0_0 a0_1 a0_2 l0_3 a0_4 a0_5 l0_6 l0_7 l0_8 l0_9)) = some (r1, r2) := by first | (rw [hy216]; with_reducible exact H) | (have H2_ := (Option.bind_some _ _).symm.trans H; rw [hy216]; with_reducible exact H2_) | (have H2_ := (Option.bind_some _ _).symm.trans H; with_reducible exact H2_) | with_reducible exact H | (rw [hy216]; exact H) | exact H
             have Ny216 := Aside0.mk hy216
             clear hy216
             have HC91 := Aside0.mk H
             clear H
             go_upto_if 108 with (first | ((with_reducible refine gate_dst (N := 105) rfl ?_); (try (refine gate_guard (by rfl) ?_; dsimp only)); refine Kd.R_lit (Kd.int .u8) _ 5 ?hg (N := 105) ?hd (xs := ([] : List Int)) (inner := []) (ok := fun _ => True) (okp := fun _ => True) ?hr ?hp (fun _ hk => hk) trivial (Below.refl _ _) (Nat.le_refl _) (by simp) ?_; (case hd => rfl); (case hg => rfl); (case hr => first | (go_simp; done) | (go_simp; simp only [IntKind.wrap_u8, IntKind.wrap_u16, IntKind.wrap_u32, IntKind.wrap_u64]; done) | (go_simp; simp only [IntKind.wrap_u8, IntKind.wrap_u16, IntKind.wrap_u32, IntKind.wrap_u64, Int.tmod_eq_emod_of_nonneg (Int.natCast_nonneg _), Int.emod_emod]; done) | (go_simp; rfl)); (case hp => exact (Reps.none _ _)); intro v217 w92 ho93 hb hg_ hnew_; clear hg_ hnew_; (first | rw [← Ny216.out] at ho93 | (simp only [Int.reduceToNat] at ho93; rw [← Ny216.out] at ho93)); have n0_ := Aside0.mk (Kd.R_lower ho93 (below_size (by repeat (first | (with_reducible first | exact HB.out | apply below_alloc | apply pw_below_drewN | apply below_drew1 | refine below_set ?_ GE207.out) | exact HB.out)))); have n1_ := Aside0.mk (blk_below (g := gb207) (o := .cells #[.int .u16 a0_0, .int .u8 a0_1, .int .u8 a0_2, .slice A0_3 l0_3.length c0_3, .int .u16 a0_4, .int .u32 a0_5, .slice A0_6 l0_6.length c0_6, .slice A0_7 l0_7.length c0_7, .slice A0_8 l0_8.length c0_8, .slice A0_9 l0_9.length c0_9] 28 (0, 0)) (by (with_reducible repeat (first | refine blk_drewN ?_ _ | refine blk_drew ?_ | refine blk_alloc ?_ _)); exact BK207.out) hb); have n2_ := Aside0.mk (below_step (by repeat (first | (with_reducible first | exact HB.out | apply below_alloc | apply pw_below_drewN | apply below_drew1 | refine below_set ?_ GE207.out) | exact HB.out)) hb); clear BK207; clear HB; have HO218 := n0_; have BK207 := n1_; have HB := n2_; clear n0_ n1_ n2_; clear hb ho93; obtain ⟨⟨hcz94_0, hcz94_1, hcz94_2, hcz94_3, hcz94_4, hcz94_5, hcz94_6, hcz94_7, hcz94_8, hcz94_9⟩, hfz94_0, hfz94_1, hfz94_2, hfz94_3, hfz94_4, hfz94_5, hfz94_6, hfz94_7, hfz94_8, hfz94_9⟩ := cz10 BK207.out))
             (try simp only [Act.put, List.setIfInBounds_toArray, List.set_cons_zero, List.set_cons_succ])
             go_cut [8] (fun v8 wc => ∃ (kq : Nat) (x8_90 : List Int), Aside0 (marlineref15_Put.j3 kq x5_8 x8_90 a0_0 a0_1 a0_2 l0_3 a0_4 a0_5 l0_6 l0_7 l0_8 l0_9 = some (r1, r2)) ∧ Aside0 (kq ≤ kj14) ∧ Aside0 (Kd.R (Kd.int .u8) 5 wc w.heap.size (fun _ => True) v8 x8_90) ∧ Aside0 (wc.heap[gb207]? = some (.cells #[.int .u16 a0_0, .int .u8 a0_1, .int .u8 a0_2, (.slice A0_3 l0_3.length c0_3), .int .u16 a0_4, .int .u32 a0_5, (.slice A0_6 l0_6.length c0_6), (.slice A0_7 l0_7.length c0_7), (.slice A0_8 l0_8.length c0_8), (.slice A0_9 l0_9.length c0_9)] 28 (0, 0))) ∧ Aside0 (Below w.heap.size w wc))
             case first =>
              have H := HC91.out
              clear HC91
              by_cases c95 : a0_1 = 8
              · rw [if_pos c95] at H
                have c95b0 : (a0_1 == 8) = true := beq_iff_eq.mpr c95
                have c95b1 : (a0_1 != 8) = false := bne_eq_false_iff_eq.mpr c95
                clear c95
                (first | rw [c95b0] | (simp only [i64_w, i32_w]; rw [c95b0]) | skip)
                replace H := Option.bind_eq_some_iff.mp H
                obtain ⟨t219, A960, H⟩ := H
                replace H : (marlineref15_Put.j3 kj14 x5_8 t219 a0_0 a0_1 a0_2 l0_3 a0_4 a0_5 l0_6 l0_7 l0_8 l0_9) = some (r1, r2) := H
                have A96 := Aside0.mk A960
                clear A960
                have H' := Aside0.mk H
                clear H
                obtain ⟨⟨hcz97_0, hcz97_1, hcz97_2, hcz97_3, hcz97_4, hcz97_5, hcz97_6, hcz97_7, hcz97_8, hcz97_9⟩, hfz97_0, hfz97_1, hfz97_2, hfz97_3, hfz97_4, hfz97_5, hfz97_6, hfz97_7, hfz97_8, hfz97_9⟩ := cz10 BK207.out
                go_wp2_with (first | ((with_reducible refine gate_callee (f := 17) rfl ?_); refine goesL_ (some 112) rfl rfl Tryd.func17 (by kernel_rfl) rfl #[.int .i64 (wrap64 (a0_4)), .int .i64 2] rfl (by (try simp only [List.map_toArray, List.map_cons, List.map_nil]); first | done | rfl | (simp only [List.length_drop, List.length_take]; rfl)) ?_; (with_reducible refine (marlineref15_Number.calls kj14 (wrap64 (a0_4)) 2 t219 _ A96.out).mono ?_); rintro e w98 ⟨v220, rfl, ho0, hb⟩; refine ⟨_, rfl, ?_⟩; have n0_ := Aside0.mk (Kd.R_elder' (by (with_reducible repeat (first | apply Kd.R_alloc | apply Kd.R_drewN | apply Kd.R_drew)); exact HO218.out) (Kd.R_base ho0) hb); have n1_ := Aside0.mk (Kd.R_lower (Kd.R_new' ho0 (Kd.R_lt (by (with_reducible repeat (first | apply Kd.R_alloc | apply Kd.R_drewN | apply Kd.R_drew)); exact HO218.out))) (below_size (by repeat (first | (with_reducible first | exact HB.out | apply below_alloc | apply pw_below_drewN | apply below_drew1 | refine below_set ?_ GE207.out) | exact HB.out)))); have n2_ := Aside0.mk (blk_below (g := gb207) (o := .cells #[.int .u16 a0_0, .int .u8 a0_1, .int .u8 a0_2, .slice A0_3 l0_3.length c0_3, .int .u16 a0_4, .int .u32 a0_5, .slice A0_6 l0_6.length c0_6, .slice A0_7 l0_7.length c0_7, .slice A0_8 l0_8.length c0_8, .slice A0_9 l0_9.length c0_9] 28 (0, 0)) (by (with_reducible repeat (first | refine blk_drewN ?_ _ | refine blk_drew ?_ | refine blk_alloc ?_ _)); exact BK207.out) hb); have n3_ := Aside0.mk (below_step (by repeat (first | (with_reducible first | exact HB.out | apply below_alloc | apply pw_below_drewN | apply below_drew1 | refine below_set ?_ GE207.out) | exact HB.out)) hb); clear HO218; clear BK207; clear HB; have HO218 := n0_; have HO221 := n1_; have BK207 := n2_; have HB := n3_; clear n0_ n1_ n2_ n3_; (try clear hb); (try clear hb2); (try clear hk); (try clear hi); (try clear ho0)))
                go_meet
                case rel => exact ⟨_, (t219), H', ⟨by have := HJ2.out; have := HJ8.out; have := HJ14.out; first | omega | exact Nat.le_refl _⟩, ⟨by (with_reducible repeat (first | apply Kd.R_alloc | apply Kd.R_drewN | apply Kd.R_drew)); exact Kd.R_mono HO221.out (fun _ hk => trivial)⟩, ⟨by (with_reducible repeat (first | refine blk_drewN ?_ _ | refine blk_drew ?_ | refine blk_alloc ?_ _)); exact BK207.out⟩, ⟨by repeat (first | (with_reducible first | exact HB.out | apply below_alloc | apply pw_below_drewN | apply below_drew1 | refine below_set ?_ GE207.out) | exact HB.out)⟩⟩
              · rw [if_neg c95] at H
                have c95b0 : (a0_1 == 8) = false := beq_eq_false_iff_ne.mpr c95
                have c95b1 : (a0_1 != 8) = true := bne_iff_ne.mpr c95
                (first | rw [c95b0] | (simp only [i64_w, i32_w]; rw [c95b0]) | skip)
                have H' := Aside0.mk H
                clear H
                go_wp2
                go_meet
                case rel => exact ⟨_, (y216), H', ⟨by have := HJ2.out; have := HJ8.out; have := HJ14.out; first | omega | exact Nat.le_refl _⟩, ⟨by (with_reducible repeat (first | apply Kd.R_alloc | apply Kd.R_drewN | apply Kd.R_drew)); exact HO218.out⟩, ⟨by (with_reducible repeat (first | refine blk_drewN ?_ _ | refine blk_drew ?_ | refine blk_alloc ?_ _)); exact BK207.out⟩, ⟨by repeat (first | (with_reducible first | exact HB.out | apply below_alloc | apply pw_below_drewN | apply below_drew1 | refine below_set ?_ GE207.out) | exact HB.out)⟩⟩
             case rest =>
              clear HC91
              try clear c1
              try clear p2
              try clear c3
              try clear c4
              try clear c5
              try clear c6
              try clear p6
              try clear c7
              try clear c8
              try clear c9
              try clear c15
              try clear c16
              try clear c17
              try clear c33
              try clear c33b0
              try clear c33b1
              try clear c40
              try clear c40b0
              try clear c40b1
              try clear c48
              try clear c48b0
              try clear c48b1
              try clear c50
              try clear c50b0
              try clear c50b1
              try clear c51
              try clear c52
              try clear c52b0
              try clear c52b1
              try clear c54
              try clear c54b0
              try clear c54b1
              try clear c57
              try clear c57b0
              try clear c57b1
              try clear c58
              try clear c58b0
              try clear c58b1
              try clear c60
              try clear c60b0
              try clear c60b1
              try clear c64
              try clear c64b0
              try clear c64b1
              try clear p64
              try clear c65
              try clear c66
              try clear c66b0
              try clear c66b1
              try clear c68
              try clear c68b0
              try clear c68b1
              try clear c71
              try clear c71b0
              try clear c71b1
              try clear c72
              try clear c72b0
              try clear c72b1
              try clear c74
              try clear c74b0
              try clear c74b1
              try clear c79
              try clear c80
              try clear c82
              try clear c82b0
              try clear c82b1
              try clear c95
              try clear c95b0
              try clear c95b1
              try clear hcz46_0 hcz46_1 hcz46_2 hcz46_3 hcz46_4 hcz46_5 hcz46_6 hcz46_7 hcz46_8 hcz46_9 hfz46_0 hfz46_1 hfz46_2 hfz46_3 hfz46_4 hfz46_5 hfz46_6 hfz46_7 hfz46_8 hfz46_9
              try clear hcz47_0 hcz47_1 hcz47_2 hcz47_3 hcz47_4 hcz47_5 hcz47_6 hcz47_7 hcz47_8 hcz47_9 hfz47_0 hfz47_1 hfz47_2 hfz47_3 hfz47_4 hfz47_5 hfz47_6 hfz47_7 hfz47_8 hfz47_9
              try clear hcz49_0 hcz49_1 hcz49_2 hcz49_3 hcz49_4 hcz49_5 hcz49_6 hcz49_7 hcz49_8 hcz49_9 hfz49_0 hfz49_1 hfz49_2 hfz49_3 hfz49_4 hfz49_5 hfz49_6 hfz49_7 hfz49_8 hfz49_9
              try clear hcz53_0 hcz53_1 hcz53_2 hcz53_3 hcz53_4 hcz53_5 hcz53_6 hcz53_7 hcz53_8 hcz53_9 hfz53_0 hfz53_1 hfz53_2 hfz53_3 hfz53_4 hfz53_5 hfz53_6 hfz53_7 hfz53_8 hfz53_9
              try clear hcz55_0 hcz55_1 hcz55_2 hcz55_3 hcz55_4 hcz55_5 hcz55_6 hcz55_7 hcz55_8 hcz55_9 hfz55_0 hfz55_1 hfz55_2 hfz55_3 hfz55_4 hfz55_5 hfz55_6 hfz55_7 hfz55_8 hfz55_9
              try clear hcz56_0 hcz56_1 hcz56_2 hcz56_3 hcz56_4 hcz56_5 hcz56_6 hcz56_7 hcz56_8 hcz56_9 hfz56_0 hfz56_1 hfz56_2 hfz56_3 hfz56_4 hfz56_5 hfz56_6 hfz56_7 hfz56_8 hfz56_9
              try clear hcz59_0 hcz59_1 hcz59_2 hcz59_3 hcz59_4 hcz59_5 hcz59_6 hcz59_7 hcz59_8 hcz59_9 hfz59_0 hfz59_1 hfz59_2 hfz59_3 hfz59_4 hfz59_5 hfz59_6 hfz59_7 hfz59_8 hfz59_9
              try clear hcz61_0 hcz61_1 hcz61_2 hcz61_3 hcz61_4 hcz61_5 hcz61_6 hcz61_7 hcz61_8 hcz61_9 hfz61_0 hfz61_1 hfz61_2 hfz61_3 hfz61_4 hfz61_5 hfz61_6 hfz61_7 hfz61_8 hfz61_9
              try clear hcz62_0 hcz62_1 hcz62_2 hcz62_3 hcz62_4 hcz62_5 hcz62_6 hcz62_7 hcz62_8 hcz62_9 hfz62_0 hfz62_1 hfz62_2 hfz62_3 hfz62_4 hfz62_5 hfz62_6 hfz62_7 hfz62_8 hfz62_9
              try clear hcz63_0 hcz63_1 hcz63_2 hcz63_3 hcz63_4 hcz63_5 hcz63_6 hcz63_7 hcz63_8 hcz63_9 hfz63_0 hfz63_1 hfz63_2 hfz63_3 hfz63_4 hfz63_5 hfz63_6 hfz63_7 hfz63_8 hfz63_9
              try clear hcz67_0 hcz67_1 hcz67_2 hcz67_3 hcz67_4 hcz67_5 hcz67_6 hcz67_7 hcz67_8 hcz67_9 hfz67_0 hfz67_1 hfz67_2 hfz67_3 hfz67_4 hfz67_5 hfz67_6 hfz67_7 hfz67_8 hfz67_9
              try clear hcz69_0 hcz69_1 hcz69_2 hcz69_3 hcz69_4 hcz69_5 hcz69_6 hcz69_7 hcz69_8 hcz69_9 hfz69_0 hfz69_1 hfz69_2 hfz69_3 hfz69_4 hfz69_5 hfz69_6 hfz69_7 hfz69_8 hfz69_9
              try clear hcz70_0 hcz70_1 hcz70_2 hcz70_3 hcz70_4 hcz70_5 hcz70_6 hcz70_7 hcz70_8 hcz70_9 hfz70_0 hfz70_1 hfz70_2 hfz70_3 hfz70_4 hfz70_5 hfz70_6 hfz70_7 hfz70_8 hfz70_9
              try clear hcz73_0 hcz73_1 hcz73_2 hcz73_3 hcz73_4 hcz73_5 hcz73_6 hcz73_7 hcz73_8 hcz73_9 hfz73_0 hfz73_1 hfz73_2 hfz73_3 hfz73_4 hfz73_5 hfz73_6 hfz73_7 hfz73_8 hfz73_9
              try clear hcz75_0 hcz75_1 hcz75_2 hcz75_3 hcz75_4 hcz75_5 hcz75_6 hcz75_7 hcz75_8 hcz75_9 hfz75_0 hfz75_1 hfz75_2 hfz75_3 hfz75_4 hfz75_5 hfz75_6 hfz75_7 hfz75_8 hfz75_9
              try clear hcz76_0 hcz76_1 hcz76_2 hcz76_3 hcz76_4 hcz76_5 hcz76_6 hcz76_7 hcz76_8 hcz76_9 hfz76_0 hfz76_1 hfz76_2 hfz76_3 hfz76_4 hfz76_5 hfz76_6 hfz76_7 hfz76_8 hfz76_9
              try clear hcz77_0 hcz77_1 hcz77_2 hcz77_3 hcz77_4 hcz77_5 hcz77_6 hcz77_7 hcz77_8 hcz77_9 hfz77_0 hfz77_1 hfz77_2 hfz77_3 hfz77_4 hfz77_5 hfz77_6 hfz77_7 hfz77_8 hfz77_9
              try clear hcz78_0 hcz78_1 hcz78_2 hcz78_3 hcz78_4 hcz78_5 hcz78_6 hcz78_7 hcz78_8 hcz78_9 hfz78_0 hfz78_1 hfz78_2 hfz78_3 hfz78_4 hfz78_5 hfz78_6 hfz78_7 hfz78_8 hfz78_9
              try clear hcz84_0 hcz84_1 hcz84_2 hcz84_3 hcz84_4 hcz84_5 hcz84_6 hcz84_7 hcz84_8 hcz84_9 hfz84_0 hfz84_1 hfz84_2 hfz84_3 hfz84_4 hfz84_5 hfz84_6 hfz84_7 hfz84_8 hfz84_9
              try clear hcz86_0 hcz86_1 hcz86_2 hcz86_3 hcz86_4 hcz86_5 hcz86_6 hcz86_7 hcz86_8 hcz86_9 hfz86_0 hfz86_1 hfz86_2 hfz86_3 hfz86_4 hfz86_5 hfz86_6 hfz86_7 hfz86_8 hfz86_9
              try clear hcz89_0 hcz89_1 hcz89_2 hcz89_3 hcz89_4 hcz89_5 hcz89_6 hcz89_7 hcz89_8 hcz89_9 hfz89_0 hfz89_1 hfz89_2 hfz89_3 hfz89_4 hfz89_5 hfz89_6 hfz89_7 hfz89_8 hfz89_9
              try clear hcz94_0 hcz94_1 hcz94_2 hcz94_3 hcz94_4 hcz94_5 hcz94_6 hcz94_7 hcz94_8 hcz94_9 hfz94_0 hfz94_1 hfz94_2 hfz94_3 hfz94_4 hfz94_5 hfz94_6 hfz94_7 hfz94_8 hfz94_9
              try clear hcz97_0 hcz97_1 hcz97_2 hcz97_3 hcz97_4 hcz97_5 hcz97_6 hcz97_7 hcz97_8 hcz97_9 hfz97_0 hfz97_1 hfz97_2 hfz97_3 hfz97_4 hfz97_5 hfz97_6 hfz97_7 hfz97_8 hfz97_9
              try clear p2
              obtain ⟨kq, x8_90, HA, HJ90, HO_8, BK207, HB⟩ := hcut
              cases kq with
              | zero => exact absurd HA.out (by simp [marlineref15_Put.j3])
              | succ kj90 =>
               have H := HA.out
               clear HA
               simp only [marlineref15_Put.j3] at H
               have HC99 := Aside0.mk H
               clear H
               go_upto_if 113 with (fail)
               go_cut [8] (fun v8 wc => ∃ (kq : Nat) (x8_98 : List Int), Aside0 (marlineref15_Put.j4 kq x8_98 a0_0 a0_1 a0_2 l0_3 a0_4 a0_5 l0_6 l0_7 l0_8 l0_9 = some (r1, r2)) ∧ Aside0 (kq ≤ kj90) ∧ Aside0 (Kd.R (Kd.int .u8) 5 wc w.heap.size (fun _ => True) v8 x8_98) ∧ Aside0 (wc.heap[gb207]? = some (.cells #[.int .u16 a0_0, .int .u8 a0_1, .int .u8 a0_2, (.slice A0_3 l0_3.length c0_3), .int .u16 a0_4, .int .u32 a0_5, (.slice A0_6 l0_6.length c0_6), (.slice A0_7 l0_7.length c0_7), (.slice A0_8 l0_8.length c0_8), (.slice A0_9 l0_9.length c0_9)] 28 (0, 0))) ∧ Aside0 (Below w.heap.size w wc))
               case first =>
                have H := HC99.out
                clear HC99
                by_cases c100 : x5_8 = true
                · subst c100
                  have H1 : ((marlineref15_Number.f kj90 (wrap64 (a0_5)) 4).bind fun t222 => (marlineref15_Put.j4 kj90 t222 a0_0 a0_1 a0_2 l0_3 a0_4 a0_5 l0_6 l0_7 l0_8 l0_9)) = some (r1, r2) := by rw [if_pos rfl] at H; exact H
                  clear H
                  have H := H1
                  clear H1
                  replace H := Option.bind_eq_some_iff.mp H
                  obtain ⟨t222, A1010, H⟩ := H
                  replace H : (marlineref15_Put.j4 kj90 t222 a0_0 a0_1 a0_2 l0_3 a0_4 a0_5 l0_6 l0_7 l0_8 l0_9) = some (r1, r2) := H
                  have A101 := Aside0.mk A1010
                  clear A1010
                  have H' := Aside0.mk H
                  clear H
                  obtain ⟨⟨hcz102_0, hcz102_1, hcz102_2, hcz102_3, hcz102_4, hcz102_5, hcz102_6, hcz102_7, hcz102_8, hcz102_9⟩, hfz102_0, hfz102_1, hfz102_2, hfz102_3, hfz102_4, hfz102_5, hfz102_6, hfz102_7, hfz102_8, hfz102_9⟩ := cz10 BK207.out
                  go_wp2_with (first | ((with_reducible refine gate_callee (f := 17) rfl ?_); refine goesL_ (some 117) rfl rfl Tryd.func17 (by kernel_rfl) rfl #[.int .i64 (wrap64 (a0_5)), .int .i64 4] rfl (by (try simp only [List.map_toArray, List.map_cons, List.map_nil]); first | done | rfl | (simp only [List.length_drop, List.length_take]; rfl)) ?_; (with_reducible refine (marlineref15_Number.calls kj90 (wrap64 (a0_5)) 4 t222 _ A101.out).mono ?_); rintro e w103 ⟨v223, rfl, ho0, hb⟩; refine ⟨_, rfl, ?_⟩; have n0_ := Aside0.mk (Kd.R_elder' (by (with_reducible repeat (first | apply Kd.R_alloc | apply Kd.R_drewN | apply Kd.R_drew)); exact HO_8.out) (Kd.R_base ho0) hb); have n1_ := Aside0.mk (Kd.R_lower (Kd.R_new' ho0 (Kd.R_lt (by (with_reducible repeat (first | apply Kd.R_alloc | apply Kd.R_drewN | apply Kd.R_drew)); exact HO_8.out))) (below_size (by repeat (first | (with_reducible first | exact HB.out | apply below_alloc | apply pw_below_drewN | apply below_drew1 | refine below_set ?_ GE207.out) | exact HB.out)))); have n2_ := Aside0.mk (blk_below (g := gb207) (o := .cells #[.int .u16 a0_0, .int .u8 a0_1, .int .u8 a0_2, .slice A0_3 l0_3.length c0_3, .int .u16 a0_4, .int .u32 a0_5, .slice A0_6 l0_6.length c0_6, .slice A0_7 l0_7.length c0_7, .slice A0_8 l0_8.length c0_8, .slice A0_9 l0_9.length c0_9] 28 (0, 0)) (by (with_reducible repeat (first | refine blk_drewN ?_ _ | refine blk_drew ?_ | refine blk_alloc ?_ _)); exact BK207.out) hb); have n3_ := Aside0.mk (below_step (by repeat (first | (with_reducible first | exact HB.out | apply below_alloc | apply pw_below_drewN | apply below_drew1 | refine below_set ?_ GE207.out) | exact HB.out)) hb); clear HO_8; clear BK207; clear HB; have HO_8 := n0_; have HO224 := n1_; have BK207 := n2_; have HB := n3_; clear n0_ n1_ n2_ n3_; (try clear hb); (try clear hb2); (try clear hk); (try clear hi); (try clear ho0)))
                  go_meet
                  case rel => exact ⟨_, (t222), H', ⟨by have := HJ2.out; have := HJ8.out; have := HJ14.out; have := HJ90.out; first | omega | exact Nat.le_refl _⟩, ⟨by (with_reducible repeat (first | apply Kd.R_alloc | apply Kd.R_drewN | apply Kd.R_drew)); exact Kd.R_mono HO224.out (fun _ hk => trivial)⟩, ⟨by (with_reducible repeat (first | refine blk_drewN ?_ _ | refine blk_drew ?_ | refine blk_alloc ?_ _)); exact BK207.out⟩, ⟨by repeat (first | (with_reducible first | exact HB.out | apply below_alloc | apply pw_below_drewN | apply below_drew1 | refine below_set ?_ GE207.out) | exact HB.out)⟩⟩
                · replace c100 := Bool.eq_false_iff.mpr c100
                  subst c100
                  have H1 : (marlineref15_Put.j4 kj90 x8_90 a0_0 a0_1 a0_2 l0_3 a0_4 a0_5 l0_6 l0_7 l0_8 l0_9) = some (r1, r2) := by rw [if_neg (show ¬ (false = true) by decide)] at H; exact H
                  clear H
                  have H := H1
                  clear H1
                  have H' := Aside0.mk H
                  clear H
                  go_wp2
                  go_meet
                  case rel => exact ⟨_, (x8_90), H', ⟨by have := HJ2.out; have := HJ8.out; have := HJ14.out; have := HJ90.out; first | omega | exact Nat.le_refl _⟩, ⟨by (with_reducible repeat (first | apply Kd.R_alloc | apply Kd.R_drewN | apply Kd.R_drew)); exact HO_8.out⟩, ⟨by (with_reducible repeat (first | refine blk_drewN ?_ _ | refine blk_drew ?_ | refine blk_alloc ?_ _)); exact BK207.out⟩, ⟨by repeat (first | (with_reducible first | exact HB.out | apply below_alloc | apply pw_below_drewN | apply below_drew1 | refine below_set ?_ GE207.out) | exact HB.out)⟩⟩
               case rest =>
                clear HC99
                try clear c1
                try clear p2
                try clear c3
                try clear c4
                try clear c5
                try clear c6
                try clear p6
                try clear c7
                try clear c8
                try clear c9
                try clear c10
                try clear c15
                try clear c16
                try clear c17
                try clear c33
                try clear c33b0
                try clear c33b1
                try clear c40
                try clear c40b0
                try clear c40b1
                try clear c48
                try clear c48b0
                try clear c48b1
                try clear c50
                try clear c50b0
                try clear c50b1
                try clear c51
                try clear c52
                try clear c52b0
                try clear c52b1
                try clear c54
                try clear c54b0
                try clear c54b1
                try clear c57
                try clear c57b0
                try clear c57b1
                try clear c58
                try clear c58b0
                try clear c58b1
                try clear c60
                try clear c60b0
                try clear c60b1
                try clear c64
                try clear c64b0
                try clear c64b1
                try clear p64
                try clear c65
                try clear c66
                try clear c66b0
                try clear c66b1
                try clear c68
                try clear c68b0
                try clear c68b1
                try clear c71
                try clear c71b0
                try clear c71b1
                try clear c72
                try clear c72b0
                try clear c72b1
                try clear c74
                try clear c74b0
                try clear c74b1
                try clear c79
                try clear c80
                try clear c82
                try clear c82b0
                try clear c82b1
                try clear c95
                try clear c95b0
                try clear c95b1
                try clear c100
                try clear hcz102_0 hcz102_1 hcz102_2 hcz102_3 hcz102_4 hcz102_5 hcz102_6 hcz102_7 hcz102_8 hcz102_9 hfz102_0 hfz102_1 hfz102_2 hfz102_3 hfz102_4 hfz102_5 hfz102_6 hfz102_7 hfz102_8 hfz102_9
                try clear hcz46_0 hcz46_1 hcz46_2 hcz46_3 hcz46_4 hcz46_5 hcz46_6 hcz46_7 hcz46_8 hcz46_9 hfz46_0 hfz46_1 hfz46_2 hfz46_3 hfz46_4 hfz46_5 hfz46_6 hfz46_7 hfz46_8 hfz46_9
                try clear hcz47_0 hcz47_1 hcz47_2 hcz47_3 hcz47_4 hcz47_5 hcz47_6 hcz47_7 hcz47_8 hcz47_9 hfz47_0 hfz47_1 hfz47_2 hfz47_3 hfz47_4 hfz47_5 hfz47_6 hfz47_7 hfz47_8 hfz47_9
                try clear hcz49_0 hcz49_1 hcz49_2 hcz49_3 hcz49_4 hcz49_5 hcz49_6 hcz49_7 hcz49_8 hcz49_9 hfz49_0 hfz49_1 hfz49_2 hfz49_3 hfz49_4 hfz49_5 hfz49_6 hfz49_7 hfz49_8 hfz49_9
                try clear hcz53_0 hcz53_1 hcz53_2 hcz53_3 hcz53_4 hcz53_5 hcz53_6 hcz53_7 hcz53_8 hcz53_9 hfz53_0 hfz53_1 hfz53_2 hfz53_3 hfz53_4 hfz53_5 hfz53_6 hfz53_7 hfz53_8 hfz53_9
                try clear hcz55_0 hcz55_1 hcz55_2 hcz55_3 hcz55_4 hcz55_5 hcz55_6 hcz55_7 hcz55_8 hcz55_9 hfz55_0 hfz55_1 hfz55_2 hfz55_3 hfz55_4 hfz55_5 hfz55_6 hfz55_7 hfz55_8 hfz55_9
                try clear hcz56_0 hcz56_1 hcz56_2 hcz56_3 hcz56_4 hcz56_5 hcz56_6 hcz56_7 hcz56_8 hcz56_9 hfz56_0 hfz56_1 hfz56_2 hfz56_3 hfz56_4 hfz56_5 hfz56_6 hfz56_7 hfz56_8 hfz56_9
                try clear hcz59_0 hcz59_1 hcz59_2 hcz59_3 hcz59_4 hcz59_5 hcz59_6 hcz59_7 hcz59_8 hcz59_9 hfz59_0 hfz59_1 hfz59_2 hfz59_3 hfz59_4 hfz59_5 hfz59_6 hfz59_7 hfz59_8 hfz59_9
                try clear hcz61_0 hcz61_1 hcz61_2 hcz61_3 hcz61_4 hcz61_5 hcz61_6 hcz61_7 hcz61_8 hcz61_9 hfz61_0 hfz61_1 hfz61_2 hfz61_3 hfz61_4 hfz61_5 hfz61_6 hfz61_7 hfz61_8 hfz61_9
                try clear hcz62_0 hcz62_1 hcz62_2 hcz62_3 hcz62_4 hcz62_5 hcz62_6 hcz62_7 hcz62_8 hcz62_9 hfz62_0 hfz62_1 hfz62_2 hfz62_3 hfz62_4 hfz62_5 hfz62_6 hfz62_7 hfz62_8 hfz62_9
                try clear hcz63_0 hcz63_1 hcz63_2 hcz63_3 hcz63_4 hcz63_5 hcz63_6 hcz63_7 hcz63_8 hcz63_9 hfz63_0 hfz63_1 hfz63_2 hfz63_3 hfz63_4 hfz63_5 hfz63_6 hfz63_7 hfz63_8 hfz63_9
                try clear hcz67_0 hcz67_1 hcz67_2 hcz67_3 hcz67_4 hcz67_5 hcz67_6 hcz67_7 hcz67_8 hcz67_9 hfz67_0 hfz67_1 hfz67_2 hfz67_3 hfz67_4 hfz67_5 hfz67_6 hfz67_7 hfz67_8 hfz67_9
                try clear hcz69_0 hcz69_1 hcz69_2 hcz69_3 hcz69_4 hcz69_5 hcz69_6 hcz69_7 hcz69_8 hcz69_9 hfz69_0 hfz69_1 hfz69_2 hfz69_3 hfz69_4 hfz69_5 hfz69_6 hfz69_7 hfz69_8 hfz69_9
                try clear hcz70_0 hcz70_1 hcz70_2 hcz70_3 hcz70_4 hcz70_5 hcz70_6 hcz70_7 hcz70_8 hcz70_9 hfz70_0 hfz70_1 hfz70_2 hfz70_3 hfz70_4 hfz70_5 hfz70_6 hfz70_7 hfz70_8 hfz70_9
                try clear hcz73_0 hcz73_1 hcz73_2 hcz73_3 hcz73_4 hcz73_5 hcz73_6 hcz73_7 hcz73_8 hcz73_9 hfz73_0 hfz73_1 hfz73_2 hfz73_3 hfz73_4 hfz73_5 hfz73_6 hfz73_7 hfz73_8 hfz73_9
                try clear hcz75_0 hcz75_1 hcz75_2 hcz75_3 hcz75_4 hcz75_5 hcz75_6 hcz75_7 hcz75_8 hcz75_9 hfz75_0 hfz75_1 hfz75_2 hfz75_3 hfz75_4 hfz75_5 hfz75_6 hfz75_7 hfz75_8 hfz75_9
                try clear hcz76_0 hcz76_1 hcz76_2 hcz76_3 hcz76_4 hcz76_5 hcz76_6 hcz76_7 hcz76_8 hcz76_9 hfz76_0 hfz76_1 hfz76_2 hfz76_3 hfz76_4 hfz76_5 hfz76_6 hfz76_7 hfz76_8 hfz76_9
                try clear hcz77_0 hcz77_1 hcz77_2 hcz77_3 hcz77_4 hcz77_5 hcz77_6 hcz77_7 hcz77_8 hcz77_9 hfz77_0 hfz77_1 hfz77_2 hfz77_3 hfz77_4 hfz77_5 hfz77_6 hfz77_7 hfz77_8 hfz77_9
                try clear hcz78_0 hcz78_1 hcz78_2 hcz78_3 hcz78_4 hcz78_5 hcz78_6 hcz78_7 hcz78_8 hcz78_9 hfz78_0 hfz78_1 hfz78_2 hfz78_3 hfz78_4 hfz78_5 hfz78_6 hfz78_7 hfz78_8 hfz78_9
                try clear hcz84_0 hcz84_1 hcz84_2 hcz84_3 hcz84_4 hcz84_5 hcz84_6 hcz84_7 hcz84_8 hcz84_9 hfz84_0 hfz84_1 hfz84_2 hfz84_3 hfz84_4 hfz84_5 hfz84_6 hfz84_7 hfz84_8 hfz84_9
                try clear hcz86_0 hcz86_1 hcz86_2 hcz86_3 hcz86_4 hcz86_5 hcz86_6 hcz86_7 hcz86_8 hcz86_9 hfz86_0 hfz86_1 hfz86_2 hfz86_3 hfz86_4 hfz86_5 hfz86_6 hfz86_7 hfz86_8 hfz86_9
                try clear hcz89_0 hcz89_1 hcz89_2 hcz89_3 hcz89_4 hcz89_5 hcz89_6 hcz89_7 hcz89_8 hcz89_9 hfz89_0 hfz89_1 hfz89_2 hfz89_3 hfz89_4 hfz89_5 hfz89_6 hfz89_7 hfz89_8 hfz89_9
                try clear hcz94_0 hcz94_1 hcz94_2 hcz94_3 hcz94_4 hcz94_5 hcz94_6 hcz94_7 hcz94_8 hcz94_9 hfz94_0 hfz94_1 hfz94_2 hfz94_3 hfz94_4 hfz94_5 hfz94_6 hfz94_7 hfz94_8 hfz94_9
                try clear hcz97_0 hcz97_1 hcz97_2 hcz97_3 hcz97_4 hcz97_5 hcz97_6 hcz97_7 hcz97_8 hcz97_9 hfz97_0 hfz97_1 hfz97_2 hfz97_3 hfz97_4 hfz97_5 hfz97_6 hfz97_7 hfz97_8 hfz97_9
                try clear p2
                try clear p6
                try clear p64
                obtain ⟨kq, x8_98, HA, HJ98, HO_8, BK207, HB⟩ := hcut
                cases kq with
                | zero => exact absurd HA.out (by simp [marlineref15_Put.j4])
                | succ kj98 =>
                 have H := HA.out
                 clear HA
                 simp only [marlineref15_Put.j4] at H
                 by_cases c104 : x8_98.length + l0_8.length < 140737488355328
                 · rw [if_pos c104] at H
                   have LMc104 := Aside0.mk c104
                   clear c104
                   obtain ⟨y225, hy225⟩ : ∃ y_ : List Int, y_ = (x8_98 ++ l0_8) := ⟨_, rfl⟩
                   replace H : ((marlineref13_Put.f a0_1 a0_2 y225).bind fun bt228 => (some (bt228.1, bt228.2))) = some (r1, r2) := by first | (rw [hy225]; with_reducible exact H) | (have H2_ := (Option.bind_some _ _).symm.trans H; rw [hy225]; with_reducible exact H2_) | (have H2_ := (Option.bind_some _ _).symm.trans H; with_reducible exact H2_) | with_reducible exact H | (rw [hy225]; exact H) | exact H
                   have Ny225 := Aside0.mk hy225
                   clear hy225
                   replace H := Option.bind_eq_some_iff.mp H
                   obtain ⟨⟨t228, t229⟩, A1050, H⟩ := H
                   replace H : (some (t228, t229)) = some (r1, r2) := H
                   have A105 := Aside0.mk A1050
                   clear A1050
                   simp only [Option.some.injEq, Prod.mk.injEq] at H
                   obtain ⟨rfl, rfl⟩ := H
                   try go_wp2
                   have n0_ := Aside0.mk (Kd.R_drew HO_8.out)
                   have n1_ := Aside0.mk (blk_drew BK207.out)
                   have n2_ := Aside0.mk (below_drew1 HB.out)
                   clear HO_8
                   clear BK207
                   clear HB
                   have HO_8 := n0_
                   have BK207 := n1_
                   have HB := n2_
                   clear n0_ n1_ n2_
                   refine start_ (n := 13) (S := fun w' => w'.cell? ⟨gb207, 0, none⟩ = some (.int .u16 a0_0) ∧ w'.cell? ⟨gb207, 1, none⟩ = some (.int .u8 a0_1) ∧ w'.cell? ⟨gb207, 2, none⟩ = some (.int .u8 a0_2) ∧ w'.cell? ⟨gb207, 3, none⟩ = some (.slice A0_3 l0_3.length c0_3) ∧ w'.cell? ⟨gb207, 4, none⟩ = some (.int .u16 a0_4) ∧ w'.cell? ⟨gb207, 5, none⟩ = some (.int .u32 a0_5) ∧ w'.cell? ⟨gb207, 6, none⟩ = some (.slice A0_6 l0_6.length c0_6) ∧ w'.cell? ⟨gb207, 7, none⟩ = some (.slice A0_7 l0_7.length c0_7) ∧ w'.cell? ⟨gb207, 8, none⟩ = some (.slice A0_8 l0_8.length c0_8) ∧ w'.cell? ⟨gb207, 9, none⟩ = some (.slice A0_9 l0_9.length c0_9)) (ds := []) #[false, false, false, false, false, false, false, false, false, false, false, false, false] (by kernel_rfl) rfl rfl ⟨(blk_cell BK207.out 0).trans rfl, (blk_cell BK207.out 1).trans rfl, (blk_cell BK207.out 2).trans rfl, (blk_cell BK207.out 3).trans rfl, (blk_cell BK207.out 4).trans rfl, (blk_cell BK207.out 5).trans rfl, (blk_cell BK207.out 6).trans rfl, (blk_cell BK207.out 7).trans rfl, (blk_cell BK207.out 8).trans rfl, (blk_cell BK207.out 9).trans rfl⟩ (fun hHeld => ?_); refine with_tabW marlineref15_Put.tab17 marlineref15_Put.bits17 (fun HT_ HW_ => ?_)
                   generalize wc.drew = w106 at HO_8 BK207 HB hHeld ⊢
                   refine pure_ (i := 0) (N := some 118) (v := ?_) (a' := ?_) #[true, false, false, false, false, false, false, false, false, false, false, false, false] rfl rfl (any_of HT_.out (by kernel_rfl)) (fun _ _ _ h => h) (Or.inl ⟨by rfl, ?_⟩) ?_ ?_
                   rotate_left
                   · intro w'
                     go_simp
                     with_reducible rfl
                   rotate_left
                   · simp only [Act.put, List.setIfInBounds_toArray, List.set_cons_zero, List.set_cons_succ, i64_w, i32_w]
                     rfl
                   refine pure_ (i := 2) (N := some 120) (v := ?_) (a' := ?_) #[true, false, true, false, false, false, false, false, false, false, false, false, false] rfl rfl (any_of HT_.out (by kernel_rfl)) (fun _ _ _ h => h) (Or.inl ⟨by rfl, ?_⟩) ?_ ?_
                   rotate_left
                   · intro w'
                     go_simp
                     with_reducible rfl
                   rotate_left
                   · simp only [Act.put, List.setIfInBounds_toArray, List.set_cons_zero, List.set_cons_succ, i64_w, i32_w]
                     rfl
                   refine pure_ (i := 4) (N := some 122) (v := ?_) (a' := ?_) #[true, false, true, false, true, false, false, false, false, false, false, false, false] rfl rfl (any_of HT_.out (by kernel_rfl)) (fun _ _ _ h => h) (Or.inl ⟨by rfl, ?_⟩) ?_ ?_
                   rotate_left
                   · intro w'
                     go_simp
                     with_reducible rfl
                   rotate_left
                   · simp only [Act.put, List.setIfInBounds_toArray, List.set_cons_zero, List.set_cons_succ, i64_w, i32_w]
                     rfl
                   refine pure_ (i := 5) (N := some 123) (v := ?_) (a' := ?_) #[true, false, true, false, true, true, false, false, false, false, false, false, false] rfl rfl (any_of HT_.out (by kernel_rfl)) (fun _ _ _ h => h) (Or.inl ⟨by rfl, ?_⟩) ?_ ?_
                   rotate_left
                   · intro w'
                     go_simp
                     with_reducible rfl
                   rotate_left
                   · simp only [Act.put, List.setIfInBounds_toArray, List.set_cons_zero, List.set_cons_succ, i64_w, i32_w]
                     rfl
                   refine take_ (i := 1) (N := some 119) (v := ?_) (a' := ?_) #[true, true, true, false, true, true, false, false, false, false, false, false, false] rfl rfl (take_ofW HT_.out HW_.out (by kernel_rfl)) (fun _ _ _ h => h) (Or.inl ⟨by rfl, ?_⟩) hHeld ?_ ?_
                   rotate_left
                   · rintro w' ⟨s0, s1, s2, s3, s4, s5, s6, s7, s8, s9⟩
                     go_simp
                     with_reducible rfl
                   rotate_left
                   · simp only [Act.put, List.setIfInBounds_toArray, List.set_cons_zero, List.set_cons_succ, i64_w, i32_w]
                     rfl
                   refine take_ (i := 3) (N := some 121) (v := ?_) (a' := ?_) #[true, true, true, true, true, true, false, false, false, false, false, false, false] rfl rfl (take_ofW HT_.out HW_.out (by kernel_rfl)) (fun _ _ _ h => h) (Or.inl ⟨by rfl, ?_⟩) hHeld ?_ ?_
                   rotate_left
                   · rintro w' ⟨s0, s1, s2, s3, s4, s5, s6, s7, s8, s9⟩
                     go_simp
                     with_reducible rfl
                   rotate_left
                   · simp only [Act.put, List.setIfInBounds_toArray, List.set_cons_zero, List.set_cons_succ, i64_w, i32_w]
                     rfl
                   refine take_ (i := 6) (N := some 124) (v := ?_) (a' := ?_) #[true, true, true, true, true, true, true, false, false, false, false, false, false] rfl rfl (take_ofW HT_.out HW_.out (by kernel_rfl)) (fun _ _ _ h => h) (Or.inl ⟨by rfl, ?_⟩) hHeld ?_ ?_
                   rotate_left
                   · rintro w' ⟨s0, s1, s2, s3, s4, s5, s6, s7, s8, s9⟩
                     go_simp
                     with_reducible rfl
                   rotate_left
                   · simp only [Act.put, List.setIfInBounds_toArray, List.set_cons_zero, List.set_cons_succ, i64_w, i32_w]
                     rfl
                   refine one_ (i := 7) (N := some 125) #[true, true, true, true, true, true, true, true, false, false, false, false, false] rfl rfl (one_of HT_.out (by kernel_rfl)) (by decide) (fun K hK => ?_)
                   refine Kd.R_append_rows_step (Kd.int .u8) (w0 := w) w.heap.size (by rfl) (.tmp 122) (.tmp 124) 25 5 (.int .u8 0) 1 rfl Tryd.underlying25 info5 rfl (by decide) (by omega) u8 x8_98 l0_8 _ _ _ (fun _ => True) (fun _ => False) rfl rfl ?aO ?aR (fun _ _ h => h) (fun _ h => h.elim) ?aF ?aB ?aS ?aL ?_
                   (case aR => repeat (first | exact (Kd.C_below HR0_8.out HB.out) | (with_reducible refine Kd.C_alloc ?_ _) | (with_reducible refine Kd.C_drewN ?_ _) | (with_reducible refine Kd.C_drew ?_)))
                   (case aB => exact (by repeat (first | (with_reducible first | exact HB.out | apply below_alloc | apply pw_below_drewN | apply below_drew1 | refine below_set ?_ GE207.out) | exact HB.out)))
                   (case aF => exact (fun _ _ => trivial))
                   (case aO => exact (by (with_reducible repeat (first | apply Kd.R_alloc | apply Kd.R_drewN | apply Kd.R_drew)); exact HO_8.out))
                   (case aS => exact (below_size (by repeat (first | (with_reducible first | exact HB.out | apply below_alloc | apply pw_below_drewN | apply below_drew1 | refine below_set ?_ GE207.out) | exact HB.out))))
                   (case aL => have := LMc104.out; omega)
                   intro v226 w107 ho hb hg hat
                   rw [← Ny225.out] at ho
                   have n0_ := Aside0.mk (blk_grown (g := gb207) (o := .cells #[.int .u16 a0_0, .int .u8 a0_1, .int .u8 a0_2, .slice A0_3 l0_3.length c0_3, .int .u16 a0_4, .int .u32 a0_5, .slice A0_6 l0_6.length c0_6, .slice A0_7 l0_7.length c0_7, .slice A0_8 l0_8.length c0_8, .slice A0_9 l0_9.length c0_9] 28 (0, 0)) (by (with_reducible repeat (first | refine blk_drewN ?_ _ | refine blk_drew ?_ | refine blk_alloc ?_ _)); exact BK207.out) hg (Kd.R_ne HO_8.out BK207.out (by decide)))
                   have n1_ := Aside0.mk (hb)
                   have n2_ := Aside0.mk (ho)
                   clear BK207
                   clear HB
                   clear HO_8
                   have BK207 := n0_
                   have HB := n1_
                   have HO227 := n2_
                   clear n0_ n1_ n2_
                   clear ho hb hg hat
                   obtain ⟨Ao108, co108, eo108⟩ := Kd.R_slice HO227.out
                   (first | subst eo108 | (injection eo108 with f1_ f2_ f3_; have f4_ := f1_.symm; have f5_ := f3_.symm; clear f1_ f2_ f3_; subst f4_; subst f5_))
                   refine hK.out _ _ ⟨(blk_cell BK207.out 0).trans rfl, (blk_cell BK207.out 1).trans rfl, (blk_cell BK207.out 2).trans rfl, (blk_cell BK207.out 3).trans rfl, (blk_cell BK207.out 4).trans rfl, (blk_cell BK207.out 5).trans rfl, (blk_cell BK207.out 6).trans rfl, (blk_cell BK207.out 7).trans rfl, (blk_cell BK207.out 8).trans rfl, (blk_cell BK207.out 9).trans rfl⟩ (fun hHeld => ?_)
                   clear hK K
                   refine norm_ (a' := ?_) ?_ ?_
                   rotate_left
                   · show Act.put _ (some 125) _ = _
                     simp only [Act.put, List.setIfInBounds_toArray, List.set_cons_zero, List.set_cons_succ, i64_w, i32_w]
                     rfl
                   refine one_ (i := 8) (N := some 126) #[true, true, true, true, true, true, true, true, true, false, false, false, false] rfl rfl (one_of HT_.out (by kernel_rfl)) (by decide) (fun K hK => ?_)
                   refine goes_ Tryd.func16 (by kernel_rfl) rfl #[.int .u8 a0_1, .int .u8 a0_2, .slice Ao108 y225.length co108] (by rfl) rfl rfl (by (try simp only [List.map_toArray, List.map_cons, List.map_nil]); first | done | rfl | (simp only [List.length_drop, List.length_take]; rfl)) ?_
                   with_reducible refine (marlineref13_Put.calls a0_1 a0_2 _ _ y225 t228 t229 _ ?side1 ?side2 A105.out).mono ?_
                   (case side1 => repeat (first | exact (Kd.R_reads' HO227.out).2.2 | (with_reducible refine Kd.C_alloc ?_ _) | (with_reducible refine Kd.C_drewN ?_ _) | (with_reducible refine Kd.C_drew ?_)))
                   (case side2 => exact (Kd.R_reads' HO227.out).2.1)
                   rintro e w109 ⟨v230, rfl, ho0, hb⟩
                   refine ⟨_, rfl, ?_⟩
                   have n0_ := Aside0.mk (Kd.R_elder' (by (with_reducible repeat (first | apply Kd.R_alloc | apply Kd.R_drewN | apply Kd.R_drew)); exact HO227.out) (Kd.R_base ho0) hb)
                   have n1_ := Aside0.mk (Kd.R_lower (Kd.R_new' ho0 (Kd.R_lt (by (with_reducible repeat (first | apply Kd.R_alloc | apply Kd.R_drewN | apply Kd.R_drew)); exact HO227.out))) (below_size (by repeat (first | (with_reducible first | exact HB.out | apply below_alloc | apply pw_below_drewN | apply below_drew1 | refine below_set ?_ GE207.out) | exact HB.out))))
                   have n2_ := Aside0.mk (blk_below (g := gb207) (o := .cells #[.int .u16 a0_0, .int .u8 a0_1, .int .u8 a0_2, .slice A0_3 l0_3.length c0_3, .int .u16 a0_4, .int .u32 a0_5, .slice A0_6 l0_6.length c0_6, .slice A0_7 l0_7.length c0_7, .slice A0_8 l0_8.length c0_8, .slice A0_9 l0_9.length c0_9] 28 (0, 0)) (by (with_reducible repeat (first | refine blk_drewN ?_ _ | refine blk_drew ?_ | refine blk_alloc ?_ _)); exact BK207.out) hb)
                   have n3_ := Aside0.mk (below_step (by repeat (first | (with_reducible first | exact HB.out | apply below_alloc | apply pw_below_drewN | apply below_drew1 | refine below_set ?_ GE207.out) | exact HB.out)) hb)
                   clear HO227
                   clear BK207
                   clear HB
                   have HO227 := n0_
                   have HO231 := n1_
                   have BK207 := n2_
                   have HB := n3_
                   clear n0_ n1_ n2_ n3_
                   (try clear hb)
                   (try clear hb2)
                   (try clear hk)
                   (try clear hi)
                   (try clear ho0)
                   refine hK.out _ _ ⟨(blk_cell BK207.out 0).trans rfl, (blk_cell BK207.out 1).trans rfl, (blk_cell BK207.out 2).trans rfl, (blk_cell BK207.out 3).trans rfl, (blk_cell BK207.out 4).trans rfl, (blk_cell BK207.out 5).trans rfl, (blk_cell BK207.out 6).trans rfl, (blk_cell BK207.out 7).trans rfl, (blk_cell BK207.out 8).trans rfl, (blk_cell BK207.out 9).trans rfl⟩ (fun hHeld => ?_)
                   clear hK K
                   refine norm_ (a' := ?_) ?_ ?_
                   rotate_left
                   · show Act.put _ (some 126) _ = _
                     simp only [Act.put, List.setIfInBounds_toArray, List.set_cons_zero, List.set_cons_succ, i64_w, i32_w]
                     rfl
                   refine pure_ (i := 9) (N := some 127) (v := ?_) (a' := ?_) #[true, true, true, true, true, true, true, true, true, true, false, false, false] rfl rfl (any_of HT_.out (by kernel_rfl)) (fun _ _ _ h => h) (Or.inl ⟨by rfl, ?_⟩) ?_ ?_
                   rotate_left
                   · intro w'
                     go_simp
                     with_reducible rfl
                   rotate_left
                   · simp only [Act.put, List.setIfInBounds_toArray, List.set_cons_zero, List.set_cons_succ, i64_w, i32_w]
                     rfl
                   refine pure_ (i := 10) (N := some 128) (v := ?_) (a' := ?_) #[true, true, true, true, true, true, true, true, true, true, true, false, false] rfl rfl (any_of HT_.out (by kernel_rfl)) (fun _ _ _ h => h) (Or.inl ⟨by rfl, ?_⟩) ?_ ?_
                   rotate_left
                   · intro w'
                     go_simp
                     with_reducible rfl
                   rotate_left
                   · simp only [Act.put, List.setIfInBounds_toArray, List.set_cons_zero, List.set_cons_succ, i64_w, i32_w]
                     rfl
                   refine pure_ (i := 11) (N := some 2) (v := ?_) (a' := ?_) #[true, true, true, true, true, true, true, true, true, true, true, true, false] rfl rfl (any_of HT_.out (by kernel_rfl)) (fun _ _ _ h => h) (Or.inl ⟨by rfl, ?_⟩) ?_ ?_
                   rotate_left
                   · intro w'
                     go_simp
                     with_reducible rfl
                   rotate_left
                   · simp only [Act.put, List.setIfInBounds_toArray, List.set_cons_zero, List.set_cons_succ, i64_w, i32_w]
                     rfl
                   refine pure_ (i := 12) (N := some 3) (v := ?_) (a' := ?_) #[true, true, true, true, true, true, true, true, true, true, true, true, true] rfl rfl (any_of HT_.out (by kernel_rfl)) (fun _ _ _ h => h) (Or.inl ⟨by rfl, ?_⟩) ?_ ?_
                   rotate_left
                   · intro w'
                     go_simp
                     with_reducible rfl
                   rotate_left
                   · simp only [Act.put, List.setIfInBounds_toArray, List.set_cons_zero, List.set_cons_succ, i64_w, i32_w]
                     rfl
                   refine done_ (done_of HT_.out (by kernel_rfl)) ?_
                   try go_wp2
                   go_ret2
                   exact ⟨_, by first | rfl | (simp [errW_none, errW_some] <;> rfl) | (simp [*, errW_none, errW_some] <;> rfl), by (with_reducible repeat (first | apply Kd.R_alloc | apply Kd.R_drewN | apply Kd.R_drew)); exact Kd.R_mono HO231.out (fun _ hk => trivial), by repeat (first | (with_reducible first | exact HB.out | apply below_alloc | apply pw_below_drewN | apply below_drew1 | refine below_set ?_ GE207.out) | exact HB.out)⟩
                 · rw [if_neg c104] at H
                   exact absurd H (by simp)
 · rw [if_neg c2] at H
   have c2b0 : (a0_0 == 49185) = false := beq_eq_false_iff_ne.mpr c2
   have c2b1 : (a0_0 != 49185) = true := bne_iff_ne.mpr c2
   simp only [Option.some.injEq, Prod.mk.injEq] at H
   obtain ⟨rfl, rfl⟩ := H
   go_enter Tryd.func7, Tryd.ntmps7
   go_wp2_with (first | ((with_reducible refine gate_dst (N := 1) rfl ?_); (try (refine gate_guard (by rfl) ?_; dsimp only)); refine box_event ?hg (N := 1) ?hd (cs := #[.int .u16 a0_0, .int .u8 a0_1, .int .u8 a0_2, .slice A0_3 l0_3.length c0_3, .int .u16 a0_4, .int .u32 a0_5, .slice A0_6 l0_6.length c0_6, .slice A0_7 l0_7.length c0_7, .slice A0_8 l0_8.length c0_8, .slice A0_9 l0_9.length c0_9]) (t := 28) ?hr ?_; (case hd => rfl); (case hg => rfl); (case hr => first | (go_simp; done) | (go_simp; simp only [IntKind.wrap_u8, IntKind.wrap_u16, IntKind.wrap_u32, IntKind.wrap_u64]; done) | (go_simp; simp only [IntKind.wrap_u8, IntKind.wrap_u16, IntKind.wrap_u32, IntKind.wrap_u64, Int.tmod_eq_emod_of_nonneg (Int.natCast_nonneg _), Int.emod_emod]; done) | (go_simp; rfl)); intro gb207 hg w110 hbox hb; have n0_ := Aside0.mk (below_step (by repeat (first | (with_reducible first | exact HB.out | apply below_alloc | apply pw_below_drewN | apply below_drew1) | exact HB.out)) hb); have n1_ := Aside0.mk (hbox); have n2_ := Aside0.mk ((by rw [hg]; exact (below_size (by repeat (first | (with_reducible first | exact HB.out | apply below_alloc | apply pw_below_drewN | apply below_drew1) | exact HB.out))) : w.heap.size ≤ gb207)); have n3_ := Aside0.mk ((by rw [hg]; exact (below_size (by repeat (first | (with_reducible first | exact HB.out | apply below_alloc | apply pw_below_drewN | apply below_drew1) | exact HB.out))) : w.heap.size ≤ gb207)); clear HB; have HB := n0_; have BK207 := n1_; have GW207 := n2_; have GE207 := n3_; clear n0_ n1_ n2_ n3_; clear hb hbox hg; obtain ⟨⟨hcz111_0, hcz111_1, hcz111_2, hcz111_3, hcz111_4, hcz111_5, hcz111_6, hcz111_7, hcz111_8, hcz111_9⟩, hfz111_0, hfz111_1, hfz111_2, hfz111_3, hfz111_4, hfz111_5, hfz111_6, hfz111_7, hfz111_8, hfz111_9⟩ := cz10 BK207.out))
   go_ret2
   exact ⟨_, by first | rfl | (simp [errW_none, errW_some] <;> rfl) | (simp [*, errW_none, errW_some] <;> rfl), by first | exact Kd.R_nil _ _ _ _ _ | exact Kd.N_nil _ _ _ _ _ | exact Kd.V_nil _ _ _ _ _ | exact Kd.Q_nil _ _ _ _ _ | exact Kd.S_nil _ _ _ _ _, by repeat (first | (with_reducible first | exact HB.out | apply below_alloc | apply pw_below_drewN | apply below_drew1 | refine below_set ?_ GE207.out) | exact HB.out)⟩
end Go.Proofs.YtgjdjjofhmhimaaDoor.Print
namespace Go.Proofs.YtgjdjjofhmhimaaDoor.Print
open Go.RowKit Go.Proofs.YtgjdjjofhmhimaaDoorW.PrintWords Go.Proofs.YtgjdjjofhmhimaaDoorW.PrintLast Go.Proofs.YtgjdjjofhmhimaaDoorW.PrintMore
attribute [local go_sem] max2_int min2_int max_two min_two max_three min_three max_four min_four
set_option linter.unusedVariables false
set_option linter.unusedSimpArgs false
def marlinelaw15_speaks.f (k : Nat)  : Option (Bool) := (lcp_Put.f k 49185 9 0 ([] : List (S71)) 0 1 ([] : List Int) ([] : List Int) ([] : List Int) ([] : List Int)).bind fun bt154 => (if bt154.2 = 0 then ((marlineref01_Equal.f k bt154.1 (([9, 0, 0, 8, 0, 0, 0, 1] : List Int))).bind fun t161 => (some t161)) else (some false))
set_option maxHeartbeats 8000000 in
set_option maxRecDepth 100000 in
theorem marlinelaw15_speaks.calls (k : Nat)  (r : Bool) (w : World) (h : marlinelaw15_speaks.f k  = some r) :
 Calls Tryd.prog 5 #[] w fun e w' => e = .returned (.bool r) ∧ Below w.heap.size w w' := by
 have hu40 := Tryd.underlying40
 have HB := Aside0.mk (Below.refl w.heap.size w)
 have H : ((lcp_Put.f k 49185 9 0 ([] : List (S71)) 0 1 ([] : List Int) ([] : List Int) ([] : List Int) ([] : List Int)).bind fun bt154 => (if bt154.2 = 0 then ((marlineref01_Equal.f k bt154.1 (([9, 0, 0, 8, 0, 0, 0, 1] : List Int))).bind fun t161 => (some t161)) else (some false))) = some r := h
 clear h
 replace H := Option.bind_eq_some_iff.mp H
 obtain ⟨⟨t154, t157⟩, A10, H⟩ := H
 replace H : (if t157 = 0 then ((marlineref01_Equal.f k t154 (([9, 0, 0, 8, 0, 0, 0, 1] : List Int))).bind fun t161 => (some t161)) else (some false)) = some r := H
 have A1 := Aside0.mk A10
 clear A10
 by_cases c2 : t157 = 0
 · rw [if_pos c2] at H
   have c2b0 : (t157 == 0) = true := beq_iff_eq.mpr c2
   have c2b1 : (t157 != 0) = false := bne_eq_false_iff_eq.mpr c2
   clear c2
   obtain ⟨y158, hy158⟩ : ∃ y_ : List Int, y_ = (([9, 0, 0, 8, 0, 0, 0, 1] : List Int)) := ⟨_, rfl⟩
   replace H : ((marlineref01_Equal.f k t154 y158).bind fun t161 => (some t161)) = some r := by first | (rw [hy158]; with_reducible exact H) | (have H2_ := (Option.bind_some _ _).symm.trans H; rw [hy158]; with_reducible exact H2_) | (have H2_ := (Option.bind_some _ _).symm.trans H; with_reducible exact H2_) | with_reducible exact H | (rw [hy158]; exact H) | exact H
   have Ny158 := Aside0.mk hy158
   clear hy158
   replace H := Option.bind_eq_some_iff.mp H
   obtain ⟨t161, A30, H⟩ := H
   replace H : (some t161) = some r := H
   have A3 := Aside0.mk A30
   clear A30
   obtain rfl := Option.some.inj H
   go_enter Tryd.func5, Tryd.ntmps5
   go_wp2_with (first | ((with_reducible refine gate_callee (f := 8) rfl ?_); refine goesL_ (some 5) rfl rfl Tryd.func8 (by kernel_rfl) rfl #[.agg #[.int .u16 49185, .int .u8 9, .int .u8 0, .slice none 0 0, .int .u16 0, .int .u32 1, .slice none 0 0, .slice none 0 0, .slice none 0 0, .slice none 0 0]] rfl (by (try simp only [List.map_toArray, List.map_cons, List.map_nil]); first | done | rfl | (simp only [List.length_drop, List.length_take]; rfl)) ?_; (refine (lcp_Put.calls k 49185 9 0 _ _ ([] : List (S71)) 0 1 _ _ ([] : List Int) _ _ ([] : List Int) _ _ ([] : List Int) _ _ ([] : List Int) t154 t157 _ ?side1 ?side2 ?side3 ?side4 ?side5 ?side6 ?side7 ?side8 ?side9 ?side10 A1.out).mono ?_); (case side1 => exact Kd.C_nil _ _); (case side2 => exact Nat.le_refl _); (case side3 => exact Kd.C_nil _ _); (case side4 => exact Nat.le_refl _); (case side5 => exact Kd.C_nil _ _); (case side6 => exact Nat.le_refl _); (case side7 => exact Kd.C_nil _ _); (case side8 => exact Nat.le_refl _); (case side9 => exact Kd.C_nil _ _); (case side10 => exact Nat.le_refl _); rintro e w4 ⟨v155, rfl, ho0, hb⟩; refine ⟨_, rfl, ?_⟩; have n0_ := Aside0.mk (Kd.R_lower ho0 (below_size (by repeat (first | (with_reducible first | exact HB.out | apply below_alloc | apply pw_below_drewN | apply below_drew1) | exact HB.out)))); have n1_ := Aside0.mk (below_step (by repeat (first | (with_reducible first | exact HB.out | apply below_alloc | apply pw_below_drewN | apply below_drew1) | exact HB.out)) hb); clear HB; have HO156 := n0_; have HB := n1_; clear n0_ n1_; (try clear hb); (try clear hb2); (try clear hk); (try clear hi); (try clear ho0)) | ((with_reducible refine gate_dst (N := 12) rfl ?_); (try (refine gate_guard (by rfl) ?_; dsimp only)); refine Kd.R_lit (Kd.int .u8) _ 5 ?hg (N := 12) ?hd (xs := ([9, 0, 0, 8, 0, 0, 0, 1] : List Int)) (inner := [.int .u8 9, .int .u8 0, .int .u8 0, .int .u8 8, .int .u8 0, .int .u8 0, .int .u8 0, .int .u8 1]) (ok := fun _ => True) (okp := fun _ => True) ?hr ?hp (fun _ hk => hk) trivial (Below.refl _ _) (Nat.le_refl _) (by simp) ?_; (case hd => rfl); (case hg => rfl); (case hr => first | (go_simp; done) | (go_simp; simp only [IntKind.wrap_u8, IntKind.wrap_u16, IntKind.wrap_u32, IntKind.wrap_u64]; done) | (go_simp; simp only [IntKind.wrap_u8, IntKind.wrap_u16, IntKind.wrap_u32, IntKind.wrap_u64, Int.tmod_eq_emod_of_nonneg (Int.natCast_nonneg _), Int.emod_emod]; done) | (go_simp; rfl)); (case hp => exact (Reps.one (show Kd.M (Kd.int .u8) _ _ _ 9 [.int .u8 9] from rfl) (Reps.one (show Kd.M (Kd.int .u8) _ _ _ 0 [.int .u8 0] from rfl) (Reps.one (show Kd.M (Kd.int .u8) _ _ _ 0 [.int .u8 0] from rfl) (Reps.one (show Kd.M (Kd.int .u8) _ _ _ 8 [.int .u8 8] from rfl) (Reps.one (show Kd.M (Kd.int .u8) _ _ _ 0 [.int .u8 0] from rfl) (Reps.one (show Kd.M (Kd.int .u8) _ _ _ 0 [.int .u8 0] from rfl) (Reps.one (show Kd.M (Kd.int .u8) _ _ _ 0 [.int .u8 0] from rfl) (Reps.one (show Kd.M (Kd.int .u8) _ _ _ 1 [.int .u8 1] from rfl) (Reps.none _ _)))))))))); intro v159 w5 ho6 hb hg_ hnew_; clear hg_ hnew_; (first | rw [← Ny158.out] at ho6 | (simp only [Int.reduceToNat] at ho6; rw [← Ny158.out] at ho6)); have n0_ := Aside0.mk (Kd.R_elder' (by (with_reducible repeat (first | apply Kd.R_alloc | apply Kd.R_drewN | apply Kd.R_drew)); exact HO156.out) (Kd.R_base ho6) hb); have n1_ := Aside0.mk (Kd.R_lower (Kd.R_new' ho6 (Kd.R_lt (by (with_reducible repeat (first | apply Kd.R_alloc | apply Kd.R_drewN | apply Kd.R_drew)); exact HO156.out))) (below_size (by repeat (first | (with_reducible first | exact HB.out | apply below_alloc | apply pw_below_drewN | apply below_drew1) | exact HB.out)))); have n2_ := Aside0.mk (below_step (by repeat (first | (with_reducible first | exact HB.out | apply below_alloc | apply pw_below_drewN | apply below_drew1) | exact HB.out)) hb); clear HO156; clear HB; have HO156 := n0_; have HO160 := n1_; have HB := n2_; clear n0_ n1_ n2_; clear hb ho6; obtain ⟨Ao7, co7, eo7⟩ := Kd.R_slice HO156.out; subst eo7; obtain ⟨Ao8, co8, eo8⟩ := Kd.R_slice HO160.out; subst eo8) | (go_at_call 13; (with_reducible refine (marlineref01_Equal.calls k _ _ t154 _ _ y158 t161 _ ?side1 ?side2 ?side3 ?side4 A3.out).mono ?_); (case side1 => repeat (first | exact (Kd.R_reads' HO156.out).2.2 | (with_reducible refine Kd.C_alloc ?_ _) | (with_reducible refine Kd.C_drewN ?_ _) | (with_reducible refine Kd.C_drew ?_))); (case side2 => exact (Kd.R_reads' HO156.out).2.1); (case side3 => repeat (first | exact (Kd.R_reads' HO160.out).2.2 | (with_reducible refine Kd.C_alloc ?_ _) | (with_reducible refine Kd.C_drewN ?_ _) | (with_reducible refine Kd.C_drew ?_))); (case side4 => exact (Kd.R_reads' HO160.out).2.1); rintro e w' ⟨rfl, ⟨nd, rfl⟩⟩))
   go_ret
   exact ⟨by first | rfl | (simp [errW_none, errW_some] <;> rfl) | (simp [*, errW_none, errW_some] <;> rfl), by repeat (first | (with_reducible first | exact HB.out | apply below_alloc | apply pw_below_drewN | apply below_drew1) | exact HB.out)⟩
 · rw [if_neg c2] at H
   have c2b0 : (t157 == 0) = false := beq_eq_false_iff_ne.mpr c2
   have c2b1 : (t157 != 0) = true := bne_iff_ne.mpr c2
   obtain rfl := Option.some.inj H
   go_enter Tryd.func5, Tryd.ntmps5
   go_wp2_with (first | ((with_reducible refine gate_callee (f := 8) rfl ?_); refine goesL_ (some 5) rfl rfl Tryd.func8 (by kernel_rfl) rfl #[.agg #[.int .u16 49185, .int .u8 9, .int .u8 0, .slice none 0 0, .int .u16 0, .int .u32 1, .slice none 0 0, .slice none 0 0, .slice none 0 0, .slice none 0 0]] rfl (by (try simp only [List.map_toArray, List.map_cons, List.map_nil]); first | done | rfl | (simp only [List.length_drop, List.length_take]; rfl)) ?_; (refine (lcp_Put.calls k 49185 9 0 _ _ ([] : List (S71)) 0 1 _ _ ([] : List Int) _ _ ([] : List Int) _ _ ([] : List Int) _ _ ([] : List Int) t154 t157 _ ?side1 ?side2 ?side3 ?side4 ?side5 ?side6 ?side7 ?side8 ?side9 ?side10 A1.out).mono ?_); (case side1 => exact Kd.C_nil _ _); (case side2 => exact Nat.le_refl _); (case side3 => exact Kd.C_nil _ _); (case side4 => exact Nat.le_refl _); (case side5 => exact Kd.C_nil _ _); (case side6 => exact Nat.le_refl _); (case side7 => exact Kd.C_nil _ _); (case side8 => exact Nat.le_refl _); (case side9 => exact Kd.C_nil _ _); (case side10 => exact Nat.le_refl _); rintro e w9 ⟨v155, rfl, ho0, hb⟩; refine ⟨_, rfl, ?_⟩; have n0_ := Aside0.mk (Kd.R_lower ho0 (below_size (by repeat (first | (with_reducible first | exact HB.out | apply below_alloc | apply pw_below_drewN | apply below_drew1) | exact HB.out)))); have n1_ := Aside0.mk (below_step (by repeat (first | (with_reducible first | exact HB.out | apply below_alloc | apply pw_below_drewN | apply below_drew1) | exact HB.out)) hb); clear HB; have HO156 := n0_; have HB := n1_; clear n0_ n1_; (try clear hb); (try clear hb2); (try clear hk); (try clear hi); (try clear ho0)))
   go_ret
   exact ⟨by first | rfl | (simp [errW_none, errW_some] <;> rfl) | (simp [*, errW_none, errW_some] <;> rfl), by repeat (first | (with_reducible first | exact HB.out | apply below_alloc | apply pw_below_drewN | apply below_drew1) | exact HB.out)⟩
end Go.Proofs.YtgjdjjofhmhimaaDoor.Print
namespace Go.Proofs.YtgjdjjofhmhimaaDoor.Hw
open Go.RowKit Go.Proofs.YtgjdjjofhmhimaaDoorW.PrintWords Go.Proofs.YtgjdjjofhmhimaaDoorW.PrintLast
set_option linter.unusedVariables false
set_option linter.unusedSimpArgs false
structure OnlyG (W w1 : World) (g : Nat) : Prop where
 os : w1.os = W.os
 tape : w1.tape = W.tape
 output : w1.output = W.output
 size : w1.heap.size = W.heap.size
 block : ∀ k, k ≠ g → w1.heap[k]? = W.heap[k]?
theorem only_set (W : World) (g o : Nat) (v : Value) : OnlyG W (W.setCell ⟨g, o, none⟩ v) g :=
 ⟨rfl, rfl, rfl, by simp [World.setCell], fun k hk => Below.heap_setCell W ⟨g, o, none⟩ v k hk⟩
theorem OnlyG.trans {W w1 w2 : World} {g : Nat} (h : OnlyG W w1 g) (k : OnlyG w1 w2 g) : OnlyG W w2 g :=
 ⟨k.os.trans h.os, k.tape.trans h.tape, k.output.trans h.output, k.size.trans h.size, fun j hj => (k.block j hj).trans (h.block j hj)⟩
theorem OnlyG.refl (W : World) (g : Nat) : OnlyG W W g := ⟨rfl, rfl, rfl, rfl, fun _ _ => rfl⟩
theorem only_sets (g : Nat) : ∀ (vs : List Value) (o : Nat) (W : World), OnlyG W (W.setCells g o vs) g
 | [], _, W => OnlyG.refl W g
 | v :: r, o, W => (only_set W g o v).trans (only_sets g r (o + 1) _)
theorem below_only {base g : Nat} {w W w1 : World} (h : Below base w W) (k : OnlyG W w1 g) (hg : base ≤ g) : Below base w w1 :=
 ⟨k.os.trans h.os, k.tape.trans h.tape, k.output.trans h.output, by rw [k.size]; exact h.size, fun j hj => (k.block j (by omega)).trans (h.block j hj)⟩
theorem blk_only {W w1 : World} {g g' : Nat} {o : Obj} (h : W.heap[g']? = some o) (k : OnlyG W w1 g) (hne : g' ≠ g) : w1.heap[g']? = some o := (k.block g' hne).trans h
def setAll (cs : Array Value) : Nat → List Value → Array Value
 | _, [] => cs
 | o, v :: r => setAll (cs.setIfInBounds o v) (o + 1) r
theorem setAll_get : ∀ (vs : List Value) (cs : Array Value) (o i : Nat), o + vs.length ≤ cs.size → (setAll cs o vs)[i]? = if o ≤ i ∧ i < o + vs.length then vs[i - o]? else cs[i]?
 | [], cs, o, i, _ => by rw [setAll, if_neg (by simp only [List.length_nil]; omega)]
 | v :: r, cs, o, i, h => by
  simp only [List.length_cons] at h
  rw [setAll, setAll_get r _ (o + 1) i (by simp; omega)]
  by_cases h1 : o + 1 ≤ i ∧ i < o + 1 + r.length
  · rw [if_pos h1, if_pos (by simp only [List.length_cons]; omega)]
    obtain ⟨j, rfl⟩ : ∃ j, i = o + 1 + j := ⟨i - (o + 1), by omega⟩
    rw [show o + 1 + j - o = j + 1 by omega, show o + 1 + j - (o + 1) = j by omega]
    simp
  · rw [if_neg h1]
    by_cases h2 : i = o
    · subst h2
      rw [if_pos (by simp only [List.length_cons]; omega)]
      rw [Nat.sub_self, List.getElem?_cons_zero, Array.getElem?_setIfInBounds_self_of_lt (by omega)]
    · rw [if_neg (by simp only [List.length_cons]; omega), Array.getElem?_setIfInBounds_ne (by omega)]
theorem setAll_all {cs : Array Value} {vs : List Value} (h : cs.size = vs.length) : setAll cs 0 vs = vs.toArray := by
 apply Array.ext_getElem?
 intro i
 rw [setAll_get vs cs 0 i (by omega)]
 by_cases hi : i < vs.length
 · rw [if_pos (by omega)]; simp
 · rw [if_neg (by omega), Array.getElem?_eq_none (by omega)]
   simp only [List.getElem?_toArray]
   rw [List.getElem?_eq_none (by omega)]
theorem blk_sets {g : Nat} {t : TypeId} : ∀ (vs : List Value) (o : Nat) (W : World) (cs : Array Value), W.heap[g]? = some (.cells cs t (0, 0)) → (W.setCells g o vs).heap[g]? = some (.cells (setAll cs o vs) t (0, 0))
 | [], _, _, _, h => h
 | v :: r, o, W, cs, h => blk_sets r (o + 1) _ _ (blk_set h o v)
section
variable {P : Program} {ops : Array Oper} {o : Oper} {rest : List Oper} {a : Act} {Q : Exit → Act → World → Prop} {W : World} {g j : Nat} {t ty : TypeId} {cs cells : Array Value} {x y : Operand} {d : TypeDesc} {v : Value}
theorem range_blk (hb : W.heap[g]? = some (.cells cs t (0, 0))) : W.rangeAt g 0 cs.toList := fun j v hv => by
 rw [Nat.zero_add, blk_cell hb j]
 simpa using hv
theorem there_blk (hb : W.heap[g]? = some (.cells cs t (0, 0))) {n : Nat} (hn : n ≤ cs.size) : W.there g 0 n := fun j hj => by
 rw [Nat.zero_add]
 refine ⟨?_, blk_frozen hb j⟩
 rw [blk_cell hb j]
 simp; omega
theorem ev_box (hgd : o.guard = none) (ho : o.op = .box ty x) (hx : a.eval x = .agg cs)
 (h : ∀ g, g = W.heap.size → ∀ w1, w1.heap[g]? = some (.cells cs ty (0, 0)) → Below W.heap.size W w1 → wpList P ops Q rest (a.put o.dst (.pointer (some ⟨g, 0, none⟩))) w1) : wpList P ops Q (o :: rest) a W := by
 have hrun : (execOp a.eval o).run P W = .ok (.value (.pointer (some ⟨W.heap.size, 0, none⟩))) (W.alloc (.cells cs ty (0, 0))) := by
  unfold execOp
  simp only [ho, hx]
  rfl
 exact Kd.event_run hgd hrun (h _ rfl _ (blk_new W _) (below_alloc (Below.refl _ _) _))
theorem ev_slice {n : Nat} {e : TypeId} (hgd : o.guard = none) (hrun : (execOp a.eval o).run P W = .ok (.value (.slice (some ⟨W.heap.size, 0, none⟩) n n)) (W.alloc (.cells cs e (0, 0))))
 (h : ∀ g, g = W.heap.size → ∀ w1, w1.heap[g]? = some (.cells cs e (0, 0)) → Below W.heap.size W w1 → wpList P ops Q rest (a.put o.dst (.slice (some ⟨g, 0, none⟩) n n)) w1) : wpList P ops Q (o :: rest) a W :=
 Kd.event_run hgd hrun (h _ rfl _ (blk_new W _) (below_alloc (Below.refl _ _) _))
theorem ev_load (hgd : o.guard = none) (ho : o.op = .load ty x) (hx : a.eval x = .pointer (some ⟨g, 0, none⟩)) (hb : W.heap[g]? = some (.cells cs t (0, 0)))
 (hu : P.underlying ty = some d) (hd : d.isRow = true) (hi : (P.info? ty).map (·.size) = some cs.size) (h : wpList P ops Q rest (a.put o.dst (.agg cs)) W) : wpList P ops Q (o :: rest) a W :=
 wpList_load_mid hgd ty x ho g 0 hx cs.toList d (range_blk hb) hu hd (by simpa using hi) (by simpa using h)
theorem ev_store (hgd : o.guard = none) (ho : o.op = .store ty x y) (hx : a.eval x = .pointer (some ⟨g, 0, none⟩)) (hy : a.eval y = .agg cells) (hb : W.heap[g]? = some (.cells cs t (0, 0)))
 (hs : cs.size = cells.size) (hi : (P.info? ty).map (·.size) = some cells.size) (h1 : cells.all (·.oneCell') = true)
 (h : ∀ w1, w1.heap[g]? = some (.cells cells t (0, 0)) → OnlyG W w1 g → wpList P ops Q rest (a.put o.dst undef) w1) : wpList P ops Q (o :: rest) a W :=
 wpList_store_mid hgd ty x y ho g 0 cells hx hy (there_blk hb (by omega)) hi h1 (h _ (by have := blk_sets cells.toList 0 W cs hb; rw [setAll_all (by simpa using hs)] at this; simpa using this) (only_sets g _ 0 W))
theorem ev_loadf (hgd : o.guard = none) (ho : o.op = .load ty x) (hx : a.eval x = .pointer (some ⟨g, j, none⟩)) (hb : W.heap[g]? = some (.cells cs t (0, 0))) (hv : cs[j]? = some v)
 (hu : P.underlying ty = some d) (hd : d.isRow = false) (h : wpList P ops Q rest (a.put o.dst v) W) : wpList P ops Q (o :: rest) a W := by
 have hagg : ∀ w : World, (isAgg ty).run P w = .ok false w := fun w => by
  unfold isAgg
  rw [Sem.run_bind, run_underlying hu w]
  cases d <;> simp_all
 have hc : W.cell? ⟨g, j, none⟩ = some v := (blk_cell hb j).trans hv
 have hrun : (loadVar ty ⟨g, j, none⟩).run P W = .ok v W := by simp [loadVar, Sem.run_bind, hagg, hc]
 refine wpList_plain hgd fun K hK => ?_
 unfold Oper.wp execOp
 simp only [ho, hx, Instr.loadAt, Instr.sureAddr, Sem.run_bind, Sem.run_pure, Result.andThen_ok, hrun]
 exact hK _ _ h
theorem ev_storef (hgd : o.guard = none) (ho : o.op = .store ty x y) (hx : a.eval x = .pointer (some ⟨g, j, none⟩)) (hy : a.eval y = v) (hb : W.heap[g]? = some (.cells cs t (0, 0))) (hj : j < cs.size)
 (hi : (P.info? ty).map (·.size) = some 1) (h1 : v.oneCell' = true) (hc' : cs.setIfInBounds j v = cells)
 (h : ∀ w1, w1.heap[g]? = some (.cells cells t (0, 0)) → OnlyG W w1 g → wpList P ops Q rest (a.put o.dst undef) w1) : wpList P ops Q (o :: rest) a W := by
 cases hq : P.info? ty with
 | none => simp [hq] at hi
 | some i =>
  have hs : i.size = 1 := by simpa [hq] using hi
  have hcell : W.cell? ⟨g, j, none⟩ = some cs[j] := by rw [blk_cell hb j]; simp [hj]
  have hfz := blk_frozen hb j
  have hone : v.cells = #[v] := by cases v <;> first | rfl | simp [Value.oneCell'] at h1
  have hadd : (⟨g, j, none⟩ : Addr).add 0 = ⟨g, j, none⟩ := by unfold Addr.add; split <;> simp_all
  have hrun : (storeVar ty ⟨g, j, none⟩ v).run P W = .ok () (W.setCell ⟨g, j, none⟩ v) := by
   simp [storeVar, hone, sizeOf, typeInfo, hq, hs, storeCells, run_store P _ _ v _ h1, hadd, hcell, hfz, Result.andThen]
  refine wpList_plain hgd fun K hK => ?_
  unfold Oper.wp execOp
  simp only [ho, hx, hy, Instr.storeAt, Instr.sureAddr, Sem.run_bind, Sem.run_pure, Result.andThen_ok, hrun]
  exact hK _ _ (h _ (hc' ▸ blk_set hb j v) (only_set W g j v))
variable {Kc : Act → World → Prop}
end
end Go.Proofs.YtgjdjjofhmhimaaDoor.Hw
namespace Go.Proofs.YtgjdjjofhmhimaaDoor.Hw
open Go.RowKit Go.Proofs.YtgjdjjofhmhimaaDoorW.PrintWords Go.Proofs.YtgjdjjofhmhimaaDoorW.PrintLast Go.Proofs.YtgjdjjofhmhimaaDoorW.PrintMore Go.Proofs.YtgjdjjofhmhimaaDoor.Print
set_option linter.unusedVariables false
abbrev pk (a0 a1 a2 : Int) (v3 : Value) (a4 a5 : Int) (v6 v7 v8 v9 : Value) : Array Value := #[.int .u16 a0, .int .u8 a1, .int .u8 a2, v3, .int .u16 a4, .int .u32 a5, v6, v7, v8, v9]
theorem pk_one {a0 a1 a2 a4 a5 : Int} {v3 v6 v7 v8 v9 : Value} (h3 : v3.oneCell' = true) (h6 : v6.oneCell' = true) (h7 : v7.oneCell' = true) (h8 : v8.oneCell' = true) (h9 : v9.oneCell' = true) : (pk a0 a1 a2 v3 a4 a5 v6 v7 v8 v9).all (·.oneCell') = true := by
 simp [h3, h6, h7, h8, h9, show ∀ k n, (Value.int k n).oneCell' = true from fun _ _ => rfl]
abbrev Rd {α : Type} (d : Kd α) (W : World) (v : Value) (xs : List α) : Prop := Kd.V d 0 W 0 (fun _ => True) v xs
section
variable {α : Type} {d : Kd α} {e base : Nat} {ok : Nat → Prop} {W W1 w : World} {v : Value} {xs : List α}
theorem rd_of_v (h : Kd.V d e W base ok v xs) : Rd d W v xs := Kd.V_mono (h : Kd.V d 0 W 0 ok v xs) (fun _ _ => trivial)
theorem rd_of_n (h : Kd.N d e W base ok v xs) : Rd d W v xs := by
 obtain ⟨A, c, rfl, hl, hc⟩ := Kd.N_reads h
 exact Kd.V_mk hl (Kd.F_mono (Kd.N_F h) (fun _ _ => trivial))
theorem rd_came {A : Option Addr} {c : Nat} (hd : Kd.Heap d) (hr : Kd.C d w A xs.length xs) (hc : xs.length ≤ c) (hb : Below w.heap.size w W) : Rd d W (.slice A xs.length c) xs :=
 rd_of_v (e := 0) (base := 0) (Kd.V_mk hc (Kd.F_below (Kd.C_F hd hr) hb))
theorem rd_blk1 {g : Nat} {cs : List Value} {t : TypeId} {x : α} (hd : Kd.Heap d) (hb : W.heap[g]? = some (.cells cs.toArray t (0, 0))) (hk : d.K W x cs) : Rd d W (.slice (some ⟨g, 0, none⟩) 1 1) [x] := by
 have hc : Kd.C d W (some ⟨g, 0, none⟩) 1 [x] := ⟨rfl, by decide, fun _ => ⟨_, rfl, fun j p hj => by
  have h0 : j = 0 ∧ p = x := by
   cases j with
   | zero => simpa using hj.symm
   | succ j => simp at hj
  obtain ⟨rfl, rfl⟩ := h0
  refine ⟨cs, d.K_len hk, hk, fun i u hu => ?_⟩
  rw [add_plain, blk_cell hb]
  simpa using hu⟩⟩
 exact rd_came (xs := [x]) hd hc (Nat.le_refl 1) (Below.refl _ _)
end
theorem k_int (k : IntKind) (W : World) (n : Int) : (Kd.int k).K W n [.int k n] := rfl
theorem k_opt0 (W : World) : k34.K W ⟨0, []⟩ [.int .u8 0, .slice none 0 0] := ⟨[.int .u8 0], [.slice none 0 0], rfl, rfl, ⟨none, 0, rfl, Nat.le_refl 0, Kd.C_nil _ W⟩⟩
def PkIn {α : Type} (d : Kd α) (W : World) (x : Value) (a0 a1 a2 : Int) (o : List α) (a4 a5 : Int) (l6 l7 l8 l9 : List Int) : Prop :=
 ∃ v3 v6 v7 v8 v9 : Value, x = .agg (pk a0 a1 a2 v3 a4 a5 v6 v7 v8 v9) ∧ Rd d W v3 o ∧ Rd (Kd.int .u8) W v6 l6 ∧ Rd (Kd.int .u8) W v7 l7 ∧ Rd (Kd.int .u8) W v8 l8 ∧ Rd (Kd.int .u32) W v9 l9
theorem few_calls {W : World} {x : Value} {a0 a1 a2 a4 a5 : Int} {o : List S34} {l6 l7 l8 l9 : List Int} {k : Nat} {r : Bool} (h : PkIn k34 W x a0 a1 a2 o a4 a5 l6 l7 l8 l9) (hf : marlinelaw15_Few.f k a0 a1 a2 o a4 a5 l6 l7 l8 l9 = some r) :
 Calls Tryd.prog 6 #[x] W fun e w' => e = .returned (.bool r) ∧ Below W.heap.size W w' := by
 obtain ⟨v3, v6, v7, v8, v9, rfl, ⟨A3, c3, rfl, n3, f3⟩, ⟨A6, c6, rfl, n6, f6⟩, ⟨A7, c7, rfl, n7, f7⟩, ⟨A8, c8, rfl, n8, f8⟩, ⟨A9, c9, rfl, n9, f9⟩⟩ := h
 exact marlinelaw15_Few.calls k a0 a1 a2 A3 c3 o a4 a5 A6 c6 l6 A7 c7 l7 A8 c8 l8 A9 c9 l9 r W (Kd.F_now f3) n3 (Kd.F_now f6) n6 (Kd.F_now f7) n7 (Kd.F_now f8) n8 (Kd.F_now f9) n9 hf
theorem of_calls {W : World} {x : Value} {a0 a1 a2 a4 a5 r0 r1 r2 r4 r5 : Int} {o : List S34} {q : List S71} {l6 l7 l8 l9 m6 m7 m8 m9 : List Int} {k : Nat} (h : PkIn k34 W x a0 a1 a2 o a4 a5 l6 l7 l8 l9)
 (hf : marlinelaw15_Of.f k a0 a1 a2 o a4 a5 l6 l7 l8 l9 = some (r0, r1, r2, q, r4, r5, m6, m7, m8, m9)) :
 Calls Tryd.prog 9 #[x] W fun e w' => ∃ y, e = .returned y ∧ PkIn k71 w' y r0 r1 r2 q r4 r5 m6 m7 m8 m9 ∧ Below W.heap.size W w' := by
 obtain ⟨v3, v6, v7, v8, v9, rfl, ⟨A3, c3, rfl, n3, f3⟩, ⟨A6, c6, rfl, n6, f6⟩, ⟨A7, c7, rfl, n7, f7⟩, ⟨A8, c8, rfl, n8, f8⟩, ⟨A9, c9, rfl, n9, f9⟩⟩ := h
 refine (marlinelaw15_Of.calls k a0 a1 a2 (fun _ => True) A3 c3 o a4 a5 (fun _ => True) A6 c6 l6 (fun _ => True) A7 c7 l7 (fun _ => True) A8 c8 l8 (fun _ => True) A9 c9 l9 _ _ _ _ _ _ _ _ _ _ W (Kd.V_mk n3 f3) (Kd.V_mk n6 f6) (Kd.V_mk n7 f7) (Kd.V_mk n8 f8) (Kd.V_mk n9 f9) hf).mono ?_
 rintro e w' ⟨u3, u6, u7, u8, u9, rfl, h3, h6, h7, h8, h9, hb⟩
 exact ⟨_, rfl, ⟨u3, u6, u7, u8, u9, rfl, rd_of_n h3, rd_of_v h6, rd_of_v h7, rd_of_v h8, rd_of_v h9⟩, hb⟩
end Go.Proofs.YtgjdjjofhmhimaaDoor.Hw
