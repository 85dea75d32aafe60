/- Texts of this claim, several in one, told shortly by a program of this claim (wip/x/shrink.py): what Go functions come to, and plain words on it. -/
import Derived.Test.YtgjeahgagciagaaShChapTells4
namespace Go.Proofs.Ytgjeahgagciagaa.Print
open Go.RowKit Go.Proofs.YtgjeahgagciagaaW.PrintWords Go.Proofs.YtgjeahgagciagaaW.PrintLast Go.Proofs.YtgjeahgagciagaaW.PrintMore
attribute [local go_sem] max2_int min2_int max_two min_two max_three min_three max_four min_four
set_option linter.unusedVariables false
set_option linter.unusedSimpArgs false
mutual
def marlineref18_Put.j0 : Nat → Bool → Int → Int → Int → List (S56) → Int → Int → List Int → List Int → List Int → List Int → Option (List Int × Int)
 | 0, _, _, _, _, _, _, _, _, _, _, _ => none
 | k + 1, x4, x772000, x772001, x772002, x772003, x772004, x772005, x772006, x772007, x772008, x772009 => if (x772003.length : Int) > 0 then (marlineref18_Put.j1 k x4 true x772000 x772001 x772002 x772003 x772004 x772005 x772006 x772007 x772008 x772009) else (if x772004 = 0 then (if x772005 = 0 then (if (x772009.length : Int) > 0 then (marlineref18_Put.j1 k x4 true x772000 x772001 x772002 x772003 x772004 x772005 x772006 x772007 x772008 x772009) else (if x4 = true then (if (x772008.length : Int) > 0 then (marlineref18_Put.j1 k x4 true x772000 x772001 x772002 x772003 x772004 x772005 x772006 x772007 x772008 x772009) else (marlineref18_Put.j1 k x4 false x772000 x772001 x772002 x772003 x772004 x772005 x772006 x772007 x772008 x772009)) else (if (x772006.length : Int) > 0 then (marlineref18_Put.j1 k x4 true x772000 x772001 x772002 x772003 x772004 x772005 x772006 x772007 x772008 x772009) else (marlineref18_Put.j1 k x4 (decide ((x772007.length : Int) > 0)) x772000 x772001 x772002 x772003 x772004 x772005 x772006 x772007 x772008 x772009)))) else (marlineref18_Put.j1 k x4 true x772000 x772001 x772002 x772003 x772004 x772005 x772006 x772007 x772008 x772009)) else (marlineref18_Put.j1 k x4 true x772000 x772001 x772002 x772003 x772004 x772005 x772006 x772007 x772008 x772009))
def marlineref18_Put.j1 : Nat → Bool → Bool → Int → Int → Int → List (S56) → Int → Int → List Int → List Int → List Int → List Int → Option (List Int × Int)
 | 0, _, _, _, _, _, _, _, _, _, _, _, _ => none
 | k + 1, x4, x61, x772000, x772001, x772002, x772003, x772004, x772005, x772006, x772007, x772008, x772009 => if x61 = true then (some (([] : List Int), 9)) else (if x4 = true then (marlineref18_Put.j2 k x4 ((x772006.length : Int) == 0) x772000 x772001 x772002 x772003 x772004 x772005 x772006 x772007 x772008 x772009) else (marlineref18_Put.j2 k x4 false x772000 x772001 x772002 x772003 x772004 x772005 x772006 x772007 x772008 x772009))
def marlineref18_Put.j2 : Nat → Bool → Bool → Int → Int → Int → List (S56) → Int → Int → List Int → List Int → List Int → List Int → Option (List Int × Int)
 | 0, _, _, _, _, _, _, _, _, _, _, _, _ => none
 | k + 1, x4, x68, x772000, x772001, x772002, x772003, x772004, x772005, x772006, x772007, x772008, x772009 => if x68 = true then (some (([] : List Int), 4)) else (if (x772006.length : Int) > 255 then (some (([] : List Int), 3)) else ((some (([] : List Int) : List Int)).bind fun y772 => (if y772.length + x772008.length < 140737488355328 then ((some (y772 ++ x772008 : List Int)).bind fun y775 => (if x4 = true then (if y775.length < 140737488355328 then ((some (y775 ++ [((x772006.length : Int)) % 256] : List Int)).bind fun y778 => (if y778.length + x772006.length < 140737488355328 then ((some (y778 ++ x772006 : List Int)).bind fun y781 => (if y781.length + x772007.length < 140737488355328 then (marlineref18_Put.j3 k (y781 ++ x772007) x772000 x772001 x772002 x772003 x772004 x772005 x772006 x772007 x772008 x772009) else (none))) else (none))) else (none)) else (marlineref18_Put.j3 k y775 x772000 x772001 x772002 x772003 x772004 x772005 x772006 x772007 x772008 x772009))) else (none))))
def marlineref18_Put.j3 : Nat → List Int → Int → Int → Int → List (S56) → Int → Int → List Int → List Int → List Int → List Int → Option (List Int × Int)
 | 0, _, _, _, _, _, _, _, _, _, _, _ => none
 | k + 1, x5, x772000, x772001, x772002, x772003, x772004, x772005, x772006, x772007, x772008, x772009 => (marlineref13_Put.f x772001 x772002 x5).bind fun bt787 => (some (bt787.1, bt787.2))
end
def marlineref18_Put.f (k : Nat) (a0_0 : Int) (a0_1 : Int) (a0_2 : Int) (l0_3 : List (S56)) (a0_4 : Int) (a0_5 : Int) (l0_6 : List Int) (l0_7 : List Int) (l0_8 : List Int) (l0_9 : List Int) : Option (List Int × Int) := if a0_0 = 49699 then (if a0_1 = 1 then (marlineref18_Put.j0 k true a0_0 a0_1 a0_2 l0_3 a0_4 a0_5 l0_6 l0_7 l0_8 l0_9) else (marlineref18_Put.j0 k (a0_1 == 2) a0_0 a0_1 a0_2 l0_3 a0_4 a0_5 l0_6 l0_7 l0_8 l0_9)) else (some (([] : List Int), 8))
def marlineref18_Put.T13 : Bool × List (List Nat × List Nat) := (true, [([], []), ([], []), ([1], [1]), ([0, 2], [0, 2]), ([], []), ([4], [4]), ([3, 5, 3], [3, 5]), ([6, 6, 0, 1, 2, 3, 4, 5, 6], [0, 6])])
def marlineref18_Put.B13 : List Nat := [0, 0, 2, 7, 0, 16, 63, 127]
theorem marlineref18_Put.tab13 : rtab .any (opsOf Try.f39 13) = marlineref18_Put.T13 := by kernel_rfl
theorem marlineref18_Put.bits13 : waitsOk marlineref18_Put.T13.2 marlineref18_Put.B13 = true := by kernel_rfl
set_option maxHeartbeats 8000000 in
set_option maxRecDepth 100000 in
theorem marlineref18_Put.calls (k : Nat) (a0_0 : Int) (a0_1 : Int) (a0_2 : Int) (A0_3 : Option Addr) (c0_3 : Nat) (l0_3 : List (S56)) (a0_4 : Int) (a0_5 : Int) (A0_6 : Option Addr) (c0_6 : Nat) (l0_6 : List Int) (A0_7 : Option Addr) (c0_7 : Nat) (l0_7 : List Int) (A0_8 : Option Addr) (c0_8 : Nat) (l0_8 : List Int) (A0_9 : Option Addr) (c0_9 : Nat) (l0_9 : List Int) (r1 : List Int) (r2 : Int) (w : World) (hr0_3 : Kd.C k56 w A0_3 l0_3.length l0_3) (hc0_3 : l0_3.length ≤ c0_3) (hr0_6 : Kd.C (Kd.int .u8) w A0_6 l0_6.length l0_6) (hc0_6 : l0_6.length ≤ c0_6) (hr0_7 : Kd.C (Kd.int .u8) w A0_7 l0_7.length l0_7) (hc0_7 : l0_7.length ≤ c0_7) (hr0_8 : Kd.C (Kd.int .u8) w A0_8 l0_8.length l0_8) (hc0_8 : l0_8.length ≤ c0_8) (hr0_9 : Kd.C (Kd.int .u32) w A0_9 l0_9.length l0_9) (hc0_9 : l0_9.length ≤ c0_9) (h : marlineref18_Put.f k a0_0 a0_1 a0_2 l0_3 a0_4 a0_5 l0_6 l0_7 l0_8 l0_9 = some (r1, r2)) :
 Calls Try.prog 39 #[.agg #[.int .u16 a0_0, .int .u8 a0_1, .int .u8 a0_2, .slice A0_3 l0_3.length c0_3, .int .u16 a0_4, .int .u32 a0_5, .slice A0_6 l0_6.length c0_6, .slice A0_7 l0_7.length c0_7, .slice A0_8 l0_8.length c0_8, .slice A0_9 l0_9.length c0_9]] w fun e w' => ∃ v0_ : Value, e = .returned (.tuple #[v0_, .int .i64 r2]) ∧ Kd.R (Kd.int .u8) 5 w' w.heap.size (fun _ => True) v0_ r1 ∧ Below w.heap.size w w' := by
 have hu44 := Try.underlying44
 have HR0_3 := Aside0.mk hr0_3
 have HC0_3 := Aside0.mk hc0_3
 clear hr0_3 hc0_3
 have HR0_6 := Aside0.mk hr0_6
 have HC0_6 := Aside0.mk hc0_6
 clear hr0_6 hc0_6
 have HR0_7 := Aside0.mk hr0_7
 have HC0_7 := Aside0.mk hc0_7
 clear hr0_7 hc0_7
 have HR0_8 := Aside0.mk hr0_8
 have HC0_8 := Aside0.mk hc0_8
 clear hr0_8 hc0_8
 have HR0_9 := Aside0.mk hr0_9
 have HC0_9 := Aside0.mk hc0_9
 clear hr0_9 hc0_9
 have HB := Aside0.mk (Below.refl w.heap.size w)
 have H : (if a0_0 = 49699 then (if a0_1 = 1 then (marlineref18_Put.j0 k true a0_0 a0_1 a0_2 l0_3 a0_4 a0_5 l0_6 l0_7 l0_8 l0_9) else (marlineref18_Put.j0 k (a0_1 == 2) a0_0 a0_1 a0_2 l0_3 a0_4 a0_5 l0_6 l0_7 l0_8 l0_9)) else (some (([] : List Int), 8))) = some (r1, r2) := h
 clear h
 by_cases c2 : a0_0 = 49699
 · rw [if_pos c2] at H
   have c2b0 : (a0_0 == 49699) = true := beq_iff_eq.mpr c2
   have c2b1 : (a0_0 != 49699) = false := bne_eq_false_iff_eq.mpr c2
   clear c2
   have HC3 := Aside0.mk H
   clear H
   go_enter Try.func39, Try.ntmps39
   go_upto_region 3 with (first | ((with_reducible refine gate_dst (N := 1) rfl ?_); (try (refine gate_guard (by rfl) ?_; dsimp only)); refine box_event ?hg (N := 1) ?hd (cs := #[.int .u16 a0_0, .int .u8 a0_1, .int .u8 a0_2, .slice A0_3 l0_3.length c0_3, .int .u16 a0_4, .int .u32 a0_5, .slice A0_6 l0_6.length c0_6, .slice A0_7 l0_7.length c0_7, .slice A0_8 l0_8.length c0_8, .slice A0_9 l0_9.length c0_9]) (t := 44) ?hr ?_; (case hd => rfl); (case hg => rfl); (case hr => first | (go_simp; done) | (go_simp; simp only [IntKind.wrap_u8, IntKind.wrap_u16, IntKind.wrap_u32, IntKind.wrap_u64]; done) | (go_simp; rfl)); intro gb771 hg w4 hbox hb; have n0_ := Aside0.mk (below_step (by repeat (first | (with_reducible first | exact HB.out | apply below_alloc | apply pw_below_drewN | apply below_drew1) | exact HB.out)) hb); have n1_ := Aside0.mk (hbox); have n2_ := Aside0.mk ((by rw [hg]; exact (below_size (by repeat (first | (with_reducible first | exact HB.out | apply below_alloc | apply pw_below_drewN | apply below_drew1) | exact HB.out))) : w.heap.size ≤ gb771)); have n3_ := Aside0.mk ((by rw [hg]; exact (below_size (by repeat (first | (with_reducible first | exact HB.out | apply below_alloc | apply pw_below_drewN | apply below_drew1) | exact HB.out))) : w.heap.size ≤ gb771)); clear HB; have HB := n0_; have BK771 := n1_; have GW771 := n2_; have GE771 := n3_; clear n0_ n1_ n2_ n3_; clear hb hbox hg; obtain ⟨⟨hcz5_0, hcz5_1, hcz5_2, hcz5_3, hcz5_4, hcz5_5, hcz5_6, hcz5_7, hcz5_8, hcz5_9⟩, hfz5_0, hfz5_1, hfz5_2, hfz5_3, hfz5_4, hfz5_5, hfz5_6, hfz5_7, hfz5_8, hfz5_9⟩ := cz10 BK771.out))
   (try simp only [Act.put, List.setIfInBounds_toArray, List.set_cons_zero, List.set_cons_succ])
   go_cut [4] (fun v4 wc => ∃ (kq : Nat) (x4_2 : Bool), v4 = .bool x4_2 ∧ Aside0 (marlineref18_Put.j0 kq x4_2 a0_0 a0_1 a0_2 l0_3 a0_4 a0_5 l0_6 l0_7 l0_8 l0_9 = some (r1, r2)) ∧ Aside0 (kq ≤ k) ∧ Aside0 (wc.heap[gb771]? = some (.cells #[.int .u16 a0_0, .int .u8 a0_1, .int .u8 a0_2, (.slice A0_3 l0_3.length c0_3), .int .u16 a0_4, .int .u32 a0_5, (.slice A0_6 l0_6.length c0_6), (.slice A0_7 l0_7.length c0_7), (.slice A0_8 l0_8.length c0_8), (.slice A0_9 l0_9.length c0_9)] 44 (0, 0))) ∧ Aside0 (Below w.heap.size w wc))
   case first =>
    have H := HC3.out
    clear HC3
    by_cases c6 : a0_1 = 1
    · rw [if_pos c6] at H
      have c6b0 : (a0_1 == 1) = true := beq_iff_eq.mpr c6
      have c6b1 : (a0_1 != 1) = false := bne_eq_false_iff_eq.mpr c6
      clear c6
      (first | rw [c6b0] | (simp only [i64_w, i32_w]; rw [c6b0]) | skip)
      have H' := Aside0.mk H
      clear H
      obtain ⟨⟨hcz7_0, hcz7_1, hcz7_2, hcz7_3, hcz7_4, hcz7_5, hcz7_6, hcz7_7, hcz7_8, hcz7_9⟩, hfz7_0, hfz7_1, hfz7_2, hfz7_3, hfz7_4, hfz7_5, hfz7_6, hfz7_7, hfz7_8, hfz7_9⟩ := cz10 BK771.out
      go_wp2
      go_meet
      case rel => exact ⟨_, (true), (by first | rfl | (simp; done) | (simp [*]; done)), H', ⟨by first | omega | exact Nat.le_refl _⟩, ⟨by (with_reducible repeat (first | refine blk_drewN ?_ _ | refine blk_drew ?_ | refine blk_alloc ?_ _)); exact BK771.out⟩, ⟨by repeat (first | (with_reducible first | exact HB.out | apply below_alloc | apply pw_below_drewN | apply below_drew1 | refine below_set ?_ GE771.out) | exact HB.out)⟩⟩
    · rw [if_neg c6] at H
      have c6b0 : (a0_1 == 1) = false := beq_eq_false_iff_ne.mpr c6
      have c6b1 : (a0_1 != 1) = true := bne_iff_ne.mpr c6
      (first | rw [c6b0] | (simp only [i64_w, i32_w]; rw [c6b0]) | skip)
      have H' := Aside0.mk H
      clear H
      obtain ⟨⟨hcz8_0, hcz8_1, hcz8_2, hcz8_3, hcz8_4, hcz8_5, hcz8_6, hcz8_7, hcz8_8, hcz8_9⟩, hfz8_0, hfz8_1, hfz8_2, hfz8_3, hfz8_4, hfz8_5, hfz8_6, hfz8_7, hfz8_8, hfz8_9⟩ := cz10 BK771.out
      go_wp2
      go_meet
      case rel => exact ⟨_, ((a0_1 == 2)), (by first | rfl | (simp; done) | (simp [*]; done)), H', ⟨by first | omega | exact Nat.le_refl _⟩, ⟨by (with_reducible repeat (first | refine blk_drewN ?_ _ | refine blk_drew ?_ | refine blk_alloc ?_ _)); exact BK771.out⟩, ⟨by repeat (first | (with_reducible first | exact HB.out | apply below_alloc | apply pw_below_drewN | apply below_drew1 | refine below_set ?_ GE771.out) | exact HB.out)⟩⟩
   case rest =>
    clear HC3
    try clear c2
    try clear c2b0
    try clear c2b1
    try clear p2
    try clear c3
    try clear c6
    try clear c6b0
    try clear c6b1
    try clear hcz5_0 hcz5_1 hcz5_2 hcz5_3 hcz5_4 hcz5_5 hcz5_6 hcz5_7 hcz5_8 hcz5_9 hfz5_0 hfz5_1 hfz5_2 hfz5_3 hfz5_4 hfz5_5 hfz5_6 hfz5_7 hfz5_8 hfz5_9
    try clear hcz7_0 hcz7_1 hcz7_2 hcz7_3 hcz7_4 hcz7_5 hcz7_6 hcz7_7 hcz7_8 hcz7_9 hfz7_0 hfz7_1 hfz7_2 hfz7_3 hfz7_4 hfz7_5 hfz7_6 hfz7_7 hfz7_8 hfz7_9
    try clear hcz8_0 hcz8_1 hcz8_2 hcz8_3 hcz8_4 hcz8_5 hcz8_6 hcz8_7 hcz8_8 hcz8_9 hfz8_0 hfz8_1 hfz8_2 hfz8_3 hfz8_4 hfz8_5 hfz8_6 hfz8_7 hfz8_8 hfz8_9
    obtain ⟨kq, x4_2, rfl, HA, HJ2, BK771, HB⟩ := hcut
    cases kq with
    | zero => exact absurd HA.out (by simp [marlineref18_Put.j0])
    | succ kj2 =>
     have H := HA.out
     clear HA
     simp only [marlineref18_Put.j0] at H
     have HC9 := Aside0.mk H
     clear H
     go_upto_region 4 with (fail)
     go_cut [61] (fun v61 wc => ∃ (kq : Nat) (x61_8 : Bool), v61 = .bool x61_8 ∧ Aside0 (marlineref18_Put.j1 kq x4_2 x61_8 a0_0 a0_1 a0_2 l0_3 a0_4 a0_5 l0_6 l0_7 l0_8 l0_9 = some (r1, r2)) ∧ Aside0 (kq ≤ kj2) ∧ Aside0 (wc.heap[gb771]? = some (.cells #[.int .u16 a0_0, .int .u8 a0_1, .int .u8 a0_2, (.slice A0_3 l0_3.length c0_3), .int .u16 a0_4, .int .u32 a0_5, (.slice A0_6 l0_6.length c0_6), (.slice A0_7 l0_7.length c0_7), (.slice A0_8 l0_8.length c0_8), (.slice A0_9 l0_9.length c0_9)] 44 (0, 0))) ∧ Aside0 (Below w.heap.size w wc))
     case first =>
      have H := HC9.out
      clear HC9
      by_cases c10 : (l0_3.length : Int) > 0
      · rw [if_pos c10] at H
        have c10b0 : decide (0 < (l0_3.length : Int)) = true := decide_eq_true c10
        have c10b1 : decide (0 < l0_3.length) = true := decide_eq_true (by omega)
        clear c10
        (first | rw [c10b0] | (simp only [i64_w, i32_w]; rw [c10b0]) | skip)
        have H' := Aside0.mk H
        clear H
        obtain ⟨⟨hcz11_0, hcz11_1, hcz11_2, hcz11_3, hcz11_4, hcz11_5, hcz11_6, hcz11_7, hcz11_8, hcz11_9⟩, hfz11_0, hfz11_1, hfz11_2, hfz11_3, hfz11_4, hfz11_5, hfz11_6, hfz11_7, hfz11_8, hfz11_9⟩ := cz10 BK771.out
        go_wp2
        go_meet
        case rel => exact ⟨_, (true), (by first | rfl | (simp; done) | (simp [*]; done)), H', ⟨by have := HJ2.out; first | omega | exact Nat.le_refl _⟩, ⟨by (with_reducible repeat (first | refine blk_drewN ?_ _ | refine blk_drew ?_ | refine blk_alloc ?_ _)); exact BK771.out⟩, ⟨by repeat (first | (with_reducible first | exact HB.out | apply below_alloc | apply pw_below_drewN | apply below_drew1 | refine below_set ?_ GE771.out) | exact HB.out)⟩⟩
      · rw [if_neg c10] at H
        have c10b0 : decide (0 < (l0_3.length : Int)) = false := decide_eq_false c10
        have c10b1 : decide (0 < l0_3.length) = false := decide_eq_false (by omega)
        clear c10
        (first | rw [c10b0] | (simp only [i64_w, i32_w]; rw [c10b0]) | skip)
        by_cases c12 : a0_4 = 0
        · rw [if_pos c12] at H
          have c12b0 : (a0_4 == 0) = true := beq_iff_eq.mpr c12
          have c12b1 : (a0_4 != 0) = false := bne_eq_false_iff_eq.mpr c12
          clear c12
          by_cases c13 : a0_5 = 0
          · rw [if_pos c13] at H
            have c13b0 : (a0_5 == 0) = true := beq_iff_eq.mpr c13
            have c13b1 : (a0_5 != 0) = false := bne_eq_false_iff_eq.mpr c13
            clear c13
            by_cases c14 : (l0_9.length : Int) > 0
            · rw [if_pos c14] at H
              have c14b0 : decide (0 < (l0_9.length : Int)) = true := decide_eq_true c14
              have c14b1 : decide (0 < l0_9.length) = true := decide_eq_true (by omega)
              clear c14
              have H' := Aside0.mk H
              clear H
              obtain ⟨⟨hcz15_0, hcz15_1, hcz15_2, hcz15_3, hcz15_4, hcz15_5, hcz15_6, hcz15_7, hcz15_8, hcz15_9⟩, hfz15_0, hfz15_1, hfz15_2, hfz15_3, hfz15_4, hfz15_5, hfz15_6, hfz15_7, hfz15_8, hfz15_9⟩ := cz10 BK771.out
              go_wp2
              go_meet
              case rel => exact ⟨_, (true), (by first | rfl | (simp; done) | (simp [*]; done)), H', ⟨by have := HJ2.out; first | omega | exact Nat.le_refl _⟩, ⟨by (with_reducible repeat (first | refine blk_drewN ?_ _ | refine blk_drew ?_ | refine blk_alloc ?_ _)); exact BK771.out⟩, ⟨by repeat (first | (with_reducible first | exact HB.out | apply below_alloc | apply pw_below_drewN | apply below_drew1 | refine below_set ?_ GE771.out) | exact HB.out)⟩⟩
            · rw [if_neg c14] at H
              have c14b0 : decide (0 < (l0_9.length : Int)) = false := decide_eq_false c14
              have c14b1 : decide (0 < l0_9.length) = false := decide_eq_false (by omega)
              clear c14
              by_cases c16 : x4_2 = true
              · subst c16
                have H1 : (if (l0_8.length : Int) > 0 then (marlineref18_Put.j1 kj2 true true a0_0 a0_1 a0_2 l0_3 a0_4 a0_5 l0_6 l0_7 l0_8 l0_9) else (marlineref18_Put.j1 kj2 true false a0_0 a0_1 a0_2 l0_3 a0_4 a0_5 l0_6 l0_7 l0_8 l0_9)) = some (r1, r2) := by rw [if_pos rfl] at H; exact H
                clear H
                have H := H1
                clear H1
                by_cases c17 : (l0_8.length : Int) > 0
                · rw [if_pos c17] at H
                  have c17b0 : decide (0 < (l0_8.length : Int)) = true := decide_eq_true c17
                  have c17b1 : decide (0 < l0_8.length) = true := decide_eq_true (by omega)
                  clear c17
                  have H' := Aside0.mk H
                  clear H
                  obtain ⟨⟨hcz18_0, hcz18_1, hcz18_2, hcz18_3, hcz18_4, hcz18_5, hcz18_6, hcz18_7, hcz18_8, hcz18_9⟩, hfz18_0, hfz18_1, hfz18_2, hfz18_3, hfz18_4, hfz18_5, hfz18_6, hfz18_7, hfz18_8, hfz18_9⟩ := cz10 BK771.out
                  go_wp2
                  go_meet
                  case rel => exact ⟨_, (true), (by first | rfl | (simp; done) | (simp [*]; done)), H', ⟨by have := HJ2.out; first | omega | exact Nat.le_refl _⟩, ⟨by (with_reducible repeat (first | refine blk_drewN ?_ _ | refine blk_drew ?_ | refine blk_alloc ?_ _)); exact BK771.out⟩, ⟨by repeat (first | (with_reducible first | exact HB.out | apply below_alloc | apply pw_below_drewN | apply below_drew1 | refine below_set ?_ GE771.out) | exact HB.out)⟩⟩
                · rw [if_neg c17] at H
                  have c17b0 : decide (0 < (l0_8.length : Int)) = false := decide_eq_false c17
                  have c17b1 : decide (0 < l0_8.length) = false := decide_eq_false (by omega)
                  clear c17
                  have H' := Aside0.mk H
                  clear H
                  obtain ⟨⟨hcz19_0, hcz19_1, hcz19_2, hcz19_3, hcz19_4, hcz19_5, hcz19_6, hcz19_7, hcz19_8, hcz19_9⟩, hfz19_0, hfz19_1, hfz19_2, hfz19_3, hfz19_4, hfz19_5, hfz19_6, hfz19_7, hfz19_8, hfz19_9⟩ := cz10 BK771.out
                  go_wp2
                  go_meet
                  case rel => exact ⟨_, (false), (by first | rfl | (simp; done) | (simp [*]; done)), H', ⟨by have := HJ2.out; first | omega | exact Nat.le_refl _⟩, ⟨by (with_reducible repeat (first | refine blk_drewN ?_ _ | refine blk_drew ?_ | refine blk_alloc ?_ _)); exact BK771.out⟩, ⟨by repeat (first | (with_reducible first | exact HB.out | apply below_alloc | apply pw_below_drewN | apply below_drew1 | refine below_set ?_ GE771.out) | exact HB.out)⟩⟩
              · replace c16 := Bool.eq_false_iff.mpr c16
                subst c16
                have H1 : (if (l0_6.length : Int) > 0 then (marlineref18_Put.j1 kj2 false true a0_0 a0_1 a0_2 l0_3 a0_4 a0_5 l0_6 l0_7 l0_8 l0_9) else (marlineref18_Put.j1 kj2 false (decide ((l0_7.length : Int) > 0)) a0_0 a0_1 a0_2 l0_3 a0_4 a0_5 l0_6 l0_7 l0_8 l0_9)) = some (r1, r2) := by rw [if_neg (show ¬ (false = true) by decide)] at H; exact H
                clear H
                have H := H1
                clear H1
                by_cases c20 : (l0_6.length : Int) > 0
                · rw [if_pos c20] at H
                  have c20b0 : decide (0 < (l0_6.length : Int)) = true := decide_eq_true c20
                  have c20b1 : decide (0 < l0_6.length) = true := decide_eq_true (by omega)
                  clear c20
                  have H' := Aside0.mk H
                  clear H
                  obtain ⟨⟨hcz21_0, hcz21_1, hcz21_2, hcz21_3, hcz21_4, hcz21_5, hcz21_6, hcz21_7, hcz21_8, hcz21_9⟩, hfz21_0, hfz21_1, hfz21_2, hfz21_3, hfz21_4, hfz21_5, hfz21_6, hfz21_7, hfz21_8, hfz21_9⟩ := cz10 BK771.out
                  go_wp2
                  go_meet
                  case rel => exact ⟨_, (true), (by first | rfl | (simp; done) | (simp [*]; done)), H', ⟨by have := HJ2.out; first | omega | exact Nat.le_refl _⟩, ⟨by (with_reducible repeat (first | refine blk_drewN ?_ _ | refine blk_drew ?_ | refine blk_alloc ?_ _)); exact BK771.out⟩, ⟨by repeat (first | (with_reducible first | exact HB.out | apply below_alloc | apply pw_below_drewN | apply below_drew1 | refine below_set ?_ GE771.out) | exact HB.out)⟩⟩
                · rw [if_neg c20] at H
                  have c20b0 : decide (0 < (l0_6.length : Int)) = false := decide_eq_false c20
                  have c20b1 : decide (0 < l0_6.length) = false := decide_eq_false (by omega)
                  clear c20
                  have H' := Aside0.mk H
                  clear H
                  obtain ⟨⟨hcz22_0, hcz22_1, hcz22_2, hcz22_3, hcz22_4, hcz22_5, hcz22_6, hcz22_7, hcz22_8, hcz22_9⟩, hfz22_0, hfz22_1, hfz22_2, hfz22_3, hfz22_4, hfz22_5, hfz22_6, hfz22_7, hfz22_8, hfz22_9⟩ := cz10 BK771.out
                  go_wp2
                  go_meet
                  case rel => exact ⟨_, (decide ((l0_7.length : Int) > 0)), (by first | rfl | (simp; done) | (simp [*]; done)), H', ⟨by have := HJ2.out; first | omega | exact Nat.le_refl _⟩, ⟨by (with_reducible repeat (first | refine blk_drewN ?_ _ | refine blk_drew ?_ | refine blk_alloc ?_ _)); exact BK771.out⟩, ⟨by repeat (first | (with_reducible first | exact HB.out | apply below_alloc | apply pw_below_drewN | apply below_drew1 | refine below_set ?_ GE771.out) | exact HB.out)⟩⟩
          · rw [if_neg c13] at H
            have c13b0 : (a0_5 == 0) = false := beq_eq_false_iff_ne.mpr c13
            have c13b1 : (a0_5 != 0) = true := bne_iff_ne.mpr c13
            have H' := Aside0.mk H
            clear H
            obtain ⟨⟨hcz23_0, hcz23_1, hcz23_2, hcz23_3, hcz23_4, hcz23_5, hcz23_6, hcz23_7, hcz23_8, hcz23_9⟩, hfz23_0, hfz23_1, hfz23_2, hfz23_3, hfz23_4, hfz23_5, hfz23_6, hfz23_7, hfz23_8, hfz23_9⟩ := cz10 BK771.out
            go_wp2
            go_meet
            case rel => exact ⟨_, (true), (by first | rfl | (simp; done) | (simp [*]; done)), H', ⟨by have := HJ2.out; first | omega | exact Nat.le_refl _⟩, ⟨by (with_reducible repeat (first | refine blk_drewN ?_ _ | refine blk_drew ?_ | refine blk_alloc ?_ _)); exact BK771.out⟩, ⟨by repeat (first | (with_reducible first | exact HB.out | apply below_alloc | apply pw_below_drewN | apply below_drew1 | refine below_set ?_ GE771.out) | exact HB.out)⟩⟩
        · rw [if_neg c12] at H
          have c12b0 : (a0_4 == 0) = false := beq_eq_false_iff_ne.mpr c12
          have c12b1 : (a0_4 != 0) = true := bne_iff_ne.mpr c12
          have H' := Aside0.mk H
          clear H
          obtain ⟨⟨hcz24_0, hcz24_1, hcz24_2, hcz24_3, hcz24_4, hcz24_5, hcz24_6, hcz24_7, hcz24_8, hcz24_9⟩, hfz24_0, hfz24_1, hfz24_2, hfz24_3, hfz24_4, hfz24_5, hfz24_6, hfz24_7, hfz24_8, hfz24_9⟩ := cz10 BK771.out
          go_wp2
          go_meet
          case rel => exact ⟨_, (true), (by first | rfl | (simp; done) | (simp [*]; done)), H', ⟨by have := HJ2.out; first | omega | exact Nat.le_refl _⟩, ⟨by (with_reducible repeat (first | refine blk_drewN ?_ _ | refine blk_drew ?_ | refine blk_alloc ?_ _)); exact BK771.out⟩, ⟨by repeat (first | (with_reducible first | exact HB.out | apply below_alloc | apply pw_below_drewN | apply below_drew1 | refine below_set ?_ GE771.out) | exact HB.out)⟩⟩
     case rest =>
      clear HC9
      try clear c1
      try clear c2
      try clear c2b0
      try clear c2b1
      try clear p2
      try clear c3
      try clear c6
      try clear c6b0
      try clear c6b1
      try clear c10
      try clear c10b0
      try clear c10b1
      try clear c12
      try clear c12b0
      try clear c12b1
      try clear c13
      try clear c13b0
      try clear c13b1
      try clear c14
      try clear c14b0
      try clear c14b1
      try clear c16
      try clear c17
      try clear c17b0
      try clear c17b1
      try clear c20
      try clear c20b0
      try clear c20b1
      try clear hcz11_0 hcz11_1 hcz11_2 hcz11_3 hcz11_4 hcz11_5 hcz11_6 hcz11_7 hcz11_8 hcz11_9 hfz11_0 hfz11_1 hfz11_2 hfz11_3 hfz11_4 hfz11_5 hfz11_6 hfz11_7 hfz11_8 hfz11_9
      try clear hcz15_0 hcz15_1 hcz15_2 hcz15_3 hcz15_4 hcz15_5 hcz15_6 hcz15_7 hcz15_8 hcz15_9 hfz15_0 hfz15_1 hfz15_2 hfz15_3 hfz15_4 hfz15_5 hfz15_6 hfz15_7 hfz15_8 hfz15_9
      try clear hcz18_0 hcz18_1 hcz18_2 hcz18_3 hcz18_4 hcz18_5 hcz18_6 hcz18_7 hcz18_8 hcz18_9 hfz18_0 hfz18_1 hfz18_2 hfz18_3 hfz18_4 hfz18_5 hfz18_6 hfz18_7 hfz18_8 hfz18_9
      try clear hcz19_0 hcz19_1 hcz19_2 hcz19_3 hcz19_4 hcz19_5 hcz19_6 hcz19_7 hcz19_8 hcz19_9 hfz19_0 hfz19_1 hfz19_2 hfz19_3 hfz19_4 hfz19_5 hfz19_6 hfz19_7 hfz19_8 hfz19_9
      try clear hcz21_0 hcz21_1 hcz21_2 hcz21_3 hcz21_4 hcz21_5 hcz21_6 hcz21_7 hcz21_8 hcz21_9 hfz21_0 hfz21_1 hfz21_2 hfz21_3 hfz21_4 hfz21_5 hfz21_6 hfz21_7 hfz21_8 hfz21_9
      try clear hcz22_0 hcz22_1 hcz22_2 hcz22_3 hcz22_4 hcz22_5 hcz22_6 hcz22_7 hcz22_8 hcz22_9 hfz22_0 hfz22_1 hfz22_2 hfz22_3 hfz22_4 hfz22_5 hfz22_6 hfz22_7 hfz22_8 hfz22_9
      try clear hcz23_0 hcz23_1 hcz23_2 hcz23_3 hcz23_4 hcz23_5 hcz23_6 hcz23_7 hcz23_8 hcz23_9 hfz23_0 hfz23_1 hfz23_2 hfz23_3 hfz23_4 hfz23_5 hfz23_6 hfz23_7 hfz23_8 hfz23_9
      try clear hcz24_0 hcz24_1 hcz24_2 hcz24_3 hcz24_4 hcz24_5 hcz24_6 hcz24_7 hcz24_8 hcz24_9 hfz24_0 hfz24_1 hfz24_2 hfz24_3 hfz24_4 hfz24_5 hfz24_6 hfz24_7 hfz24_8 hfz24_9
      try clear hcz5_0 hcz5_1 hcz5_2 hcz5_3 hcz5_4 hcz5_5 hcz5_6 hcz5_7 hcz5_8 hcz5_9 hfz5_0 hfz5_1 hfz5_2 hfz5_3 hfz5_4 hfz5_5 hfz5_6 hfz5_7 hfz5_8 hfz5_9
      try clear hcz7_0 hcz7_1 hcz7_2 hcz7_3 hcz7_4 hcz7_5 hcz7_6 hcz7_7 hcz7_8 hcz7_9 hfz7_0 hfz7_1 hfz7_2 hfz7_3 hfz7_4 hfz7_5 hfz7_6 hfz7_7 hfz7_8 hfz7_9
      try clear hcz8_0 hcz8_1 hcz8_2 hcz8_3 hcz8_4 hcz8_5 hcz8_6 hcz8_7 hcz8_8 hcz8_9 hfz8_0 hfz8_1 hfz8_2 hfz8_3 hfz8_4 hfz8_5 hfz8_6 hfz8_7 hfz8_8 hfz8_9
      try clear p2
      obtain ⟨kq, x61_8, rfl, HA, HJ8, BK771, HB⟩ := hcut
      cases kq with
      | zero => exact absurd HA.out (by simp [marlineref18_Put.j1])
      | succ kj8 =>
       have H := HA.out
       clear HA
       simp only [marlineref18_Put.j1] at H
       by_cases c25 : x61_8 = true
       · subst c25
         have H1 : (some (([] : List Int), 9)) = some (r1, r2) := by rw [if_pos rfl] at H; exact H
         clear H
         have H := H1
         clear H1
         simp only [Option.some.injEq, Prod.mk.injEq] at H
         obtain ⟨rfl, rfl⟩ := H
         go_wp2
         go_ret2
         exact ⟨_, by first | rfl | (simp [errW_none, errW_some] <;> rfl) | (simp [*, errW_none, errW_some] <;> rfl), by first | exact Kd.R_nil _ _ _ _ _ | exact Kd.N_nil _ _ _ _ _ | exact Kd.V_nil _ _ _ _ _ | exact Kd.Q_nil _ _ _ _ _ | exact Kd.S_nil _ _ _ _ _, by repeat (first | (with_reducible first | exact HB.out | apply below_alloc | apply pw_below_drewN | apply below_drew1 | refine below_set ?_ GE771.out) | exact HB.out)⟩
       · replace c25 := Bool.eq_false_iff.mpr c25
         subst c25
         have H1 : (if x4_2 = true then (marlineref18_Put.j2 kj8 x4_2 ((l0_6.length : Int) == 0) a0_0 a0_1 a0_2 l0_3 a0_4 a0_5 l0_6 l0_7 l0_8 l0_9) else (marlineref18_Put.j2 kj8 x4_2 false a0_0 a0_1 a0_2 l0_3 a0_4 a0_5 l0_6 l0_7 l0_8 l0_9)) = some (r1, r2) := by rw [if_neg (show ¬ (false = true) by decide)] at H; exact H
         clear H
         have H := H1
         clear H1
         have HC26 := Aside0.mk H
         clear H
         go_upto_region 6 with (fail)
         go_cut [68] (fun v68 wc => ∃ (kq : Nat) (x68_25 : Bool), v68 = .bool x68_25 ∧ Aside0 (marlineref18_Put.j2 kq x4_2 x68_25 a0_0 a0_1 a0_2 l0_3 a0_4 a0_5 l0_6 l0_7 l0_8 l0_9 = some (r1, r2)) ∧ Aside0 (kq ≤ kj8) ∧ Aside0 (wc.heap[gb771]? = some (.cells #[.int .u16 a0_0, .int .u8 a0_1, .int .u8 a0_2, (.slice A0_3 l0_3.length c0_3), .int .u16 a0_4, .int .u32 a0_5, (.slice A0_6 l0_6.length c0_6), (.slice A0_7 l0_7.length c0_7), (.slice A0_8 l0_8.length c0_8), (.slice A0_9 l0_9.length c0_9)] 44 (0, 0))) ∧ Aside0 (Below w.heap.size w wc))
         case first =>
          have H := HC26.out
          clear HC26
          by_cases c27 : x4_2 = true
          · subst c27
            have H1 : (marlineref18_Put.j2 kj8 true ((l0_6.length : Int) == 0) a0_0 a0_1 a0_2 l0_3 a0_4 a0_5 l0_6 l0_7 l0_8 l0_9) = some (r1, r2) := by rw [if_pos rfl] at H; exact H
            clear H
            have H := H1
            clear H1
            have H' := Aside0.mk H
            clear H
            obtain ⟨⟨hcz28_0, hcz28_1, hcz28_2, hcz28_3, hcz28_4, hcz28_5, hcz28_6, hcz28_7, hcz28_8, hcz28_9⟩, hfz28_0, hfz28_1, hfz28_2, hfz28_3, hfz28_4, hfz28_5, hfz28_6, hfz28_7, hfz28_8, hfz28_9⟩ := cz10 BK771.out
            go_wp2
            go_meet
            case rel => exact ⟨_, (((l0_6.length : Int) == 0)), (by first | rfl | (simp; done) | (simp [*]; done)), H', ⟨by have := HJ2.out; have := HJ8.out; first | omega | exact Nat.le_refl _⟩, ⟨by (with_reducible repeat (first | refine blk_drewN ?_ _ | refine blk_drew ?_ | refine blk_alloc ?_ _)); exact BK771.out⟩, ⟨by repeat (first | (with_reducible first | exact HB.out | apply below_alloc | apply pw_below_drewN | apply below_drew1 | refine below_set ?_ GE771.out) | exact HB.out)⟩⟩
          · replace c27 := Bool.eq_false_iff.mpr c27
            subst c27
            have H1 : (marlineref18_Put.j2 kj8 false false a0_0 a0_1 a0_2 l0_3 a0_4 a0_5 l0_6 l0_7 l0_8 l0_9) = some (r1, r2) := by rw [if_neg (show ¬ (false = true) by decide)] at H; exact H
            clear H
            have H := H1
            clear H1
            have H' := Aside0.mk H
            clear H
            go_wp2
            go_meet
            case rel => exact ⟨_, (false), (by first | rfl | (simp; done) | (simp [*]; done)), H', ⟨by have := HJ2.out; have := HJ8.out; first | omega | exact Nat.le_refl _⟩, ⟨by (with_reducible repeat (first | refine blk_drewN ?_ _ | refine blk_drew ?_ | refine blk_alloc ?_ _)); exact BK771.out⟩, ⟨by repeat (first | (with_reducible first | exact HB.out | apply below_alloc | apply pw_below_drewN | apply below_drew1 | refine below_set ?_ GE771.out) | exact HB.out)⟩⟩
         case rest =>
          clear HC26
          try clear c1
          try clear c2
          try clear c2b0
          try clear c2b1
          try clear p2
          try clear c3
          try clear c6
          try clear c6b0
          try clear c6b1
          try clear c10
          try clear c10b0
          try clear c10b1
          try clear c12
          try clear c12b0
          try clear c12b1
          try clear c13
          try clear c13b0
          try clear c13b1
          try clear c14
          try clear c14b0
          try clear c14b1
          try clear c16
          try clear c17
          try clear c17b0
          try clear c17b1
          try clear c20
          try clear c20b0
          try clear c20b1
          try clear c25
          try clear c27
          try clear hcz11_0 hcz11_1 hcz11_2 hcz11_3 hcz11_4 hcz11_5 hcz11_6 hcz11_7 hcz11_8 hcz11_9 hfz11_0 hfz11_1 hfz11_2 hfz11_3 hfz11_4 hfz11_5 hfz11_6 hfz11_7 hfz11_8 hfz11_9
          try clear hcz15_0 hcz15_1 hcz15_2 hcz15_3 hcz15_4 hcz15_5 hcz15_6 hcz15_7 hcz15_8 hcz15_9 hfz15_0 hfz15_1 hfz15_2 hfz15_3 hfz15_4 hfz15_5 hfz15_6 hfz15_7 hfz15_8 hfz15_9
          try clear hcz18_0 hcz18_1 hcz18_2 hcz18_3 hcz18_4 hcz18_5 hcz18_6 hcz18_7 hcz18_8 hcz18_9 hfz18_0 hfz18_1 hfz18_2 hfz18_3 hfz18_4 hfz18_5 hfz18_6 hfz18_7 hfz18_8 hfz18_9
          try clear hcz19_0 hcz19_1 hcz19_2 hcz19_3 hcz19_4 hcz19_5 hcz19_6 hcz19_7 hcz19_8 hcz19_9 hfz19_0 hfz19_1 hfz19_2 hfz19_3 hfz19_4 hfz19_5 hfz19_6 hfz19_7 hfz19_8 hfz19_9
          try clear hcz21_0 hcz21_1 hcz21_2 hcz21_3 hcz21_4 hcz21_5 hcz21_6 hcz21_7 hcz21_8 hcz21_9 hfz21_0 hfz21_1 hfz21_2 hfz21_3 hfz21_4 hfz21_5 hfz21_6 hfz21_7 hfz21_8 hfz21_9
          try clear hcz22_0 hcz22_1 hcz22_2 hcz22_3 hcz22_4 hcz22_5 hcz22_6 hcz22_7 hcz22_8 hcz22_9 hfz22_0 hfz22_1 hfz22_2 hfz22_3 hfz22_4 hfz22_5 hfz22_6 hfz22_7 hfz22_8 hfz22_9
          try clear hcz23_0 hcz23_1 hcz23_2 hcz23_3 hcz23_4 hcz23_5 hcz23_6 hcz23_7 hcz23_8 hcz23_9 hfz23_0 hfz23_1 hfz23_2 hfz23_3 hfz23_4 hfz23_5 hfz23_6 hfz23_7 hfz23_8 hfz23_9
          try clear hcz24_0 hcz24_1 hcz24_2 hcz24_3 hcz24_4 hcz24_5 hcz24_6 hcz24_7 hcz24_8 hcz24_9 hfz24_0 hfz24_1 hfz24_2 hfz24_3 hfz24_4 hfz24_5 hfz24_6 hfz24_7 hfz24_8 hfz24_9
          try clear hcz28_0 hcz28_1 hcz28_2 hcz28_3 hcz28_4 hcz28_5 hcz28_6 hcz28_7 hcz28_8 hcz28_9 hfz28_0 hfz28_1 hfz28_2 hfz28_3 hfz28_4 hfz28_5 hfz28_6 hfz28_7 hfz28_8 hfz28_9
          try clear hcz5_0 hcz5_1 hcz5_2 hcz5_3 hcz5_4 hcz5_5 hcz5_6 hcz5_7 hcz5_8 hcz5_9 hfz5_0 hfz5_1 hfz5_2 hfz5_3 hfz5_4 hfz5_5 hfz5_6 hfz5_7 hfz5_8 hfz5_9
          try clear hcz7_0 hcz7_1 hcz7_2 hcz7_3 hcz7_4 hcz7_5 hcz7_6 hcz7_7 hcz7_8 hcz7_9 hfz7_0 hfz7_1 hfz7_2 hfz7_3 hfz7_4 hfz7_5 hfz7_6 hfz7_7 hfz7_8 hfz7_9
          try clear hcz8_0 hcz8_1 hcz8_2 hcz8_3 hcz8_4 hcz8_5 hcz8_6 hcz8_7 hcz8_8 hcz8_9 hfz8_0 hfz8_1 hfz8_2 hfz8_3 hfz8_4 hfz8_5 hfz8_6 hfz8_7 hfz8_8 hfz8_9
          try clear p2
          obtain ⟨kq, x68_25, rfl, HA, HJ25, BK771, HB⟩ := hcut
          cases kq with
          | zero => exact absurd HA.out (by simp [marlineref18_Put.j2])
          | succ kj25 =>
           have H := HA.out
           clear HA
           simp only [marlineref18_Put.j2] at H
           by_cases c29 : x68_25 = true
           · subst c29
             have H1 : (some (([] : List Int), 4)) = some (r1, r2) := by rw [if_pos rfl] at H; exact H
             clear H
             have H := H1
             clear H1
             simp only [Option.some.injEq, Prod.mk.injEq] at H
             obtain ⟨rfl, rfl⟩ := H
             go_wp2
             go_ret2
             exact ⟨_, by first | rfl | (simp [errW_none, errW_some] <;> rfl) | (simp [*, errW_none, errW_some] <;> rfl), by first | exact Kd.R_nil _ _ _ _ _ | exact Kd.N_nil _ _ _ _ _ | exact Kd.V_nil _ _ _ _ _ | exact Kd.Q_nil _ _ _ _ _ | exact Kd.S_nil _ _ _ _ _, by repeat (first | (with_reducible first | exact HB.out | apply below_alloc | apply pw_below_drewN | apply below_drew1 | refine below_set ?_ GE771.out) | exact HB.out)⟩
           · replace c29 := Bool.eq_false_iff.mpr c29
             subst c29
             have H1 : (if (l0_6.length : Int) > 255 then (some (([] : List Int), 3)) else ((some (([] : List Int) : List Int)).bind fun y772 => (if y772.length + l0_8.length < 140737488355328 then ((some (y772 ++ l0_8 : List Int)).bind fun y775 => (if x4_2 = true then (if y775.length < 140737488355328 then ((some (y775 ++ [((l0_6.length : Int)) % 256] : List Int)).bind fun y778 => (if y778.length + l0_6.length < 140737488355328 then ((some (y778 ++ l0_6 : List Int)).bind fun y781 => (if y781.length + l0_7.length < 140737488355328 then (marlineref18_Put.j3 kj25 (y781 ++ l0_7) a0_0 a0_1 a0_2 l0_3 a0_4 a0_5 l0_6 l0_7 l0_8 l0_9) else (none))) else (none))) else (none)) else (marlineref18_Put.j3 kj25 y775 a0_0 a0_1 a0_2 l0_3 a0_4 a0_5 l0_6 l0_7 l0_8 l0_9))) else (none)))) = some (r1, r2) := by rw [if_neg (show ¬ (false = true) by decide)] at H; exact H
             clear H
             have H := H1
             clear H1
             by_cases c30 : (l0_6.length : Int) > 255
             · rw [if_pos c30] at H
               have c30b0 : decide (255 < (l0_6.length : Int)) = true := decide_eq_true c30
               have c30b1 : decide (255 < l0_6.length) = true := decide_eq_true (by omega)
               clear c30
               simp only [Option.some.injEq, Prod.mk.injEq] at H
               obtain ⟨rfl, rfl⟩ := H
               obtain ⟨⟨hcz31_0, hcz31_1, hcz31_2, hcz31_3, hcz31_4, hcz31_5, hcz31_6, hcz31_7, hcz31_8, hcz31_9⟩, hfz31_0, hfz31_1, hfz31_2, hfz31_3, hfz31_4, hfz31_5, hfz31_6, hfz31_7, hfz31_8, hfz31_9⟩ := cz10 BK771.out
               go_wp2
               go_ret2
               exact ⟨_, by first | rfl | (simp [errW_none, errW_some] <;> rfl) | (simp [*, errW_none, errW_some] <;> rfl), by first | exact Kd.R_nil _ _ _ _ _ | exact Kd.N_nil _ _ _ _ _ | exact Kd.V_nil _ _ _ _ _ | exact Kd.Q_nil _ _ _ _ _ | exact Kd.S_nil _ _ _ _ _, by repeat (first | (with_reducible first | exact HB.out | apply below_alloc | apply pw_below_drewN | apply below_drew1 | refine below_set ?_ GE771.out) | exact HB.out)⟩
             · rw [if_neg c30] at H
               have c30b0 : decide (255 < (l0_6.length : Int)) = false := decide_eq_false c30
               have c30b1 : decide (255 < l0_6.length) = false := decide_eq_false (by omega)
               clear c30
               obtain ⟨y772, hy772⟩ : ∃ y_ : List Int, y_ = (([] : List Int)) := ⟨_, rfl⟩
               replace H : (if y772.length + l0_8.length < 140737488355328 then ((some (y772 ++ l0_8 : List Int)).bind fun y775 => (if x4_2 = true then (if y775.length < 140737488355328 then ((some (y775 ++ [((l0_6.length : Int)) % 256] : List Int)).bind fun y778 => (if y778.length + l0_6.length < 140737488355328 then ((some (y778 ++ l0_6 : List Int)).bind fun y781 => (if y781.length + l0_7.length < 140737488355328 then (marlineref18_Put.j3 kj25 (y781 ++ l0_7) a0_0 a0_1 a0_2 l0_3 a0_4 a0_5 l0_6 l0_7 l0_8 l0_9) else (none))) else (none))) else (none)) else (marlineref18_Put.j3 kj25 y775 a0_0 a0_1 a0_2 l0_3 a0_4 a0_5 l0_6 l0_7 l0_8 l0_9))) else (none)) = some (r1, r2) := by first | (rw [hy772]; with_reducible exact H) | (have H2_ := (Option.bind_some _ _).symm.trans H; rw [hy772]; with_reducible exact H2_) | (have H2_ := (Option.bind_some _ _).symm.trans H; with_reducible exact H2_) | with_reducible exact H | (rw [hy772]; exact H) | exact H
               have Ny772 := Aside0.mk hy772
               clear hy772
               by_cases c32 : y772.length + l0_8.length < 140737488355328
               · rw [if_pos c32] at H
                 have LMc32 := Aside0.mk c32
                 clear c32
                 obtain ⟨y775, hy775⟩ : ∃ y_ : List Int, y_ = (y772 ++ l0_8) := ⟨_, rfl⟩
                 replace H : (if x4_2 = true then (if y775.length < 140737488355328 then ((some (y775 ++ [((l0_6.length : Int)) % 256] : List Int)).bind fun y778 => (if y778.length + l0_6.length < 140737488355328 then ((some (y778 ++ l0_6 : List Int)).bind fun y781 => (if y781.length + l0_7.length < 140737488355328 then (marlineref18_Put.j3 kj25 (y781 ++ l0_7) a0_0 a0_1 a0_2 l0_3 a0_4 a0_5 l0_6 l0_7 l0_8 l0_9) else (none))) else (none))) else (none)) else (marlineref18_Put.j3 kj25 y775 a0_0 a0_1 a0_2 l0_3 a0_4 a0_5 l0_6 l0_7 l0_8 l0_9)) = some (r1, r2) := by first | (rw [hy775]; with_reducible exact H) | (have H2_ := (Option.bind_some _ _).symm.trans H; rw [hy775]; with_reducible exact H2_) | (have H2_ := (Option.bind_some _ _).symm.trans H; with_reducible exact H2_) | with_reducible exact H | (rw [hy775]; exact H) | exact H
                 have Ny775 := Aside0.mk hy775
                 clear hy775
                 have HC33 := Aside0.mk H
                 clear H
                 obtain ⟨⟨hcz34_0, hcz34_1, hcz34_2, hcz34_3, hcz34_4, hcz34_5, hcz34_6, hcz34_7, hcz34_8, hcz34_9⟩, hfz34_0, hfz34_1, hfz34_2, hfz34_3, hfz34_4, hfz34_5, hfz34_6, hfz34_7, hfz34_8, hfz34_9⟩ := cz10 BK771.out
                 go_upto_if 77 with (first | ((with_reducible refine gate_dst (N := 73) rfl ?_); (try (refine gate_guard (by rfl) ?_; dsimp only)); refine Kd.R_lit (Kd.int .u8) _ 5 ?hg (N := 73) ?hd (xs := ([] : List Int)) (inner := []) (ok := fun _ => True) (okp := fun _ => True) ?hr ?hp (fun _ hk => hk) trivial (Below.refl _ _) (Nat.le_refl _) (by simp) ?_; (case hd => rfl); (case hg => rfl); (case hr => first | (go_simp; done) | (go_simp; simp only [IntKind.wrap_u8, IntKind.wrap_u16, IntKind.wrap_u32, IntKind.wrap_u64]; done) | (go_simp; rfl)); (case hp => exact (Reps.none _ _)); intro v773 w35 ho36 hb hg_ hnew_; clear hg_ hnew_; (first | rw [← Ny772.out] at ho36 | (simp only [Int.reduceToNat] at ho36; rw [← Ny772.out] at ho36)); have n0_ := Aside0.mk (Kd.R_lower ho36 (below_size (by repeat (first | (with_reducible first | exact HB.out | apply below_alloc | apply pw_below_drewN | apply below_drew1 | refine below_set ?_ GE771.out) | exact HB.out)))); have n1_ := Aside0.mk (blk_below (g := gb771) (o := .cells #[.int .u16 a0_0, .int .u8 a0_1, .int .u8 a0_2, .slice A0_3 l0_3.length c0_3, .int .u16 a0_4, .int .u32 a0_5, .slice A0_6 l0_6.length c0_6, .slice A0_7 l0_7.length c0_7, .slice A0_8 l0_8.length c0_8, .slice A0_9 l0_9.length c0_9] 44 (0, 0)) (by (with_reducible repeat (first | refine blk_drewN ?_ _ | refine blk_drew ?_ | refine blk_alloc ?_ _)); exact BK771.out) hb); have n2_ := Aside0.mk (below_step (by repeat (first | (with_reducible first | exact HB.out | apply below_alloc | apply pw_below_drewN | apply below_drew1 | refine below_set ?_ GE771.out) | exact HB.out)) hb); clear BK771; clear HB; have HO774 := n0_; have BK771 := n1_; have HB := n2_; clear n0_ n1_ n2_; clear hb ho36; obtain ⟨⟨hcz37_0, hcz37_1, hcz37_2, hcz37_3, hcz37_4, hcz37_5, hcz37_6, hcz37_7, hcz37_8, hcz37_9⟩, hfz37_0, hfz37_1, hfz37_2, hfz37_3, hfz37_4, hfz37_5, hfz37_6, hfz37_7, hfz37_8, hfz37_9⟩ := cz10 BK771.out) | ((with_reducible refine gate_builtin (b := .append) (xs := #[.tmp 73, .tmp 75]) rfl ?_); (try (refine gate_guard (by rfl) ?_; dsimp only)); at_builtin; refine Kd.R_append_rows (Kd.int .u8) (w0 := w) w.heap.size rfl (.tmp 73) (.tmp 75) 23 5 (.int .u8 0) 1 rfl Try.underlying23 info5 rfl (by decide) (by omega) v773 y772 l0_8 _ _ _ (fun _ => True) (fun _ => False) rfl rfl ?aO ?aR (fun _ _ h => h) (fun _ h => h.elim) ?aF ?aB ?aS ?aL ?_; (case aR => repeat (first | exact (Kd.C_below HR0_8.out HB.out) | (with_reducible refine Kd.C_alloc ?_ _) | (with_reducible refine Kd.C_drewN ?_ _) | (with_reducible refine Kd.C_drew ?_))); (case aB => exact (by repeat (first | (with_reducible first | exact HB.out | apply below_alloc | apply pw_below_drewN | apply below_drew1 | refine below_set ?_ GE771.out) | exact HB.out))); (case aF => exact (fun _ _ => trivial)); (case aO => exact (by (with_reducible repeat (first | apply Kd.R_alloc | apply Kd.R_drewN | apply Kd.R_drew)); exact HO774.out)); (case aS => exact (below_size (by repeat (first | (with_reducible first | exact HB.out | apply below_alloc | apply pw_below_drewN | apply below_drew1 | refine below_set ?_ GE771.out) | exact HB.out)))); (case aL => have := LMc32.out; omega); intro v776 w38 ho hb hg hat; rw [← Ny775.out] at ho; have n0_ := Aside0.mk (blk_grown (g := gb771) (o := .cells #[.int .u16 a0_0, .int .u8 a0_1, .int .u8 a0_2, .slice A0_3 l0_3.length c0_3, .int .u16 a0_4, .int .u32 a0_5, .slice A0_6 l0_6.length c0_6, .slice A0_7 l0_7.length c0_7, .slice A0_8 l0_8.length c0_8, .slice A0_9 l0_9.length c0_9] 44 (0, 0)) (by (with_reducible repeat (first | refine blk_drewN ?_ _ | refine blk_drew ?_ | refine blk_alloc ?_ _)); exact BK771.out) hg (Kd.R_ne HO774.out BK771.out (by decide))); have n1_ := Aside0.mk (hb); have n2_ := Aside0.mk (ho); clear BK771; clear HB; clear HO774; have BK771 := n0_; have HB := n1_; have HO777 := n2_; clear n0_ n1_ n2_; clear ho hb hg hat))
                 (try simp only [Act.put, List.setIfInBounds_toArray, List.set_cons_zero, List.set_cons_succ])
                 go_cut [5] (fun v5 wc => ∃ (kq : Nat) (x5_32 : List Int), Aside0 (marlineref18_Put.j3 kq x5_32 a0_0 a0_1 a0_2 l0_3 a0_4 a0_5 l0_6 l0_7 l0_8 l0_9 = some (r1, r2)) ∧ Aside0 (kq ≤ kj25) ∧ Aside0 (Kd.R (Kd.int .u8) 5 wc w.heap.size (fun _ => True) v5 x5_32) ∧ Aside0 (wc.heap[gb771]? = some (.cells #[.int .u16 a0_0, .int .u8 a0_1, .int .u8 a0_2, (.slice A0_3 l0_3.length c0_3), .int .u16 a0_4, .int .u32 a0_5, (.slice A0_6 l0_6.length c0_6), (.slice A0_7 l0_7.length c0_7), (.slice A0_8 l0_8.length c0_8), (.slice A0_9 l0_9.length c0_9)] 44 (0, 0))) ∧ Aside0 (Below w.heap.size w wc))
                 case first =>
                  have H := HC33.out
                  clear HC33
                  by_cases c39 : x4_2 = true
                  · subst c39
                    have H1 : (if y775.length < 140737488355328 then ((some (y775 ++ [((l0_6.length : Int)) % 256] : List Int)).bind fun y778 => (if y778.length + l0_6.length < 140737488355328 then ((some (y778 ++ l0_6 : List Int)).bind fun y781 => (if y781.length + l0_7.length < 140737488355328 then (marlineref18_Put.j3 kj25 (y781 ++ l0_7) a0_0 a0_1 a0_2 l0_3 a0_4 a0_5 l0_6 l0_7 l0_8 l0_9) else (none))) else (none))) else (none)) = some (r1, r2) := by rw [if_pos rfl] at H; exact H
                    clear H
                    have H := H1
                    clear H1
                    by_cases c40 : y775.length < 140737488355328
                    · rw [if_pos c40] at H
                      have LMc40 := Aside0.mk c40
                      clear c40
                      obtain ⟨y778, hy778⟩ : ∃ y_ : List Int, y_ = (y775 ++ [((l0_6.length : Int)) % 256]) := ⟨_, rfl⟩
                      replace H : (if y778.length + l0_6.length < 140737488355328 then ((some (y778 ++ l0_6 : List Int)).bind fun y781 => (if y781.length + l0_7.length < 140737488355328 then (marlineref18_Put.j3 kj25 (y781 ++ l0_7) a0_0 a0_1 a0_2 l0_3 a0_4 a0_5 l0_6 l0_7 l0_8 l0_9) else (none))) else (none)) = some (r1, r2) := by first | (rw [hy778]; with_reducible exact H) | (have H2_ := (Option.bind_some _ _).symm.trans H; rw [hy778]; with_reducible exact H2_) | (have H2_ := (Option.bind_some _ _).symm.trans H; with_reducible exact H2_) | with_reducible exact H | (rw [hy778]; exact H) | exact H
                      have Ny778 := Aside0.mk hy778
                      clear hy778
                      by_cases c41 : y778.length + l0_6.length < 140737488355328
                      · rw [if_pos c41] at H
                        have LMc41 := Aside0.mk c41
                        clear c41
                        obtain ⟨y781, hy781⟩ : ∃ y_ : List Int, y_ = (y778 ++ l0_6) := ⟨_, rfl⟩
                        replace H : (if y781.length + l0_7.length < 140737488355328 then (marlineref18_Put.j3 kj25 (y781 ++ l0_7) a0_0 a0_1 a0_2 l0_3 a0_4 a0_5 l0_6 l0_7 l0_8 l0_9) else (none)) = some (r1, r2) := by first | (rw [hy781]; with_reducible exact H) | (have H2_ := (Option.bind_some _ _).symm.trans H; rw [hy781]; with_reducible exact H2_) | (have H2_ := (Option.bind_some _ _).symm.trans H; with_reducible exact H2_) | with_reducible exact H | (rw [hy781]; exact H) | exact H
                        have Ny781 := Aside0.mk hy781
                        clear hy781
                        by_cases c42 : y781.length + l0_7.length < 140737488355328
                        · rw [if_pos c42] at H
                          have LMc42 := Aside0.mk c42
                          clear c42
                          obtain ⟨y784, hy784⟩ : ∃ y_ : List Int, y_ = (y781 ++ l0_7) := ⟨_, rfl⟩
                          replace H : (marlineref18_Put.j3 kj25 y784 a0_0 a0_1 a0_2 l0_3 a0_4 a0_5 l0_6 l0_7 l0_8 l0_9) = some (r1, r2) := by first | (rw [hy784]; with_reducible exact H) | (have H2_ := (Option.bind_some _ _).symm.trans H; rw [hy784]; with_reducible exact H2_) | (have H2_ := (Option.bind_some _ _).symm.trans H; with_reducible exact H2_) | with_reducible exact H | (rw [hy784]; exact H) | exact H
                          have Ny784 := Aside0.mk hy784
                          clear hy784
                          have H' := Aside0.mk H
                          clear H
                          obtain ⟨⟨hcz43_0, hcz43_1, hcz43_2, hcz43_3, hcz43_4, hcz43_5, hcz43_6, hcz43_7, hcz43_8, hcz43_9⟩, hfz43_0, hfz43_1, hfz43_2, hfz43_3, hfz43_4, hfz43_5, hfz43_6, hfz43_7, hfz43_8, hfz43_9⟩ := cz10 BK771.out
                          try go_wp2_with (first | ((with_reducible refine gate_builtin (b := .append) (xs := #[.tmp 78, .tmp 83]) rfl ?_); (try (refine gate_guard (by rfl) ?_; dsimp only)); at_builtin; refine Kd.R_append (Kd.int .u8) (w0 := w) w.heap.size rfl (.tmp 78) (.tmp 83) 23 5 (.int .u8 0) 1 rfl Try.underlying23 info5 rfl (by decide) (by omega) v776 y775 (((l0_6.length : Int)) % 256) [.int .u8 (((l0_6.length : Int)) % 256)] (fun _ => True) (fun _ => False) rfl rfl ?aP (fun _ hk => hk.elim) ?aF ?aO ?aB ?aS ?aL ?_; (case aP => exact rfl); (case aB => exact (by repeat (first | (with_reducible first | exact HB.out | apply below_alloc | apply pw_below_drewN | apply below_drew1 | refine below_set ?_ GE771.out) | exact HB.out))); (case aF => exact (fun _ _ => trivial)); (case aO => exact (by (with_reducible repeat (first | apply Kd.R_alloc | apply Kd.R_drewN | apply Kd.R_drew)); exact HO777.out)); (case aS => exact (below_size (by repeat (first | (with_reducible first | exact HB.out | apply below_alloc | apply pw_below_drewN | apply below_drew1 | refine below_set ?_ GE771.out) | exact HB.out)))); (case aL => have := LMc40.out; omega); intro v779 w44 ho hb hg hat; rw [← Ny778.out] at ho; have n0_ := Aside0.mk (blk_grown (g := gb771) (o := .cells #[.int .u16 a0_0, .int .u8 a0_1, .int .u8 a0_2, .slice A0_3 l0_3.length c0_3, .int .u16 a0_4, .int .u32 a0_5, .slice A0_6 l0_6.length c0_6, .slice A0_7 l0_7.length c0_7, .slice A0_8 l0_8.length c0_8, .slice A0_9 l0_9.length c0_9] 44 (0, 0)) (by (with_reducible repeat (first | refine blk_drewN ?_ _ | refine blk_drew ?_ | refine blk_alloc ?_ _)); exact BK771.out) hg (Kd.R_ne HO777.out BK771.out (by decide))); have n1_ := Aside0.mk (hb); have n2_ := Aside0.mk (ho); clear BK771; clear HB; clear HO777; have BK771 := n0_; have HB := n1_; have HO780 := n2_; clear n0_ n1_ n2_; clear ho hb hg hat))
                          have n0_ := Aside0.mk (Kd.R_drew HO780.out)
                          have n1_ := Aside0.mk (blk_drew BK771.out)
                          have n2_ := Aside0.mk (below_drew1 HB.out)
                          clear HO780
                          clear BK771
                          clear HB
                          have HO780 := n0_
                          have BK771 := n1_
                          have HB := n2_
                          clear n0_ n1_ n2_
                          refine start_ (n := 8) (S := fun w' => w'.cell? ⟨gb771, 0, none⟩ = some (.int .u16 a0_0) ∧ w'.cell? ⟨gb771, 1, none⟩ = some (.int .u8 a0_1) ∧ w'.cell? ⟨gb771, 2, none⟩ = some (.int .u8 a0_2) ∧ w'.cell? ⟨gb771, 3, none⟩ = some (.slice A0_3 l0_3.length c0_3) ∧ w'.cell? ⟨gb771, 4, none⟩ = some (.int .u16 a0_4) ∧ w'.cell? ⟨gb771, 5, none⟩ = some (.int .u32 a0_5) ∧ w'.cell? ⟨gb771, 6, none⟩ = some (.slice A0_6 l0_6.length c0_6) ∧ w'.cell? ⟨gb771, 7, none⟩ = some (.slice A0_7 l0_7.length c0_7) ∧ w'.cell? ⟨gb771, 8, none⟩ = some (.slice A0_8 l0_8.length c0_8) ∧ w'.cell? ⟨gb771, 9, none⟩ = some (.slice A0_9 l0_9.length c0_9)) (ds := []) #[false, false, false, false, false, false, false, false] (by kernel_rfl) rfl rfl ⟨(blk_cell BK771.out 0).trans rfl, (blk_cell BK771.out 1).trans rfl, (blk_cell BK771.out 2).trans rfl, (blk_cell BK771.out 3).trans rfl, (blk_cell BK771.out 4).trans rfl, (blk_cell BK771.out 5).trans rfl, (blk_cell BK771.out 6).trans rfl, (blk_cell BK771.out 7).trans rfl, (blk_cell BK771.out 8).trans rfl, (blk_cell BK771.out 9).trans rfl⟩ (fun hHeld => ?_); refine with_tabW marlineref18_Put.tab13 marlineref18_Put.bits13 (fun HT_ HW_ => ?_)
                          generalize w44.drew = w45 at HO780 BK771 HB hHeld ⊢
                          refine pure_ (i := 0) (N := some 85) (v := ?_) (a' := ?_) #[true, false, false, false, false, false, false, false] rfl rfl (any_of HT_.out (by kernel_rfl)) (fun _ _ _ h => h) (Or.inl ⟨by rfl, ?_⟩) ?_ ?_
                          rotate_left
                          · intro w'
                            go_simp
                            with_reducible rfl
                          rotate_left
                          · simp only [Act.put, List.setIfInBounds_toArray, List.set_cons_zero, List.set_cons_succ, i64_w, i32_w]
                            rfl
                          refine pure_ (i := 1) (N := some 86) (v := ?_) (a' := ?_) #[true, true, false, false, false, false, false, false] rfl rfl (any_of HT_.out (by kernel_rfl)) (fun _ _ _ h => h) (Or.inl ⟨by rfl, ?_⟩) ?_ ?_
                          rotate_left
                          · intro w'
                            go_simp
                            with_reducible rfl
                          rotate_left
                          · simp only [Act.put, List.setIfInBounds_toArray, List.set_cons_zero, List.set_cons_succ, i64_w, i32_w]
                            rfl
                          refine pure_ (i := 4) (N := some 89) (v := ?_) (a' := ?_) #[true, true, false, false, true, false, false, false] rfl rfl (any_of HT_.out (by kernel_rfl)) (fun _ _ _ h => h) (Or.inl ⟨by rfl, ?_⟩) ?_ ?_
                          rotate_left
                          · intro w'
                            go_simp
                            with_reducible rfl
                          rotate_left
                          · simp only [Act.put, List.setIfInBounds_toArray, List.set_cons_zero, List.set_cons_succ, i64_w, i32_w]
                            rfl
                          refine take_ (i := 2) (N := some 87) (v := ?_) (a' := ?_) #[true, true, true, false, true, false, false, false] rfl rfl (take_ofW HT_.out HW_.out (by kernel_rfl)) (fun _ _ _ h => h) (Or.inl ⟨by rfl, ?_⟩) hHeld ?_ ?_
                          rotate_left
                          · rintro w' ⟨s0, s1, s2, s3, s4, s5, s6, s7, s8, s9⟩
                            go_simp
                            with_reducible rfl
                          rotate_left
                          · simp only [Act.put, List.setIfInBounds_toArray, List.set_cons_zero, List.set_cons_succ, i64_w, i32_w]
                            rfl
                          refine take_ (i := 5) (N := some 90) (v := ?_) (a' := ?_) #[true, true, true, false, true, true, false, false] rfl rfl (take_ofW HT_.out HW_.out (by kernel_rfl)) (fun _ _ _ h => h) (Or.inl ⟨by rfl, ?_⟩) hHeld ?_ ?_
                          rotate_left
                          · rintro w' ⟨s0, s1, s2, s3, s4, s5, s6, s7, s8, s9⟩
                            go_simp
                            with_reducible rfl
                          rotate_left
                          · simp only [Act.put, List.setIfInBounds_toArray, List.set_cons_zero, List.set_cons_succ, i64_w, i32_w]
                            rfl
                          refine one_ (i := 3) (N := some 88) #[true, true, true, true, true, true, false, false] rfl rfl (one_of HT_.out (by kernel_rfl)) (by decide) (fun K hK => ?_)
                          refine Kd.R_append_rows_step (Kd.int .u8) (w0 := w) w.heap.size (by rfl) (.tmp 85) (.tmp 87) 23 5 (.int .u8 0) 1 rfl Try.underlying23 info5 rfl (by decide) (by omega) v779 y778 l0_6 _ _ _ (fun _ => True) (fun _ => False) rfl rfl ?aO ?aR (fun _ _ h => h) (fun _ h => h.elim) ?aF ?aB ?aS ?aL ?_
                          (case aR => repeat (first | exact (Kd.C_below HR0_6.out HB.out) | (with_reducible refine Kd.C_alloc ?_ _) | (with_reducible refine Kd.C_drewN ?_ _) | (with_reducible refine Kd.C_drew ?_)))
                          (case aB => exact (by repeat (first | (with_reducible first | exact HB.out | apply below_alloc | apply pw_below_drewN | apply below_drew1 | refine below_set ?_ GE771.out) | exact HB.out)))
                          (case aF => exact (fun _ _ => trivial))
                          (case aO => exact (by (with_reducible repeat (first | apply Kd.R_alloc | apply Kd.R_drewN | apply Kd.R_drew)); exact HO780.out))
                          (case aS => exact (below_size (by repeat (first | (with_reducible first | exact HB.out | apply below_alloc | apply pw_below_drewN | apply below_drew1 | refine below_set ?_ GE771.out) | exact HB.out))))
                          (case aL => have := LMc41.out; omega)
                          intro v782 w46 ho hb hg hat
                          rw [← Ny781.out] at ho
                          have n0_ := Aside0.mk (blk_grown (g := gb771) (o := .cells #[.int .u16 a0_0, .int .u8 a0_1, .int .u8 a0_2, .slice A0_3 l0_3.length c0_3, .int .u16 a0_4, .int .u32 a0_5, .slice A0_6 l0_6.length c0_6, .slice A0_7 l0_7.length c0_7, .slice A0_8 l0_8.length c0_8, .slice A0_9 l0_9.length c0_9] 44 (0, 0)) (by (with_reducible repeat (first | refine blk_drewN ?_ _ | refine blk_drew ?_ | refine blk_alloc ?_ _)); exact BK771.out) hg (Kd.R_ne HO780.out BK771.out (by decide)))
                          have n1_ := Aside0.mk (hb)
                          have n2_ := Aside0.mk (ho)
                          clear BK771
                          clear HB
                          clear HO780
                          have BK771 := n0_
                          have HB := n1_
                          have HO783 := n2_
                          clear n0_ n1_ n2_
                          clear ho hb hg hat
                          refine hK.out _ _ ⟨(blk_cell BK771.out 0).trans rfl, (blk_cell BK771.out 1).trans rfl, (blk_cell BK771.out 2).trans rfl, (blk_cell BK771.out 3).trans rfl, (blk_cell BK771.out 4).trans rfl, (blk_cell BK771.out 5).trans rfl, (blk_cell BK771.out 6).trans rfl, (blk_cell BK771.out 7).trans rfl, (blk_cell BK771.out 8).trans rfl, (blk_cell BK771.out 9).trans rfl⟩ (fun hHeld => ?_)
                          clear hK K
                          refine norm_ (a' := ?_) ?_ ?_
                          rotate_left
                          · show Act.put _ (some 88) _ = _
                            simp only [Act.put, List.setIfInBounds_toArray, List.set_cons_zero, List.set_cons_succ, i64_w, i32_w]
                            rfl
                          refine one_ (i := 6) (N := some 91) #[true, true, true, true, true, true, true, false] rfl rfl (one_of HT_.out (by kernel_rfl)) (by decide) (fun K hK => ?_)
                          refine Kd.R_append_rows_step (Kd.int .u8) (w0 := w) w.heap.size (by rfl) (.tmp 88) (.tmp 90) 23 5 (.int .u8 0) 1 rfl Try.underlying23 info5 rfl (by decide) (by omega) v782 y781 l0_7 _ _ _ (fun _ => True) (fun _ => False) rfl rfl ?aO ?aR (fun _ _ h => h) (fun _ h => h.elim) ?aF ?aB ?aS ?aL ?_
                          (case aR => repeat (first | exact (Kd.C_below HR0_7.out HB.out) | (with_reducible refine Kd.C_alloc ?_ _) | (with_reducible refine Kd.C_drewN ?_ _) | (with_reducible refine Kd.C_drew ?_)))
                          (case aB => exact (by repeat (first | (with_reducible first | exact HB.out | apply below_alloc | apply pw_below_drewN | apply below_drew1 | refine below_set ?_ GE771.out) | exact HB.out)))
                          (case aF => exact (fun _ _ => trivial))
                          (case aO => exact (by (with_reducible repeat (first | apply Kd.R_alloc | apply Kd.R_drewN | apply Kd.R_drew)); exact HO783.out))
                          (case aS => exact (below_size (by repeat (first | (with_reducible first | exact HB.out | apply below_alloc | apply pw_below_drewN | apply below_drew1 | refine below_set ?_ GE771.out) | exact HB.out))))
                          (case aL => have := LMc42.out; omega)
                          intro v785 w47 ho hb hg hat
                          rw [← Ny784.out] at ho
                          have n0_ := Aside0.mk (blk_grown (g := gb771) (o := .cells #[.int .u16 a0_0, .int .u8 a0_1, .int .u8 a0_2, .slice A0_3 l0_3.length c0_3, .int .u16 a0_4, .int .u32 a0_5, .slice A0_6 l0_6.length c0_6, .slice A0_7 l0_7.length c0_7, .slice A0_8 l0_8.length c0_8, .slice A0_9 l0_9.length c0_9] 44 (0, 0)) (by (with_reducible repeat (first | refine blk_drewN ?_ _ | refine blk_drew ?_ | refine blk_alloc ?_ _)); exact BK771.out) hg (Kd.R_ne HO783.out BK771.out (by decide)))
                          have n1_ := Aside0.mk (hb)
                          have n2_ := Aside0.mk (ho)
                          clear BK771
                          clear HB
                          clear HO783
                          have BK771 := n0_
                          have HB := n1_
                          have HO786 := n2_
                          clear n0_ n1_ n2_
                          clear ho hb hg hat
                          refine hK.out _ _ ⟨(blk_cell BK771.out 0).trans rfl, (blk_cell BK771.out 1).trans rfl, (blk_cell BK771.out 2).trans rfl, (blk_cell BK771.out 3).trans rfl, (blk_cell BK771.out 4).trans rfl, (blk_cell BK771.out 5).trans rfl, (blk_cell BK771.out 6).trans rfl, (blk_cell BK771.out 7).trans rfl, (blk_cell BK771.out 8).trans rfl, (blk_cell BK771.out 9).trans rfl⟩ (fun hHeld => ?_)
                          clear hK K
                          refine norm_ (a' := ?_) ?_ ?_
                          rotate_left
                          · show Act.put _ (some 91) _ = _
                            simp only [Act.put, List.setIfInBounds_toArray, List.set_cons_zero, List.set_cons_succ, i64_w, i32_w]
                            rfl
                          refine pure_ (i := 7) (N := some 5) (v := ?_) (a' := ?_) #[true, true, true, true, true, true, true, true] rfl rfl (any_of HT_.out (by kernel_rfl)) (fun _ _ _ h => h) (Or.inl ⟨by rfl, ?_⟩) ?_ ?_
                          rotate_left
                          · intro w'
                            go_simp
                            with_reducible rfl
                          rotate_left
                          · simp only [Act.put, List.setIfInBounds_toArray, List.set_cons_zero, List.set_cons_succ, i64_w, i32_w]
                            rfl
                          refine done_ (done_of HT_.out (by kernel_rfl)) ?_
                          try go_wp2
                          go_meet
                          case rel => exact ⟨_, (y784), H', ⟨by have := HJ2.out; have := HJ8.out; have := HJ25.out; first | omega | exact Nat.le_refl _⟩, ⟨by (with_reducible repeat (first | apply Kd.R_alloc | apply Kd.R_drewN | apply Kd.R_drew)); exact HO786.out⟩, ⟨by (with_reducible repeat (first | refine blk_drewN ?_ _ | refine blk_drew ?_ | refine blk_alloc ?_ _)); exact BK771.out⟩, ⟨by repeat (first | (with_reducible first | exact HB.out | apply below_alloc | apply pw_below_drewN | apply below_drew1 | refine below_set ?_ GE771.out) | exact HB.out)⟩⟩
                        · rw [if_neg c42] at H
                          exact absurd H (by simp)
                      · rw [if_neg c41] at H
                        exact absurd H (by simp)
                    · rw [if_neg c40] at H
                      exact absurd H (by simp)
                  · replace c39 := Bool.eq_false_iff.mpr c39
                    subst c39
                    have H1 : (marlineref18_Put.j3 kj25 y775 a0_0 a0_1 a0_2 l0_3 a0_4 a0_5 l0_6 l0_7 l0_8 l0_9) = some (r1, r2) := by rw [if_neg (show ¬ (false = true) by decide)] at H; exact H
                    clear H
                    have H := H1
                    clear H1
                    have H' := Aside0.mk H
                    clear H
                    go_wp2
                    go_meet
                    case rel => exact ⟨_, (y775), H', ⟨by have := HJ2.out; have := HJ8.out; have := HJ25.out; first | omega | exact Nat.le_refl _⟩, ⟨by (with_reducible repeat (first | apply Kd.R_alloc | apply Kd.R_drewN | apply Kd.R_drew)); exact HO777.out⟩, ⟨by (with_reducible repeat (first | refine blk_drewN ?_ _ | refine blk_drew ?_ | refine blk_alloc ?_ _)); exact BK771.out⟩, ⟨by repeat (first | (with_reducible first | exact HB.out | apply below_alloc | apply pw_below_drewN | apply below_drew1 | refine below_set ?_ GE771.out) | exact HB.out)⟩⟩
                 case rest =>
                  clear HC33
                  try clear c1
                  try clear c2
                  try clear c2b0
                  try clear c2b1
                  try clear p2
                  try clear c3
                  try clear c4
                  try clear c6
                  try clear c6b0
                  try clear c6b1
                  try clear c10
                  try clear c10b0
                  try clear c10b1
                  try clear c12
                  try clear c12b0
                  try clear c12b1
                  try clear c13
                  try clear c13b0
                  try clear c13b1
                  try clear c14
                  try clear c14b0
                  try clear c14b1
                  try clear c16
                  try clear c17
                  try clear c17b0
                  try clear c17b1
                  try clear c20
                  try clear c20b0
                  try clear c20b1
                  try clear c25
                  try clear c27
                  try clear c29
                  try clear c30
                  try clear c30b0
                  try clear c30b1
                  try clear c32
                  try clear c39
                  try clear c40
                  try clear c41
                  try clear c42
                  try clear hcz11_0 hcz11_1 hcz11_2 hcz11_3 hcz11_4 hcz11_5 hcz11_6 hcz11_7 hcz11_8 hcz11_9 hfz11_0 hfz11_1 hfz11_2 hfz11_3 hfz11_4 hfz11_5 hfz11_6 hfz11_7 hfz11_8 hfz11_9
                  try clear hcz15_0 hcz15_1 hcz15_2 hcz15_3 hcz15_4 hcz15_5 hcz15_6 hcz15_7 hcz15_8 hcz15_9 hfz15_0 hfz15_1 hfz15_2 hfz15_3 hfz15_4 hfz15_5 hfz15_6 hfz15_7 hfz15_8 hfz15_9
                  try clear hcz18_0 hcz18_1 hcz18_2 hcz18_3 hcz18_4 hcz18_5 hcz18_6 hcz18_7 hcz18_8 hcz18_9 hfz18_0 hfz18_1 hfz18_2 hfz18_3 hfz18_4 hfz18_5 hfz18_6 hfz18_7 hfz18_8 hfz18_9
                  try clear hcz19_0 hcz19_1 hcz19_2 hcz19_3 hcz19_4 hcz19_5 hcz19_6 hcz19_7 hcz19_8 hcz19_9 hfz19_0 hfz19_1 hfz19_2 hfz19_3 hfz19_4 hfz19_5 hfz19_6 hfz19_7 hfz19_8 hfz19_9
                  try clear hcz21_0 hcz21_1 hcz21_2 hcz21_3 hcz21_4 hcz21_5 hcz21_6 hcz21_7 hcz21_8 hcz21_9 hfz21_0 hfz21_1 hfz21_2 hfz21_3 hfz21_4 hfz21_5 hfz21_6 hfz21_7 hfz21_8 hfz21_9
                  try clear hcz22_0 hcz22_1 hcz22_2 hcz22_3 hcz22_4 hcz22_5 hcz22_6 hcz22_7 hcz22_8 hcz22_9 hfz22_0 hfz22_1 hfz22_2 hfz22_3 hfz22_4 hfz22_5 hfz22_6 hfz22_7 hfz22_8 hfz22_9
                  try clear hcz23_0 hcz23_1 hcz23_2 hcz23_3 hcz23_4 hcz23_5 hcz23_6 hcz23_7 hcz23_8 hcz23_9 hfz23_0 hfz23_1 hfz23_2 hfz23_3 hfz23_4 hfz23_5 hfz23_6 hfz23_7 hfz23_8 hfz23_9
                  try clear hcz24_0 hcz24_1 hcz24_2 hcz24_3 hcz24_4 hcz24_5 hcz24_6 hcz24_7 hcz24_8 hcz24_9 hfz24_0 hfz24_1 hfz24_2 hfz24_3 hfz24_4 hfz24_5 hfz24_6 hfz24_7 hfz24_8 hfz24_9
                  try clear hcz28_0 hcz28_1 hcz28_2 hcz28_3 hcz28_4 hcz28_5 hcz28_6 hcz28_7 hcz28_8 hcz28_9 hfz28_0 hfz28_1 hfz28_2 hfz28_3 hfz28_4 hfz28_5 hfz28_6 hfz28_7 hfz28_8 hfz28_9
                  try clear hcz31_0 hcz31_1 hcz31_2 hcz31_3 hcz31_4 hcz31_5 hcz31_6 hcz31_7 hcz31_8 hcz31_9 hfz31_0 hfz31_1 hfz31_2 hfz31_3 hfz31_4 hfz31_5 hfz31_6 hfz31_7 hfz31_8 hfz31_9
                  try clear hcz34_0 hcz34_1 hcz34_2 hcz34_3 hcz34_4 hcz34_5 hcz34_6 hcz34_7 hcz34_8 hcz34_9 hfz34_0 hfz34_1 hfz34_2 hfz34_3 hfz34_4 hfz34_5 hfz34_6 hfz34_7 hfz34_8 hfz34_9
                  try clear hcz37_0 hcz37_1 hcz37_2 hcz37_3 hcz37_4 hcz37_5 hcz37_6 hcz37_7 hcz37_8 hcz37_9 hfz37_0 hfz37_1 hfz37_2 hfz37_3 hfz37_4 hfz37_5 hfz37_6 hfz37_7 hfz37_8 hfz37_9
                  try clear hcz43_0 hcz43_1 hcz43_2 hcz43_3 hcz43_4 hcz43_5 hcz43_6 hcz43_7 hcz43_8 hcz43_9 hfz43_0 hfz43_1 hfz43_2 hfz43_3 hfz43_4 hfz43_5 hfz43_6 hfz43_7 hfz43_8 hfz43_9
                  try clear hcz5_0 hcz5_1 hcz5_2 hcz5_3 hcz5_4 hcz5_5 hcz5_6 hcz5_7 hcz5_8 hcz5_9 hfz5_0 hfz5_1 hfz5_2 hfz5_3 hfz5_4 hfz5_5 hfz5_6 hfz5_7 hfz5_8 hfz5_9
                  try clear hcz7_0 hcz7_1 hcz7_2 hcz7_3 hcz7_4 hcz7_5 hcz7_6 hcz7_7 hcz7_8 hcz7_9 hfz7_0 hfz7_1 hfz7_2 hfz7_3 hfz7_4 hfz7_5 hfz7_6 hfz7_7 hfz7_8 hfz7_9
                  try clear hcz8_0 hcz8_1 hcz8_2 hcz8_3 hcz8_4 hcz8_5 hcz8_6 hcz8_7 hcz8_8 hcz8_9 hfz8_0 hfz8_1 hfz8_2 hfz8_3 hfz8_4 hfz8_5 hfz8_6 hfz8_7 hfz8_8 hfz8_9
                  try clear p2
                  obtain ⟨kq, x5_32, HA, HJ32, HO_5, BK771, HB⟩ := hcut
                  cases kq with
                  | zero => exact absurd HA.out (by simp [marlineref18_Put.j3])
                  | succ kj32 =>
                   have H := HA.out
                   clear HA
                   simp only [marlineref18_Put.j3] at H
                   replace H := Option.bind_eq_some_iff.mp H
                   obtain ⟨⟨t787, t788⟩, A480, H⟩ := H
                   replace H : (some (t787, t788)) = some (r1, r2) := H
                   have A48 := Aside0.mk A480
                   clear A480
                   simp only [Option.some.injEq, Prod.mk.injEq] at H
                   obtain ⟨rfl, rfl⟩ := H
                   obtain ⟨⟨hcz49_0, hcz49_1, hcz49_2, hcz49_3, hcz49_4, hcz49_5, hcz49_6, hcz49_7, hcz49_8, hcz49_9⟩, hfz49_0, hfz49_1, hfz49_2, hfz49_3, hfz49_4, hfz49_5, hfz49_6, hfz49_7, hfz49_8, hfz49_9⟩ := cz10 BK771.out
                   obtain ⟨Ao50, co50, eo50⟩ := Kd.R_slice HO_5.out
                   subst eo50
                   go_wp2_with (first | ((with_reducible refine gate_callee (f := 52) rfl ?_); refine goesL_ (some 97) rfl rfl Try.func52 (by kernel_rfl) rfl #[.int .u8 a0_1, .int .u8 a0_2, .slice Ao50 x5_32.length co50] rfl (by (try simp only [List.map_toArray, List.map_cons, List.map_nil]); first | done | rfl | (simp only [List.length_drop, List.length_take]; rfl)) ?_; (with_reducible refine (marlineref13_Put.calls a0_1 a0_2 _ _ x5_32 t787 t788 _ ?side1 ?side2 A48.out).mono ?_); (case side1 => repeat (first | exact (Kd.R_reads' HO_5.out).2.2 | (with_reducible refine Kd.C_alloc ?_ _) | (with_reducible refine Kd.C_drewN ?_ _) | (with_reducible refine Kd.C_drew ?_))); (case side2 => exact (Kd.R_reads' HO_5.out).2.1); rintro e w51 ⟨v789, rfl, ho0, hb⟩; refine ⟨_, rfl, ?_⟩; have n0_ := Aside0.mk (Kd.R_elder' (by (with_reducible repeat (first | apply Kd.R_alloc | apply Kd.R_drewN | apply Kd.R_drew)); exact HO_5.out) (Kd.R_base ho0) hb); have n1_ := Aside0.mk (Kd.R_lower (Kd.R_new' ho0 (Kd.R_lt (by (with_reducible repeat (first | apply Kd.R_alloc | apply Kd.R_drewN | apply Kd.R_drew)); exact HO_5.out))) (below_size (by repeat (first | (with_reducible first | exact HB.out | apply below_alloc | apply pw_below_drewN | apply below_drew1 | refine below_set ?_ GE771.out) | exact HB.out)))); have n2_ := Aside0.mk (blk_below (g := gb771) (o := .cells #[.int .u16 a0_0, .int .u8 a0_1, .int .u8 a0_2, .slice A0_3 l0_3.length c0_3, .int .u16 a0_4, .int .u32 a0_5, .slice A0_6 l0_6.length c0_6, .slice A0_7 l0_7.length c0_7, .slice A0_8 l0_8.length c0_8, .slice A0_9 l0_9.length c0_9] 44 (0, 0)) (by (with_reducible repeat (first | refine blk_drewN ?_ _ | refine blk_drew ?_ | refine blk_alloc ?_ _)); exact BK771.out) hb); have n3_ := Aside0.mk (below_step (by repeat (first | (with_reducible first | exact HB.out | apply below_alloc | apply pw_below_drewN | apply below_drew1 | refine below_set ?_ GE771.out) | exact HB.out)) hb); clear HO_5; clear BK771; clear HB; have HO_5 := n0_; have HO790 := n1_; have BK771 := n2_; have HB := n3_; clear n0_ n1_ n2_ n3_; (try clear hb); (try clear hb2); (try clear hk); (try clear hi); (try clear ho0)))
                   go_ret2
                   exact ⟨_, by first | rfl | (simp [errW_none, errW_some] <;> rfl) | (simp [*, errW_none, errW_some] <;> rfl), by (with_reducible repeat (first | apply Kd.R_alloc | apply Kd.R_drewN | apply Kd.R_drew)); exact Kd.R_mono HO790.out (fun _ hk => trivial), by repeat (first | (with_reducible first | exact HB.out | apply below_alloc | apply pw_below_drewN | apply below_drew1 | refine below_set ?_ GE771.out) | exact HB.out)⟩
               · rw [if_neg c32] at H
                 exact absurd H (by simp)
 · rw [if_neg c2] at H
   have c2b0 : (a0_0 == 49699) = false := beq_eq_false_iff_ne.mpr c2
   have c2b1 : (a0_0 != 49699) = true := bne_iff_ne.mpr c2
   simp only [Option.some.injEq, Prod.mk.injEq] at H
   obtain ⟨rfl, rfl⟩ := H
   go_enter Try.func39, Try.ntmps39
   go_wp2_with (first | ((with_reducible refine gate_dst (N := 1) rfl ?_); (try (refine gate_guard (by rfl) ?_; dsimp only)); refine box_event ?hg (N := 1) ?hd (cs := #[.int .u16 a0_0, .int .u8 a0_1, .int .u8 a0_2, .slice A0_3 l0_3.length c0_3, .int .u16 a0_4, .int .u32 a0_5, .slice A0_6 l0_6.length c0_6, .slice A0_7 l0_7.length c0_7, .slice A0_8 l0_8.length c0_8, .slice A0_9 l0_9.length c0_9]) (t := 44) ?hr ?_; (case hd => rfl); (case hg => rfl); (case hr => first | (go_simp; done) | (go_simp; simp only [IntKind.wrap_u8, IntKind.wrap_u16, IntKind.wrap_u32, IntKind.wrap_u64]; done) | (go_simp; rfl)); intro gb771 hg w52 hbox hb; have n0_ := Aside0.mk (below_step (by repeat (first | (with_reducible first | exact HB.out | apply below_alloc | apply pw_below_drewN | apply below_drew1) | exact HB.out)) hb); have n1_ := Aside0.mk (hbox); have n2_ := Aside0.mk ((by rw [hg]; exact (below_size (by repeat (first | (with_reducible first | exact HB.out | apply below_alloc | apply pw_below_drewN | apply below_drew1) | exact HB.out))) : w.heap.size ≤ gb771)); have n3_ := Aside0.mk ((by rw [hg]; exact (below_size (by repeat (first | (with_reducible first | exact HB.out | apply below_alloc | apply pw_below_drewN | apply below_drew1) | exact HB.out))) : w.heap.size ≤ gb771)); clear HB; have HB := n0_; have BK771 := n1_; have GW771 := n2_; have GE771 := n3_; clear n0_ n1_ n2_ n3_; clear hb hbox hg; obtain ⟨⟨hcz53_0, hcz53_1, hcz53_2, hcz53_3, hcz53_4, hcz53_5, hcz53_6, hcz53_7, hcz53_8, hcz53_9⟩, hfz53_0, hfz53_1, hfz53_2, hfz53_3, hfz53_4, hfz53_5, hfz53_6, hfz53_7, hfz53_8, hfz53_9⟩ := cz10 BK771.out))
   go_ret2
   exact ⟨_, by first | rfl | (simp [errW_none, errW_some] <;> rfl) | (simp [*, errW_none, errW_some] <;> rfl), by first | exact Kd.R_nil _ _ _ _ _ | exact Kd.N_nil _ _ _ _ _ | exact Kd.V_nil _ _ _ _ _ | exact Kd.Q_nil _ _ _ _ _ | exact Kd.S_nil _ _ _ _ _, by repeat (first | (with_reducible first | exact HB.out | apply below_alloc | apply pw_below_drewN | apply below_drew1 | refine below_set ?_ GE771.out) | exact HB.out)⟩
end Go.Proofs.Ytgjeahgagciagaa.Print
