/- Texts of this claim, several in one, told shortly by a program of this claim (wip/x/shrink.py): what Go functions come to, and plain words on it. -/
import Derived.Test.YtgjeahgagciagaaShPapTells4
namespace Go.Proofs.Ytgjeahgagciagaa.Print
open Go.RowKit Go.Proofs.YtgjeahgagciagaaW.PrintWords Go.Proofs.YtgjeahgagciagaaW.PrintLast Go.Proofs.YtgjeahgagciagaaW.PrintMore
attribute [local go_sem] max2_int min2_int max_two min_two max_three min_three max_four min_four
set_option linter.unusedVariables false
set_option linter.unusedSimpArgs false
mutual
def marlineref17_Put.j0 : Nat → Bool → Int → Int → Int → List (S56) → Int → Int → List Int → List Int → List Int → List Int → Option (List Int × Int)
 | 0, _, _, _, _, _, _, _, _, _, _, _ => none
 | k + 1, x27, x889000, x889001, x889002, x889003, x889004, x889005, x889006, x889007, x889008, x889009 => if x27 = true then (some (([] : List Int), 9)) else (if x889001 = 1 then (if x889001 = 0 then (if (x889006.length : Int) > 0 then (marlineref17_Put.j1 k true x889000 x889001 x889002 x889003 x889004 x889005 x889006 x889007 x889008 x889009) else (if x889001 ≥ 1 then (if x889001 ≤ 3 then (marlineref17_Put.j1 k (decide ((x889008.length : Int) > 0)) x889000 x889001 x889002 x889003 x889004 x889005 x889006 x889007 x889008 x889009) else (marlineref17_Put.j1 k false x889000 x889001 x889002 x889003 x889004 x889005 x889006 x889007 x889008 x889009)) else (marlineref17_Put.j1 k false x889000 x889001 x889002 x889003 x889004 x889005 x889006 x889007 x889008 x889009))) else (if x889001 > 3 then (if (x889006.length : Int) > 0 then (marlineref17_Put.j1 k true x889000 x889001 x889002 x889003 x889004 x889005 x889006 x889007 x889008 x889009) else (if x889001 ≥ 1 then (if x889001 ≤ 3 then (marlineref17_Put.j1 k (decide ((x889008.length : Int) > 0)) x889000 x889001 x889002 x889003 x889004 x889005 x889006 x889007 x889008 x889009) else (marlineref17_Put.j1 k false x889000 x889001 x889002 x889003 x889004 x889005 x889006 x889007 x889008 x889009)) else (marlineref17_Put.j1 k false x889000 x889001 x889002 x889003 x889004 x889005 x889006 x889007 x889008 x889009))) else (if x889001 ≥ 1 then (if x889001 ≤ 3 then (marlineref17_Put.j1 k (decide ((x889008.length : Int) > 0)) x889000 x889001 x889002 x889003 x889004 x889005 x889006 x889007 x889008 x889009) else (marlineref17_Put.j1 k false x889000 x889001 x889002 x889003 x889004 x889005 x889006 x889007 x889008 x889009)) else (marlineref17_Put.j1 k false x889000 x889001 x889002 x889003 x889004 x889005 x889006 x889007 x889008 x889009)))) else (if (x889007.length : Int) > 0 then (marlineref17_Put.j1 k true x889000 x889001 x889002 x889003 x889004 x889005 x889006 x889007 x889008 x889009) else (if x889001 = 0 then (if (x889006.length : Int) > 0 then (marlineref17_Put.j1 k true x889000 x889001 x889002 x889003 x889004 x889005 x889006 x889007 x889008 x889009) else (if x889001 ≥ 1 then (if x889001 ≤ 3 then (marlineref17_Put.j1 k (decide ((x889008.length : Int) > 0)) x889000 x889001 x889002 x889003 x889004 x889005 x889006 x889007 x889008 x889009) else (marlineref17_Put.j1 k false x889000 x889001 x889002 x889003 x889004 x889005 x889006 x889007 x889008 x889009)) else (marlineref17_Put.j1 k false x889000 x889001 x889002 x889003 x889004 x889005 x889006 x889007 x889008 x889009))) else (if x889001 > 3 then (if (x889006.length : Int) > 0 then (marlineref17_Put.j1 k true x889000 x889001 x889002 x889003 x889004 x889005 x889006 x889007 x889008 x889009) else (if x889001 ≥ 1 then (if x889001 ≤ 3 then (marlineref17_Put.j1 k (decide ((x889008.length : Int) > 0)) x889000 x889001 x889002 x889003 x889004 x889005 x889006 x889007 x889008 x889009) else (marlineref17_Put.j1 k false x889000 x889001 x889002 x889003 x889004 x889005 x889006 x889007 x889008 x889009)) else (marlineref17_Put.j1 k false x889000 x889001 x889002 x889003 x889004 x889005 x889006 x889007 x889008 x889009))) else (if x889001 ≥ 1 then (if x889001 ≤ 3 then (marlineref17_Put.j1 k (decide ((x889008.length : Int) > 0)) x889000 x889001 x889002 x889003 x889004 x889005 x889006 x889007 x889008 x889009) else (marlineref17_Put.j1 k false x889000 x889001 x889002 x889003 x889004 x889005 x889006 x889007 x889008 x889009)) else (marlineref17_Put.j1 k false x889000 x889001 x889002 x889003 x889004 x889005 x889006 x889007 x889008 x889009))))))
def marlineref17_Put.j1 : Nat → Bool → Int → Int → Int → List (S56) → Int → Int → List Int → List Int → List Int → List Int → Option (List Int × Int)
 | 0, _, _, _, _, _, _, _, _, _, _, _ => none
 | k + 1, x68, x889000, x889001, x889002, x889003, x889004, x889005, x889006, x889007, x889008, x889009 => if x68 = true then (some (([] : List Int), 9)) else (if (x889006.length : Int) > 255 then (marlineref17_Put.j2 k true x889000 x889001 x889002 x889003 x889004 x889005 x889006 x889007 x889008 x889009) else (marlineref17_Put.j2 k (decide ((x889007.length : Int) > 255)) x889000 x889001 x889002 x889003 x889004 x889005 x889006 x889007 x889008 x889009))
def marlineref17_Put.j2 : Nat → Bool → Int → Int → Int → List (S56) → Int → Int → List Int → List Int → List Int → List Int → Option (List Int × Int)
 | 0, _, _, _, _, _, _, _, _, _, _, _ => none
 | k + 1, x78, x889000, x889001, x889002, x889003, x889004, x889005, x889006, x889007, x889008, x889009 => if x78 = true then (some (([] : List Int), 3)) else ((some (([] : List Int) : List Int)).bind fun y889 => (if y889.length + x889008.length < 140737488355328 then ((some (y889 ++ x889008 : List Int)).bind fun y892 => (if x889001 ≥ 1 then (marlineref17_Put.j3 k y892 (decide (x889001 ≤ 3)) x889000 x889001 x889002 x889003 x889004 x889005 x889006 x889007 x889008 x889009) else (marlineref17_Put.j3 k y892 false x889000 x889001 x889002 x889003 x889004 x889005 x889006 x889007 x889008 x889009))) else (none)))
def marlineref17_Put.j3 : Nat → List Int → Bool → Int → Int → Int → List (S56) → Int → Int → List Int → List Int → List Int → List Int → Option (List Int × Int)
 | 0, _, _, _, _, _, _, _, _, _, _, _, _ => none
 | k + 1, x4, x90, x889000, x889001, x889002, x889003, x889004, x889005, x889006, x889007, x889008, x889009 => if x90 = true then (if x4.length < 140737488355328 then ((some (x4 ++ [((x889006.length : Int)) % 256] : List Int)).bind fun y895 => (if y895.length + x889006.length < 140737488355328 then (marlineref17_Put.j4 k (y895 ++ x889006) x889000 x889001 x889002 x889003 x889004 x889005 x889006 x889007 x889008 x889009) else (none))) else (none)) else (marlineref17_Put.j4 k x4 x889000 x889001 x889002 x889003 x889004 x889005 x889006 x889007 x889008 x889009)
def marlineref17_Put.j4 : Nat → List Int → Int → Int → Int → List (S56) → Int → Int → List Int → List Int → List Int → List Int → Option (List Int × Int)
 | 0, _, _, _, _, _, _, _, _, _, _, _ => none
 | k + 1, x4, x889000, x889001, x889002, x889003, x889004, x889005, x889006, x889007, x889008, x889009 => if x889001 = 1 then (if x4.length < 140737488355328 then ((some (x4 ++ [((x889007.length : Int)) % 256] : List Int)).bind fun y901 => (if y901.length + x889007.length < 140737488355328 then (marlineref17_Put.j5 k (y901 ++ x889007) x889000 x889001 x889002 x889003 x889004 x889005 x889006 x889007 x889008 x889009) else (none))) else (none)) else (marlineref17_Put.j5 k x4 x889000 x889001 x889002 x889003 x889004 x889005 x889006 x889007 x889008 x889009)
def marlineref17_Put.j5 : Nat → List Int → Int → Int → Int → List (S56) → Int → Int → List Int → List Int → List Int → List Int → Option (List Int × Int)
 | 0, _, _, _, _, _, _, _, _, _, _, _ => none
 | k + 1, x4, x889000, x889001, x889002, x889003, x889004, x889005, x889006, x889007, x889008, x889009 => (marlineref13_Put.f x889001 x889002 x4).bind fun bt907 => (some (bt907.1, bt907.2))
end
def marlineref17_Put.f (k : Nat) (a0_0 : Int) (a0_1 : Int) (a0_2 : Int) (l0_3 : List (S56)) (a0_4 : Int) (a0_5 : Int) (l0_6 : List Int) (l0_7 : List Int) (l0_8 : List Int) (l0_9 : List Int) : Option (List Int × Int) := if a0_0 = 49187 then (if (l0_3.length : Int) > 0 then (marlineref17_Put.j0 k true a0_0 a0_1 a0_2 l0_3 a0_4 a0_5 l0_6 l0_7 l0_8 l0_9) else (if a0_4 = 0 then (if a0_5 = 0 then (marlineref17_Put.j0 k (decide ((l0_9.length : Int) > 0)) a0_0 a0_1 a0_2 l0_3 a0_4 a0_5 l0_6 l0_7 l0_8 l0_9) else (marlineref17_Put.j0 k true a0_0 a0_1 a0_2 l0_3 a0_4 a0_5 l0_6 l0_7 l0_8 l0_9)) else (marlineref17_Put.j0 k true a0_0 a0_1 a0_2 l0_3 a0_4 a0_5 l0_6 l0_7 l0_8 l0_9))) else (some (([] : List Int), 8))
def marlineref17_Put.T11 : Bool × List (List Nat × List Nat) := (true, [([], []), ([], []), ([1], [1]), ([2], [2]), ([3], [3]), ([4], [4]), ([0, 5], [0, 5]), ([], []), ([7], [7]), ([6, 8, 6], [6, 8]), ([9, 9, 0, 1, 2, 3, 4, 5, 6, 7, 8, 9], [0, 9])])
def marlineref17_Put.B11 : List Nat := [0, 0, 2, 6, 14, 30, 63, 0, 128, 511, 1023]
theorem marlineref17_Put.tab11 : rtab .any (opsOf Try.f32 11) = marlineref17_Put.T11 := by kernel_rfl
theorem marlineref17_Put.bits11 : waitsOk marlineref17_Put.T11.2 marlineref17_Put.B11 = true := by kernel_rfl
def marlineref17_Put.T13 : Bool × List (List Nat × List Nat) := (true, [([], []), ([], []), ([1], [1]), ([2], [2]), ([3], [3]), ([4], [4]), ([0, 5], [0, 5]), ([], []), ([7], [7]), ([6, 8, 6], [6, 8]), ([9, 9, 0, 1, 2, 3, 4, 5, 6, 7, 8, 9], [0, 9])])
def marlineref17_Put.B13 : List Nat := [0, 0, 2, 6, 14, 30, 63, 0, 128, 511, 1023]
theorem marlineref17_Put.tab13 : rtab .any (opsOf Try.f32 13) = marlineref17_Put.T13 := by kernel_rfl
theorem marlineref17_Put.bits13 : waitsOk marlineref17_Put.T13.2 marlineref17_Put.B13 = true := by kernel_rfl
set_option maxHeartbeats 8000000 in
set_option maxRecDepth 100000 in
theorem marlineref17_Put.calls (k : Nat) (a0_0 : Int) (a0_1 : Int) (a0_2 : Int) (A0_3 : Option Addr) (c0_3 : Nat) (l0_3 : List (S56)) (a0_4 : Int) (a0_5 : Int) (A0_6 : Option Addr) (c0_6 : Nat) (l0_6 : List Int) (A0_7 : Option Addr) (c0_7 : Nat) (l0_7 : List Int) (A0_8 : Option Addr) (c0_8 : Nat) (l0_8 : List Int) (A0_9 : Option Addr) (c0_9 : Nat) (l0_9 : List Int) (r1 : List Int) (r2 : Int) (w : World) (hr0_3 : Kd.C k56 w A0_3 l0_3.length l0_3) (hc0_3 : l0_3.length ≤ c0_3) (hr0_6 : Kd.C (Kd.int .u8) w A0_6 l0_6.length l0_6) (hc0_6 : l0_6.length ≤ c0_6) (hr0_7 : Kd.C (Kd.int .u8) w A0_7 l0_7.length l0_7) (hc0_7 : l0_7.length ≤ c0_7) (hr0_8 : Kd.C (Kd.int .u8) w A0_8 l0_8.length l0_8) (hc0_8 : l0_8.length ≤ c0_8) (hr0_9 : Kd.C (Kd.int .u32) w A0_9 l0_9.length l0_9) (hc0_9 : l0_9.length ≤ c0_9) (h : marlineref17_Put.f k a0_0 a0_1 a0_2 l0_3 a0_4 a0_5 l0_6 l0_7 l0_8 l0_9 = some (r1, r2)) :
 Calls Try.prog 32 #[.agg #[.int .u16 a0_0, .int .u8 a0_1, .int .u8 a0_2, .slice A0_3 l0_3.length c0_3, .int .u16 a0_4, .int .u32 a0_5, .slice A0_6 l0_6.length c0_6, .slice A0_7 l0_7.length c0_7, .slice A0_8 l0_8.length c0_8, .slice A0_9 l0_9.length c0_9]] w fun e w' => ∃ v0_ : Value, e = .returned (.tuple #[v0_, .int .i64 r2]) ∧ Kd.R (Kd.int .u8) 5 w' w.heap.size (fun _ => True) v0_ r1 ∧ Below w.heap.size w w' := by
 have hu44 := Try.underlying44
 have HR0_3 := Aside0.mk hr0_3
 have HC0_3 := Aside0.mk hc0_3
 clear hr0_3 hc0_3
 have HR0_6 := Aside0.mk hr0_6
 have HC0_6 := Aside0.mk hc0_6
 clear hr0_6 hc0_6
 have HR0_7 := Aside0.mk hr0_7
 have HC0_7 := Aside0.mk hc0_7
 clear hr0_7 hc0_7
 have HR0_8 := Aside0.mk hr0_8
 have HC0_8 := Aside0.mk hc0_8
 clear hr0_8 hc0_8
 have HR0_9 := Aside0.mk hr0_9
 have HC0_9 := Aside0.mk hc0_9
 clear hr0_9 hc0_9
 have HB := Aside0.mk (Below.refl w.heap.size w)
 have H : (if a0_0 = 49187 then (if (l0_3.length : Int) > 0 then (marlineref17_Put.j0 k true a0_0 a0_1 a0_2 l0_3 a0_4 a0_5 l0_6 l0_7 l0_8 l0_9) else (if a0_4 = 0 then (if a0_5 = 0 then (marlineref17_Put.j0 k (decide ((l0_9.length : Int) > 0)) a0_0 a0_1 a0_2 l0_3 a0_4 a0_5 l0_6 l0_7 l0_8 l0_9) else (marlineref17_Put.j0 k true a0_0 a0_1 a0_2 l0_3 a0_4 a0_5 l0_6 l0_7 l0_8 l0_9)) else (marlineref17_Put.j0 k true a0_0 a0_1 a0_2 l0_3 a0_4 a0_5 l0_6 l0_7 l0_8 l0_9))) else (some (([] : List Int), 8))) = some (r1, r2) := h
 clear h
 by_cases c2 : a0_0 = 49187
 · rw [if_pos c2] at H
   have c2b0 : (a0_0 == 49187) = true := beq_iff_eq.mpr c2
   have c2b1 : (a0_0 != 49187) = false := bne_eq_false_iff_eq.mpr c2
   clear c2
   have HC3 := Aside0.mk H
   clear H
   go_enter Try.func32, Try.ntmps32
   go_upto_region 3 with (first | ((with_reducible refine gate_dst (N := 1) rfl ?_); (try (refine gate_guard (by rfl) ?_; dsimp only)); refine box_event ?hg (N := 1) ?hd (cs := #[.int .u16 a0_0, .int .u8 a0_1, .int .u8 a0_2, .slice A0_3 l0_3.length c0_3, .int .u16 a0_4, .int .u32 a0_5, .slice A0_6 l0_6.length c0_6, .slice A0_7 l0_7.length c0_7, .slice A0_8 l0_8.length c0_8, .slice A0_9 l0_9.length c0_9]) (t := 44) ?hr ?_; (case hd => rfl); (case hg => rfl); (case hr => first | (go_simp; done) | (go_simp; simp only [IntKind.wrap_u8, IntKind.wrap_u16, IntKind.wrap_u32, IntKind.wrap_u64]; done) | (go_simp; simp only [IntKind.wrap_u8, IntKind.wrap_u16, IntKind.wrap_u32, IntKind.wrap_u64, Int.tmod_eq_emod_of_nonneg (Int.natCast_nonneg _), Int.emod_emod]; done) | (go_simp; rfl)); intro gb888 hg w4 hbox hb; have n0_ := Aside0.mk (below_step (by repeat (first | (with_reducible first | exact HB.out | apply below_alloc | apply pw_below_drewN | apply below_drew1) | exact HB.out)) hb); have n1_ := Aside0.mk (hbox); have n2_ := Aside0.mk ((by rw [hg]; exact (below_size (by repeat (first | (with_reducible first | exact HB.out | apply below_alloc | apply pw_below_drewN | apply below_drew1) | exact HB.out))) : w.heap.size ≤ gb888)); have n3_ := Aside0.mk ((by rw [hg]; exact (below_size (by repeat (first | (with_reducible first | exact HB.out | apply below_alloc | apply pw_below_drewN | apply below_drew1) | exact HB.out))) : w.heap.size ≤ gb888)); clear HB; have HB := n0_; have BK888 := n1_; have GW888 := n2_; have GE888 := n3_; clear n0_ n1_ n2_ n3_; clear hb hbox hg; obtain ⟨⟨hcz5_0, hcz5_1, hcz5_2, hcz5_3, hcz5_4, hcz5_5, hcz5_6, hcz5_7, hcz5_8, hcz5_9⟩, hfz5_0, hfz5_1, hfz5_2, hfz5_3, hfz5_4, hfz5_5, hfz5_6, hfz5_7, hfz5_8, hfz5_9⟩ := cz10 BK888.out))
   (try simp only [Act.put, List.setIfInBounds_toArray, List.set_cons_zero, List.set_cons_succ])
   go_cut [27] (fun v27 wc => ∃ (kq : Nat) (x27_2 : Bool), v27 = .bool x27_2 ∧ Aside0 (marlineref17_Put.j0 kq x27_2 a0_0 a0_1 a0_2 l0_3 a0_4 a0_5 l0_6 l0_7 l0_8 l0_9 = some (r1, r2)) ∧ Aside0 (kq ≤ k) ∧ Aside0 (wc.heap[gb888]? = some (.cells #[.int .u16 a0_0, .int .u8 a0_1, .int .u8 a0_2, (.slice A0_3 l0_3.length c0_3), .int .u16 a0_4, .int .u32 a0_5, (.slice A0_6 l0_6.length c0_6), (.slice A0_7 l0_7.length c0_7), (.slice A0_8 l0_8.length c0_8), (.slice A0_9 l0_9.length c0_9)] 44 (0, 0))) ∧ Aside0 (Below w.heap.size w wc))
   case first =>
    have H := HC3.out
    clear HC3
    by_cases c6 : (l0_3.length : Int) > 0
    · rw [if_pos c6] at H
      have c6b0 : decide (0 < (l0_3.length : Int)) = true := decide_eq_true c6
      have c6b1 : decide (0 < l0_3.length) = true := decide_eq_true (by omega)
      clear c6
      (first | rw [c6b0] | (simp only [i64_w, i32_w]; rw [c6b0]) | skip)
      have H' := Aside0.mk H
      clear H
      obtain ⟨⟨hcz7_0, hcz7_1, hcz7_2, hcz7_3, hcz7_4, hcz7_5, hcz7_6, hcz7_7, hcz7_8, hcz7_9⟩, hfz7_0, hfz7_1, hfz7_2, hfz7_3, hfz7_4, hfz7_5, hfz7_6, hfz7_7, hfz7_8, hfz7_9⟩ := cz10 BK888.out
      go_wp2
      go_meet
      case rel => exact ⟨_, (true), (by first | rfl | (simp; done) | (simp [*]; done)), H', ⟨by first | omega | exact Nat.le_refl _⟩, ⟨by (with_reducible repeat (first | refine blk_drewN ?_ _ | refine blk_drew ?_ | refine blk_alloc ?_ _)); exact BK888.out⟩, ⟨by repeat (first | (with_reducible first | exact HB.out | apply below_alloc | apply pw_below_drewN | apply below_drew1 | refine below_set ?_ GE888.out) | exact HB.out)⟩⟩
    · rw [if_neg c6] at H
      have c6b0 : decide (0 < (l0_3.length : Int)) = false := decide_eq_false c6
      have c6b1 : decide (0 < l0_3.length) = false := decide_eq_false (by omega)
      clear c6
      (first | rw [c6b0] | (simp only [i64_w, i32_w]; rw [c6b0]) | skip)
      by_cases c8 : a0_4 = 0
      · rw [if_pos c8] at H
        have c8b0 : (a0_4 == 0) = true := beq_iff_eq.mpr c8
        have c8b1 : (a0_4 != 0) = false := bne_eq_false_iff_eq.mpr c8
        clear c8
        by_cases c9 : a0_5 = 0
        · rw [if_pos c9] at H
          have c9b0 : (a0_5 == 0) = true := beq_iff_eq.mpr c9
          have c9b1 : (a0_5 != 0) = false := bne_eq_false_iff_eq.mpr c9
          clear c9
          have H' := Aside0.mk H
          clear H
          obtain ⟨⟨hcz10_0, hcz10_1, hcz10_2, hcz10_3, hcz10_4, hcz10_5, hcz10_6, hcz10_7, hcz10_8, hcz10_9⟩, hfz10_0, hfz10_1, hfz10_2, hfz10_3, hfz10_4, hfz10_5, hfz10_6, hfz10_7, hfz10_8, hfz10_9⟩ := cz10 BK888.out
          go_wp2
          go_meet
          case rel => exact ⟨_, (decide ((l0_9.length : Int) > 0)), (by first | rfl | (simp; done) | (simp [*]; done)), H', ⟨by first | omega | exact Nat.le_refl _⟩, ⟨by (with_reducible repeat (first | refine blk_drewN ?_ _ | refine blk_drew ?_ | refine blk_alloc ?_ _)); exact BK888.out⟩, ⟨by repeat (first | (with_reducible first | exact HB.out | apply below_alloc | apply pw_below_drewN | apply below_drew1 | refine below_set ?_ GE888.out) | exact HB.out)⟩⟩
        · rw [if_neg c9] at H
          have c9b0 : (a0_5 == 0) = false := beq_eq_false_iff_ne.mpr c9
          have c9b1 : (a0_5 != 0) = true := bne_iff_ne.mpr c9
          have H' := Aside0.mk H
          clear H
          obtain ⟨⟨hcz11_0, hcz11_1, hcz11_2, hcz11_3, hcz11_4, hcz11_5, hcz11_6, hcz11_7, hcz11_8, hcz11_9⟩, hfz11_0, hfz11_1, hfz11_2, hfz11_3, hfz11_4, hfz11_5, hfz11_6, hfz11_7, hfz11_8, hfz11_9⟩ := cz10 BK888.out
          go_wp2
          go_meet
          case rel => exact ⟨_, (true), (by first | rfl | (simp; done) | (simp [*]; done)), H', ⟨by first | omega | exact Nat.le_refl _⟩, ⟨by (with_reducible repeat (first | refine blk_drewN ?_ _ | refine blk_drew ?_ | refine blk_alloc ?_ _)); exact BK888.out⟩, ⟨by repeat (first | (with_reducible first | exact HB.out | apply below_alloc | apply pw_below_drewN | apply below_drew1 | refine below_set ?_ GE888.out) | exact HB.out)⟩⟩
      · rw [if_neg c8] at H
        have c8b0 : (a0_4 == 0) = false := beq_eq_false_iff_ne.mpr c8
        have c8b1 : (a0_4 != 0) = true := bne_iff_ne.mpr c8
        have H' := Aside0.mk H
        clear H
        obtain ⟨⟨hcz12_0, hcz12_1, hcz12_2, hcz12_3, hcz12_4, hcz12_5, hcz12_6, hcz12_7, hcz12_8, hcz12_9⟩, hfz12_0, hfz12_1, hfz12_2, hfz12_3, hfz12_4, hfz12_5, hfz12_6, hfz12_7, hfz12_8, hfz12_9⟩ := cz10 BK888.out
        go_wp2
        go_meet
        case rel => exact ⟨_, (true), (by first | rfl | (simp; done) | (simp [*]; done)), H', ⟨by first | omega | exact Nat.le_refl _⟩, ⟨by (with_reducible repeat (first | refine blk_drewN ?_ _ | refine blk_drew ?_ | refine blk_alloc ?_ _)); exact BK888.out⟩, ⟨by repeat (first | (with_reducible first | exact HB.out | apply below_alloc | apply pw_below_drewN | apply below_drew1 | refine below_set ?_ GE888.out) | exact HB.out)⟩⟩
   case rest =>
    clear HC3
    try clear c2
    try clear c2b0
    try clear c2b1
    try clear p2
    try clear c3
    try clear c6
    try clear c6b0
    try clear c6b1
    try clear c8
    try clear c8b0
    try clear c8b1
    try clear c9
    try clear c9b0
    try clear c9b1
    try clear hcz10_0 hcz10_1 hcz10_2 hcz10_3 hcz10_4 hcz10_5 hcz10_6 hcz10_7 hcz10_8 hcz10_9 hfz10_0 hfz10_1 hfz10_2 hfz10_3 hfz10_4 hfz10_5 hfz10_6 hfz10_7 hfz10_8 hfz10_9
    try clear hcz11_0 hcz11_1 hcz11_2 hcz11_3 hcz11_4 hcz11_5 hcz11_6 hcz11_7 hcz11_8 hcz11_9 hfz11_0 hfz11_1 hfz11_2 hfz11_3 hfz11_4 hfz11_5 hfz11_6 hfz11_7 hfz11_8 hfz11_9
    try clear hcz12_0 hcz12_1 hcz12_2 hcz12_3 hcz12_4 hcz12_5 hcz12_6 hcz12_7 hcz12_8 hcz12_9 hfz12_0 hfz12_1 hfz12_2 hfz12_3 hfz12_4 hfz12_5 hfz12_6 hfz12_7 hfz12_8 hfz12_9
    try clear hcz5_0 hcz5_1 hcz5_2 hcz5_3 hcz5_4 hcz5_5 hcz5_6 hcz5_7 hcz5_8 hcz5_9 hfz5_0 hfz5_1 hfz5_2 hfz5_3 hfz5_4 hfz5_5 hfz5_6 hfz5_7 hfz5_8 hfz5_9
    try clear hcz7_0 hcz7_1 hcz7_2 hcz7_3 hcz7_4 hcz7_5 hcz7_6 hcz7_7 hcz7_8 hcz7_9 hfz7_0 hfz7_1 hfz7_2 hfz7_3 hfz7_4 hfz7_5 hfz7_6 hfz7_7 hfz7_8 hfz7_9
    obtain ⟨kq, x27_2, rfl, HA, HJ2, BK888, HB⟩ := hcut
    cases kq with
    | zero => exact absurd HA.out (by simp [marlineref17_Put.j0])
    | succ kj2 =>
     have H := HA.out
     clear HA
     simp only [marlineref17_Put.j0] at H
     by_cases c13 : x27_2 = true
     · subst c13
       have H1 : (some (([] : List Int), 9)) = some (r1, r2) := by rw [if_pos rfl] at H; exact H
       clear H
       have H := H1
       clear H1
       simp only [Option.some.injEq, Prod.mk.injEq] at H
       obtain ⟨rfl, rfl⟩ := H
       go_wp2
       go_ret2
       exact ⟨_, by first | rfl | (simp [errW_none, errW_some] <;> rfl) | (simp [*, errW_none, errW_some] <;> rfl), by first | exact Kd.R_nil _ _ _ _ _ | exact Kd.N_nil _ _ _ _ _ | exact Kd.V_nil _ _ _ _ _ | exact Kd.Q_nil _ _ _ _ _ | exact Kd.S_nil _ _ _ _ _, by repeat (first | (with_reducible first | exact HB.out | apply below_alloc | apply pw_below_drewN | apply below_drew1 | refine below_set ?_ GE888.out) | exact HB.out)⟩
     · replace c13 := Bool.eq_false_iff.mpr c13
       subst c13
       have H1 : (if a0_1 = 1 then (if a0_1 = 0 then (if (l0_6.length : Int) > 0 then (marlineref17_Put.j1 kj2 true a0_0 a0_1 a0_2 l0_3 a0_4 a0_5 l0_6 l0_7 l0_8 l0_9) else (if a0_1 ≥ 1 then (if a0_1 ≤ 3 then (marlineref17_Put.j1 kj2 (decide ((l0_8.length : Int) > 0)) a0_0 a0_1 a0_2 l0_3 a0_4 a0_5 l0_6 l0_7 l0_8 l0_9) else (marlineref17_Put.j1 kj2 false a0_0 a0_1 a0_2 l0_3 a0_4 a0_5 l0_6 l0_7 l0_8 l0_9)) else (marlineref17_Put.j1 kj2 false a0_0 a0_1 a0_2 l0_3 a0_4 a0_5 l0_6 l0_7 l0_8 l0_9))) else (if a0_1 > 3 then (if (l0_6.length : Int) > 0 then (marlineref17_Put.j1 kj2 true a0_0 a0_1 a0_2 l0_3 a0_4 a0_5 l0_6 l0_7 l0_8 l0_9) else (if a0_1 ≥ 1 then (if a0_1 ≤ 3 then (marlineref17_Put.j1 kj2 (decide ((l0_8.length : Int) > 0)) a0_0 a0_1 a0_2 l0_3 a0_4 a0_5 l0_6 l0_7 l0_8 l0_9) else (marlineref17_Put.j1 kj2 false a0_0 a0_1 a0_2 l0_3 a0_4 a0_5 l0_6 l0_7 l0_8 l0_9)) else (marlineref17_Put.j1 kj2 false a0_0 a0_1 a0_2 l0_3 a0_4 a0_5 l0_6 l0_7 l0_8 l0_9))) else (if a0_1 ≥ 1 then (if a0_1 ≤ 3 then (marlineref17_Put.j1 kj2 (decide ((l0_8.length : Int) > 0)) a0_0 a0_1 a0_2 l0_3 a0_4 a0_5 l0_6 l0_7 l0_8 l0_9) else (marlineref17_Put.j1 kj2 false a0_0 a0_1 a0_2 l0_3 a0_4 a0_5 l0_6 l0_7 l0_8 l0_9)) else (marlineref17_Put.j1 kj2 false a0_0 a0_1 a0_2 l0_3 a0_4 a0_5 l0_6 l0_7 l0_8 l0_9)))) else (if (l0_7.length : Int) > 0 then (marlineref17_Put.j1 kj2 true a0_0 a0_1 a0_2 l0_3 a0_4 a0_5 l0_6 l0_7 l0_8 l0_9) else (if a0_1 = 0 then (if (l0_6.length : Int) > 0 then (marlineref17_Put.j1 kj2 true a0_0 a0_1 a0_2 l0_3 a0_4 a0_5 l0_6 l0_7 l0_8 l0_9) else (if a0_1 ≥ 1 then (if a0_1 ≤ 3 then (marlineref17_Put.j1 kj2 (decide ((l0_8.length : Int) > 0)) a0_0 a0_1 a0_2 l0_3 a0_4 a0_5 l0_6 l0_7 l0_8 l0_9) else (marlineref17_Put.j1 kj2 false a0_0 a0_1 a0_2 l0_3 a0_4 a0_5 l0_6 l0_7 l0_8 l0_9)) else (marlineref17_Put.j1 kj2 false a0_0 a0_1 a0_2 l0_3 a0_4 a0_5 l0_6 l0_7 l0_8 l0_9))) else (if a0_1 > 3 then (if (l0_6.length : Int) > 0 then (marlineref17_Put.j1 kj2 true a0_0 a0_1 a0_2 l0_3 a0_4 a0_5 l0_6 l0_7 l0_8 l0_9) else (if a0_1 ≥ 1 then (if a0_1 ≤ 3 then (marlineref17_Put.j1 kj2 (decide ((l0_8.length : Int) > 0)) a0_0 a0_1 a0_2 l0_3 a0_4 a0_5 l0_6 l0_7 l0_8 l0_9) else (marlineref17_Put.j1 kj2 false a0_0 a0_1 a0_2 l0_3 a0_4 a0_5 l0_6 l0_7 l0_8 l0_9)) else (marlineref17_Put.j1 kj2 false a0_0 a0_1 a0_2 l0_3 a0_4 a0_5 l0_6 l0_7 l0_8 l0_9))) else (if a0_1 ≥ 1 then (if a0_1 ≤ 3 then (marlineref17_Put.j1 kj2 (decide ((l0_8.length : Int) > 0)) a0_0 a0_1 a0_2 l0_3 a0_4 a0_5 l0_6 l0_7 l0_8 l0_9) else (marlineref17_Put.j1 kj2 false a0_0 a0_1 a0_2 l0_3 a0_4 a0_5 l0_6 l0_7 l0_8 l0_9)) else (marlineref17_Put.j1 kj2 false a0_0 a0_1 a0_2 l0_3 a0_4 a0_5 l0_6 l0_7 l0_8 l0_9)))))) = some (r1, r2) := by rw [if_neg (show ¬ (false = true) by decide)] at H; exact H
       clear H
       have H := H1
       clear H1
       have HC14 := Aside0.mk H
       clear H
       go_upto_region 5 with (fail)
       go_cut [68] (fun v68 wc => ∃ (kq : Nat) (x68_13 : Bool), v68 = .bool x68_13 ∧ Aside0 (marlineref17_Put.j1 kq x68_13 a0_0 a0_1 a0_2 l0_3 a0_4 a0_5 l0_6 l0_7 l0_8 l0_9 = some (r1, r2)) ∧ Aside0 (kq ≤ kj2) ∧ Aside0 (wc.heap[gb888]? = some (.cells #[.int .u16 a0_0, .int .u8 a0_1, .int .u8 a0_2, (.slice A0_3 l0_3.length c0_3), .int .u16 a0_4, .int .u32 a0_5, (.slice A0_6 l0_6.length c0_6), (.slice A0_7 l0_7.length c0_7), (.slice A0_8 l0_8.length c0_8), (.slice A0_9 l0_9.length c0_9)] 44 (0, 0))) ∧ Aside0 (Below w.heap.size w wc))
       case first =>
        have H := HC14.out
        clear HC14
        by_cases c15 : a0_1 = 1
        · rw [if_pos c15] at H
          have c15b0 : (a0_1 == 1) = true := beq_iff_eq.mpr c15
          have c15b1 : (a0_1 != 1) = false := bne_eq_false_iff_eq.mpr c15
          clear c15
          (first | rw [c15b0] | (simp only [i64_w, i32_w]; rw [c15b0]) | skip)
          by_cases c16 : a0_1 = 0
          · rw [if_pos c16] at H
            have c16b0 : (a0_1 == 0) = true := beq_iff_eq.mpr c16
            have c16b1 : (a0_1 != 0) = false := bne_eq_false_iff_eq.mpr c16
            clear c16
            by_cases c17 : (l0_6.length : Int) > 0
            · rw [if_pos c17] at H
              have c17b0 : decide (0 < (l0_6.length : Int)) = true := decide_eq_true c17
              have c17b1 : decide (0 < l0_6.length) = true := decide_eq_true (by omega)
              clear c17
              have H' := Aside0.mk H
              clear H
              obtain ⟨⟨hcz18_0, hcz18_1, hcz18_2, hcz18_3, hcz18_4, hcz18_5, hcz18_6, hcz18_7, hcz18_8, hcz18_9⟩, hfz18_0, hfz18_1, hfz18_2, hfz18_3, hfz18_4, hfz18_5, hfz18_6, hfz18_7, hfz18_8, hfz18_9⟩ := cz10 BK888.out
              go_wp2
              go_meet
              case rel => exact ⟨_, (true), (by first | rfl | (simp; done) | (simp [*]; done)), H', ⟨by have := HJ2.out; first | omega | exact Nat.le_refl _⟩, ⟨by (with_reducible repeat (first | refine blk_drewN ?_ _ | refine blk_drew ?_ | refine blk_alloc ?_ _)); exact BK888.out⟩, ⟨by repeat (first | (with_reducible first | exact HB.out | apply below_alloc | apply pw_below_drewN | apply below_drew1 | refine below_set ?_ GE888.out) | exact HB.out)⟩⟩
            · rw [if_neg c17] at H
              have c17b0 : decide (0 < (l0_6.length : Int)) = false := decide_eq_false c17
              have c17b1 : decide (0 < l0_6.length) = false := decide_eq_false (by omega)
              clear c17
              by_cases c19 : a0_1 ≥ 1
              · rw [if_pos c19] at H
                have c19b0 : decide (1 ≤ a0_1) = true := decide_eq_true c19
                clear c19
                by_cases c20 : a0_1 ≤ 3
                · rw [if_pos c20] at H
                  have c20b0 : decide (a0_1 ≤ 3) = true := decide_eq_true c20
                  clear c20
                  have H' := Aside0.mk H
                  clear H
                  obtain ⟨⟨hcz21_0, hcz21_1, hcz21_2, hcz21_3, hcz21_4, hcz21_5, hcz21_6, hcz21_7, hcz21_8, hcz21_9⟩, hfz21_0, hfz21_1, hfz21_2, hfz21_3, hfz21_4, hfz21_5, hfz21_6, hfz21_7, hfz21_8, hfz21_9⟩ := cz10 BK888.out
                  go_wp2
                  go_meet
                  case rel => exact ⟨_, (decide ((l0_8.length : Int) > 0)), (by first | rfl | (simp; done) | (simp [*]; done)), H', ⟨by have := HJ2.out; first | omega | exact Nat.le_refl _⟩, ⟨by (with_reducible repeat (first | refine blk_drewN ?_ _ | refine blk_drew ?_ | refine blk_alloc ?_ _)); exact BK888.out⟩, ⟨by repeat (first | (with_reducible first | exact HB.out | apply below_alloc | apply pw_below_drewN | apply below_drew1 | refine below_set ?_ GE888.out) | exact HB.out)⟩⟩
                · rw [if_neg c20] at H
                  have c20b0 : decide (a0_1 ≤ 3) = false := decide_eq_false c20
                  clear c20
                  have H' := Aside0.mk H
                  clear H
                  obtain ⟨⟨hcz22_0, hcz22_1, hcz22_2, hcz22_3, hcz22_4, hcz22_5, hcz22_6, hcz22_7, hcz22_8, hcz22_9⟩, hfz22_0, hfz22_1, hfz22_2, hfz22_3, hfz22_4, hfz22_5, hfz22_6, hfz22_7, hfz22_8, hfz22_9⟩ := cz10 BK888.out
                  go_wp2
                  go_meet
                  case rel => exact ⟨_, (false), (by first | rfl | (simp; done) | (simp [*]; done)), H', ⟨by have := HJ2.out; first | omega | exact Nat.le_refl _⟩, ⟨by (with_reducible repeat (first | refine blk_drewN ?_ _ | refine blk_drew ?_ | refine blk_alloc ?_ _)); exact BK888.out⟩, ⟨by repeat (first | (with_reducible first | exact HB.out | apply below_alloc | apply pw_below_drewN | apply below_drew1 | refine below_set ?_ GE888.out) | exact HB.out)⟩⟩
              · rw [if_neg c19] at H
                have c19b0 : decide (1 ≤ a0_1) = false := decide_eq_false c19
                clear c19
                have H' := Aside0.mk H
                clear H
                obtain ⟨⟨hcz23_0, hcz23_1, hcz23_2, hcz23_3, hcz23_4, hcz23_5, hcz23_6, hcz23_7, hcz23_8, hcz23_9⟩, hfz23_0, hfz23_1, hfz23_2, hfz23_3, hfz23_4, hfz23_5, hfz23_6, hfz23_7, hfz23_8, hfz23_9⟩ := cz10 BK888.out
                go_wp2
                go_meet
                case rel => exact ⟨_, (false), (by first | rfl | (simp; done) | (simp [*]; done)), H', ⟨by have := HJ2.out; first | omega | exact Nat.le_refl _⟩, ⟨by (with_reducible repeat (first | refine blk_drewN ?_ _ | refine blk_drew ?_ | refine blk_alloc ?_ _)); exact BK888.out⟩, ⟨by repeat (first | (with_reducible first | exact HB.out | apply below_alloc | apply pw_below_drewN | apply below_drew1 | refine below_set ?_ GE888.out) | exact HB.out)⟩⟩
          · rw [if_neg c16] at H
            have c16b0 : (a0_1 == 0) = false := beq_eq_false_iff_ne.mpr c16
            have c16b1 : (a0_1 != 0) = true := bne_iff_ne.mpr c16
            by_cases c24 : a0_1 > 3
            · rw [if_pos c24] at H
              have c24b0 : decide (3 < a0_1) = true := decide_eq_true c24
              clear c24
              by_cases c25 : (l0_6.length : Int) > 0
              · rw [if_pos c25] at H
                have c25b0 : decide (0 < (l0_6.length : Int)) = true := decide_eq_true c25
                have c25b1 : decide (0 < l0_6.length) = true := decide_eq_true (by omega)
                clear c25
                have H' := Aside0.mk H
                clear H
                obtain ⟨⟨hcz26_0, hcz26_1, hcz26_2, hcz26_3, hcz26_4, hcz26_5, hcz26_6, hcz26_7, hcz26_8, hcz26_9⟩, hfz26_0, hfz26_1, hfz26_2, hfz26_3, hfz26_4, hfz26_5, hfz26_6, hfz26_7, hfz26_8, hfz26_9⟩ := cz10 BK888.out
                go_wp2
                go_meet
                case rel => exact ⟨_, (true), (by first | rfl | (simp; done) | (simp [*]; done)), H', ⟨by have := HJ2.out; first | omega | exact Nat.le_refl _⟩, ⟨by (with_reducible repeat (first | refine blk_drewN ?_ _ | refine blk_drew ?_ | refine blk_alloc ?_ _)); exact BK888.out⟩, ⟨by repeat (first | (with_reducible first | exact HB.out | apply below_alloc | apply pw_below_drewN | apply below_drew1 | refine below_set ?_ GE888.out) | exact HB.out)⟩⟩
              · rw [if_neg c25] at H
                have c25b0 : decide (0 < (l0_6.length : Int)) = false := decide_eq_false c25
                have c25b1 : decide (0 < l0_6.length) = false := decide_eq_false (by omega)
                clear c25
                by_cases c27 : a0_1 ≥ 1
                · rw [if_pos c27] at H
                  have c27b0 : decide (1 ≤ a0_1) = true := decide_eq_true c27
                  clear c27
                  by_cases c28 : a0_1 ≤ 3
                  · rw [if_pos c28] at H
                    have c28b0 : decide (a0_1 ≤ 3) = true := decide_eq_true c28
                    clear c28
                    have H' := Aside0.mk H
                    clear H
                    obtain ⟨⟨hcz29_0, hcz29_1, hcz29_2, hcz29_3, hcz29_4, hcz29_5, hcz29_6, hcz29_7, hcz29_8, hcz29_9⟩, hfz29_0, hfz29_1, hfz29_2, hfz29_3, hfz29_4, hfz29_5, hfz29_6, hfz29_7, hfz29_8, hfz29_9⟩ := cz10 BK888.out
                    go_wp2
                    go_meet
                    case rel => exact ⟨_, (decide ((l0_8.length : Int) > 0)), (by first | rfl | (simp; done) | (simp [*]; done)), H', ⟨by have := HJ2.out; first | omega | exact Nat.le_refl _⟩, ⟨by (with_reducible repeat (first | refine blk_drewN ?_ _ | refine blk_drew ?_ | refine blk_alloc ?_ _)); exact BK888.out⟩, ⟨by repeat (first | (with_reducible first | exact HB.out | apply below_alloc | apply pw_below_drewN | apply below_drew1 | refine below_set ?_ GE888.out) | exact HB.out)⟩⟩
                  · rw [if_neg c28] at H
                    have c28b0 : decide (a0_1 ≤ 3) = false := decide_eq_false c28
                    clear c28
                    have H' := Aside0.mk H
                    clear H
                    obtain ⟨⟨hcz30_0, hcz30_1, hcz30_2, hcz30_3, hcz30_4, hcz30_5, hcz30_6, hcz30_7, hcz30_8, hcz30_9⟩, hfz30_0, hfz30_1, hfz30_2, hfz30_3, hfz30_4, hfz30_5, hfz30_6, hfz30_7, hfz30_8, hfz30_9⟩ := cz10 BK888.out
                    go_wp2
                    go_meet
                    case rel => exact ⟨_, (false), (by first | rfl | (simp; done) | (simp [*]; done)), H', ⟨by have := HJ2.out; first | omega | exact Nat.le_refl _⟩, ⟨by (with_reducible repeat (first | refine blk_drewN ?_ _ | refine blk_drew ?_ | refine blk_alloc ?_ _)); exact BK888.out⟩, ⟨by repeat (first | (with_reducible first | exact HB.out | apply below_alloc | apply pw_below_drewN | apply below_drew1 | refine below_set ?_ GE888.out) | exact HB.out)⟩⟩
                · rw [if_neg c27] at H
                  have c27b0 : decide (1 ≤ a0_1) = false := decide_eq_false c27
                  clear c27
                  have H' := Aside0.mk H
                  clear H
                  obtain ⟨⟨hcz31_0, hcz31_1, hcz31_2, hcz31_3, hcz31_4, hcz31_5, hcz31_6, hcz31_7, hcz31_8, hcz31_9⟩, hfz31_0, hfz31_1, hfz31_2, hfz31_3, hfz31_4, hfz31_5, hfz31_6, hfz31_7, hfz31_8, hfz31_9⟩ := cz10 BK888.out
                  go_wp2
                  go_meet
                  case rel => exact ⟨_, (false), (by first | rfl | (simp; done) | (simp [*]; done)), H', ⟨by have := HJ2.out; first | omega | exact Nat.le_refl _⟩, ⟨by (with_reducible repeat (first | refine blk_drewN ?_ _ | refine blk_drew ?_ | refine blk_alloc ?_ _)); exact BK888.out⟩, ⟨by repeat (first | (with_reducible first | exact HB.out | apply below_alloc | apply pw_below_drewN | apply below_drew1 | refine below_set ?_ GE888.out) | exact HB.out)⟩⟩
            · rw [if_neg c24] at H
              have c24b0 : decide (3 < a0_1) = false := decide_eq_false c24
              clear c24
              by_cases c32 : a0_1 ≥ 1
              · rw [if_pos c32] at H
                have c32b0 : decide (1 ≤ a0_1) = true := decide_eq_true c32
                clear c32
                by_cases c33 : a0_1 ≤ 3
                · rw [if_pos c33] at H
                  have c33b0 : decide (a0_1 ≤ 3) = true := decide_eq_true c33
                  clear c33
                  have H' := Aside0.mk H
                  clear H
                  obtain ⟨⟨hcz34_0, hcz34_1, hcz34_2, hcz34_3, hcz34_4, hcz34_5, hcz34_6, hcz34_7, hcz34_8, hcz34_9⟩, hfz34_0, hfz34_1, hfz34_2, hfz34_3, hfz34_4, hfz34_5, hfz34_6, hfz34_7, hfz34_8, hfz34_9⟩ := cz10 BK888.out
                  go_wp2
                  go_meet
                  case rel => exact ⟨_, (decide ((l0_8.length : Int) > 0)), (by first | rfl | (simp; done) | (simp [*]; done)), H', ⟨by have := HJ2.out; first | omega | exact Nat.le_refl _⟩, ⟨by (with_reducible repeat (first | refine blk_drewN ?_ _ | refine blk_drew ?_ | refine blk_alloc ?_ _)); exact BK888.out⟩, ⟨by repeat (first | (with_reducible first | exact HB.out | apply below_alloc | apply pw_below_drewN | apply below_drew1 | refine below_set ?_ GE888.out) | exact HB.out)⟩⟩
                · rw [if_neg c33] at H
                  have c33b0 : decide (a0_1 ≤ 3) = false := decide_eq_false c33
                  clear c33
                  have H' := Aside0.mk H
                  clear H
                  obtain ⟨⟨hcz35_0, hcz35_1, hcz35_2, hcz35_3, hcz35_4, hcz35_5, hcz35_6, hcz35_7, hcz35_8, hcz35_9⟩, hfz35_0, hfz35_1, hfz35_2, hfz35_3, hfz35_4, hfz35_5, hfz35_6, hfz35_7, hfz35_8, hfz35_9⟩ := cz10 BK888.out
                  go_wp2
                  go_meet
                  case rel => exact ⟨_, (false), (by first | rfl | (simp; done) | (simp [*]; done)), H', ⟨by have := HJ2.out; first | omega | exact Nat.le_refl _⟩, ⟨by (with_reducible repeat (first | refine blk_drewN ?_ _ | refine blk_drew ?_ | refine blk_alloc ?_ _)); exact BK888.out⟩, ⟨by repeat (first | (with_reducible first | exact HB.out | apply below_alloc | apply pw_below_drewN | apply below_drew1 | refine below_set ?_ GE888.out) | exact HB.out)⟩⟩
              · rw [if_neg c32] at H
                have c32b0 : decide (1 ≤ a0_1) = false := decide_eq_false c32
                clear c32
                have H' := Aside0.mk H
                clear H
                obtain ⟨⟨hcz36_0, hcz36_1, hcz36_2, hcz36_3, hcz36_4, hcz36_5, hcz36_6, hcz36_7, hcz36_8, hcz36_9⟩, hfz36_0, hfz36_1, hfz36_2, hfz36_3, hfz36_4, hfz36_5, hfz36_6, hfz36_7, hfz36_8, hfz36_9⟩ := cz10 BK888.out
                go_wp2
                go_meet
                case rel => exact ⟨_, (false), (by first | rfl | (simp; done) | (simp [*]; done)), H', ⟨by have := HJ2.out; first | omega | exact Nat.le_refl _⟩, ⟨by (with_reducible repeat (first | refine blk_drewN ?_ _ | refine blk_drew ?_ | refine blk_alloc ?_ _)); exact BK888.out⟩, ⟨by repeat (first | (with_reducible first | exact HB.out | apply below_alloc | apply pw_below_drewN | apply below_drew1 | refine below_set ?_ GE888.out) | exact HB.out)⟩⟩
        · rw [if_neg c15] at H
          have c15b0 : (a0_1 == 1) = false := beq_eq_false_iff_ne.mpr c15
          have c15b1 : (a0_1 != 1) = true := bne_iff_ne.mpr c15
          (first | rw [c15b0] | (simp only [i64_w, i32_w]; rw [c15b0]) | skip)
          by_cases c37 : (l0_7.length : Int) > 0
          · rw [if_pos c37] at H
            have c37b0 : decide (0 < (l0_7.length : Int)) = true := decide_eq_true c37
            have c37b1 : decide (0 < l0_7.length) = true := decide_eq_true (by omega)
            clear c37
            have H' := Aside0.mk H
            clear H
            obtain ⟨⟨hcz38_0, hcz38_1, hcz38_2, hcz38_3, hcz38_4, hcz38_5, hcz38_6, hcz38_7, hcz38_8, hcz38_9⟩, hfz38_0, hfz38_1, hfz38_2, hfz38_3, hfz38_4, hfz38_5, hfz38_6, hfz38_7, hfz38_8, hfz38_9⟩ := cz10 BK888.out
            go_wp2
            go_meet
            case rel => exact ⟨_, (true), (by first | rfl | (simp; done) | (simp [*]; done)), H', ⟨by have := HJ2.out; first | omega | exact Nat.le_refl _⟩, ⟨by (with_reducible repeat (first | refine blk_drewN ?_ _ | refine blk_drew ?_ | refine blk_alloc ?_ _)); exact BK888.out⟩, ⟨by repeat (first | (with_reducible first | exact HB.out | apply below_alloc | apply pw_below_drewN | apply below_drew1 | refine below_set ?_ GE888.out) | exact HB.out)⟩⟩
          · rw [if_neg c37] at H
            have c37b0 : decide (0 < (l0_7.length : Int)) = false := decide_eq_false c37
            have c37b1 : decide (0 < l0_7.length) = false := decide_eq_false (by omega)
            clear c37
            by_cases c39 : a0_1 = 0
            · rw [if_pos c39] at H
              have c39b0 : (a0_1 == 0) = true := beq_iff_eq.mpr c39
              have c39b1 : (a0_1 != 0) = false := bne_eq_false_iff_eq.mpr c39
              clear c39
              by_cases c40 : (l0_6.length : Int) > 0
              · rw [if_pos c40] at H
                have c40b0 : decide (0 < (l0_6.length : Int)) = true := decide_eq_true c40
                have c40b1 : decide (0 < l0_6.length) = true := decide_eq_true (by omega)
                clear c40
                have H' := Aside0.mk H
                clear H
                obtain ⟨⟨hcz41_0, hcz41_1, hcz41_2, hcz41_3, hcz41_4, hcz41_5, hcz41_6, hcz41_7, hcz41_8, hcz41_9⟩, hfz41_0, hfz41_1, hfz41_2, hfz41_3, hfz41_4, hfz41_5, hfz41_6, hfz41_7, hfz41_8, hfz41_9⟩ := cz10 BK888.out
                go_wp2
                go_meet
                case rel => exact ⟨_, (true), (by first | rfl | (simp; done) | (simp [*]; done)), H', ⟨by have := HJ2.out; first | omega | exact Nat.le_refl _⟩, ⟨by (with_reducible repeat (first | refine blk_drewN ?_ _ | refine blk_drew ?_ | refine blk_alloc ?_ _)); exact BK888.out⟩, ⟨by repeat (first | (with_reducible first | exact HB.out | apply below_alloc | apply pw_below_drewN | apply below_drew1 | refine below_set ?_ GE888.out) | exact HB.out)⟩⟩
              · rw [if_neg c40] at H
                have c40b0 : decide (0 < (l0_6.length : Int)) = false := decide_eq_false c40
                have c40b1 : decide (0 < l0_6.length) = false := decide_eq_false (by omega)
                clear c40
                by_cases c42 : a0_1 ≥ 1
                · rw [if_pos c42] at H
                  have c42b0 : decide (1 ≤ a0_1) = true := decide_eq_true c42
                  clear c42
                  by_cases c43 : a0_1 ≤ 3
                  · rw [if_pos c43] at H
                    have c43b0 : decide (a0_1 ≤ 3) = true := decide_eq_true c43
                    clear c43
                    have H' := Aside0.mk H
                    clear H
                    obtain ⟨⟨hcz44_0, hcz44_1, hcz44_2, hcz44_3, hcz44_4, hcz44_5, hcz44_6, hcz44_7, hcz44_8, hcz44_9⟩, hfz44_0, hfz44_1, hfz44_2, hfz44_3, hfz44_4, hfz44_5, hfz44_6, hfz44_7, hfz44_8, hfz44_9⟩ := cz10 BK888.out
                    go_wp2
                    go_meet
                    case rel => exact ⟨_, (decide ((l0_8.length : Int) > 0)), (by first | rfl | (simp; done) | (simp [*]; done)), H', ⟨by have := HJ2.out; first | omega | exact Nat.le_refl _⟩, ⟨by (with_reducible repeat (first | refine blk_drewN ?_ _ | refine blk_drew ?_ | refine blk_alloc ?_ _)); exact BK888.out⟩, ⟨by repeat (first | (with_reducible first | exact HB.out | apply below_alloc | apply pw_below_drewN | apply below_drew1 | refine below_set ?_ GE888.out) | exact HB.out)⟩⟩
                  · rw [if_neg c43] at H
                    have c43b0 : decide (a0_1 ≤ 3) = false := decide_eq_false c43
                    clear c43
                    have H' := Aside0.mk H
                    clear H
                    obtain ⟨⟨hcz45_0, hcz45_1, hcz45_2, hcz45_3, hcz45_4, hcz45_5, hcz45_6, hcz45_7, hcz45_8, hcz45_9⟩, hfz45_0, hfz45_1, hfz45_2, hfz45_3, hfz45_4, hfz45_5, hfz45_6, hfz45_7, hfz45_8, hfz45_9⟩ := cz10 BK888.out
                    go_wp2
                    go_meet
                    case rel => exact ⟨_, (false), (by first | rfl | (simp; done) | (simp [*]; done)), H', ⟨by have := HJ2.out; first | omega | exact Nat.le_refl _⟩, ⟨by (with_reducible repeat (first | refine blk_drewN ?_ _ | refine blk_drew ?_ | refine blk_alloc ?_ _)); exact BK888.out⟩, ⟨by repeat (first | (with_reducible first | exact HB.out | apply below_alloc | apply pw_below_drewN | apply below_drew1 | refine below_set ?_ GE888.out) | exact HB.out)⟩⟩
                · rw [if_neg c42] at H
                  have c42b0 : decide (1 ≤ a0_1) = false := decide_eq_false c42
                  clear c42
                  have H' := Aside0.mk H
                  clear H
                  obtain ⟨⟨hcz46_0, hcz46_1, hcz46_2, hcz46_3, hcz46_4, hcz46_5, hcz46_6, hcz46_7, hcz46_8, hcz46_9⟩, hfz46_0, hfz46_1, hfz46_2, hfz46_3, hfz46_4, hfz46_5, hfz46_6, hfz46_7, hfz46_8, hfz46_9⟩ := cz10 BK888.out
                  go_wp2
                  go_meet
                  case rel => exact ⟨_, (false), (by first | rfl | (simp; done) | (simp [*]; done)), H', ⟨by have := HJ2.out; first | omega | exact Nat.le_refl _⟩, ⟨by (with_reducible repeat (first | refine blk_drewN ?_ _ | refine blk_drew ?_ | refine blk_alloc ?_ _)); exact BK888.out⟩, ⟨by repeat (first | (with_reducible first | exact HB.out | apply below_alloc | apply pw_below_drewN | apply below_drew1 | refine below_set ?_ GE888.out) | exact HB.out)⟩⟩
            · rw [if_neg c39] at H
              have c39b0 : (a0_1 == 0) = false := beq_eq_false_iff_ne.mpr c39
              have c39b1 : (a0_1 != 0) = true := bne_iff_ne.mpr c39
              by_cases c47 : a0_1 > 3
              · rw [if_pos c47] at H
                have c47b0 : decide (3 < a0_1) = true := decide_eq_true c47
                clear c47
                by_cases c48 : (l0_6.length : Int) > 0
                · rw [if_pos c48] at H
                  have c48b0 : decide (0 < (l0_6.length : Int)) = true := decide_eq_true c48
                  have c48b1 : decide (0 < l0_6.length) = true := decide_eq_true (by omega)
                  clear c48
                  have H' := Aside0.mk H
                  clear H
                  obtain ⟨⟨hcz49_0, hcz49_1, hcz49_2, hcz49_3, hcz49_4, hcz49_5, hcz49_6, hcz49_7, hcz49_8, hcz49_9⟩, hfz49_0, hfz49_1, hfz49_2, hfz49_3, hfz49_4, hfz49_5, hfz49_6, hfz49_7, hfz49_8, hfz49_9⟩ := cz10 BK888.out
                  go_wp2
                  go_meet
                  case rel => exact ⟨_, (true), (by first | rfl | (simp; done) | (simp [*]; done)), H', ⟨by have := HJ2.out; first | omega | exact Nat.le_refl _⟩, ⟨by (with_reducible repeat (first | refine blk_drewN ?_ _ | refine blk_drew ?_ | refine blk_alloc ?_ _)); exact BK888.out⟩, ⟨by repeat (first | (with_reducible first | exact HB.out | apply below_alloc | apply pw_below_drewN | apply below_drew1 | refine below_set ?_ GE888.out) | exact HB.out)⟩⟩
                · rw [if_neg c48] at H
                  have c48b0 : decide (0 < (l0_6.length : Int)) = false := decide_eq_false c48
                  have c48b1 : decide (0 < l0_6.length) = false := decide_eq_false (by omega)
                  clear c48
                  by_cases c50 : a0_1 ≥ 1
                  · rw [if_pos c50] at H
                    have c50b0 : decide (1 ≤ a0_1) = true := decide_eq_true c50
                    clear c50
                    by_cases c51 : a0_1 ≤ 3
                    · rw [if_pos c51] at H
                      have c51b0 : decide (a0_1 ≤ 3) = true := decide_eq_true c51
                      clear c51
                      have H' := Aside0.mk H
                      clear H
                      obtain ⟨⟨hcz52_0, hcz52_1, hcz52_2, hcz52_3, hcz52_4, hcz52_5, hcz52_6, hcz52_7, hcz52_8, hcz52_9⟩, hfz52_0, hfz52_1, hfz52_2, hfz52_3, hfz52_4, hfz52_5, hfz52_6, hfz52_7, hfz52_8, hfz52_9⟩ := cz10 BK888.out
                      go_wp2
                      go_meet
                      case rel => exact ⟨_, (decide ((l0_8.length : Int) > 0)), (by first | rfl | (simp; done) | (simp [*]; done)), H', ⟨by have := HJ2.out; first | omega | exact Nat.le_refl _⟩, ⟨by (with_reducible repeat (first | refine blk_drewN ?_ _ | refine blk_drew ?_ | refine blk_alloc ?_ _)); exact BK888.out⟩, ⟨by repeat (first | (with_reducible first | exact HB.out | apply below_alloc | apply pw_below_drewN | apply below_drew1 | refine below_set ?_ GE888.out) | exact HB.out)⟩⟩
                    · rw [if_neg c51] at H
                      have c51b0 : decide (a0_1 ≤ 3) = false := decide_eq_false c51
                      clear c51
                      have H' := Aside0.mk H
                      clear H
                      obtain ⟨⟨hcz53_0, hcz53_1, hcz53_2, hcz53_3, hcz53_4, hcz53_5, hcz53_6, hcz53_7, hcz53_8, hcz53_9⟩, hfz53_0, hfz53_1, hfz53_2, hfz53_3, hfz53_4, hfz53_5, hfz53_6, hfz53_7, hfz53_8, hfz53_9⟩ := cz10 BK888.out
                      go_wp2
                      go_meet
                      case rel => exact ⟨_, (false), (by first | rfl | (simp; done) | (simp [*]; done)), H', ⟨by have := HJ2.out; first | omega | exact Nat.le_refl _⟩, ⟨by (with_reducible repeat (first | refine blk_drewN ?_ _ | refine blk_drew ?_ | refine blk_alloc ?_ _)); exact BK888.out⟩, ⟨by repeat (first | (with_reducible first | exact HB.out | apply below_alloc | apply pw_below_drewN | apply below_drew1 | refine below_set ?_ GE888.out) | exact HB.out)⟩⟩
                  · rw [if_neg c50] at H
                    have c50b0 : decide (1 ≤ a0_1) = false := decide_eq_false c50
                    clear c50
                    have H' := Aside0.mk H
                    clear H
                    obtain ⟨⟨hcz54_0, hcz54_1, hcz54_2, hcz54_3, hcz54_4, hcz54_5, hcz54_6, hcz54_7, hcz54_8, hcz54_9⟩, hfz54_0, hfz54_1, hfz54_2, hfz54_3, hfz54_4, hfz54_5, hfz54_6, hfz54_7, hfz54_8, hfz54_9⟩ := cz10 BK888.out
                    go_wp2
                    go_meet
                    case rel => exact ⟨_, (false), (by first | rfl | (simp; done) | (simp [*]; done)), H', ⟨by have := HJ2.out; first | omega | exact Nat.le_refl _⟩, ⟨by (with_reducible repeat (first | refine blk_drewN ?_ _ | refine blk_drew ?_ | refine blk_alloc ?_ _)); exact BK888.out⟩, ⟨by repeat (first | (with_reducible first | exact HB.out | apply below_alloc | apply pw_below_drewN | apply below_drew1 | refine below_set ?_ GE888.out) | exact HB.out)⟩⟩
              · rw [if_neg c47] at H
                have c47b0 : decide (3 < a0_1) = false := decide_eq_false c47
                clear c47
                by_cases c55 : a0_1 ≥ 1
                · rw [if_pos c55] at H
                  have c55b0 : decide (1 ≤ a0_1) = true := decide_eq_true c55
                  clear c55
                  by_cases c56 : a0_1 ≤ 3
                  · rw [if_pos c56] at H
                    have c56b0 : decide (a0_1 ≤ 3) = true := decide_eq_true c56
                    clear c56
                    have H' := Aside0.mk H
                    clear H
                    obtain ⟨⟨hcz57_0, hcz57_1, hcz57_2, hcz57_3, hcz57_4, hcz57_5, hcz57_6, hcz57_7, hcz57_8, hcz57_9⟩, hfz57_0, hfz57_1, hfz57_2, hfz57_3, hfz57_4, hfz57_5, hfz57_6, hfz57_7, hfz57_8, hfz57_9⟩ := cz10 BK888.out
                    go_wp2
                    go_meet
                    case rel => exact ⟨_, (decide ((l0_8.length : Int) > 0)), (by first | rfl | (simp; done) | (simp [*]; done)), H', ⟨by have := HJ2.out; first | omega | exact Nat.le_refl _⟩, ⟨by (with_reducible repeat (first | refine blk_drewN ?_ _ | refine blk_drew ?_ | refine blk_alloc ?_ _)); exact BK888.out⟩, ⟨by repeat (first | (with_reducible first | exact HB.out | apply below_alloc | apply pw_below_drewN | apply below_drew1 | refine below_set ?_ GE888.out) | exact HB.out)⟩⟩
                  · rw [if_neg c56] at H
                    have c56b0 : decide (a0_1 ≤ 3) = false := decide_eq_false c56
                    clear c56
                    have H' := Aside0.mk H
                    clear H
                    obtain ⟨⟨hcz58_0, hcz58_1, hcz58_2, hcz58_3, hcz58_4, hcz58_5, hcz58_6, hcz58_7, hcz58_8, hcz58_9⟩, hfz58_0, hfz58_1, hfz58_2, hfz58_3, hfz58_4, hfz58_5, hfz58_6, hfz58_7, hfz58_8, hfz58_9⟩ := cz10 BK888.out
                    go_wp2
                    go_meet
                    case rel => exact ⟨_, (false), (by first | rfl | (simp; done) | (simp [*]; done)), H', ⟨by have := HJ2.out; first | omega | exact Nat.le_refl _⟩, ⟨by (with_reducible repeat (first | refine blk_drewN ?_ _ | refine blk_drew ?_ | refine blk_alloc ?_ _)); exact BK888.out⟩, ⟨by repeat (first | (with_reducible first | exact HB.out | apply below_alloc | apply pw_below_drewN | apply below_drew1 | refine below_set ?_ GE888.out) | exact HB.out)⟩⟩
                · rw [if_neg c55] at H
                  have c55b0 : decide (1 ≤ a0_1) = false := decide_eq_false c55
                  clear c55
                  have H' := Aside0.mk H
                  clear H
                  obtain ⟨⟨hcz59_0, hcz59_1, hcz59_2, hcz59_3, hcz59_4, hcz59_5, hcz59_6, hcz59_7, hcz59_8, hcz59_9⟩, hfz59_0, hfz59_1, hfz59_2, hfz59_3, hfz59_4, hfz59_5, hfz59_6, hfz59_7, hfz59_8, hfz59_9⟩ := cz10 BK888.out
                  go_wp2
                  go_meet
                  case rel => exact ⟨_, (false), (by first | rfl | (simp; done) | (simp [*]; done)), H', ⟨by have := HJ2.out; first | omega | exact Nat.le_refl _⟩, ⟨by (with_reducible repeat (first | refine blk_drewN ?_ _ | refine blk_drew ?_ | refine blk_alloc ?_ _)); exact BK888.out⟩, ⟨by repeat (first | (with_reducible first | exact HB.out | apply below_alloc | apply pw_below_drewN | apply below_drew1 | refine below_set ?_ GE888.out) | exact HB.out)⟩⟩
       case rest =>
        clear HC14
        try clear c1
        try clear c2
        try clear p2
        try clear c3
        try clear c4
        try clear c5
        try clear c15
        try clear c15b0
        try clear c15b1
        try clear c24
        try clear c24b0
        try clear c25
        try clear c25b0
        try clear c25b1
        try clear c27
        try clear c27b0
        try clear c28
        try clear c28b0
        try clear c32
        try clear c32b0
        try clear c33
        try clear c33b0
        try clear c37
        try clear c37b0
        try clear c37b1
        try clear c39
        try clear c39b0
        try clear c39b1
        try clear c40
        try clear c40b0
        try clear c40b1
        try clear c42
        try clear c42b0
        try clear c43
        try clear c43b0
        try clear c47
        try clear c47b0
        try clear c48
        try clear c48b0
        try clear c48b1
        try clear c50
        try clear c50b0
        try clear c51
        try clear c51b0
        try clear c55
        try clear c55b0
        try clear c56
        try clear c56b0
        try clear hcz26_0 hcz26_1 hcz26_2 hcz26_3 hcz26_4 hcz26_5 hcz26_6 hcz26_7 hcz26_8 hcz26_9 hfz26_0 hfz26_1 hfz26_2 hfz26_3 hfz26_4 hfz26_5 hfz26_6 hfz26_7 hfz26_8 hfz26_9
        try clear hcz29_0 hcz29_1 hcz29_2 hcz29_3 hcz29_4 hcz29_5 hcz29_6 hcz29_7 hcz29_8 hcz29_9 hfz29_0 hfz29_1 hfz29_2 hfz29_3 hfz29_4 hfz29_5 hfz29_6 hfz29_7 hfz29_8 hfz29_9
        try clear hcz30_0 hcz30_1 hcz30_2 hcz30_3 hcz30_4 hcz30_5 hcz30_6 hcz30_7 hcz30_8 hcz30_9 hfz30_0 hfz30_1 hfz30_2 hfz30_3 hfz30_4 hfz30_5 hfz30_6 hfz30_7 hfz30_8 hfz30_9
        try clear hcz31_0 hcz31_1 hcz31_2 hcz31_3 hcz31_4 hcz31_5 hcz31_6 hcz31_7 hcz31_8 hcz31_9 hfz31_0 hfz31_1 hfz31_2 hfz31_3 hfz31_4 hfz31_5 hfz31_6 hfz31_7 hfz31_8 hfz31_9
        try clear hcz34_0 hcz34_1 hcz34_2 hcz34_3 hcz34_4 hcz34_5 hcz34_6 hcz34_7 hcz34_8 hcz34_9 hfz34_0 hfz34_1 hfz34_2 hfz34_3 hfz34_4 hfz34_5 hfz34_6 hfz34_7 hfz34_8 hfz34_9
        try clear hcz35_0 hcz35_1 hcz35_2 hcz35_3 hcz35_4 hcz35_5 hcz35_6 hcz35_7 hcz35_8 hcz35_9 hfz35_0 hfz35_1 hfz35_2 hfz35_3 hfz35_4 hfz35_5 hfz35_6 hfz35_7 hfz35_8 hfz35_9
        try clear hcz36_0 hcz36_1 hcz36_2 hcz36_3 hcz36_4 hcz36_5 hcz36_6 hcz36_7 hcz36_8 hcz36_9 hfz36_0 hfz36_1 hfz36_2 hfz36_3 hfz36_4 hfz36_5 hfz36_6 hfz36_7 hfz36_8 hfz36_9
        try clear hcz38_0 hcz38_1 hcz38_2 hcz38_3 hcz38_4 hcz38_5 hcz38_6 hcz38_7 hcz38_8 hcz38_9 hfz38_0 hfz38_1 hfz38_2 hfz38_3 hfz38_4 hfz38_5 hfz38_6 hfz38_7 hfz38_8 hfz38_9
        try clear hcz41_0 hcz41_1 hcz41_2 hcz41_3 hcz41_4 hcz41_5 hcz41_6 hcz41_7 hcz41_8 hcz41_9 hfz41_0 hfz41_1 hfz41_2 hfz41_3 hfz41_4 hfz41_5 hfz41_6 hfz41_7 hfz41_8 hfz41_9
        try clear hcz44_0 hcz44_1 hcz44_2 hcz44_3 hcz44_4 hcz44_5 hcz44_6 hcz44_7 hcz44_8 hcz44_9 hfz44_0 hfz44_1 hfz44_2 hfz44_3 hfz44_4 hfz44_5 hfz44_6 hfz44_7 hfz44_8 hfz44_9
        try clear hcz45_0 hcz45_1 hcz45_2 hcz45_3 hcz45_4 hcz45_5 hcz45_6 hcz45_7 hcz45_8 hcz45_9 hfz45_0 hfz45_1 hfz45_2 hfz45_3 hfz45_4 hfz45_5 hfz45_6 hfz45_7 hfz45_8 hfz45_9
        try clear hcz46_0 hcz46_1 hcz46_2 hcz46_3 hcz46_4 hcz46_5 hcz46_6 hcz46_7 hcz46_8 hcz46_9 hfz46_0 hfz46_1 hfz46_2 hfz46_3 hfz46_4 hfz46_5 hfz46_6 hfz46_7 hfz46_8 hfz46_9
        try clear hcz49_0 hcz49_1 hcz49_2 hcz49_3 hcz49_4 hcz49_5 hcz49_6 hcz49_7 hcz49_8 hcz49_9 hfz49_0 hfz49_1 hfz49_2 hfz49_3 hfz49_4 hfz49_5 hfz49_6 hfz49_7 hfz49_8 hfz49_9
        try clear hcz52_0 hcz52_1 hcz52_2 hcz52_3 hcz52_4 hcz52_5 hcz52_6 hcz52_7 hcz52_8 hcz52_9 hfz52_0 hfz52_1 hfz52_2 hfz52_3 hfz52_4 hfz52_5 hfz52_6 hfz52_7 hfz52_8 hfz52_9
        try clear hcz53_0 hcz53_1 hcz53_2 hcz53_3 hcz53_4 hcz53_5 hcz53_6 hcz53_7 hcz53_8 hcz53_9 hfz53_0 hfz53_1 hfz53_2 hfz53_3 hfz53_4 hfz53_5 hfz53_6 hfz53_7 hfz53_8 hfz53_9
        try clear hcz54_0 hcz54_1 hcz54_2 hcz54_3 hcz54_4 hcz54_5 hcz54_6 hcz54_7 hcz54_8 hcz54_9 hfz54_0 hfz54_1 hfz54_2 hfz54_3 hfz54_4 hfz54_5 hfz54_6 hfz54_7 hfz54_8 hfz54_9
        try clear hcz57_0 hcz57_1 hcz57_2 hcz57_3 hcz57_4 hcz57_5 hcz57_6 hcz57_7 hcz57_8 hcz57_9 hfz57_0 hfz57_1 hfz57_2 hfz57_3 hfz57_4 hfz57_5 hfz57_6 hfz57_7 hfz57_8 hfz57_9
        try clear hcz58_0 hcz58_1 hcz58_2 hcz58_3 hcz58_4 hcz58_5 hcz58_6 hcz58_7 hcz58_8 hcz58_9 hfz58_0 hfz58_1 hfz58_2 hfz58_3 hfz58_4 hfz58_5 hfz58_6 hfz58_7 hfz58_8 hfz58_9
        try clear hcz59_0 hcz59_1 hcz59_2 hcz59_3 hcz59_4 hcz59_5 hcz59_6 hcz59_7 hcz59_8 hcz59_9 hfz59_0 hfz59_1 hfz59_2 hfz59_3 hfz59_4 hfz59_5 hfz59_6 hfz59_7 hfz59_8 hfz59_9
        obtain ⟨kq, x68_13, rfl, HA, HJ13, BK888, HB⟩ := hcut
        cases kq with
        | zero => exact absurd HA.out (by simp [marlineref17_Put.j1])
        | succ kj13 =>
         have H := HA.out
         clear HA
         simp only [marlineref17_Put.j1] at H
         by_cases c60 : x68_13 = true
         · subst c60
           have H1 : (some (([] : List Int), 9)) = some (r1, r2) := by rw [if_pos rfl] at H; exact H
           clear H
           have H := H1
           clear H1
           simp only [Option.some.injEq, Prod.mk.injEq] at H
           obtain ⟨rfl, rfl⟩ := H
           go_wp2
           go_ret2
           exact ⟨_, by first | rfl | (simp [errW_none, errW_some] <;> rfl) | (simp [*, errW_none, errW_some] <;> rfl), by first | exact Kd.R_nil _ _ _ _ _ | exact Kd.N_nil _ _ _ _ _ | exact Kd.V_nil _ _ _ _ _ | exact Kd.Q_nil _ _ _ _ _ | exact Kd.S_nil _ _ _ _ _, by repeat (first | (with_reducible first | exact HB.out | apply below_alloc | apply pw_below_drewN | apply below_drew1 | refine below_set ?_ GE888.out) | exact HB.out)⟩
         · replace c60 := Bool.eq_false_iff.mpr c60
           subst c60
           have H1 : (if (l0_6.length : Int) > 255 then (marlineref17_Put.j2 kj13 true a0_0 a0_1 a0_2 l0_3 a0_4 a0_5 l0_6 l0_7 l0_8 l0_9) else (marlineref17_Put.j2 kj13 (decide ((l0_7.length : Int) > 255)) a0_0 a0_1 a0_2 l0_3 a0_4 a0_5 l0_6 l0_7 l0_8 l0_9)) = some (r1, r2) := by rw [if_neg (show ¬ (false = true) by decide)] at H; exact H
           clear H
           have H := H1
           clear H1
           have HC61 := Aside0.mk H
           clear H
           go_upto_region 7 with (fail)
           go_cut [78] (fun v78 wc => ∃ (kq : Nat) (x78_60 : Bool), v78 = .bool x78_60 ∧ Aside0 (marlineref17_Put.j2 kq x78_60 a0_0 a0_1 a0_2 l0_3 a0_4 a0_5 l0_6 l0_7 l0_8 l0_9 = some (r1, r2)) ∧ Aside0 (kq ≤ kj13) ∧ Aside0 (wc.heap[gb888]? = some (.cells #[.int .u16 a0_0, .int .u8 a0_1, .int .u8 a0_2, (.slice A0_3 l0_3.length c0_3), .int .u16 a0_4, .int .u32 a0_5, (.slice A0_6 l0_6.length c0_6), (.slice A0_7 l0_7.length c0_7), (.slice A0_8 l0_8.length c0_8), (.slice A0_9 l0_9.length c0_9)] 44 (0, 0))) ∧ Aside0 (Below w.heap.size w wc))
           case first =>
            have H := HC61.out
            clear HC61
            by_cases c62 : (l0_6.length : Int) > 255
            · rw [if_pos c62] at H
              have c62b0 : decide (255 < (l0_6.length : Int)) = true := decide_eq_true c62
              have c62b1 : decide (255 < l0_6.length) = true := decide_eq_true (by omega)
              clear c62
              (first | rw [c62b0] | (simp only [i64_w, i32_w]; rw [c62b0]) | skip)
              have H' := Aside0.mk H
              clear H
              obtain ⟨⟨hcz63_0, hcz63_1, hcz63_2, hcz63_3, hcz63_4, hcz63_5, hcz63_6, hcz63_7, hcz63_8, hcz63_9⟩, hfz63_0, hfz63_1, hfz63_2, hfz63_3, hfz63_4, hfz63_5, hfz63_6, hfz63_7, hfz63_8, hfz63_9⟩ := cz10 BK888.out
              go_wp2
              go_meet
              case rel => exact ⟨_, (true), (by first | rfl | (simp; done) | (simp [*]; done)), H', ⟨by have := HJ2.out; have := HJ13.out; first | omega | exact Nat.le_refl _⟩, ⟨by (with_reducible repeat (first | refine blk_drewN ?_ _ | refine blk_drew ?_ | refine blk_alloc ?_ _)); exact BK888.out⟩, ⟨by repeat (first | (with_reducible first | exact HB.out | apply below_alloc | apply pw_below_drewN | apply below_drew1 | refine below_set ?_ GE888.out) | exact HB.out)⟩⟩
            · rw [if_neg c62] at H
              have c62b0 : decide (255 < (l0_6.length : Int)) = false := decide_eq_false c62
              have c62b1 : decide (255 < l0_6.length) = false := decide_eq_false (by omega)
              clear c62
              (first | rw [c62b0] | (simp only [i64_w, i32_w]; rw [c62b0]) | skip)
              have H' := Aside0.mk H
              clear H
              obtain ⟨⟨hcz64_0, hcz64_1, hcz64_2, hcz64_3, hcz64_4, hcz64_5, hcz64_6, hcz64_7, hcz64_8, hcz64_9⟩, hfz64_0, hfz64_1, hfz64_2, hfz64_3, hfz64_4, hfz64_5, hfz64_6, hfz64_7, hfz64_8, hfz64_9⟩ := cz10 BK888.out
              go_wp2
              go_meet
              case rel => exact ⟨_, (decide ((l0_7.length : Int) > 255)), (by first | rfl | (simp; done) | (simp [*]; done)), H', ⟨by have := HJ2.out; have := HJ13.out; first | omega | exact Nat.le_refl _⟩, ⟨by (with_reducible repeat (first | refine blk_drewN ?_ _ | refine blk_drew ?_ | refine blk_alloc ?_ _)); exact BK888.out⟩, ⟨by repeat (first | (with_reducible first | exact HB.out | apply below_alloc | apply pw_below_drewN | apply below_drew1 | refine below_set ?_ GE888.out) | exact HB.out)⟩⟩
           case rest =>
            clear HC61
            try clear c1
            try clear c2
            try clear p2
            try clear c3
            try clear c4
            try clear c5
            try clear c6
            try clear c15
            try clear c15b0
            try clear c15b1
            try clear c24
            try clear c24b0
            try clear c25
            try clear c25b0
            try clear c25b1
            try clear c27
            try clear c27b0
            try clear c28
            try clear c28b0
            try clear c32
            try clear c32b0
            try clear c33
            try clear c33b0
            try clear c37
            try clear c37b0
            try clear c37b1
            try clear c39
            try clear c39b0
            try clear c39b1
            try clear c40
            try clear c40b0
            try clear c40b1
            try clear c42
            try clear c42b0
            try clear c43
            try clear c43b0
            try clear c47
            try clear c47b0
            try clear c48
            try clear c48b0
            try clear c48b1
            try clear c50
            try clear c50b0
            try clear c51
            try clear c51b0
            try clear c55
            try clear c55b0
            try clear c56
            try clear c56b0
            try clear c60
            try clear c62
            try clear c62b0
            try clear c62b1
            try clear hcz26_0 hcz26_1 hcz26_2 hcz26_3 hcz26_4 hcz26_5 hcz26_6 hcz26_7 hcz26_8 hcz26_9 hfz26_0 hfz26_1 hfz26_2 hfz26_3 hfz26_4 hfz26_5 hfz26_6 hfz26_7 hfz26_8 hfz26_9
            try clear hcz29_0 hcz29_1 hcz29_2 hcz29_3 hcz29_4 hcz29_5 hcz29_6 hcz29_7 hcz29_8 hcz29_9 hfz29_0 hfz29_1 hfz29_2 hfz29_3 hfz29_4 hfz29_5 hfz29_6 hfz29_7 hfz29_8 hfz29_9
            try clear hcz30_0 hcz30_1 hcz30_2 hcz30_3 hcz30_4 hcz30_5 hcz30_6 hcz30_7 hcz30_8 hcz30_9 hfz30_0 hfz30_1 hfz30_2 hfz30_3 hfz30_4 hfz30_5 hfz30_6 hfz30_7 hfz30_8 hfz30_9
            try clear hcz31_0 hcz31_1 hcz31_2 hcz31_3 hcz31_4 hcz31_5 hcz31_6 hcz31_7 hcz31_8 hcz31_9 hfz31_0 hfz31_1 hfz31_2 hfz31_3 hfz31_4 hfz31_5 hfz31_6 hfz31_7 hfz31_8 hfz31_9
            try clear hcz34_0 hcz34_1 hcz34_2 hcz34_3 hcz34_4 hcz34_5 hcz34_6 hcz34_7 hcz34_8 hcz34_9 hfz34_0 hfz34_1 hfz34_2 hfz34_3 hfz34_4 hfz34_5 hfz34_6 hfz34_7 hfz34_8 hfz34_9
            try clear hcz35_0 hcz35_1 hcz35_2 hcz35_3 hcz35_4 hcz35_5 hcz35_6 hcz35_7 hcz35_8 hcz35_9 hfz35_0 hfz35_1 hfz35_2 hfz35_3 hfz35_4 hfz35_5 hfz35_6 hfz35_7 hfz35_8 hfz35_9
            try clear hcz36_0 hcz36_1 hcz36_2 hcz36_3 hcz36_4 hcz36_5 hcz36_6 hcz36_7 hcz36_8 hcz36_9 hfz36_0 hfz36_1 hfz36_2 hfz36_3 hfz36_4 hfz36_5 hfz36_6 hfz36_7 hfz36_8 hfz36_9
            try clear hcz38_0 hcz38_1 hcz38_2 hcz38_3 hcz38_4 hcz38_5 hcz38_6 hcz38_7 hcz38_8 hcz38_9 hfz38_0 hfz38_1 hfz38_2 hfz38_3 hfz38_4 hfz38_5 hfz38_6 hfz38_7 hfz38_8 hfz38_9
            try clear hcz41_0 hcz41_1 hcz41_2 hcz41_3 hcz41_4 hcz41_5 hcz41_6 hcz41_7 hcz41_8 hcz41_9 hfz41_0 hfz41_1 hfz41_2 hfz41_3 hfz41_4 hfz41_5 hfz41_6 hfz41_7 hfz41_8 hfz41_9
            try clear hcz44_0 hcz44_1 hcz44_2 hcz44_3 hcz44_4 hcz44_5 hcz44_6 hcz44_7 hcz44_8 hcz44_9 hfz44_0 hfz44_1 hfz44_2 hfz44_3 hfz44_4 hfz44_5 hfz44_6 hfz44_7 hfz44_8 hfz44_9
            try clear hcz45_0 hcz45_1 hcz45_2 hcz45_3 hcz45_4 hcz45_5 hcz45_6 hcz45_7 hcz45_8 hcz45_9 hfz45_0 hfz45_1 hfz45_2 hfz45_3 hfz45_4 hfz45_5 hfz45_6 hfz45_7 hfz45_8 hfz45_9
            try clear hcz46_0 hcz46_1 hcz46_2 hcz46_3 hcz46_4 hcz46_5 hcz46_6 hcz46_7 hcz46_8 hcz46_9 hfz46_0 hfz46_1 hfz46_2 hfz46_3 hfz46_4 hfz46_5 hfz46_6 hfz46_7 hfz46_8 hfz46_9
            try clear hcz49_0 hcz49_1 hcz49_2 hcz49_3 hcz49_4 hcz49_5 hcz49_6 hcz49_7 hcz49_8 hcz49_9 hfz49_0 hfz49_1 hfz49_2 hfz49_3 hfz49_4 hfz49_5 hfz49_6 hfz49_7 hfz49_8 hfz49_9
            try clear hcz52_0 hcz52_1 hcz52_2 hcz52_3 hcz52_4 hcz52_5 hcz52_6 hcz52_7 hcz52_8 hcz52_9 hfz52_0 hfz52_1 hfz52_2 hfz52_3 hfz52_4 hfz52_5 hfz52_6 hfz52_7 hfz52_8 hfz52_9
            try clear hcz53_0 hcz53_1 hcz53_2 hcz53_3 hcz53_4 hcz53_5 hcz53_6 hcz53_7 hcz53_8 hcz53_9 hfz53_0 hfz53_1 hfz53_2 hfz53_3 hfz53_4 hfz53_5 hfz53_6 hfz53_7 hfz53_8 hfz53_9
            try clear hcz54_0 hcz54_1 hcz54_2 hcz54_3 hcz54_4 hcz54_5 hcz54_6 hcz54_7 hcz54_8 hcz54_9 hfz54_0 hfz54_1 hfz54_2 hfz54_3 hfz54_4 hfz54_5 hfz54_6 hfz54_7 hfz54_8 hfz54_9
            try clear hcz57_0 hcz57_1 hcz57_2 hcz57_3 hcz57_4 hcz57_5 hcz57_6 hcz57_7 hcz57_8 hcz57_9 hfz57_0 hfz57_1 hfz57_2 hfz57_3 hfz57_4 hfz57_5 hfz57_6 hfz57_7 hfz57_8 hfz57_9
            try clear hcz58_0 hcz58_1 hcz58_2 hcz58_3 hcz58_4 hcz58_5 hcz58_6 hcz58_7 hcz58_8 hcz58_9 hfz58_0 hfz58_1 hfz58_2 hfz58_3 hfz58_4 hfz58_5 hfz58_6 hfz58_7 hfz58_8 hfz58_9
            try clear hcz59_0 hcz59_1 hcz59_2 hcz59_3 hcz59_4 hcz59_5 hcz59_6 hcz59_7 hcz59_8 hcz59_9 hfz59_0 hfz59_1 hfz59_2 hfz59_3 hfz59_4 hfz59_5 hfz59_6 hfz59_7 hfz59_8 hfz59_9
            try clear hcz63_0 hcz63_1 hcz63_2 hcz63_3 hcz63_4 hcz63_5 hcz63_6 hcz63_7 hcz63_8 hcz63_9 hfz63_0 hfz63_1 hfz63_2 hfz63_3 hfz63_4 hfz63_5 hfz63_6 hfz63_7 hfz63_8 hfz63_9
            try clear hcz64_0 hcz64_1 hcz64_2 hcz64_3 hcz64_4 hcz64_5 hcz64_6 hcz64_7 hcz64_8 hcz64_9 hfz64_0 hfz64_1 hfz64_2 hfz64_3 hfz64_4 hfz64_5 hfz64_6 hfz64_7 hfz64_8 hfz64_9
            try clear p2
            obtain ⟨kq, x78_60, rfl, HA, HJ60, BK888, HB⟩ := hcut
            cases kq with
            | zero => exact absurd HA.out (by simp [marlineref17_Put.j2])
            | succ kj60 =>
             have H := HA.out
             clear HA
             simp only [marlineref17_Put.j2] at H
             by_cases c65 : x78_60 = true
             · subst c65
               have H1 : (some (([] : List Int), 3)) = some (r1, r2) := by rw [if_pos rfl] at H; exact H
               clear H
               have H := H1
               clear H1
               simp only [Option.some.injEq, Prod.mk.injEq] at H
               obtain ⟨rfl, rfl⟩ := H
               go_wp2
               go_ret2
               exact ⟨_, by first | rfl | (simp [errW_none, errW_some] <;> rfl) | (simp [*, errW_none, errW_some] <;> rfl), by first | exact Kd.R_nil _ _ _ _ _ | exact Kd.N_nil _ _ _ _ _ | exact Kd.V_nil _ _ _ _ _ | exact Kd.Q_nil _ _ _ _ _ | exact Kd.S_nil _ _ _ _ _, by repeat (first | (with_reducible first | exact HB.out | apply below_alloc | apply pw_below_drewN | apply below_drew1 | refine below_set ?_ GE888.out) | exact HB.out)⟩
             · replace c65 := Bool.eq_false_iff.mpr c65
               subst c65
               have H1 : ((some (([] : List Int) : List Int)).bind fun y889 => (if y889.length + l0_8.length < 140737488355328 then ((some (y889 ++ l0_8 : List Int)).bind fun y892 => (if a0_1 ≥ 1 then (marlineref17_Put.j3 kj60 y892 (decide (a0_1 ≤ 3)) a0_0 a0_1 a0_2 l0_3 a0_4 a0_5 l0_6 l0_7 l0_8 l0_9) else (marlineref17_Put.j3 kj60 y892 false a0_0 a0_1 a0_2 l0_3 a0_4 a0_5 l0_6 l0_7 l0_8 l0_9))) else (none))) = some (r1, r2) := by rw [if_neg (show ¬ (false = true) by decide)] at H; exact H
               clear H
               have H := H1
               clear H1
               obtain ⟨y889, hy889⟩ : ∃ y_ : List Int, y_ = (([] : List Int)) := ⟨_, rfl⟩
               replace H : (if y889.length + l0_8.length < 140737488355328 then ((some (y889 ++ l0_8 : List Int)).bind fun y892 => (if a0_1 ≥ 1 then (marlineref17_Put.j3 kj60 y892 (decide (a0_1 ≤ 3)) a0_0 a0_1 a0_2 l0_3 a0_4 a0_5 l0_6 l0_7 l0_8 l0_9) else (marlineref17_Put.j3 kj60 y892 false a0_0 a0_1 a0_2 l0_3 a0_4 a0_5 l0_6 l0_7 l0_8 l0_9))) else (none)) = some (r1, r2) := by first | (rw [hy889]; with_reducible exact H) | (have H2_ := (Option.bind_some _ _).symm.trans H; rw [hy889]; with_reducible exact H2_) | (have H2_ := (Option.bind_some _ _).symm.trans H; with_reducible exact H2_) | with_reducible exact H | (rw [hy889]; exact H) | exact H
               have Ny889 := Aside0.mk hy889
               clear hy889
               by_cases c66 : y889.length + l0_8.length < 140737488355328
               · rw [if_pos c66] at H
                 have LMc66 := Aside0.mk c66
                 clear c66
                 obtain ⟨y892, hy892⟩ : ∃ y_ : List Int, y_ = (y889 ++ l0_8) := ⟨_, rfl⟩
                 replace H : (if a0_1 ≥ 1 then (marlineref17_Put.j3 kj60 y892 (decide (a0_1 ≤ 3)) a0_0 a0_1 a0_2 l0_3 a0_4 a0_5 l0_6 l0_7 l0_8 l0_9) else (marlineref17_Put.j3 kj60 y892 false a0_0 a0_1 a0_2 l0_3 a0_4 a0_5 l0_6 l0_7 l0_8 l0_9)) = some (r1, r2) := by first | (rw [hy892]; with_reducible exact H) | (have H2_ := (Option.bind_some _ _).symm.trans H; rw [hy892]; with_reducible exact H2_) | (have H2_ := (Option.bind_some _ _).symm.trans H; with_reducible exact H2_) | with_reducible exact H | (rw [hy892]; exact H) | exact H
                 have Ny892 := Aside0.mk hy892
                 clear hy892
                 have HC67 := Aside0.mk H
                 clear H
                 go_upto_region 10 with (first | ((with_reducible refine gate_dst (N := 79) rfl ?_); (try (refine gate_guard (by rfl) ?_; dsimp only)); refine Kd.R_lit (Kd.int .u8) _ 5 ?hg (N := 79) ?hd (xs := ([] : List Int)) (inner := []) (ok := fun _ => True) (okp := fun _ => True) ?hr ?hp (fun _ hk => hk) trivial (Below.refl _ _) (Nat.le_refl _) (by simp) ?_; (case hd => rfl); (case hg => rfl); (case hr => first | (go_simp; done) | (go_simp; simp only [IntKind.wrap_u8, IntKind.wrap_u16, IntKind.wrap_u32, IntKind.wrap_u64]; done) | (go_simp; simp only [IntKind.wrap_u8, IntKind.wrap_u16, IntKind.wrap_u32, IntKind.wrap_u64, Int.tmod_eq_emod_of_nonneg (Int.natCast_nonneg _), Int.emod_emod]; done) | (go_simp; rfl)); (case hp => exact (Reps.none _ _)); intro v890 w68 ho69 hb hg_ hnew_; clear hg_ hnew_; (first | rw [← Ny889.out] at ho69 | (simp only [Int.reduceToNat] at ho69; rw [← Ny889.out] at ho69)); have n0_ := Aside0.mk (Kd.R_lower ho69 (below_size (by repeat (first | (with_reducible first | exact HB.out | apply below_alloc | apply pw_below_drewN | apply below_drew1 | refine below_set ?_ GE888.out) | exact HB.out)))); have n1_ := Aside0.mk (blk_below (g := gb888) (o := .cells #[.int .u16 a0_0, .int .u8 a0_1, .int .u8 a0_2, .slice A0_3 l0_3.length c0_3, .int .u16 a0_4, .int .u32 a0_5, .slice A0_6 l0_6.length c0_6, .slice A0_7 l0_7.length c0_7, .slice A0_8 l0_8.length c0_8, .slice A0_9 l0_9.length c0_9] 44 (0, 0)) (by (with_reducible repeat (first | refine blk_drewN ?_ _ | refine blk_drew ?_ | refine blk_alloc ?_ _)); exact BK888.out) hb); have n2_ := Aside0.mk (below_step (by repeat (first | (with_reducible first | exact HB.out | apply below_alloc | apply pw_below_drewN | apply below_drew1 | refine below_set ?_ GE888.out) | exact HB.out)) hb); clear BK888; clear HB; have HO891 := n0_; have BK888 := n1_; have HB := n2_; clear n0_ n1_ n2_; clear hb ho69; obtain ⟨⟨hcz70_0, hcz70_1, hcz70_2, hcz70_3, hcz70_4, hcz70_5, hcz70_6, hcz70_7, hcz70_8, hcz70_9⟩, hfz70_0, hfz70_1, hfz70_2, hfz70_3, hfz70_4, hfz70_5, hfz70_6, hfz70_7, hfz70_8, hfz70_9⟩ := cz10 BK888.out) | ((with_reducible refine gate_builtin (b := .append) (xs := #[.tmp 79, .tmp 81]) rfl ?_); (try (refine gate_guard (by rfl) ?_; dsimp only)); at_builtin; refine Kd.R_append_rows (Kd.int .u8) (w0 := w) w.heap.size rfl (.tmp 79) (.tmp 81) 23 5 (.int .u8 0) 1 rfl Try.underlying23 info5 rfl (by decide) (by omega) v890 y889 l0_8 _ _ _ (fun _ => True) (fun _ => False) rfl rfl ?aO ?aR (fun _ _ h => h) (fun _ h => h.elim) ?aF ?aB ?aS ?aL ?_; (case aR => repeat (first | exact (Kd.C_below HR0_8.out HB.out) | (with_reducible refine Kd.C_alloc ?_ _) | (with_reducible refine Kd.C_drewN ?_ _) | (with_reducible refine Kd.C_drew ?_))); (case aB => exact (by repeat (first | (with_reducible first | exact HB.out | apply below_alloc | apply pw_below_drewN | apply below_drew1 | refine below_set ?_ GE888.out) | exact HB.out))); (case aF => exact (fun _ _ => trivial)); (case aO => exact (by (with_reducible repeat (first | apply Kd.R_alloc | apply Kd.R_drewN | apply Kd.R_drew)); exact HO891.out)); (case aS => exact (below_size (by repeat (first | (with_reducible first | exact HB.out | apply below_alloc | apply pw_below_drewN | apply below_drew1 | refine below_set ?_ GE888.out) | exact HB.out)))); (case aL => have := LMc66.out; omega); intro v893 w71 ho hb hg hat; rw [← Ny892.out] at ho; have n0_ := Aside0.mk (blk_grown (g := gb888) (o := .cells #[.int .u16 a0_0, .int .u8 a0_1, .int .u8 a0_2, .slice A0_3 l0_3.length c0_3, .int .u16 a0_4, .int .u32 a0_5, .slice A0_6 l0_6.length c0_6, .slice A0_7 l0_7.length c0_7, .slice A0_8 l0_8.length c0_8, .slice A0_9 l0_9.length c0_9] 44 (0, 0)) (by (with_reducible repeat (first | refine blk_drewN ?_ _ | refine blk_drew ?_ | refine blk_alloc ?_ _)); exact BK888.out) hg (Kd.R_ne HO891.out BK888.out (by decide))); have n1_ := Aside0.mk (hb); have n2_ := Aside0.mk (ho); clear BK888; clear HB; clear HO891; have BK888 := n0_; have HB := n1_; have HO894 := n2_; clear n0_ n1_ n2_; clear ho hb hg hat))
                 (try simp only [Act.put, List.setIfInBounds_toArray, List.set_cons_zero, List.set_cons_succ])
                 go_cut [90] (fun v90 wc => ∃ (kq : Nat) (x90_66 : Bool), v90 = .bool x90_66 ∧ Aside0 (marlineref17_Put.j3 kq y892 x90_66 a0_0 a0_1 a0_2 l0_3 a0_4 a0_5 l0_6 l0_7 l0_8 l0_9 = some (r1, r2)) ∧ Aside0 (kq ≤ kj60) ∧ Aside0 (Kd.R (Kd.int .u8) 5 wc w.heap.size (fun _ => True) v893 y892) ∧ Aside0 (wc.heap[gb888]? = some (.cells #[.int .u16 a0_0, .int .u8 a0_1, .int .u8 a0_2, (.slice A0_3 l0_3.length c0_3), .int .u16 a0_4, .int .u32 a0_5, (.slice A0_6 l0_6.length c0_6), (.slice A0_7 l0_7.length c0_7), (.slice A0_8 l0_8.length c0_8), (.slice A0_9 l0_9.length c0_9)] 44 (0, 0))) ∧ Aside0 (Below w.heap.size w wc))
                 case first =>
                  have H := HC67.out
                  clear HC67
                  by_cases c72 : a0_1 ≥ 1
                  · rw [if_pos c72] at H
                    have c72b0 : decide (1 ≤ a0_1) = true := decide_eq_true c72
                    clear c72
                    (first | rw [c72b0] | (simp only [i64_w, i32_w]; rw [c72b0]) | skip)
                    have H' := Aside0.mk H
                    clear H
                    obtain ⟨⟨hcz73_0, hcz73_1, hcz73_2, hcz73_3, hcz73_4, hcz73_5, hcz73_6, hcz73_7, hcz73_8, hcz73_9⟩, hfz73_0, hfz73_1, hfz73_2, hfz73_3, hfz73_4, hfz73_5, hfz73_6, hfz73_7, hfz73_8, hfz73_9⟩ := cz10 BK888.out
                    go_wp2
                    go_meet
                    case rel => exact ⟨_, (decide (a0_1 ≤ 3)), (by first | rfl | (simp; done) | (simp [*]; done)), H', ⟨by have := HJ2.out; have := HJ13.out; have := HJ60.out; first | omega | exact Nat.le_refl _⟩, ⟨by (with_reducible repeat (first | apply Kd.R_alloc | apply Kd.R_drewN | apply Kd.R_drew)); exact HO894.out⟩, ⟨by (with_reducible repeat (first | refine blk_drewN ?_ _ | refine blk_drew ?_ | refine blk_alloc ?_ _)); exact BK888.out⟩, ⟨by repeat (first | (with_reducible first | exact HB.out | apply below_alloc | apply pw_below_drewN | apply below_drew1 | refine below_set ?_ GE888.out) | exact HB.out)⟩⟩
                  · rw [if_neg c72] at H
                    have c72b0 : decide (1 ≤ a0_1) = false := decide_eq_false c72
                    clear c72
                    (first | rw [c72b0] | (simp only [i64_w, i32_w]; rw [c72b0]) | skip)
                    have H' := Aside0.mk H
                    clear H
                    obtain ⟨⟨hcz74_0, hcz74_1, hcz74_2, hcz74_3, hcz74_4, hcz74_5, hcz74_6, hcz74_7, hcz74_8, hcz74_9⟩, hfz74_0, hfz74_1, hfz74_2, hfz74_3, hfz74_4, hfz74_5, hfz74_6, hfz74_7, hfz74_8, hfz74_9⟩ := cz10 BK888.out
                    go_wp2
                    go_meet
                    case rel => exact ⟨_, (false), (by first | rfl | (simp; done) | (simp [*]; done)), H', ⟨by have := HJ2.out; have := HJ13.out; have := HJ60.out; first | omega | exact Nat.le_refl _⟩, ⟨by (with_reducible repeat (first | apply Kd.R_alloc | apply Kd.R_drewN | apply Kd.R_drew)); exact HO894.out⟩, ⟨by (with_reducible repeat (first | refine blk_drewN ?_ _ | refine blk_drew ?_ | refine blk_alloc ?_ _)); exact BK888.out⟩, ⟨by repeat (first | (with_reducible first | exact HB.out | apply below_alloc | apply pw_below_drewN | apply below_drew1 | refine below_set ?_ GE888.out) | exact HB.out)⟩⟩
                 case rest =>
                  clear HC67
                  try clear c1
                  try clear c2
                  try clear p2
                  try clear c3
                  try clear c4
                  try clear c5
                  try clear c6
                  try clear c7
                  try clear c15
                  try clear c15b0
                  try clear c15b1
                  try clear c24
                  try clear c24b0
                  try clear c25
                  try clear c25b0
                  try clear c25b1
                  try clear c27
                  try clear c27b0
                  try clear c28
                  try clear c28b0
                  try clear c32
                  try clear c32b0
                  try clear c33
                  try clear c33b0
                  try clear c37
                  try clear c37b0
                  try clear c37b1
                  try clear c39
                  try clear c39b0
                  try clear c39b1
                  try clear c40
                  try clear c40b0
                  try clear c40b1
                  try clear c42
                  try clear c42b0
                  try clear c43
                  try clear c43b0
                  try clear c47
                  try clear c47b0
                  try clear c48
                  try clear c48b0
                  try clear c48b1
                  try clear c50
                  try clear c50b0
                  try clear c51
                  try clear c51b0
                  try clear c55
                  try clear c55b0
                  try clear c56
                  try clear c56b0
                  try clear c60
                  try clear c62
                  try clear c62b0
                  try clear c62b1
                  try clear c65
                  try clear c66
                  try clear c72
                  try clear c72b0
                  try clear hcz26_0 hcz26_1 hcz26_2 hcz26_3 hcz26_4 hcz26_5 hcz26_6 hcz26_7 hcz26_8 hcz26_9 hfz26_0 hfz26_1 hfz26_2 hfz26_3 hfz26_4 hfz26_5 hfz26_6 hfz26_7 hfz26_8 hfz26_9
                  try clear hcz29_0 hcz29_1 hcz29_2 hcz29_3 hcz29_4 hcz29_5 hcz29_6 hcz29_7 hcz29_8 hcz29_9 hfz29_0 hfz29_1 hfz29_2 hfz29_3 hfz29_4 hfz29_5 hfz29_6 hfz29_7 hfz29_8 hfz29_9
                  try clear hcz30_0 hcz30_1 hcz30_2 hcz30_3 hcz30_4 hcz30_5 hcz30_6 hcz30_7 hcz30_8 hcz30_9 hfz30_0 hfz30_1 hfz30_2 hfz30_3 hfz30_4 hfz30_5 hfz30_6 hfz30_7 hfz30_8 hfz30_9
                  try clear hcz31_0 hcz31_1 hcz31_2 hcz31_3 hcz31_4 hcz31_5 hcz31_6 hcz31_7 hcz31_8 hcz31_9 hfz31_0 hfz31_1 hfz31_2 hfz31_3 hfz31_4 hfz31_5 hfz31_6 hfz31_7 hfz31_8 hfz31_9
                  try clear hcz34_0 hcz34_1 hcz34_2 hcz34_3 hcz34_4 hcz34_5 hcz34_6 hcz34_7 hcz34_8 hcz34_9 hfz34_0 hfz34_1 hfz34_2 hfz34_3 hfz34_4 hfz34_5 hfz34_6 hfz34_7 hfz34_8 hfz34_9
                  try clear hcz35_0 hcz35_1 hcz35_2 hcz35_3 hcz35_4 hcz35_5 hcz35_6 hcz35_7 hcz35_8 hcz35_9 hfz35_0 hfz35_1 hfz35_2 hfz35_3 hfz35_4 hfz35_5 hfz35_6 hfz35_7 hfz35_8 hfz35_9
                  try clear hcz36_0 hcz36_1 hcz36_2 hcz36_3 hcz36_4 hcz36_5 hcz36_6 hcz36_7 hcz36_8 hcz36_9 hfz36_0 hfz36_1 hfz36_2 hfz36_3 hfz36_4 hfz36_5 hfz36_6 hfz36_7 hfz36_8 hfz36_9
                  try clear hcz38_0 hcz38_1 hcz38_2 hcz38_3 hcz38_4 hcz38_5 hcz38_6 hcz38_7 hcz38_8 hcz38_9 hfz38_0 hfz38_1 hfz38_2 hfz38_3 hfz38_4 hfz38_5 hfz38_6 hfz38_7 hfz38_8 hfz38_9
                  try clear hcz41_0 hcz41_1 hcz41_2 hcz41_3 hcz41_4 hcz41_5 hcz41_6 hcz41_7 hcz41_8 hcz41_9 hfz41_0 hfz41_1 hfz41_2 hfz41_3 hfz41_4 hfz41_5 hfz41_6 hfz41_7 hfz41_8 hfz41_9
                  try clear hcz44_0 hcz44_1 hcz44_2 hcz44_3 hcz44_4 hcz44_5 hcz44_6 hcz44_7 hcz44_8 hcz44_9 hfz44_0 hfz44_1 hfz44_2 hfz44_3 hfz44_4 hfz44_5 hfz44_6 hfz44_7 hfz44_8 hfz44_9
                  try clear hcz45_0 hcz45_1 hcz45_2 hcz45_3 hcz45_4 hcz45_5 hcz45_6 hcz45_7 hcz45_8 hcz45_9 hfz45_0 hfz45_1 hfz45_2 hfz45_3 hfz45_4 hfz45_5 hfz45_6 hfz45_7 hfz45_8 hfz45_9
                  try clear hcz46_0 hcz46_1 hcz46_2 hcz46_3 hcz46_4 hcz46_5 hcz46_6 hcz46_7 hcz46_8 hcz46_9 hfz46_0 hfz46_1 hfz46_2 hfz46_3 hfz46_4 hfz46_5 hfz46_6 hfz46_7 hfz46_8 hfz46_9
                  try clear hcz49_0 hcz49_1 hcz49_2 hcz49_3 hcz49_4 hcz49_5 hcz49_6 hcz49_7 hcz49_8 hcz49_9 hfz49_0 hfz49_1 hfz49_2 hfz49_3 hfz49_4 hfz49_5 hfz49_6 hfz49_7 hfz49_8 hfz49_9
                  try clear hcz52_0 hcz52_1 hcz52_2 hcz52_3 hcz52_4 hcz52_5 hcz52_6 hcz52_7 hcz52_8 hcz52_9 hfz52_0 hfz52_1 hfz52_2 hfz52_3 hfz52_4 hfz52_5 hfz52_6 hfz52_7 hfz52_8 hfz52_9
                  try clear hcz53_0 hcz53_1 hcz53_2 hcz53_3 hcz53_4 hcz53_5 hcz53_6 hcz53_7 hcz53_8 hcz53_9 hfz53_0 hfz53_1 hfz53_2 hfz53_3 hfz53_4 hfz53_5 hfz53_6 hfz53_7 hfz53_8 hfz53_9
                  try clear hcz54_0 hcz54_1 hcz54_2 hcz54_3 hcz54_4 hcz54_5 hcz54_6 hcz54_7 hcz54_8 hcz54_9 hfz54_0 hfz54_1 hfz54_2 hfz54_3 hfz54_4 hfz54_5 hfz54_6 hfz54_7 hfz54_8 hfz54_9
                  try clear hcz57_0 hcz57_1 hcz57_2 hcz57_3 hcz57_4 hcz57_5 hcz57_6 hcz57_7 hcz57_8 hcz57_9 hfz57_0 hfz57_1 hfz57_2 hfz57_3 hfz57_4 hfz57_5 hfz57_6 hfz57_7 hfz57_8 hfz57_9
                  try clear hcz58_0 hcz58_1 hcz58_2 hcz58_3 hcz58_4 hcz58_5 hcz58_6 hcz58_7 hcz58_8 hcz58_9 hfz58_0 hfz58_1 hfz58_2 hfz58_3 hfz58_4 hfz58_5 hfz58_6 hfz58_7 hfz58_8 hfz58_9
                  try clear hcz59_0 hcz59_1 hcz59_2 hcz59_3 hcz59_4 hcz59_5 hcz59_6 hcz59_7 hcz59_8 hcz59_9 hfz59_0 hfz59_1 hfz59_2 hfz59_3 hfz59_4 hfz59_5 hfz59_6 hfz59_7 hfz59_8 hfz59_9
                  try clear hcz63_0 hcz63_1 hcz63_2 hcz63_3 hcz63_4 hcz63_5 hcz63_6 hcz63_7 hcz63_8 hcz63_9 hfz63_0 hfz63_1 hfz63_2 hfz63_3 hfz63_4 hfz63_5 hfz63_6 hfz63_7 hfz63_8 hfz63_9
                  try clear hcz64_0 hcz64_1 hcz64_2 hcz64_3 hcz64_4 hcz64_5 hcz64_6 hcz64_7 hcz64_8 hcz64_9 hfz64_0 hfz64_1 hfz64_2 hfz64_3 hfz64_4 hfz64_5 hfz64_6 hfz64_7 hfz64_8 hfz64_9
                  try clear hcz70_0 hcz70_1 hcz70_2 hcz70_3 hcz70_4 hcz70_5 hcz70_6 hcz70_7 hcz70_8 hcz70_9 hfz70_0 hfz70_1 hfz70_2 hfz70_3 hfz70_4 hfz70_5 hfz70_6 hfz70_7 hfz70_8 hfz70_9
                  try clear hcz73_0 hcz73_1 hcz73_2 hcz73_3 hcz73_4 hcz73_5 hcz73_6 hcz73_7 hcz73_8 hcz73_9 hfz73_0 hfz73_1 hfz73_2 hfz73_3 hfz73_4 hfz73_5 hfz73_6 hfz73_7 hfz73_8 hfz73_9
                  try clear hcz74_0 hcz74_1 hcz74_2 hcz74_3 hcz74_4 hcz74_5 hcz74_6 hcz74_7 hcz74_8 hcz74_9 hfz74_0 hfz74_1 hfz74_2 hfz74_3 hfz74_4 hfz74_5 hfz74_6 hfz74_7 hfz74_8 hfz74_9
                  try clear p2
                  obtain ⟨kq, x90_66, rfl, HA, HJ66, HO_4, BK888, HB⟩ := hcut
                  cases kq with
                  | zero => exact absurd HA.out (by simp [marlineref17_Put.j3])
                  | succ kj66 =>
                   have H := HA.out
                   clear HA
                   simp only [marlineref17_Put.j3] at H
                   have HC75 := Aside0.mk H
                   clear H
                   go_upto_if 90 with (fail)
                   go_cut [4] (fun v4 wc => ∃ (kq : Nat) (x4_74 : List Int), Aside0 (marlineref17_Put.j4 kq x4_74 a0_0 a0_1 a0_2 l0_3 a0_4 a0_5 l0_6 l0_7 l0_8 l0_9 = some (r1, r2)) ∧ Aside0 (kq ≤ kj66) ∧ Aside0 (Kd.R (Kd.int .u8) 5 wc w.heap.size (fun _ => True) v4 x4_74) ∧ Aside0 (wc.heap[gb888]? = some (.cells #[.int .u16 a0_0, .int .u8 a0_1, .int .u8 a0_2, (.slice A0_3 l0_3.length c0_3), .int .u16 a0_4, .int .u32 a0_5, (.slice A0_6 l0_6.length c0_6), (.slice A0_7 l0_7.length c0_7), (.slice A0_8 l0_8.length c0_8), (.slice A0_9 l0_9.length c0_9)] 44 (0, 0))) ∧ Aside0 (Below w.heap.size w wc))
                   case first =>
                    have H := HC75.out
                    clear HC75
                    by_cases c76 : x90_66 = true
                    · subst c76
                      have H1 : (if y892.length < 140737488355328 then ((some (y892 ++ [((l0_6.length : Int)) % 256] : List Int)).bind fun y895 => (if y895.length + l0_6.length < 140737488355328 then (marlineref17_Put.j4 kj66 (y895 ++ l0_6) a0_0 a0_1 a0_2 l0_3 a0_4 a0_5 l0_6 l0_7 l0_8 l0_9) else (none))) else (none)) = some (r1, r2) := by rw [if_pos rfl] at H; exact H
                      clear H
                      have H := H1
                      clear H1
                      by_cases c77 : y892.length < 140737488355328
                      · rw [if_pos c77] at H
                        have LMc77 := Aside0.mk c77
                        clear c77
                        obtain ⟨y895, hy895⟩ : ∃ y_ : List Int, y_ = (y892 ++ [((l0_6.length : Int)) % 256]) := ⟨_, rfl⟩
                        replace H : (if y895.length + l0_6.length < 140737488355328 then (marlineref17_Put.j4 kj66 (y895 ++ l0_6) a0_0 a0_1 a0_2 l0_3 a0_4 a0_5 l0_6 l0_7 l0_8 l0_9) else (none)) = some (r1, r2) := by first | (rw [hy895]; with_reducible exact H) | (have H2_ := (Option.bind_some _ _).symm.trans H; rw [hy895]; with_reducible exact H2_) | (have H2_ := (Option.bind_some _ _).symm.trans H; with_reducible exact H2_) | with_reducible exact H | (rw [hy895]; exact H) | exact H
                        have Ny895 := Aside0.mk hy895
                        clear hy895
                        by_cases c78 : y895.length + l0_6.length < 140737488355328
                        · rw [if_pos c78] at H
                          have LMc78 := Aside0.mk c78
                          clear c78
                          obtain ⟨y898, hy898⟩ : ∃ y_ : List Int, y_ = (y895 ++ l0_6) := ⟨_, rfl⟩
                          replace H : (marlineref17_Put.j4 kj66 y898 a0_0 a0_1 a0_2 l0_3 a0_4 a0_5 l0_6 l0_7 l0_8 l0_9) = some (r1, r2) := by first | (rw [hy898]; with_reducible exact H) | (have H2_ := (Option.bind_some _ _).symm.trans H; rw [hy898]; with_reducible exact H2_) | (have H2_ := (Option.bind_some _ _).symm.trans H; with_reducible exact H2_) | with_reducible exact H | (rw [hy898]; exact H) | exact H
                          have Ny898 := Aside0.mk hy898
                          clear hy898
                          have H' := Aside0.mk H
                          clear H
                          try go_wp2
                          have n0_ := Aside0.mk (Kd.R_drew HO_4.out)
                          have n1_ := Aside0.mk (blk_drew BK888.out)
                          have n2_ := Aside0.mk (below_drew1 HB.out)
                          clear HO_4
                          clear BK888
                          clear HB
                          have HO_4 := n0_
                          have BK888 := n1_
                          have HB := n2_
                          clear n0_ n1_ n2_
                          refine start_ (n := 11) (S := fun w' => w'.cell? ⟨gb888, 0, none⟩ = some (.int .u16 a0_0) ∧ w'.cell? ⟨gb888, 1, none⟩ = some (.int .u8 a0_1) ∧ w'.cell? ⟨gb888, 2, none⟩ = some (.int .u8 a0_2) ∧ w'.cell? ⟨gb888, 3, none⟩ = some (.slice A0_3 l0_3.length c0_3) ∧ w'.cell? ⟨gb888, 4, none⟩ = some (.int .u16 a0_4) ∧ w'.cell? ⟨gb888, 5, none⟩ = some (.int .u32 a0_5) ∧ w'.cell? ⟨gb888, 6, none⟩ = some (.slice A0_6 l0_6.length c0_6) ∧ w'.cell? ⟨gb888, 7, none⟩ = some (.slice A0_7 l0_7.length c0_7) ∧ w'.cell? ⟨gb888, 8, none⟩ = some (.slice A0_8 l0_8.length c0_8) ∧ w'.cell? ⟨gb888, 9, none⟩ = some (.slice A0_9 l0_9.length c0_9)) (ds := []) #[false, false, false, false, false, false, false, false, false, false, false] (by kernel_rfl) rfl rfl ⟨(blk_cell BK888.out 0).trans rfl, (blk_cell BK888.out 1).trans rfl, (blk_cell BK888.out 2).trans rfl, (blk_cell BK888.out 3).trans rfl, (blk_cell BK888.out 4).trans rfl, (blk_cell BK888.out 5).trans rfl, (blk_cell BK888.out 6).trans rfl, (blk_cell BK888.out 7).trans rfl, (blk_cell BK888.out 8).trans rfl, (blk_cell BK888.out 9).trans rfl⟩ (fun hHeld => ?_); refine with_tabW marlineref17_Put.tab11 marlineref17_Put.bits11 (fun HT_ HW_ => ?_)
                          generalize wc.drew = w79 at HO_4 BK888 HB hHeld ⊢
                          refine pure_ (i := 0) (N := some 91) (v := ?_) (a' := ?_) #[true, false, false, false, false, false, false, false, false, false, false] rfl rfl (any_of HT_.out (by kernel_rfl)) (fun _ _ _ h => h) (Or.inl ⟨by rfl, ?_⟩) ?_ ?_
                          rotate_left
                          · intro w'
                            go_simp
                            with_reducible rfl
                          rotate_left
                          · simp only [Act.put, List.setIfInBounds_toArray, List.set_cons_zero, List.set_cons_succ, i64_w, i32_w]
                            rfl
                          refine pure_ (i := 1) (N := some 92) (v := ?_) (a' := ?_) #[true, true, false, false, false, false, false, false, false, false, false] rfl rfl (any_of HT_.out (by kernel_rfl)) (fun _ _ _ h => h) (Or.inl ⟨by rfl, ?_⟩) ?_ ?_
                          rotate_left
                          · intro w'
                            go_simp
                            with_reducible rfl
                          rotate_left
                          · simp only [Act.put, List.setIfInBounds_toArray, List.set_cons_zero, List.set_cons_succ, i64_w, i32_w]
                            rfl
                          refine pure_ (i := 7) (N := some 98) (v := ?_) (a' := ?_) #[true, true, false, false, false, false, false, true, false, false, false] rfl rfl (any_of HT_.out (by kernel_rfl)) (fun _ _ _ h => h) (Or.inl ⟨by rfl, ?_⟩) ?_ ?_
                          rotate_left
                          · intro w'
                            go_simp
                            with_reducible rfl
                          rotate_left
                          · simp only [Act.put, List.setIfInBounds_toArray, List.set_cons_zero, List.set_cons_succ, i64_w, i32_w]
                            rfl
                          refine take_ (i := 2) (N := some 93) (v := ?_) (a' := ?_) #[true, true, true, false, false, false, false, true, false, false, false] rfl rfl (take_ofW HT_.out HW_.out (by kernel_rfl)) (fun _ _ _ h => h) (Or.inl ⟨by rfl, ?_⟩) hHeld ?_ ?_
                          rotate_left
                          · rintro w' ⟨s0, s1, s2, s3, s4, s5, s6, s7, s8, s9⟩
                            go_simp
                            with_reducible rfl
                          rotate_left
                          · simp only [Act.put, List.setIfInBounds_toArray, List.set_cons_zero, List.set_cons_succ, i64_w, i32_w]
                            rfl
                          refine pure_ (i := 3) (N := some 94) (v := ?_) (a' := ?_) #[true, true, true, true, false, false, false, true, false, false, false] rfl rfl (any_of HT_.out (by kernel_rfl)) (fun _ _ _ h => h) (Or.inl ⟨by rfl, ?_⟩) ?_ ?_
                          rotate_left
                          · intro w'
                            go_simp
                            with_reducible rfl
                          rotate_left
                          · simp only [Act.put, List.setIfInBounds_toArray, List.set_cons_zero, List.set_cons_succ, i64_w, i32_w]
                            rfl
                          refine pure_ (i := 4) (N := some 95) (v := ?_) (a' := ?_) #[true, true, true, true, true, false, false, true, false, false, false] rfl rfl (any_of HT_.out (by kernel_rfl)) (fun _ _ _ h => h) (Or.inl ⟨by rfl, ?_⟩) ?_ ?_
                          rotate_left
                          · intro w'
                            go_simp
                            with_reducible rfl
                          rotate_left
                          · simp only [Act.put, List.setIfInBounds_toArray, List.set_cons_zero, List.set_cons_succ, i64_w, i32_w]
                            rfl
                          refine take_ (i := 8) (N := some 99) (v := ?_) (a' := ?_) #[true, true, true, true, true, false, false, true, true, false, false] rfl rfl (take_ofW HT_.out HW_.out (by kernel_rfl)) (fun _ _ _ h => h) (Or.inl ⟨by rfl, ?_⟩) hHeld ?_ ?_
                          rotate_left
                          · rintro w' ⟨s0, s1, s2, s3, s4, s5, s6, s7, s8, s9⟩
                            go_simp
                            with_reducible rfl
                          rotate_left
                          · simp only [Act.put, List.setIfInBounds_toArray, List.set_cons_zero, List.set_cons_succ, i64_w, i32_w]
                            rfl
                          refine one_ (i := 5) (N := some 96) #[true, true, true, true, true, true, false, true, true, false, false] rfl rfl (one_of HT_.out (by kernel_rfl)) (by decide) (fun K hK => ?_)
                          refine value_ (w1 := ?_) (v := ?_) (by rfl) rfl ?_ ?_
                          rotate_left 2
                          · go_simp
                            constructor
                            · rfl
                            · rfl
                          refine hK.out _ _ ⟨(blk_cell (blk_alloc BK888.out _) 0).trans rfl, (blk_cell (blk_alloc BK888.out _) 1).trans rfl, (blk_cell (blk_alloc BK888.out _) 2).trans rfl, (blk_cell (blk_alloc BK888.out _) 3).trans rfl, (blk_cell (blk_alloc BK888.out _) 4).trans rfl, (blk_cell (blk_alloc BK888.out _) 5).trans rfl, (blk_cell (blk_alloc BK888.out _) 6).trans rfl, (blk_cell (blk_alloc BK888.out _) 7).trans rfl, (blk_cell (blk_alloc BK888.out _) 8).trans rfl, (blk_cell (blk_alloc BK888.out _) 9).trans rfl⟩ (fun hHeld => ?_)
                          clear hK K
                          refine norm_ (a' := ?_) ?_ ?_
                          rotate_left
                          · show Act.put _ (some 96) _ = _
                            simp only [Act.put, List.setIfInBounds_toArray, List.set_cons_zero, List.set_cons_succ, i64_w, i32_w]
                            rfl
                          refine one_ (i := 6) (N := some 97) #[true, true, true, true, true, true, true, true, true, false, false] rfl rfl (one_of HT_.out (by kernel_rfl)) (by decide) (fun K hK => ?_)
                          refine Kd.R_append_step (Kd.int .u8) (w0 := w) w.heap.size (by rfl) (.tmp 91) (.tmp 96) 23 5 (.int .u8 0) 1 rfl Try.underlying23 info5 rfl (by decide) (by omega) v893 y892 (((l0_6.length : Int)) % 256) [.int .u8 (((l0_6.length : Int)) % 256)] (fun _ => True) (fun _ => False) rfl rfl ?aP (fun _ hk => hk.elim) ?aF ?aO ?aB ?aS ?aL ?_
                          (case aP => exact rfl)
                          (case aB => exact (by repeat (first | (with_reducible first | exact HB.out | apply below_alloc | apply pw_below_drewN | apply below_drew1 | refine below_set ?_ GE888.out) | exact HB.out)))
                          (case aF => exact (fun _ _ => trivial))
                          (case aO => exact (by (with_reducible repeat (first | apply Kd.R_alloc | apply Kd.R_drewN | apply Kd.R_drew)); exact HO_4.out))
                          (case aS => exact (below_size (by repeat (first | (with_reducible first | exact HB.out | apply below_alloc | apply pw_below_drewN | apply below_drew1 | refine below_set ?_ GE888.out) | exact HB.out))))
                          (case aL => have := LMc77.out; omega)
                          intro v896 w80 ho hb hg hat
                          rw [← Ny895.out] at ho
                          have n0_ := Aside0.mk (blk_grown (g := gb888) (o := .cells #[.int .u16 a0_0, .int .u8 a0_1, .int .u8 a0_2, .slice A0_3 l0_3.length c0_3, .int .u16 a0_4, .int .u32 a0_5, .slice A0_6 l0_6.length c0_6, .slice A0_7 l0_7.length c0_7, .slice A0_8 l0_8.length c0_8, .slice A0_9 l0_9.length c0_9] 44 (0, 0)) (by (with_reducible repeat (first | refine blk_drewN ?_ _ | refine blk_drew ?_ | refine blk_alloc ?_ _)); exact BK888.out) hg (Kd.R_ne HO_4.out BK888.out (by decide)))
                          have n1_ := Aside0.mk (hb)
                          have n2_ := Aside0.mk (ho)
                          clear BK888
                          clear HB
                          clear HO_4
                          have BK888 := n0_
                          have HB := n1_
                          have HO897 := n2_
                          clear n0_ n1_ n2_
                          clear ho hb hg hat
                          refine hK.out _ _ ⟨(blk_cell BK888.out 0).trans rfl, (blk_cell BK888.out 1).trans rfl, (blk_cell BK888.out 2).trans rfl, (blk_cell BK888.out 3).trans rfl, (blk_cell BK888.out 4).trans rfl, (blk_cell BK888.out 5).trans rfl, (blk_cell BK888.out 6).trans rfl, (blk_cell BK888.out 7).trans rfl, (blk_cell BK888.out 8).trans rfl, (blk_cell BK888.out 9).trans rfl⟩ (fun hHeld => ?_)
                          clear hK K
                          refine norm_ (a' := ?_) ?_ ?_
                          rotate_left
                          · show Act.put _ (some 97) _ = _
                            simp only [Act.put, List.setIfInBounds_toArray, List.set_cons_zero, List.set_cons_succ, i64_w, i32_w]
                            rfl
                          refine one_ (i := 9) (N := some 100) #[true, true, true, true, true, true, true, true, true, true, false] rfl rfl (one_of HT_.out (by kernel_rfl)) (by decide) (fun K hK => ?_)
                          refine Kd.R_append_rows_step (Kd.int .u8) (w0 := w) w.heap.size (by rfl) (.tmp 97) (.tmp 99) 23 5 (.int .u8 0) 1 rfl Try.underlying23 info5 rfl (by decide) (by omega) v896 y895 l0_6 _ _ _ (fun _ => True) (fun _ => False) rfl rfl ?aO ?aR (fun _ _ h => h) (fun _ h => h.elim) ?aF ?aB ?aS ?aL ?_
                          (case aR => repeat (first | exact (Kd.C_below HR0_6.out HB.out) | (with_reducible refine Kd.C_alloc ?_ _) | (with_reducible refine Kd.C_drewN ?_ _) | (with_reducible refine Kd.C_drew ?_)))
                          (case aB => exact (by repeat (first | (with_reducible first | exact HB.out | apply below_alloc | apply pw_below_drewN | apply below_drew1 | refine below_set ?_ GE888.out) | exact HB.out)))
                          (case aF => exact (fun _ _ => trivial))
                          (case aO => exact (by (with_reducible repeat (first | apply Kd.R_alloc | apply Kd.R_drewN | apply Kd.R_drew)); exact HO897.out))
                          (case aS => exact (below_size (by repeat (first | (with_reducible first | exact HB.out | apply below_alloc | apply pw_below_drewN | apply below_drew1 | refine below_set ?_ GE888.out) | exact HB.out))))
                          (case aL => have := LMc78.out; omega)
                          intro v899 w81 ho hb hg hat
                          rw [← Ny898.out] at ho
                          have n0_ := Aside0.mk (blk_grown (g := gb888) (o := .cells #[.int .u16 a0_0, .int .u8 a0_1, .int .u8 a0_2, .slice A0_3 l0_3.length c0_3, .int .u16 a0_4, .int .u32 a0_5, .slice A0_6 l0_6.length c0_6, .slice A0_7 l0_7.length c0_7, .slice A0_8 l0_8.length c0_8, .slice A0_9 l0_9.length c0_9] 44 (0, 0)) (by (with_reducible repeat (first | refine blk_drewN ?_ _ | refine blk_drew ?_ | refine blk_alloc ?_ _)); exact BK888.out) hg (Kd.R_ne HO897.out BK888.out (by decide)))
                          have n1_ := Aside0.mk (hb)
                          have n2_ := Aside0.mk (ho)
                          clear BK888
                          clear HB
                          clear HO897
                          have BK888 := n0_
                          have HB := n1_
                          have HO900 := n2_
                          clear n0_ n1_ n2_
                          clear ho hb hg hat
                          refine hK.out _ _ ⟨(blk_cell BK888.out 0).trans rfl, (blk_cell BK888.out 1).trans rfl, (blk_cell BK888.out 2).trans rfl, (blk_cell BK888.out 3).trans rfl, (blk_cell BK888.out 4).trans rfl, (blk_cell BK888.out 5).trans rfl, (blk_cell BK888.out 6).trans rfl, (blk_cell BK888.out 7).trans rfl, (blk_cell BK888.out 8).trans rfl, (blk_cell BK888.out 9).trans rfl⟩ (fun hHeld => ?_)
                          clear hK K
                          refine norm_ (a' := ?_) ?_ ?_
                          rotate_left
                          · show Act.put _ (some 100) _ = _
                            simp only [Act.put, List.setIfInBounds_toArray, List.set_cons_zero, List.set_cons_succ, i64_w, i32_w]
                            rfl
                          refine pure_ (i := 10) (N := some 4) (v := ?_) (a' := ?_) #[true, true, true, true, true, true, true, true, true, true, true] rfl rfl (any_of HT_.out (by kernel_rfl)) (fun _ _ _ h => h) (Or.inl ⟨by rfl, ?_⟩) ?_ ?_
                          rotate_left
                          · intro w'
                            go_simp
                            with_reducible rfl
                          rotate_left
                          · simp only [Act.put, List.setIfInBounds_toArray, List.set_cons_zero, List.set_cons_succ, i64_w, i32_w]
                            rfl
                          refine done_ (done_of HT_.out (by kernel_rfl)) ?_
                          try go_wp2
                          go_meet
                          case rel => exact ⟨_, (y898), H', ⟨by have := HJ2.out; have := HJ13.out; have := HJ60.out; have := HJ66.out; first | omega | exact Nat.le_refl _⟩, ⟨by (with_reducible repeat (first | apply Kd.R_alloc | apply Kd.R_drewN | apply Kd.R_drew)); exact HO900.out⟩, ⟨by (with_reducible repeat (first | refine blk_drewN ?_ _ | refine blk_drew ?_ | refine blk_alloc ?_ _)); exact BK888.out⟩, ⟨by repeat (first | (with_reducible first | exact HB.out | apply below_alloc | apply pw_below_drewN | apply below_drew1 | refine below_set ?_ GE888.out) | exact HB.out)⟩⟩
                        · rw [if_neg c78] at H
                          exact absurd H (by simp)
                      · rw [if_neg c77] at H
                        exact absurd H (by simp)
                    · replace c76 := Bool.eq_false_iff.mpr c76
                      subst c76
                      have H1 : (marlineref17_Put.j4 kj66 y892 a0_0 a0_1 a0_2 l0_3 a0_4 a0_5 l0_6 l0_7 l0_8 l0_9) = some (r1, r2) := by rw [if_neg (show ¬ (false = true) by decide)] at H; exact H
                      clear H
                      have H := H1
                      clear H1
                      have H' := Aside0.mk H
                      clear H
                      go_wp2
                      go_meet
                      case rel => exact ⟨_, (y892), H', ⟨by have := HJ2.out; have := HJ13.out; have := HJ60.out; have := HJ66.out; first | omega | exact Nat.le_refl _⟩, ⟨by (with_reducible repeat (first | apply Kd.R_alloc | apply Kd.R_drewN | apply Kd.R_drew)); exact HO_4.out⟩, ⟨by (with_reducible repeat (first | refine blk_drewN ?_ _ | refine blk_drew ?_ | refine blk_alloc ?_ _)); exact BK888.out⟩, ⟨by repeat (first | (with_reducible first | exact HB.out | apply below_alloc | apply pw_below_drewN | apply below_drew1 | refine below_set ?_ GE888.out) | exact HB.out)⟩⟩
                   case rest =>
                    clear HC75
                    try clear p2
                    try clear c7
                    try clear c76
                    try clear c77
                    try clear c78
                    try clear hcz41_7 hcz41_8 hcz41_9 hfz41_0 hfz41_1 hfz41_2 hfz41_3 hfz41_4 hfz41_5 hfz41_6 hfz41_7 hfz41_8 hfz41_9
                    try clear hcz44_0 hcz44_1 hcz44_2 hcz44_3 hcz44_4 hcz44_5 hcz44_6 hcz44_7 hcz44_8 hcz44_9 hfz44_0 hfz44_1 hfz44_2 hfz44_3 hfz44_4 hfz44_5 hfz44_6 hfz44_7 hfz44_8 hfz44_9
                    try clear hcz45_0 hcz45_1 hcz45_2 hcz45_3 hcz45_4 hcz45_5 hcz45_6 hcz45_7 hcz45_8 hcz45_9 hfz45_0 hfz45_1 hfz45_2 hfz45_3 hfz45_4 hfz45_5 hfz45_6 hfz45_7 hfz45_8 hfz45_9
                    try clear hcz46_0 hcz46_1 hcz46_2 hcz46_3 hcz46_4 hcz46_5 hcz46_6 hcz46_7 hcz46_8 hcz46_9 hfz46_0 hfz46_1 hfz46_2 hfz46_3 hfz46_4 hfz46_5 hfz46_6 hfz46_7 hfz46_8 hfz46_9
                    try clear hcz49_0 hcz49_1 hcz49_2 hcz49_3 hcz49_4 hcz49_5 hcz49_6 hcz49_7 hcz49_8 hcz49_9 hfz49_0 hfz49_1 hfz49_2 hfz49_3 hfz49_4 hfz49_5 hfz49_6 hfz49_7 hfz49_8 hfz49_9
                    try clear hcz52_0 hcz52_1 hcz52_2 hcz52_3 hcz52_4 hcz52_5 hcz52_6 hcz52_7 hcz52_8 hcz52_9 hfz52_0 hfz52_1 hfz52_2 hfz52_3 hfz52_4 hfz52_5 hfz52_6 hfz52_7 hfz52_8 hfz52_9
                    try clear hcz53_0 hcz53_1 hcz53_2 hcz53_3 hcz53_4 hcz53_5 hcz53_6 hcz53_7 hcz53_8 hcz53_9 hfz53_0 hfz53_1 hfz53_2 hfz53_3 hfz53_4 hfz53_5 hfz53_6 hfz53_7 hfz53_8 hfz53_9
                    try clear hcz54_0 hcz54_1 hcz54_2 hcz54_3 hcz54_4 hcz54_5 hcz54_6 hcz54_7 hcz54_8 hcz54_9 hfz54_0 hfz54_1 hfz54_2 hfz54_3 hfz54_4 hfz54_5 hfz54_6 hfz54_7 hfz54_8 hfz54_9
                    try clear hcz57_0 hcz57_1 hcz57_2 hcz57_3 hcz57_4 hcz57_5 hcz57_6 hcz57_7 hcz57_8 hcz57_9 hfz57_0 hfz57_1 hfz57_2 hfz57_3 hfz57_4 hfz57_5 hfz57_6 hfz57_7 hfz57_8 hfz57_9
                    try clear hcz58_0 hcz58_1 hcz58_2 hcz58_3 hcz58_4 hcz58_5 hcz58_6 hcz58_7 hcz58_8 hcz58_9 hfz58_0 hfz58_1 hfz58_2 hfz58_3 hfz58_4 hfz58_5 hfz58_6 hfz58_7 hfz58_8 hfz58_9
                    try clear hcz59_0 hcz59_1 hcz59_2 hcz59_3 hcz59_4 hcz59_5 hcz59_6 hcz59_7 hcz59_8 hcz59_9 hfz59_0 hfz59_1 hfz59_2 hfz59_3 hfz59_4 hfz59_5 hfz59_6 hfz59_7 hfz59_8 hfz59_9
                    try clear hcz63_0 hcz63_1 hcz63_2 hcz63_3 hcz63_4 hcz63_5 hcz63_6 hcz63_7 hcz63_8 hcz63_9 hfz63_0 hfz63_1 hfz63_2 hfz63_3 hfz63_4 hfz63_5 hfz63_6 hfz63_7 hfz63_8 hfz63_9
                    try clear hcz64_0 hcz64_1 hcz64_2 hcz64_3 hcz64_4 hcz64_5 hcz64_6 hcz64_7 hcz64_8 hcz64_9 hfz64_0 hfz64_1 hfz64_2 hfz64_3 hfz64_4 hfz64_5 hfz64_6 hfz64_7 hfz64_8 hfz64_9
                    try clear hcz70_0 hcz70_1 hcz70_2 hcz70_3 hcz70_4 hcz70_5 hcz70_6 hcz70_7 hcz70_8 hcz70_9 hfz70_0 hfz70_1 hfz70_2 hfz70_3 hfz70_4 hfz70_5 hfz70_6 hfz70_7 hfz70_8 hfz70_9
                    try clear hcz73_0 hcz73_1 hcz73_2 hcz73_3 hcz73_4 hcz73_5 hcz73_6 hcz73_7 hcz73_8 hcz73_9 hfz73_0 hfz73_1 hfz73_2 hfz73_3 hfz73_4 hfz73_5 hfz73_6 hfz73_7 hfz73_8 hfz73_9
                    try clear hcz74_0 hcz74_1 hcz74_2 hcz74_3 hcz74_4 hcz74_5 hcz74_6 hcz74_7 hcz74_8 hcz74_9 hfz74_0 hfz74_1 hfz74_2 hfz74_3 hfz74_4 hfz74_5 hfz74_6 hfz74_7 hfz74_8 hfz74_9
                    try clear hfz26_0 hfz26_1 hfz26_2 hfz26_3 hfz26_4 hfz26_5 hfz26_6 hfz26_7 hfz26_8 hfz26_9
                    try clear hfz29_0 hfz29_1 hfz29_2 hfz29_3 hfz29_4 hfz29_5 hfz29_6 hfz29_7 hfz29_8 hfz29_9
                    try clear hfz30_0 hfz30_1 hfz30_2 hfz30_3 hfz30_4 hfz30_5 hfz30_6 hfz30_7 hfz30_8 hfz30_9
                    try clear hfz31_0 hfz31_1 hfz31_2 hfz31_3 hfz31_4 hfz31_5 hfz31_6 hfz31_7 hfz31_8 hfz31_9
                    try clear hfz34_0 hfz34_1 hfz34_2 hfz34_3 hfz34_4 hfz34_5 hfz34_6 hfz34_7 hfz34_8 hfz34_9
                    try clear hfz35_0 hfz35_1 hfz35_2 hfz35_3 hfz35_4 hfz35_5 hfz35_6 hfz35_7 hfz35_8 hfz35_9
                    try clear hfz36_0 hfz36_1 hfz36_2 hfz36_3 hfz36_4 hfz36_5 hfz36_6 hfz36_7 hfz36_8 hfz36_9
                    try clear hfz38_0 hfz38_1 hfz38_2 hfz38_3 hfz38_4 hfz38_5 hfz38_6 hfz38_7 hfz38_8 hfz38_9
                    try clear p2
                    obtain ⟨kq, x4_74, HA, HJ74, HO_4, BK888, HB⟩ := hcut
                    cases kq with
                    | zero => exact absurd HA.out (by simp [marlineref17_Put.j4])
                    | succ kj74 =>
                     have H := HA.out
                     clear HA
                     simp only [marlineref17_Put.j4] at H
                     have HC82 := Aside0.mk H
                     clear H
                     obtain ⟨⟨hcz83_0, hcz83_1, hcz83_2, hcz83_3, hcz83_4, hcz83_5, hcz83_6, hcz83_7, hcz83_8, hcz83_9⟩, hfz83_0, hfz83_1, hfz83_2, hfz83_3, hfz83_4, hfz83_5, hfz83_6, hfz83_7, hfz83_8, hfz83_9⟩ := cz10 BK888.out
                     go_upto_if 103 with (fail)
                     go_cut [4] (fun v4 wc => ∃ (kq : Nat) (x4_81 : List Int), Aside0 (marlineref17_Put.j5 kq x4_81 a0_0 a0_1 a0_2 l0_3 a0_4 a0_5 l0_6 l0_7 l0_8 l0_9 = some (r1, r2)) ∧ Aside0 (kq ≤ kj74) ∧ Aside0 (Kd.R (Kd.int .u8) 5 wc w.heap.size (fun _ => True) v4 x4_81) ∧ Aside0 (wc.heap[gb888]? = some (.cells #[.int .u16 a0_0, .int .u8 a0_1, .int .u8 a0_2, (.slice A0_3 l0_3.length c0_3), .int .u16 a0_4, .int .u32 a0_5, (.slice A0_6 l0_6.length c0_6), (.slice A0_7 l0_7.length c0_7), (.slice A0_8 l0_8.length c0_8), (.slice A0_9 l0_9.length c0_9)] 44 (0, 0))) ∧ Aside0 (Below w.heap.size w wc))
                     case first =>
                      have H := HC82.out
                      clear HC82
                      by_cases c84 : a0_1 = 1
                      · rw [if_pos c84] at H
                        have c84b0 : (a0_1 == 1) = true := beq_iff_eq.mpr c84
                        have c84b1 : (a0_1 != 1) = false := bne_eq_false_iff_eq.mpr c84
                        clear c84
                        (first | rw [c84b0] | (simp only [i64_w, i32_w]; rw [c84b0]) | skip)
                        by_cases c85 : x4_74.length < 140737488355328
                        · rw [if_pos c85] at H
                          have LMc85 := Aside0.mk c85
                          clear c85
                          obtain ⟨y901, hy901⟩ : ∃ y_ : List Int, y_ = (x4_74 ++ [((l0_7.length : Int)) % 256]) := ⟨_, rfl⟩
                          replace H : (if y901.length + l0_7.length < 140737488355328 then (marlineref17_Put.j5 kj74 (y901 ++ l0_7) a0_0 a0_1 a0_2 l0_3 a0_4 a0_5 l0_6 l0_7 l0_8 l0_9) else (none)) = some (r1, r2) := by first | (rw [hy901]; with_reducible exact H) | (have H2_ := (Option.bind_some _ _).symm.trans H; rw [hy901]; with_reducible exact H2_) | (have H2_ := (Option.bind_some _ _).symm.trans H; with_reducible exact H2_) | with_reducible exact H | (rw [hy901]; exact H) | exact H
                          have Ny901 := Aside0.mk hy901
                          clear hy901
                          by_cases c86 : y901.length + l0_7.length < 140737488355328
                          · rw [if_pos c86] at H
                            have LMc86 := Aside0.mk c86
                            clear c86
                            obtain ⟨y904, hy904⟩ : ∃ y_ : List Int, y_ = (y901 ++ l0_7) := ⟨_, rfl⟩
                            replace H : (marlineref17_Put.j5 kj74 y904 a0_0 a0_1 a0_2 l0_3 a0_4 a0_5 l0_6 l0_7 l0_8 l0_9) = some (r1, r2) := by first | (rw [hy904]; with_reducible exact H) | (have H2_ := (Option.bind_some _ _).symm.trans H; rw [hy904]; with_reducible exact H2_) | (have H2_ := (Option.bind_some _ _).symm.trans H; with_reducible exact H2_) | with_reducible exact H | (rw [hy904]; exact H) | exact H
                            have Ny904 := Aside0.mk hy904
                            clear hy904
                            have H' := Aside0.mk H
                            clear H
                            try go_wp2
                            have n0_ := Aside0.mk (Kd.R_drew HO_4.out)
                            have n1_ := Aside0.mk (blk_drew BK888.out)
                            have n2_ := Aside0.mk (below_drew1 HB.out)
                            clear HO_4
                            clear BK888
                            clear HB
                            have HO_4 := n0_
                            have BK888 := n1_
                            have HB := n2_
                            clear n0_ n1_ n2_
                            refine start_ (n := 11) (S := fun w' => w'.cell? ⟨gb888, 0, none⟩ = some (.int .u16 a0_0) ∧ w'.cell? ⟨gb888, 1, none⟩ = some (.int .u8 a0_1) ∧ w'.cell? ⟨gb888, 2, none⟩ = some (.int .u8 a0_2) ∧ w'.cell? ⟨gb888, 3, none⟩ = some (.slice A0_3 l0_3.length c0_3) ∧ w'.cell? ⟨gb888, 4, none⟩ = some (.int .u16 a0_4) ∧ w'.cell? ⟨gb888, 5, none⟩ = some (.int .u32 a0_5) ∧ w'.cell? ⟨gb888, 6, none⟩ = some (.slice A0_6 l0_6.length c0_6) ∧ w'.cell? ⟨gb888, 7, none⟩ = some (.slice A0_7 l0_7.length c0_7) ∧ w'.cell? ⟨gb888, 8, none⟩ = some (.slice A0_8 l0_8.length c0_8) ∧ w'.cell? ⟨gb888, 9, none⟩ = some (.slice A0_9 l0_9.length c0_9)) (ds := []) #[false, false, false, false, false, false, false, false, false, false, false] (by kernel_rfl) rfl rfl ⟨(blk_cell BK888.out 0).trans rfl, (blk_cell BK888.out 1).trans rfl, (blk_cell BK888.out 2).trans rfl, (blk_cell BK888.out 3).trans rfl, (blk_cell BK888.out 4).trans rfl, (blk_cell BK888.out 5).trans rfl, (blk_cell BK888.out 6).trans rfl, (blk_cell BK888.out 7).trans rfl, (blk_cell BK888.out 8).trans rfl, (blk_cell BK888.out 9).trans rfl⟩ (fun hHeld => ?_); refine with_tabW marlineref17_Put.tab13 marlineref17_Put.bits13 (fun HT_ HW_ => ?_)
                            generalize wc.drew = w87 at HO_4 BK888 HB hHeld ⊢
                            refine pure_ (i := 0) (N := some 104) (v := ?_) (a' := ?_) #[true, false, false, false, false, false, false, false, false, false, false] rfl rfl (any_of HT_.out (by kernel_rfl)) (fun _ _ _ h => h) (Or.inl ⟨by rfl, ?_⟩) ?_ ?_
                            rotate_left
                            · intro w'
                              go_simp
                              with_reducible rfl
                            rotate_left
                            · simp only [Act.put, List.setIfInBounds_toArray, List.set_cons_zero, List.set_cons_succ, i64_w, i32_w]
                              rfl
                            refine pure_ (i := 1) (N := some 105) (v := ?_) (a' := ?_) #[true, true, false, false, false, false, false, false, false, false, false] rfl rfl (any_of HT_.out (by kernel_rfl)) (fun _ _ _ h => h) (Or.inl ⟨by rfl, ?_⟩) ?_ ?_
                            rotate_left
                            · intro w'
                              go_simp
                              with_reducible rfl
                            rotate_left
                            · simp only [Act.put, List.setIfInBounds_toArray, List.set_cons_zero, List.set_cons_succ, i64_w, i32_w]
                              rfl
                            refine pure_ (i := 7) (N := some 111) (v := ?_) (a' := ?_) #[true, true, false, false, false, false, false, true, false, false, false] rfl rfl (any_of HT_.out (by kernel_rfl)) (fun _ _ _ h => h) (Or.inl ⟨by rfl, ?_⟩) ?_ ?_
                            rotate_left
                            · intro w'
                              go_simp
                              with_reducible rfl
                            rotate_left
                            · simp only [Act.put, List.setIfInBounds_toArray, List.set_cons_zero, List.set_cons_succ, i64_w, i32_w]
                              rfl
                            refine take_ (i := 2) (N := some 106) (v := ?_) (a' := ?_) #[true, true, true, false, false, false, false, true, false, false, false] rfl rfl (take_ofW HT_.out HW_.out (by kernel_rfl)) (fun _ _ _ h => h) (Or.inl ⟨by rfl, ?_⟩) hHeld ?_ ?_
                            rotate_left
                            · rintro w' ⟨s0, s1, s2, s3, s4, s5, s6, s7, s8, s9⟩
                              go_simp
                              with_reducible rfl
                            rotate_left
                            · simp only [Act.put, List.setIfInBounds_toArray, List.set_cons_zero, List.set_cons_succ, i64_w, i32_w]
                              rfl
                            refine pure_ (i := 3) (N := some 107) (v := ?_) (a' := ?_) #[true, true, true, true, false, false, false, true, false, false, false] rfl rfl (any_of HT_.out (by kernel_rfl)) (fun _ _ _ h => h) (Or.inl ⟨by rfl, ?_⟩) ?_ ?_
                            rotate_left
                            · intro w'
                              go_simp
                              with_reducible rfl
                            rotate_left
                            · simp only [Act.put, List.setIfInBounds_toArray, List.set_cons_zero, List.set_cons_succ, i64_w, i32_w]
                              rfl
                            refine pure_ (i := 4) (N := some 108) (v := ?_) (a' := ?_) #[true, true, true, true, true, false, false, true, false, false, false] rfl rfl (any_of HT_.out (by kernel_rfl)) (fun _ _ _ h => h) (Or.inl ⟨by rfl, ?_⟩) ?_ ?_
                            rotate_left
                            · intro w'
                              go_simp
                              with_reducible rfl
                            rotate_left
                            · simp only [Act.put, List.setIfInBounds_toArray, List.set_cons_zero, List.set_cons_succ, i64_w, i32_w]
                              rfl
                            refine take_ (i := 8) (N := some 112) (v := ?_) (a' := ?_) #[true, true, true, true, true, false, false, true, true, false, false] rfl rfl (take_ofW HT_.out HW_.out (by kernel_rfl)) (fun _ _ _ h => h) (Or.inl ⟨by rfl, ?_⟩) hHeld ?_ ?_
                            rotate_left
                            · rintro w' ⟨s0, s1, s2, s3, s4, s5, s6, s7, s8, s9⟩
                              go_simp
                              with_reducible rfl
                            rotate_left
                            · simp only [Act.put, List.setIfInBounds_toArray, List.set_cons_zero, List.set_cons_succ, i64_w, i32_w]
                              rfl
                            refine one_ (i := 5) (N := some 109) #[true, true, true, true, true, true, false, true, true, false, false] rfl rfl (one_of HT_.out (by kernel_rfl)) (by decide) (fun K hK => ?_)
                            refine value_ (w1 := ?_) (v := ?_) (by rfl) rfl ?_ ?_
                            rotate_left 2
                            · go_simp
                              constructor
                              · rfl
                              · rfl
                            refine hK.out _ _ ⟨(blk_cell (blk_alloc BK888.out _) 0).trans rfl, (blk_cell (blk_alloc BK888.out _) 1).trans rfl, (blk_cell (blk_alloc BK888.out _) 2).trans rfl, (blk_cell (blk_alloc BK888.out _) 3).trans rfl, (blk_cell (blk_alloc BK888.out _) 4).trans rfl, (blk_cell (blk_alloc BK888.out _) 5).trans rfl, (blk_cell (blk_alloc BK888.out _) 6).trans rfl, (blk_cell (blk_alloc BK888.out _) 7).trans rfl, (blk_cell (blk_alloc BK888.out _) 8).trans rfl, (blk_cell (blk_alloc BK888.out _) 9).trans rfl⟩ (fun hHeld => ?_)
                            clear hK K
                            refine norm_ (a' := ?_) ?_ ?_
                            rotate_left
                            · show Act.put _ (some 109) _ = _
                              simp only [Act.put, List.setIfInBounds_toArray, List.set_cons_zero, List.set_cons_succ, i64_w, i32_w]
                              rfl
                            refine one_ (i := 6) (N := some 110) #[true, true, true, true, true, true, true, true, true, false, false] rfl rfl (one_of HT_.out (by kernel_rfl)) (by decide) (fun K hK => ?_)
                            refine Kd.R_append_step (Kd.int .u8) (w0 := w) w.heap.size (by rfl) (.tmp 104) (.tmp 109) 23 5 (.int .u8 0) 1 rfl Try.underlying23 info5 rfl (by decide) (by omega) u4 x4_74 (((l0_7.length : Int)) % 256) [.int .u8 (((l0_7.length : Int)) % 256)] (fun _ => True) (fun _ => False) rfl rfl ?aP (fun _ hk => hk.elim) ?aF ?aO ?aB ?aS ?aL ?_
                            (case aP => exact rfl)
                            (case aB => exact (by repeat (first | (with_reducible first | exact HB.out | apply below_alloc | apply pw_below_drewN | apply below_drew1 | refine below_set ?_ GE888.out) | exact HB.out)))
                            (case aF => exact (fun _ _ => trivial))
                            (case aO => exact (by (with_reducible repeat (first | apply Kd.R_alloc | apply Kd.R_drewN | apply Kd.R_drew)); exact HO_4.out))
                            (case aS => exact (below_size (by repeat (first | (with_reducible first | exact HB.out | apply below_alloc | apply pw_below_drewN | apply below_drew1 | refine below_set ?_ GE888.out) | exact HB.out))))
                            (case aL => have := LMc85.out; omega)
                            intro v902 w88 ho hb hg hat
                            rw [← Ny901.out] at ho
                            have n0_ := Aside0.mk (blk_grown (g := gb888) (o := .cells #[.int .u16 a0_0, .int .u8 a0_1, .int .u8 a0_2, .slice A0_3 l0_3.length c0_3, .int .u16 a0_4, .int .u32 a0_5, .slice A0_6 l0_6.length c0_6, .slice A0_7 l0_7.length c0_7, .slice A0_8 l0_8.length c0_8, .slice A0_9 l0_9.length c0_9] 44 (0, 0)) (by (with_reducible repeat (first | refine blk_drewN ?_ _ | refine blk_drew ?_ | refine blk_alloc ?_ _)); exact BK888.out) hg (Kd.R_ne HO_4.out BK888.out (by decide)))
                            have n1_ := Aside0.mk (hb)
                            have n2_ := Aside0.mk (ho)
                            clear BK888
                            clear HB
                            clear HO_4
                            have BK888 := n0_
                            have HB := n1_
                            have HO903 := n2_
                            clear n0_ n1_ n2_
                            clear ho hb hg hat
                            refine hK.out _ _ ⟨(blk_cell BK888.out 0).trans rfl, (blk_cell BK888.out 1).trans rfl, (blk_cell BK888.out 2).trans rfl, (blk_cell BK888.out 3).trans rfl, (blk_cell BK888.out 4).trans rfl, (blk_cell BK888.out 5).trans rfl, (blk_cell BK888.out 6).trans rfl, (blk_cell BK888.out 7).trans rfl, (blk_cell BK888.out 8).trans rfl, (blk_cell BK888.out 9).trans rfl⟩ (fun hHeld => ?_)
                            clear hK K
                            refine norm_ (a' := ?_) ?_ ?_
                            rotate_left
                            · show Act.put _ (some 110) _ = _
                              simp only [Act.put, List.setIfInBounds_toArray, List.set_cons_zero, List.set_cons_succ, i64_w, i32_w]
                              rfl
                            refine one_ (i := 9) (N := some 113) #[true, true, true, true, true, true, true, true, true, true, false] rfl rfl (one_of HT_.out (by kernel_rfl)) (by decide) (fun K hK => ?_)
                            refine Kd.R_append_rows_step (Kd.int .u8) (w0 := w) w.heap.size (by rfl) (.tmp 110) (.tmp 112) 23 5 (.int .u8 0) 1 rfl Try.underlying23 info5 rfl (by decide) (by omega) v902 y901 l0_7 _ _ _ (fun _ => True) (fun _ => False) rfl rfl ?aO ?aR (fun _ _ h => h) (fun _ h => h.elim) ?aF ?aB ?aS ?aL ?_
                            (case aR => repeat (first | exact (Kd.C_below HR0_7.out HB.out) | (with_reducible refine Kd.C_alloc ?_ _) | (with_reducible refine Kd.C_drewN ?_ _) | (with_reducible refine Kd.C_drew ?_)))
                            (case aB => exact (by repeat (first | (with_reducible first | exact HB.out | apply below_alloc | apply pw_below_drewN | apply below_drew1 | refine below_set ?_ GE888.out) | exact HB.out)))
                            (case aF => exact (fun _ _ => trivial))
                            (case aO => exact (by (with_reducible repeat (first | apply Kd.R_alloc | apply Kd.R_drewN | apply Kd.R_drew)); exact HO903.out))
                            (case aS => exact (below_size (by repeat (first | (with_reducible first | exact HB.out | apply below_alloc | apply pw_below_drewN | apply below_drew1 | refine below_set ?_ GE888.out) | exact HB.out))))
                            (case aL => have := LMc86.out; omega)
                            intro v905 w89 ho hb hg hat
                            rw [← Ny904.out] at ho
                            have n0_ := Aside0.mk (blk_grown (g := gb888) (o := .cells #[.int .u16 a0_0, .int .u8 a0_1, .int .u8 a0_2, .slice A0_3 l0_3.length c0_3, .int .u16 a0_4, .int .u32 a0_5, .slice A0_6 l0_6.length c0_6, .slice A0_7 l0_7.length c0_7, .slice A0_8 l0_8.length c0_8, .slice A0_9 l0_9.length c0_9] 44 (0, 0)) (by (with_reducible repeat (first | refine blk_drewN ?_ _ | refine blk_drew ?_ | refine blk_alloc ?_ _)); exact BK888.out) hg (Kd.R_ne HO903.out BK888.out (by decide)))
                            have n1_ := Aside0.mk (hb)
                            have n2_ := Aside0.mk (ho)
                            clear BK888
                            clear HB
                            clear HO903
                            have BK888 := n0_
                            have HB := n1_
                            have HO906 := n2_
                            clear n0_ n1_ n2_
                            clear ho hb hg hat
                            refine hK.out _ _ ⟨(blk_cell BK888.out 0).trans rfl, (blk_cell BK888.out 1).trans rfl, (blk_cell BK888.out 2).trans rfl, (blk_cell BK888.out 3).trans rfl, (blk_cell BK888.out 4).trans rfl, (blk_cell BK888.out 5).trans rfl, (blk_cell BK888.out 6).trans rfl, (blk_cell BK888.out 7).trans rfl, (blk_cell BK888.out 8).trans rfl, (blk_cell BK888.out 9).trans rfl⟩ (fun hHeld => ?_)
                            clear hK K
                            refine norm_ (a' := ?_) ?_ ?_
                            rotate_left
                            · show Act.put _ (some 113) _ = _
                              simp only [Act.put, List.setIfInBounds_toArray, List.set_cons_zero, List.set_cons_succ, i64_w, i32_w]
                              rfl
                            refine pure_ (i := 10) (N := some 4) (v := ?_) (a' := ?_) #[true, true, true, true, true, true, true, true, true, true, true] rfl rfl (any_of HT_.out (by kernel_rfl)) (fun _ _ _ h => h) (Or.inl ⟨by rfl, ?_⟩) ?_ ?_
                            rotate_left
                            · intro w'
                              go_simp
                              with_reducible rfl
                            rotate_left
                            · simp only [Act.put, List.setIfInBounds_toArray, List.set_cons_zero, List.set_cons_succ, i64_w, i32_w]
                              rfl
                            refine done_ (done_of HT_.out (by kernel_rfl)) ?_
                            try go_wp2
                            go_meet
                            case rel => exact ⟨_, (y904), H', ⟨by have := HJ2.out; have := HJ13.out; have := HJ60.out; have := HJ66.out; have := HJ74.out; first | omega | exact Nat.le_refl _⟩, ⟨by (with_reducible repeat (first | apply Kd.R_alloc | apply Kd.R_drewN | apply Kd.R_drew)); exact HO906.out⟩, ⟨by (with_reducible repeat (first | refine blk_drewN ?_ _ | refine blk_drew ?_ | refine blk_alloc ?_ _)); exact BK888.out⟩, ⟨by repeat (first | (with_reducible first | exact HB.out | apply below_alloc | apply pw_below_drewN | apply below_drew1 | refine below_set ?_ GE888.out) | exact HB.out)⟩⟩
                          · rw [if_neg c86] at H
                            exact absurd H (by simp)
                        · rw [if_neg c85] at H
                          exact absurd H (by simp)
                      · rw [if_neg c84] at H
                        have c84b0 : (a0_1 == 1) = false := beq_eq_false_iff_ne.mpr c84
                        have c84b1 : (a0_1 != 1) = true := bne_iff_ne.mpr c84
                        (first | rw [c84b0] | (simp only [i64_w, i32_w]; rw [c84b0]) | skip)
                        have H' := Aside0.mk H
                        clear H
                        go_wp2
                        go_meet
                        case rel => exact ⟨_, (x4_74), H', ⟨by have := HJ2.out; have := HJ13.out; have := HJ60.out; have := HJ66.out; have := HJ74.out; first | omega | exact Nat.le_refl _⟩, ⟨by (with_reducible repeat (first | apply Kd.R_alloc | apply Kd.R_drewN | apply Kd.R_drew)); exact HO_4.out⟩, ⟨by (with_reducible repeat (first | refine blk_drewN ?_ _ | refine blk_drew ?_ | refine blk_alloc ?_ _)); exact BK888.out⟩, ⟨by repeat (first | (with_reducible first | exact HB.out | apply below_alloc | apply pw_below_drewN | apply below_drew1 | refine below_set ?_ GE888.out) | exact HB.out)⟩⟩
                     case rest =>
                      clear HC82
                      try clear p2
                      try clear c8
                      try clear c84
                      try clear c84b0
                      try clear c84b1
                      try clear c85
                      try clear c86
                      try clear hcz45_5 hcz45_6 hcz45_7 hcz45_8 hcz45_9 hfz45_0 hfz45_1 hfz45_2 hfz45_3 hfz45_4 hfz45_5 hfz45_6 hfz45_7 hfz45_8 hfz45_9
                      try clear hcz46_0 hcz46_1 hcz46_2 hcz46_3 hcz46_4 hcz46_5 hcz46_6 hcz46_7 hcz46_8 hcz46_9 hfz46_0 hfz46_1 hfz46_2 hfz46_3 hfz46_4 hfz46_5 hfz46_6 hfz46_7 hfz46_8 hfz46_9
                      try clear hcz49_0 hcz49_1 hcz49_2 hcz49_3 hcz49_4 hcz49_5 hcz49_6 hcz49_7 hcz49_8 hcz49_9 hfz49_0 hfz49_1 hfz49_2 hfz49_3 hfz49_4 hfz49_5 hfz49_6 hfz49_7 hfz49_8 hfz49_9
                      try clear hcz52_0 hcz52_1 hcz52_2 hcz52_3 hcz52_4 hcz52_5 hcz52_6 hcz52_7 hcz52_8 hcz52_9 hfz52_0 hfz52_1 hfz52_2 hfz52_3 hfz52_4 hfz52_5 hfz52_6 hfz52_7 hfz52_8 hfz52_9
                      try clear hcz53_0 hcz53_1 hcz53_2 hcz53_3 hcz53_4 hcz53_5 hcz53_6 hcz53_7 hcz53_8 hcz53_9 hfz53_0 hfz53_1 hfz53_2 hfz53_3 hfz53_4 hfz53_5 hfz53_6 hfz53_7 hfz53_8 hfz53_9
                      try clear hcz54_0 hcz54_1 hcz54_2 hcz54_3 hcz54_4 hcz54_5 hcz54_6 hcz54_7 hcz54_8 hcz54_9 hfz54_0 hfz54_1 hfz54_2 hfz54_3 hfz54_4 hfz54_5 hfz54_6 hfz54_7 hfz54_8 hfz54_9
                      try clear hcz57_0 hcz57_1 hcz57_2 hcz57_3 hcz57_4 hcz57_5 hcz57_6 hcz57_7 hcz57_8 hcz57_9 hfz57_0 hfz57_1 hfz57_2 hfz57_3 hfz57_4 hfz57_5 hfz57_6 hfz57_7 hfz57_8 hfz57_9
                      try clear hcz58_0 hcz58_1 hcz58_2 hcz58_3 hcz58_4 hcz58_5 hcz58_6 hcz58_7 hcz58_8 hcz58_9 hfz58_0 hfz58_1 hfz58_2 hfz58_3 hfz58_4 hfz58_5 hfz58_6 hfz58_7 hfz58_8 hfz58_9
                      try clear hcz59_0 hcz59_1 hcz59_2 hcz59_3 hcz59_4 hcz59_5 hcz59_6 hcz59_7 hcz59_8 hcz59_9 hfz59_0 hfz59_1 hfz59_2 hfz59_3 hfz59_4 hfz59_5 hfz59_6 hfz59_7 hfz59_8 hfz59_9
                      try clear hcz63_0 hcz63_1 hcz63_2 hcz63_3 hcz63_4 hcz63_5 hcz63_6 hcz63_7 hcz63_8 hcz63_9 hfz63_0 hfz63_1 hfz63_2 hfz63_3 hfz63_4 hfz63_5 hfz63_6 hfz63_7 hfz63_8 hfz63_9
                      try clear hcz64_0 hcz64_1 hcz64_2 hcz64_3 hcz64_4 hcz64_5 hcz64_6 hcz64_7 hcz64_8 hcz64_9 hfz64_0 hfz64_1 hfz64_2 hfz64_3 hfz64_4 hfz64_5 hfz64_6 hfz64_7 hfz64_8 hfz64_9
                      try clear hcz70_0 hcz70_1 hcz70_2 hcz70_3 hcz70_4 hcz70_5 hcz70_6 hcz70_7 hcz70_8 hcz70_9 hfz70_0 hfz70_1 hfz70_2 hfz70_3 hfz70_4 hfz70_5 hfz70_6 hfz70_7 hfz70_8 hfz70_9
                      try clear hcz73_0 hcz73_1 hcz73_2 hcz73_3 hcz73_4 hcz73_5 hcz73_6 hcz73_7 hcz73_8 hcz73_9 hfz73_0 hfz73_1 hfz73_2 hfz73_3 hfz73_4 hfz73_5 hfz73_6 hfz73_7 hfz73_8 hfz73_9
                      try clear hcz74_0 hcz74_1 hcz74_2 hcz74_3 hcz74_4 hcz74_5 hcz74_6 hcz74_7 hcz74_8 hcz74_9 hfz74_0 hfz74_1 hfz74_2 hfz74_3 hfz74_4 hfz74_5 hfz74_6 hfz74_7 hfz74_8 hfz74_9
                      try clear hcz83_0 hcz83_1 hcz83_2 hcz83_3 hcz83_4 hcz83_5 hcz83_6 hcz83_7 hcz83_8 hcz83_9 hfz83_0 hfz83_1 hfz83_2 hfz83_3 hfz83_4 hfz83_5 hfz83_6 hfz83_7 hfz83_8 hfz83_9
                      try clear hfz26_0 hfz26_1 hfz26_2 hfz26_3 hfz26_4 hfz26_5 hfz26_6 hfz26_7 hfz26_8 hfz26_9
                      try clear hfz29_0 hfz29_1 hfz29_2 hfz29_3 hfz29_4 hfz29_5 hfz29_6 hfz29_7 hfz29_8 hfz29_9
                      try clear hfz30_0 hfz30_1 hfz30_2 hfz30_3 hfz30_4 hfz30_5 hfz30_6 hfz30_7 hfz30_8 hfz30_9
                      try clear hfz31_0 hfz31_1 hfz31_2 hfz31_3 hfz31_4 hfz31_5 hfz31_6 hfz31_7 hfz31_8 hfz31_9
                      try clear hfz34_0 hfz34_1 hfz34_2 hfz34_3 hfz34_4 hfz34_5 hfz34_6 hfz34_7 hfz34_8 hfz34_9
                      try clear hfz35_0 hfz35_1 hfz35_2 hfz35_3 hfz35_4 hfz35_5 hfz35_6 hfz35_7 hfz35_8 hfz35_9
                      try clear hfz36_0 hfz36_1 hfz36_2 hfz36_3 hfz36_4 hfz36_5 hfz36_6 hfz36_7 hfz36_8 hfz36_9
                      try clear hfz38_0 hfz38_1 hfz38_2 hfz38_3 hfz38_4 hfz38_5 hfz38_6 hfz38_7 hfz38_8 hfz38_9
                      try clear hfz41_0 hfz41_1 hfz41_2 hfz41_3 hfz41_4 hfz41_5 hfz41_6 hfz41_7 hfz41_8 hfz41_9
                      try clear hfz44_0 hfz44_1 hfz44_2 hfz44_3 hfz44_4 hfz44_5 hfz44_6 hfz44_7 hfz44_8 hfz44_9
                      try clear p2
                      obtain ⟨kq, x4_81, HA, HJ81, HO_4, BK888, HB⟩ := hcut
                      cases kq with
                      | zero => exact absurd HA.out (by simp [marlineref17_Put.j5])
                      | succ kj81 =>
                       have H := HA.out
                       clear HA
                       simp only [marlineref17_Put.j5] at H
                       replace H := Option.bind_eq_some_iff.mp H
                       obtain ⟨⟨t907, t908⟩, A900, H⟩ := H
                       replace H : (some (t907, t908)) = some (r1, r2) := H
                       have A90 := Aside0.mk A900
                       clear A900
                       simp only [Option.some.injEq, Prod.mk.injEq] at H
                       obtain ⟨rfl, rfl⟩ := H
                       obtain ⟨⟨hcz91_0, hcz91_1, hcz91_2, hcz91_3, hcz91_4, hcz91_5, hcz91_6, hcz91_7, hcz91_8, hcz91_9⟩, hfz91_0, hfz91_1, hfz91_2, hfz91_3, hfz91_4, hfz91_5, hfz91_6, hfz91_7, hfz91_8, hfz91_9⟩ := cz10 BK888.out
                       obtain ⟨Ao92, co92, eo92⟩ := Kd.R_slice HO_4.out
                       subst eo92
                       go_wp2_with (first | ((with_reducible refine gate_callee (f := 52) rfl ?_); refine goesL_ (some 119) rfl rfl Try.func52 (by kernel_rfl) rfl #[.int .u8 a0_1, .int .u8 a0_2, .slice Ao92 x4_81.length co92] rfl (by (try simp only [List.map_toArray, List.map_cons, List.map_nil]); first | done | rfl | (simp only [List.length_drop, List.length_take]; rfl)) ?_; (with_reducible refine (marlineref13_Put.calls a0_1 a0_2 _ _ x4_81 t907 t908 _ ?side1 ?side2 A90.out).mono ?_); (case side1 => repeat (first | exact (Kd.R_reads' HO_4.out).2.2 | (with_reducible refine Kd.C_alloc ?_ _) | (with_reducible refine Kd.C_drewN ?_ _) | (with_reducible refine Kd.C_drew ?_))); (case side2 => exact (Kd.R_reads' HO_4.out).2.1); rintro e w93 ⟨v909, rfl, ho0, hb⟩; refine ⟨_, rfl, ?_⟩; have n0_ := Aside0.mk (Kd.R_elder' (by (with_reducible repeat (first | apply Kd.R_alloc | apply Kd.R_drewN | apply Kd.R_drew)); exact HO_4.out) (Kd.R_base ho0) hb); have n1_ := Aside0.mk (Kd.R_lower (Kd.R_new' ho0 (Kd.R_lt (by (with_reducible repeat (first | apply Kd.R_alloc | apply Kd.R_drewN | apply Kd.R_drew)); exact HO_4.out))) (below_size (by repeat (first | (with_reducible first | exact HB.out | apply below_alloc | apply pw_below_drewN | apply below_drew1 | refine below_set ?_ GE888.out) | exact HB.out)))); have n2_ := Aside0.mk (blk_below (g := gb888) (o := .cells #[.int .u16 a0_0, .int .u8 a0_1, .int .u8 a0_2, .slice A0_3 l0_3.length c0_3, .int .u16 a0_4, .int .u32 a0_5, .slice A0_6 l0_6.length c0_6, .slice A0_7 l0_7.length c0_7, .slice A0_8 l0_8.length c0_8, .slice A0_9 l0_9.length c0_9] 44 (0, 0)) (by (with_reducible repeat (first | refine blk_drewN ?_ _ | refine blk_drew ?_ | refine blk_alloc ?_ _)); exact BK888.out) hb); have n3_ := Aside0.mk (below_step (by repeat (first | (with_reducible first | exact HB.out | apply below_alloc | apply pw_below_drewN | apply below_drew1 | refine below_set ?_ GE888.out) | exact HB.out)) hb); clear HO_4; clear BK888; clear HB; have HO_4 := n0_; have HO910 := n1_; have BK888 := n2_; have HB := n3_; clear n0_ n1_ n2_ n3_; (try clear hb); (try clear hb2); (try clear hk); (try clear hi); (try clear ho0)))
                       go_ret2
                       exact ⟨_, by first | rfl | (simp [errW_none, errW_some] <;> rfl) | (simp [*, errW_none, errW_some] <;> rfl), by (with_reducible repeat (first | apply Kd.R_alloc | apply Kd.R_drewN | apply Kd.R_drew)); exact Kd.R_mono HO910.out (fun _ hk => trivial), by repeat (first | (with_reducible first | exact HB.out | apply below_alloc | apply pw_below_drewN | apply below_drew1 | refine below_set ?_ GE888.out) | exact HB.out)⟩
               · rw [if_neg c66] at H
                 exact absurd H (by simp)
 · rw [if_neg c2] at H
   have c2b0 : (a0_0 == 49187) = false := beq_eq_false_iff_ne.mpr c2
   have c2b1 : (a0_0 != 49187) = true := bne_iff_ne.mpr c2
   simp only [Option.some.injEq, Prod.mk.injEq] at H
   obtain ⟨rfl, rfl⟩ := H
   go_enter Try.func32, Try.ntmps32
   go_wp2_with (first | ((with_reducible refine gate_dst (N := 1) rfl ?_); (try (refine gate_guard (by rfl) ?_; dsimp only)); refine box_event ?hg (N := 1) ?hd (cs := #[.int .u16 a0_0, .int .u8 a0_1, .int .u8 a0_2, .slice A0_3 l0_3.length c0_3, .int .u16 a0_4, .int .u32 a0_5, .slice A0_6 l0_6.length c0_6, .slice A0_7 l0_7.length c0_7, .slice A0_8 l0_8.length c0_8, .slice A0_9 l0_9.length c0_9]) (t := 44) ?hr ?_; (case hd => rfl); (case hg => rfl); (case hr => first | (go_simp; done) | (go_simp; simp only [IntKind.wrap_u8, IntKind.wrap_u16, IntKind.wrap_u32, IntKind.wrap_u64]; done) | (go_simp; simp only [IntKind.wrap_u8, IntKind.wrap_u16, IntKind.wrap_u32, IntKind.wrap_u64, Int.tmod_eq_emod_of_nonneg (Int.natCast_nonneg _), Int.emod_emod]; done) | (go_simp; rfl)); intro gb888 hg w94 hbox hb; have n0_ := Aside0.mk (below_step (by repeat (first | (with_reducible first | exact HB.out | apply below_alloc | apply pw_below_drewN | apply below_drew1) | exact HB.out)) hb); have n1_ := Aside0.mk (hbox); have n2_ := Aside0.mk ((by rw [hg]; exact (below_size (by repeat (first | (with_reducible first | exact HB.out | apply below_alloc | apply pw_below_drewN | apply below_drew1) | exact HB.out))) : w.heap.size ≤ gb888)); have n3_ := Aside0.mk ((by rw [hg]; exact (below_size (by repeat (first | (with_reducible first | exact HB.out | apply below_alloc | apply pw_below_drewN | apply below_drew1) | exact HB.out))) : w.heap.size ≤ gb888)); clear HB; have HB := n0_; have BK888 := n1_; have GW888 := n2_; have GE888 := n3_; clear n0_ n1_ n2_ n3_; clear hb hbox hg; obtain ⟨⟨hcz95_0, hcz95_1, hcz95_2, hcz95_3, hcz95_4, hcz95_5, hcz95_6, hcz95_7, hcz95_8, hcz95_9⟩, hfz95_0, hfz95_1, hfz95_2, hfz95_3, hfz95_4, hfz95_5, hfz95_6, hfz95_7, hfz95_8, hfz95_9⟩ := cz10 BK888.out))
   go_ret2
   exact ⟨_, by first | rfl | (simp [errW_none, errW_some] <;> rfl) | (simp [*, errW_none, errW_some] <;> rfl), by first | exact Kd.R_nil _ _ _ _ _ | exact Kd.N_nil _ _ _ _ _ | exact Kd.V_nil _ _ _ _ _ | exact Kd.Q_nil _ _ _ _ _ | exact Kd.S_nil _ _ _ _ _, by repeat (first | (with_reducible first | exact HB.out | apply below_alloc | apply pw_below_drewN | apply below_drew1 | refine below_set ?_ GE888.out) | exact HB.out)⟩
end Go.Proofs.Ytgjeahgagciagaa.Print
