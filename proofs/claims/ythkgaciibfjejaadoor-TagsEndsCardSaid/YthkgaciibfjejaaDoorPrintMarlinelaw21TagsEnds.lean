/- A text that a program of this claim (wip/x) laid out of the translation: what Go functions come to, and that they come to it. Lean checks it. -/
import Derived.Test.YthkgaciibfjejaaDoorPrint0
import Derived.Test.YthkgaciibfjejaaDoorPrintMarlinelaw21Few
import Derived.Test.YthkgaciibfjejaaDoorPrintMarlinelaw21Of
import Derived.Test.YthkgaciibfjejaaDoorPrintMarlinelaw21Speaks
import Derived.Test.YthkgaciibfjejaaDoorPrintMarlinelaw21To
import Derived.Test.YthkgaciibfjejaaDoorPrintMarlineref21Same
import Derived.Test.YthkgaciibfjejaaDoorPrintTagsGet
import Derived.Test.YthkgaciibfjejaaDoorPrintTagsName
import Derived.Test.YthkgaciibfjejaaDoorPrintTagsPut
namespace Go.Proofs.YthkgaciibfjejaaDoor.Print
open Go.RowKit Go.Proofs.YthkgaciibfjejaaDoorW.PrintWords Go.Proofs.YthkgaciibfjejaaDoorW.PrintLast Go.Proofs.YthkgaciibfjejaaDoorW.PrintMore
attribute [local go_sem] max2_int min2_int max_two min_two max_three min_three max_four min_four   -- for this text's walks alone
set_option linter.unusedVariables false
set_option linter.unusedSimpArgs false

/-! ### marlinelaw21_TagsEnds: function 6 -/
mutual
def marlinelaw21_TagsEnds.j0 : Nat → List (S32) → List Int → Int → Bool → Option (Bool)
  | 0, _, _, _, _ => none
  | k + 1, x0, x1, x2, x27 => if x27 = true then ((marlinelaw21_speaks.f k).bind fun t197 => (some t197)) else ((marlinelaw21_Of.f k x0).bind fun t198 => ((tags_Put.f k t198).bind fun bt201 => (if bt201.2 = 0 then ((some (([] : List Int) : List Int)).bind fun y205 => (if y205.length + bt201.1.length < 140737488355328 then ((some (y205 ++ bt201.1 : List Int)).bind fun y208 => ((some (([0, 0, 0, 0] : List Int) : List Int)).bind fun y211 => (if y208.length + y211.length < 140737488355328 then ((some (y208 ++ y211 : List Int)).bind fun y214 => (if y214.length + x1.length < 140737488355328 then ((tags_Get.f k (y214 ++ x1)).bind fun bt220 => (if bt220.2.2 = 0 then (if bt220.2.1 = (wrap64 ((bt201.1.length : Int) + 4)) then ((marlinelaw21_To.f k bt220.1).bind fun t225 => ((marlineref21_Same.f k t225 x0).bind fun t228 => (marlinelaw21_TagsEnds.j1 k x0 x2 bt201.1 (!t228)))) else (marlinelaw21_TagsEnds.j1 k x0 x2 bt201.1 true)) else (marlinelaw21_TagsEnds.j1 k x0 x2 bt201.1 true))) else (none))) else (none)))) else (none))) else (some ((bt201.1.length : Int) == 0)))))
def marlinelaw21_TagsEnds.j1 : Nat → List (S32) → Int → List Int → Bool → Option (Bool)
  | 0, _, _, _, _ => none
  | k + 1, x0, x2, x7, x67 => if x67 = true then (none) else (if (x7.length : Int) = 0 then (some true) else (if 0 ≤ (Int.tmod (wrap64 (x2)) (x7.length : Int)) then (if (Int.tmod (wrap64 (x2)) (x7.length : Int)) ≤ (x7.length : Int) then ((tags_Get.f k (x7.take ((Int.tmod (wrap64 (x2)) (x7.length : Int)) : Int).toNat)).bind fun bt234 => (if bt234.2.2 = 0 then (if bt234.2.1 = (Int.tmod (wrap64 (x2)) (x7.length : Int)) then (if (bt234.1.length : Int) < (x0.length : Int) then ((marlinelaw21_To.f k bt234.1).bind fun t239 => (if 0 ≤ (bt234.1.length : Int) then (if (bt234.1.length : Int) ≤ (x0.length : Int) then ((marlineref21_Same.f k t239 (x0.take ((bt234.1.length : Int) : Int).toNat)).bind fun t246 => (some t246)) else (none)) else (none))) else (none)) else (none)) else (if bt234.2.2 = 2 then (if (bt234.1.length : Int) = 0 then (some (bt234.2.1 == 0)) else (none)) else (none)))) else (none)) else (none)))
end
def marlinelaw21_TagsEnds.f (k : Nat) (l0 : List (S32)) (l1 : List Int) (a2 : Int) : Option (Bool) := (marlinelaw21_speaks.f k).bind fun t195 => (if t195 = true then ((marlinelaw21_Few.f k l0).bind fun t196 => (if t196 = true then (marlinelaw21_TagsEnds.j0 k l0 l1 a2 (decide ((l1.length : Int) > 1000))) else (marlinelaw21_TagsEnds.j0 k l0 l1 a2 true))) else (marlinelaw21_TagsEnds.j0 k l0 l1 a2 true))
theorem marlinelaw21_TagsEnds.mono_l : ∀ k, (∀ y0 y1 y2 y3, LeO (marlinelaw21_TagsEnds.j0 k y0 y1 y2 y3) (marlinelaw21_TagsEnds.j0 (k + 1) y0 y1 y2 y3)) ∧ (∀ y0 y1 y2 y3, LeO (marlinelaw21_TagsEnds.j1 k y0 y1 y2 y3) (marlinelaw21_TagsEnds.j1 (k + 1) y0 y1 y2 y3))
  | 0 => ⟨fun _ _ _ _ r h => by simp [marlinelaw21_TagsEnds.j0] at h, fun _ _ _ _ r h => by simp [marlinelaw21_TagsEnds.j1] at h⟩
  | k + 1 => by
    obtain ⟨ih0, ih1⟩ := marlinelaw21_TagsEnds.mono_l k
    refine ⟨?_, ?_⟩
    · intro y0 y1 y2 y3
      unfold marlinelaw21_TagsEnds.j0
      repeat' first
      | (with_reducible exact ih0 _ _ _ _)
      | (with_reducible exact ih1 _ _ _ _)
      | (with_reducible exact marlinelaw21_Few.mono _ _)
      | (with_reducible exact marlinelaw21_Of.mono _ _)
      | (with_reducible exact marlinelaw21_To.mono _ _)
      | (with_reducible exact marlinelaw21_speaks.mono _)
      | (with_reducible exact marlineref21_Same.mono _ _ _)
      | (with_reducible exact tags_Get.mono _ _)
      | (with_reducible exact tags_Put.mono _ _)
      | (with_reducible exact LeO.refl _)
      | (with_reducible exact LeO.none _)
      | (with_reducible refine LeO.ite ?_ ?_)
      | (with_reducible refine LeO.bind ?_ (fun _ => ?_))
      | exact ih0 _ _ _ _
      | exact ih1 _ _ _ _
      | exact marlinelaw21_Few.mono _ _
      | exact marlinelaw21_Of.mono _ _
      | exact marlinelaw21_To.mono _ _
      | exact marlinelaw21_speaks.mono _
      | exact marlineref21_Same.mono _ _ _
      | exact tags_Get.mono _ _
      | exact tags_Put.mono _ _
      | exact LeO.none _
      | refine LeO.ite ?_ ?_
      | refine LeO.bind ?_ (fun _ => ?_)
    · intro y0 y1 y2 y3
      unfold marlinelaw21_TagsEnds.j1
      repeat' first
      | (with_reducible exact ih0 _ _ _ _)
      | (with_reducible exact ih1 _ _ _ _)
      | (with_reducible exact marlinelaw21_Few.mono _ _)
      | (with_reducible exact marlinelaw21_Of.mono _ _)
      | (with_reducible exact marlinelaw21_To.mono _ _)
      | (with_reducible exact marlinelaw21_speaks.mono _)
      | (with_reducible exact marlineref21_Same.mono _ _ _)
      | (with_reducible exact tags_Get.mono _ _)
      | (with_reducible exact tags_Put.mono _ _)
      | (with_reducible exact LeO.refl _)
      | (with_reducible exact LeO.none _)
      | (with_reducible refine LeO.ite ?_ ?_)
      | (with_reducible refine LeO.bind ?_ (fun _ => ?_))
      | exact ih0 _ _ _ _
      | exact ih1 _ _ _ _
      | exact marlinelaw21_Few.mono _ _
      | exact marlinelaw21_Of.mono _ _
      | exact marlinelaw21_To.mono _ _
      | exact marlinelaw21_speaks.mono _
      | exact marlineref21_Same.mono _ _ _
      | exact tags_Get.mono _ _
      | exact tags_Put.mono _ _
      | exact LeO.none _
      | refine LeO.ite ?_ ?_
      | refine LeO.bind ?_ (fun _ => ?_)
theorem marlinelaw21_TagsEnds.mono : ∀ a0 a1 a2 k, LeO (marlinelaw21_TagsEnds.f k a0 a1 a2) (marlinelaw21_TagsEnds.f (k + 1) a0 a1 a2) := by
  intro a0 a1 a2 k
  obtain ⟨ih0, ih1⟩ := marlinelaw21_TagsEnds.mono_l k
  unfold marlinelaw21_TagsEnds.f
  repeat' first
      | (with_reducible exact ih0 _ _ _ _)
      | (with_reducible exact ih1 _ _ _ _)
      | (with_reducible exact marlinelaw21_Few.mono _ _)
      | (with_reducible exact marlinelaw21_Of.mono _ _)
      | (with_reducible exact marlinelaw21_To.mono _ _)
      | (with_reducible exact marlinelaw21_speaks.mono _)
      | (with_reducible exact marlineref21_Same.mono _ _ _)
      | (with_reducible exact tags_Get.mono _ _)
      | (with_reducible exact tags_Put.mono _ _)
      | (with_reducible exact LeO.refl _)
      | (with_reducible exact LeO.none _)
      | (with_reducible refine LeO.ite ?_ ?_)
      | (with_reducible refine LeO.bind ?_ (fun _ => ?_))
      | exact ih0 _ _ _ _
      | exact ih1 _ _ _ _
      | exact marlinelaw21_Few.mono _ _
      | exact marlinelaw21_Of.mono _ _
      | exact marlinelaw21_To.mono _ _
      | exact marlinelaw21_speaks.mono _
      | exact marlineref21_Same.mono _ _ _
      | exact tags_Get.mono _ _
      | exact tags_Put.mono _ _
      | exact LeO.none _
      | refine LeO.ite ?_ ?_
      | refine LeO.bind ?_ (fun _ => ?_)
def marlinelaw21_TagsEnds.T15 : Bool × List (List Nat × List Nat) := (true, [([], []), ([], []), ([0, 1], [0, 1]), ([2], [2]), ([3], [3]), ([4, 3], [3, 4]), ([3], [3]), ([6, 3], [3, 6]), ([5, 7, 3], [3, 5, 7]), ([3, 8], [3, 8]), ([9, 3], [9]), ([10], [10]), ([11, 10, 10], [10, 11]), ([10], [10]), ([10], [10]), ([14, 10], [10, 14]), ([13, 15, 10], [10, 13, 15]), ([12, 16, 12, 10], [10, 12, 16]), ([10, 17], [10, 17]), ([18, 17, 0, 1, 2, 3, 4, 5, 6, 7, 8, 9, 10, 11, 12, 13, 14, 15, 16, 17, 18], [18])])
def marlinelaw21_TagsEnds.B15 : List Nat := [0, 0, 3, 7, 15, 31, 15, 79, 255, 511, 1023, 2047, 4095, 2047, 2047, 18431, 59391, 131071, 262143, 524287]
theorem marlinelaw21_TagsEnds.tab15 : rtab .any (opsOf Tryd.f6 15) = marlinelaw21_TagsEnds.T15 := by kernel_rfl
theorem marlinelaw21_TagsEnds.bits15 : waitsOk marlinelaw21_TagsEnds.T15.2 marlinelaw21_TagsEnds.B15 = true := by kernel_rfl
set_option maxHeartbeats 8000000 in
set_option maxRecDepth 100000 in
theorem marlinelaw21_TagsEnds.calls (k : Nat) (A0 : Option Addr) (c0 : Nat) (l0 : List (S32)) (A1 : Option Addr) (c1 : Nat) (l1 : List Int) (a2 : Int) (r : Bool) (w : World) (hr0 : Kd.C k32 w A0 l0.length l0) (hc0 : l0.length ≤ c0) (hr1 : Kd.C (Kd.int .u8) w A1 l1.length l1) (hc1 : l1.length ≤ c1) (h : marlinelaw21_TagsEnds.f k l0 l1 a2 = some r) (hGL : GL w := by first | exact hGL | exact hGL.below HB.out | exact hGL.below (by repeat (first | (with_reducible first | exact HB.out | apply below_alloc | apply pw_below_drewN | apply below_drew1) | exact HB.out))) :
    Calls Tryd.prog 6 #[.slice A0 l0.length c0, .slice A1 l1.length c1, .int .u16 a2] w fun e w' => e = .returned (.bool r) ∧ Below w.heap.size w w' := by
  have HR0 := Aside0.mk hr0
  have HC0 := Aside0.mk hc0
  clear hr0 hc0
  have HR1 := Aside0.mk hr1
  have HC1 := Aside0.mk hc1
  clear hr1 hc1
  have HB := Aside0.mk (Below.refl w.heap.size w)
  have H : ((marlinelaw21_speaks.f k).bind fun t195 => (if t195 = true then ((marlinelaw21_Few.f k l0).bind fun t196 => (if t196 = true then (marlinelaw21_TagsEnds.j0 k l0 l1 a2 (decide ((l1.length : Int) > 1000))) else (marlinelaw21_TagsEnds.j0 k l0 l1 a2 true))) else (marlinelaw21_TagsEnds.j0 k l0 l1 a2 true))) = some r := h
  clear h
  have HC4 := Aside0.mk H
  clear H
  go_enter Tryd.func6, Tryd.ntmps6
  go_upto_region 1 with (fail)
  go_cut [27] (fun v27 wc => ∃ (kq : Nat) (x27_3 : Bool), v27 = .bool x27_3 ∧ Aside0 (marlinelaw21_TagsEnds.j0 kq l0 l1 a2 x27_3 = some r) ∧ Aside0 (kq ≤ k) ∧ Aside0 (Below w.heap.size w wc))
  case first =>
    have H := HC4.out
    clear HC4
    replace H := Option.bind_eq_some_iff.mp H
    obtain ⟨t195, A50, H⟩ := H
    replace H : (if t195 = true then ((marlinelaw21_Few.f k l0).bind fun t196 => (if t196 = true then (marlinelaw21_TagsEnds.j0 k l0 l1 a2 (decide ((l1.length : Int) > 1000))) else (marlinelaw21_TagsEnds.j0 k l0 l1 a2 true))) else (marlinelaw21_TagsEnds.j0 k l0 l1 a2 true)) = some r := H
    have A5 := Aside0.mk A50
    clear A50
    by_cases c6 : t195 = true
    · subst c6
      have H1 : ((marlinelaw21_Few.f k l0).bind fun t196 => (if t196 = true then (marlinelaw21_TagsEnds.j0 k l0 l1 a2 (decide ((l1.length : Int) > 1000))) else (marlinelaw21_TagsEnds.j0 k l0 l1 a2 true))) = some r := by rw [if_pos rfl] at H; exact H
      clear H
      have H := H1
      clear H1
      replace H := Option.bind_eq_some_iff.mp H
      obtain ⟨t196, A70, H⟩ := H
      replace H : (if t196 = true then (marlinelaw21_TagsEnds.j0 k l0 l1 a2 (decide ((l1.length : Int) > 1000))) else (marlinelaw21_TagsEnds.j0 k l0 l1 a2 true)) = some r := H
      have A7 := Aside0.mk A70
      clear A70
      by_cases c8 : t196 = true
      · subst c8
        have H1 : (marlinelaw21_TagsEnds.j0 k l0 l1 a2 (decide ((l1.length : Int) > 1000))) = some r := by rw [if_pos rfl] at H; exact H
        clear H
        have H := H1
        clear H1
        have H' := Aside0.mk H
        clear H
        go_wp2_with (first | ((with_reducible refine gate_callee (f := 7) rfl ?_); refine goesL_ (some 16) rfl rfl Tryd.func7 (by kernel_rfl) rfl #[] rfl (by (try simp only [List.map_toArray, List.map_cons, List.map_nil]); first | done | rfl | (simp only [List.length_drop, List.length_take]; rfl)) ?_; (with_reducible refine (marlinelaw21_speaks.calls k  true _ A5.out).mono ?_); rintro e w9 ⟨rfl, hb⟩; refine ⟨_, rfl, ?_⟩; have n0_ := Aside0.mk (below_step (by repeat (first | (with_reducible first | exact HB.out | apply below_alloc | apply pw_below_drewN | apply below_drew1) | exact HB.out)) hb); clear HB; have HB := n0_; clear n0_; (try clear hb); (try clear hb2); (try clear hk); (try clear hi)) | (go_at_call 8; (with_reducible refine (marlinelaw21_Few.calls k _ _ l0 true _ ?side1 ?side2 A7.out).mono ?_); (case side1 => repeat (first | exact (Kd.C_below HR0.out HB.out) | (with_reducible refine Kd.C_alloc ?_ _) | (with_reducible refine Kd.C_drewN ?_ _) | (with_reducible refine Kd.C_drew ?_))); (case side2 => exact HC0.out); rintro e w10 ⟨rfl, hb⟩; have n0_ := Aside0.mk (below_step (by repeat (first | (with_reducible first | exact HB.out | apply below_alloc | apply pw_below_drewN | apply below_drew1) | exact HB.out)) hb); clear HB; have HB := n0_; clear n0_; (try clear hb); (try clear hb2); (try clear hk); (try clear hi)))
        go_meet
        case rel => exact ⟨_, (decide ((l1.length : Int) > 1000)), (by first | rfl | (simp; done) | (simp [*]; done)), H', ⟨by first | omega | exact Nat.le_refl _⟩, ⟨by repeat (first | (with_reducible first | exact HB.out | apply below_alloc | apply pw_below_drewN | apply below_drew1) | exact HB.out)⟩⟩
      · replace c8 := Bool.eq_false_iff.mpr c8
        subst c8
        have H1 : (marlinelaw21_TagsEnds.j0 k l0 l1 a2 true) = some r := by rw [if_neg (show ¬ (false = true) by decide)] at H; exact H
        clear H
        have H := H1
        clear H1
        have H' := Aside0.mk H
        clear H
        go_wp2_with (first | ((with_reducible refine gate_callee (f := 7) rfl ?_); refine goesL_ (some 16) rfl rfl Tryd.func7 (by kernel_rfl) rfl #[] rfl (by (try simp only [List.map_toArray, List.map_cons, List.map_nil]); first | done | rfl | (simp only [List.length_drop, List.length_take]; rfl)) ?_; (with_reducible refine (marlinelaw21_speaks.calls k  true _ A5.out).mono ?_); rintro e w11 ⟨rfl, hb⟩; refine ⟨_, rfl, ?_⟩; have n0_ := Aside0.mk (below_step (by repeat (first | (with_reducible first | exact HB.out | apply below_alloc | apply pw_below_drewN | apply below_drew1) | exact HB.out)) hb); clear HB; have HB := n0_; clear n0_; (try clear hb); (try clear hb2); (try clear hk); (try clear hi)) | (go_at_call 8; (with_reducible refine (marlinelaw21_Few.calls k _ _ l0 false _ ?side1 ?side2 A7.out).mono ?_); (case side1 => repeat (first | exact (Kd.C_below HR0.out HB.out) | (with_reducible refine Kd.C_alloc ?_ _) | (with_reducible refine Kd.C_drewN ?_ _) | (with_reducible refine Kd.C_drew ?_))); (case side2 => exact HC0.out); rintro e w12 ⟨rfl, hb⟩; have n0_ := Aside0.mk (below_step (by repeat (first | (with_reducible first | exact HB.out | apply below_alloc | apply pw_below_drewN | apply below_drew1) | exact HB.out)) hb); clear HB; have HB := n0_; clear n0_; (try clear hb); (try clear hb2); (try clear hk); (try clear hi)))
        go_meet
        case rel => exact ⟨_, (true), (by first | rfl | (simp; done) | (simp [*]; done)), H', ⟨by first | omega | exact Nat.le_refl _⟩, ⟨by repeat (first | (with_reducible first | exact HB.out | apply below_alloc | apply pw_below_drewN | apply below_drew1) | exact HB.out)⟩⟩
    · replace c6 := Bool.eq_false_iff.mpr c6
      subst c6
      have H1 : (marlinelaw21_TagsEnds.j0 k l0 l1 a2 true) = some r := by rw [if_neg (show ¬ (false = true) by decide)] at H; exact H
      clear H
      have H := H1
      clear H1
      have H' := Aside0.mk H
      clear H
      go_wp2_with (first | ((with_reducible refine gate_callee (f := 7) rfl ?_); refine goesL_ (some 16) rfl rfl Tryd.func7 (by kernel_rfl) rfl #[] rfl (by (try simp only [List.map_toArray, List.map_cons, List.map_nil]); first | done | rfl | (simp only [List.length_drop, List.length_take]; rfl)) ?_; (with_reducible refine (marlinelaw21_speaks.calls k  false _ A5.out).mono ?_); rintro e w13 ⟨rfl, hb⟩; refine ⟨_, rfl, ?_⟩; have n0_ := Aside0.mk (below_step (by repeat (first | (with_reducible first | exact HB.out | apply below_alloc | apply pw_below_drewN | apply below_drew1) | exact HB.out)) hb); clear HB; have HB := n0_; clear n0_; (try clear hb); (try clear hb2); (try clear hk); (try clear hi)))
      go_meet
      case rel => exact ⟨_, (true), (by first | rfl | (simp; done) | (simp [*]; done)), H', ⟨by first | omega | exact Nat.le_refl _⟩, ⟨by repeat (first | (with_reducible first | exact HB.out | apply below_alloc | apply pw_below_drewN | apply below_drew1) | exact HB.out)⟩⟩
  case rest =>
    clear HC4
    try clear c1
    try clear p2
    try clear c6
    try clear c7
    try clear c8
    obtain ⟨kq, x27_3, rfl, HA, HJ3, HB⟩ := hcut
    cases kq with
    | zero => exact absurd HA.out (by simp [marlinelaw21_TagsEnds.j0])
    | succ kj3 =>
      have H := HA.out
      clear HA
      simp only [marlinelaw21_TagsEnds.j0] at H
      by_cases c14 : x27_3 = true
      · subst c14
        have H1 : ((marlinelaw21_speaks.f kj3).bind fun t197 => (some t197)) = some r := by rw [if_pos rfl] at H; exact H
        clear H
        have H := H1
        clear H1
        replace H := Option.bind_eq_some_iff.mp H
        obtain ⟨t197, A150, H⟩ := H
        replace H : (some t197) = some r := H
        have A15 := Aside0.mk A150
        clear A150
        obtain rfl := Option.some.inj H
        go_wp2_with (first | ((with_reducible refine gate_callee (f := 7) rfl ?_); refine goesL_ (some 28) rfl rfl Tryd.func7 (by kernel_rfl) rfl #[] rfl (by (try simp only [List.map_toArray, List.map_cons, List.map_nil]); first | done | rfl | (simp only [List.length_drop, List.length_take]; rfl)) ?_; (with_reducible refine (marlinelaw21_speaks.calls kj3  t197 _ A15.out).mono ?_); rintro e w16 ⟨rfl, hb⟩; refine ⟨_, rfl, ?_⟩; have n0_ := Aside0.mk (below_step (by repeat (first | (with_reducible first | exact HB.out | apply below_alloc | apply pw_below_drewN | apply below_drew1) | exact HB.out)) hb); clear HB; have HB := n0_; clear n0_; (try clear hb); (try clear hb2); (try clear hk); (try clear hi)))
        go_ret
        exact ⟨by first | rfl | (simp [errW_none, errW_some] <;> rfl) | (simp [*, errW_none, errW_some] <;> rfl), by repeat (first | (with_reducible first | exact HB.out | apply below_alloc | apply pw_below_drewN | apply below_drew1) | exact HB.out)⟩
      · replace c14 := Bool.eq_false_iff.mpr c14
        subst c14
        have H1 : ((marlinelaw21_Of.f kj3 l0).bind fun t198 => ((tags_Put.f kj3 t198).bind fun bt201 => (if bt201.2 = 0 then ((some (([] : List Int) : List Int)).bind fun y205 => (if y205.length + bt201.1.length < 140737488355328 then ((some (y205 ++ bt201.1 : List Int)).bind fun y208 => ((some (([0, 0, 0, 0] : List Int) : List Int)).bind fun y211 => (if y208.length + y211.length < 140737488355328 then ((some (y208 ++ y211 : List Int)).bind fun y214 => (if y214.length + l1.length < 140737488355328 then ((tags_Get.f kj3 (y214 ++ l1)).bind fun bt220 => (if bt220.2.2 = 0 then (if bt220.2.1 = (wrap64 ((bt201.1.length : Int) + 4)) then ((marlinelaw21_To.f kj3 bt220.1).bind fun t225 => ((marlineref21_Same.f kj3 t225 l0).bind fun t228 => (marlinelaw21_TagsEnds.j1 kj3 l0 a2 bt201.1 (!t228)))) else (marlinelaw21_TagsEnds.j1 kj3 l0 a2 bt201.1 true)) else (marlinelaw21_TagsEnds.j1 kj3 l0 a2 bt201.1 true))) else (none))) else (none)))) else (none))) else (some ((bt201.1.length : Int) == 0))))) = some r := by rw [if_neg (show ¬ (false = true) by decide)] at H; exact H
        clear H
        have H := H1
        clear H1
        replace H := Option.bind_eq_some_iff.mp H
        obtain ⟨t198, A170, H⟩ := H
        replace H : ((tags_Put.f kj3 t198).bind fun bt201 => (if bt201.2 = 0 then ((some (([] : List Int) : List Int)).bind fun y205 => (if y205.length + bt201.1.length < 140737488355328 then ((some (y205 ++ bt201.1 : List Int)).bind fun y208 => ((some (([0, 0, 0, 0] : List Int) : List Int)).bind fun y211 => (if y208.length + y211.length < 140737488355328 then ((some (y208 ++ y211 : List Int)).bind fun y214 => (if y214.length + l1.length < 140737488355328 then ((tags_Get.f kj3 (y214 ++ l1)).bind fun bt220 => (if bt220.2.2 = 0 then (if bt220.2.1 = (wrap64 ((bt201.1.length : Int) + 4)) then ((marlinelaw21_To.f kj3 bt220.1).bind fun t225 => ((marlineref21_Same.f kj3 t225 l0).bind fun t228 => (marlinelaw21_TagsEnds.j1 kj3 l0 a2 bt201.1 (!t228)))) else (marlinelaw21_TagsEnds.j1 kj3 l0 a2 bt201.1 true)) else (marlinelaw21_TagsEnds.j1 kj3 l0 a2 bt201.1 true))) else (none))) else (none)))) else (none))) else (some ((bt201.1.length : Int) == 0)))) = some r := H
        have A17 := Aside0.mk A170
        clear A170
        replace H := Option.bind_eq_some_iff.mp H
        obtain ⟨⟨t201, t202⟩, A180, H⟩ := H
        replace H : (if t202 = 0 then ((some (([] : List Int) : List Int)).bind fun y205 => (if y205.length + t201.length < 140737488355328 then ((some (y205 ++ t201 : List Int)).bind fun y208 => ((some (([0, 0, 0, 0] : List Int) : List Int)).bind fun y211 => (if y208.length + y211.length < 140737488355328 then ((some (y208 ++ y211 : List Int)).bind fun y214 => (if y214.length + l1.length < 140737488355328 then ((tags_Get.f kj3 (y214 ++ l1)).bind fun bt220 => (if bt220.2.2 = 0 then (if bt220.2.1 = (wrap64 ((t201.length : Int) + 4)) then ((marlinelaw21_To.f kj3 bt220.1).bind fun t225 => ((marlineref21_Same.f kj3 t225 l0).bind fun t228 => (marlinelaw21_TagsEnds.j1 kj3 l0 a2 t201 (!t228)))) else (marlinelaw21_TagsEnds.j1 kj3 l0 a2 t201 true)) else (marlinelaw21_TagsEnds.j1 kj3 l0 a2 t201 true))) else (none))) else (none)))) else (none))) else (some ((t201.length : Int) == 0))) = some r := H
        have A18 := Aside0.mk A180
        clear A180
        by_cases c19 : t202 = 0
        · rw [if_pos c19] at H
          have c19b0 : (t202 == 0) = true := beq_iff_eq.mpr c19
          have c19b1 : (t202 != 0) = false := bne_eq_false_iff_eq.mpr c19
          clear c19
          obtain ⟨y205, hy205⟩ : ∃ y_ : List Int, y_ = (([] : List Int)) := ⟨_, rfl⟩
          replace H : (if y205.length + t201.length < 140737488355328 then ((some (y205 ++ t201 : List Int)).bind fun y208 => ((some (([0, 0, 0, 0] : List Int) : List Int)).bind fun y211 => (if y208.length + y211.length < 140737488355328 then ((some (y208 ++ y211 : List Int)).bind fun y214 => (if y214.length + l1.length < 140737488355328 then ((tags_Get.f kj3 (y214 ++ l1)).bind fun bt220 => (if bt220.2.2 = 0 then (if bt220.2.1 = (wrap64 ((t201.length : Int) + 4)) then ((marlinelaw21_To.f kj3 bt220.1).bind fun t225 => ((marlineref21_Same.f kj3 t225 l0).bind fun t228 => (marlinelaw21_TagsEnds.j1 kj3 l0 a2 t201 (!t228)))) else (marlinelaw21_TagsEnds.j1 kj3 l0 a2 t201 true)) else (marlinelaw21_TagsEnds.j1 kj3 l0 a2 t201 true))) else (none))) else (none)))) else (none)) = some r := by first | (rw [hy205]; with_reducible exact H) | (have H2_ := (Option.bind_some _ _).symm.trans H; rw [hy205]; with_reducible exact H2_) | (have H2_ := (Option.bind_some _ _).symm.trans H; with_reducible exact H2_) | with_reducible exact H | (rw [hy205]; exact H) | exact H
          have Ny205 := Aside0.mk hy205
          clear hy205
          by_cases c20 : y205.length + t201.length < 140737488355328
          · rw [if_pos c20] at H
            have LMc20 := Aside0.mk c20
            clear c20
            obtain ⟨y208, hy208⟩ : ∃ y_ : List Int, y_ = (y205 ++ t201) := ⟨_, rfl⟩
            replace H : ((some (([0, 0, 0, 0] : List Int) : List Int)).bind fun y211 => (if y208.length + y211.length < 140737488355328 then ((some (y208 ++ y211 : List Int)).bind fun y214 => (if y214.length + l1.length < 140737488355328 then ((tags_Get.f kj3 (y214 ++ l1)).bind fun bt220 => (if bt220.2.2 = 0 then (if bt220.2.1 = (wrap64 ((t201.length : Int) + 4)) then ((marlinelaw21_To.f kj3 bt220.1).bind fun t225 => ((marlineref21_Same.f kj3 t225 l0).bind fun t228 => (marlinelaw21_TagsEnds.j1 kj3 l0 a2 t201 (!t228)))) else (marlinelaw21_TagsEnds.j1 kj3 l0 a2 t201 true)) else (marlinelaw21_TagsEnds.j1 kj3 l0 a2 t201 true))) else (none))) else (none))) = some r := by first | (rw [hy208]; with_reducible exact H) | (have H2_ := (Option.bind_some _ _).symm.trans H; rw [hy208]; with_reducible exact H2_) | (have H2_ := (Option.bind_some _ _).symm.trans H; with_reducible exact H2_) | with_reducible exact H | (rw [hy208]; exact H) | exact H
            have Ny208 := Aside0.mk hy208
            clear hy208
            obtain ⟨y211, hy211⟩ : ∃ y_ : List Int, y_ = (([0, 0, 0, 0] : List Int)) := ⟨_, rfl⟩
            replace H : (if y208.length + y211.length < 140737488355328 then ((some (y208 ++ y211 : List Int)).bind fun y214 => (if y214.length + l1.length < 140737488355328 then ((tags_Get.f kj3 (y214 ++ l1)).bind fun bt220 => (if bt220.2.2 = 0 then (if bt220.2.1 = (wrap64 ((t201.length : Int) + 4)) then ((marlinelaw21_To.f kj3 bt220.1).bind fun t225 => ((marlineref21_Same.f kj3 t225 l0).bind fun t228 => (marlinelaw21_TagsEnds.j1 kj3 l0 a2 t201 (!t228)))) else (marlinelaw21_TagsEnds.j1 kj3 l0 a2 t201 true)) else (marlinelaw21_TagsEnds.j1 kj3 l0 a2 t201 true))) else (none))) else (none)) = some r := by first | (rw [hy211]; with_reducible exact H) | (have H2_ := (Option.bind_some _ _).symm.trans H; rw [hy211]; with_reducible exact H2_) | (have H2_ := (Option.bind_some _ _).symm.trans H; with_reducible exact H2_) | with_reducible exact H | (rw [hy211]; exact H) | exact H
            have Ny211 := Aside0.mk hy211
            clear hy211
            by_cases c21 : y208.length + y211.length < 140737488355328
            · rw [if_pos c21] at H
              have LMc21 := Aside0.mk c21
              clear c21
              obtain ⟨y214, hy214⟩ : ∃ y_ : List Int, y_ = (y208 ++ y211) := ⟨_, rfl⟩
              replace H : (if y214.length + l1.length < 140737488355328 then ((tags_Get.f kj3 (y214 ++ l1)).bind fun bt220 => (if bt220.2.2 = 0 then (if bt220.2.1 = (wrap64 ((t201.length : Int) + 4)) then ((marlinelaw21_To.f kj3 bt220.1).bind fun t225 => ((marlineref21_Same.f kj3 t225 l0).bind fun t228 => (marlinelaw21_TagsEnds.j1 kj3 l0 a2 t201 (!t228)))) else (marlinelaw21_TagsEnds.j1 kj3 l0 a2 t201 true)) else (marlinelaw21_TagsEnds.j1 kj3 l0 a2 t201 true))) else (none)) = some r := by first | (rw [hy214]; with_reducible exact H) | (have H2_ := (Option.bind_some _ _).symm.trans H; rw [hy214]; with_reducible exact H2_) | (have H2_ := (Option.bind_some _ _).symm.trans H; with_reducible exact H2_) | with_reducible exact H | (rw [hy214]; exact H) | exact H
              have Ny214 := Aside0.mk hy214
              clear hy214
              by_cases c22 : y214.length + l1.length < 140737488355328
              · rw [if_pos c22] at H
                have LMc22 := Aside0.mk c22
                clear c22
                obtain ⟨y217, hy217⟩ : ∃ y_ : List Int, y_ = (y214 ++ l1) := ⟨_, rfl⟩
                replace H : ((tags_Get.f kj3 y217).bind fun bt220 => (if bt220.2.2 = 0 then (if bt220.2.1 = (wrap64 ((t201.length : Int) + 4)) then ((marlinelaw21_To.f kj3 bt220.1).bind fun t225 => ((marlineref21_Same.f kj3 t225 l0).bind fun t228 => (marlinelaw21_TagsEnds.j1 kj3 l0 a2 t201 (!t228)))) else (marlinelaw21_TagsEnds.j1 kj3 l0 a2 t201 true)) else (marlinelaw21_TagsEnds.j1 kj3 l0 a2 t201 true))) = some r := by first | (rw [hy217]; with_reducible exact H) | (have H2_ := (Option.bind_some _ _).symm.trans H; rw [hy217]; with_reducible exact H2_) | (have H2_ := (Option.bind_some _ _).symm.trans H; with_reducible exact H2_) | with_reducible exact H | (rw [hy217]; exact H) | exact H
                have Ny217 := Aside0.mk hy217
                clear hy217
                replace H := Option.bind_eq_some_iff.mp H
                obtain ⟨⟨t220, t221, t222⟩, A230, H⟩ := H
                replace H : (if t222 = 0 then (if t221 = (wrap64 ((t201.length : Int) + 4)) then ((marlinelaw21_To.f kj3 t220).bind fun t225 => ((marlineref21_Same.f kj3 t225 l0).bind fun t228 => (marlinelaw21_TagsEnds.j1 kj3 l0 a2 t201 (!t228)))) else (marlinelaw21_TagsEnds.j1 kj3 l0 a2 t201 true)) else (marlinelaw21_TagsEnds.j1 kj3 l0 a2 t201 true)) = some r := H
                have A23 := Aside0.mk A230
                clear A230
                have HC24 := Aside0.mk H
                clear H
                go_upto_region 7 with (first | ((with_reducible refine gate_callee (f := 9) rfl ?_); refine goesL_ (some 31) rfl rfl Tryd.func9 (by kernel_rfl) rfl #[.slice A0 l0.length c0] rfl (by (try simp only [List.map_toArray, List.map_cons, List.map_nil]); first | done | rfl | (simp only [List.length_drop, List.length_take]; rfl)) ?_; (with_reducible refine (marlinelaw21_Of.calls kj3 (fun k_ => k_ < w.heap.size) _ _ l0 t198 _ ?side1 A17.out).mono ?_); (case side1 => exact Kd.V_mk HC0.out (Kd.F_below (Kd.C_F k32_heap HR0.out) (by repeat (first | (with_reducible first | exact HB.out | apply below_alloc | apply pw_below_drewN | apply below_drew1) | exact HB.out)))); rintro e w25 ⟨v199, rfl, ho0, hb⟩; refine ⟨_, rfl, ?_⟩; have n0_ := Aside0.mk (Kd.N_lower (Kd.N_mono (ok' := fun k_ => True) ho0 (fun k_ hk_ => trivial)) (below_size (by repeat (first | (with_reducible first | exact HB.out | apply below_alloc | apply pw_below_drewN | apply below_drew1) | exact HB.out)))); have n1_ := Aside0.mk (below_step (by repeat (first | (with_reducible first | exact HB.out | apply below_alloc | apply pw_below_drewN | apply below_drew1) | exact HB.out)) hb); clear HB; have HO200 := n0_; have HB := n1_; clear n0_ n1_; (try clear hb); (try clear hb2); (try clear hk); (try clear hi); (try clear ho0); obtain ⟨Ao26, co26, eo26⟩ := Kd.N_slice HO200.out; subst eo26) | ((with_reducible refine gate_callee (f := 14) rfl ?_); refine goesL_ (some 32) rfl rfl Tryd.func14 (by kernel_rfl) rfl #[.slice Ao26 t198.length co26] rfl (by (try simp only [List.map_toArray, List.map_cons, List.map_nil]); first | done | rfl | (simp only [List.length_drop, List.length_take]; rfl)) ?_; (with_reducible refine (tags_Put.calls kj3 _ _ t198 t201 t202 _ ?side1 ?side2 A18.out).mono ?_); (case side1 => repeat (first | exact (Kd.N_reads' HO200.out).2.2 | (with_reducible refine Kd.C_alloc ?_ _) | (with_reducible refine Kd.C_drewN ?_ _) | (with_reducible refine Kd.C_drew ?_))); (case side2 => exact (Kd.N_reads' HO200.out).2.1); rintro e w27 ⟨v203, rfl, ho0, hb⟩; refine ⟨_, rfl, ?_⟩; have n0_ := Aside0.mk (Kd.N_elder' (by (with_reducible repeat (first | apply Kd.N_alloc | apply Kd.N_drewN | apply Kd.N_drew)); exact HO200.out) (Kd.R_base ho0) hb); have n1_ := Aside0.mk (Kd.R_lower ho0 (below_size (by repeat (first | (with_reducible first | exact HB.out | apply below_alloc | apply pw_below_drewN | apply below_drew1) | exact HB.out)))); have n2_ := Aside0.mk (below_step (by repeat (first | (with_reducible first | exact HB.out | apply below_alloc | apply pw_below_drewN | apply below_drew1) | exact HB.out)) hb); clear HO200; clear HB; have HO200 := n0_; have HO204 := n1_; have HB := n2_; clear n0_ n1_ n2_; (try clear hb); (try clear hb2); (try clear hk); (try clear hi); (try clear ho0)) | ((with_reducible refine gate_dst (N := 41) rfl ?_); (try (refine gate_guard (by rfl) ?_; dsimp only)); refine Kd.R_lit (Kd.int .u8) _ 5 ?hg (N := 41) ?hd (xs := ([] : List Int)) (inner := []) (ok := fun _ => True) (okp := fun _ => True) ?hr ?hp (fun _ hk => hk) trivial (Below.refl _ _) (Nat.le_refl _) (by simp) ?_; (case hd => rfl); (case hg => rfl); (case hr => first | (go_simp; done) | (go_simp; simp only [IntKind.wrap_u8, IntKind.wrap_u16, IntKind.wrap_u32, IntKind.wrap_u64]; done) | (go_simp; simp only [IntKind.wrap_u8, IntKind.wrap_u16, IntKind.wrap_u32, IntKind.wrap_u64, Int.tmod_eq_emod_of_nonneg (Int.natCast_nonneg _), Int.emod_emod]; done) | (go_simp; rfl)); (case hp => exact (Reps.none _ _)); intro v206 w28 ho29 hb hg_ hnew_; clear hg_ hnew_; (first | rw [← Ny205.out] at ho29 | (simp only [Int.reduceToNat] at ho29; rw [← Ny205.out] at ho29)); have n0_ := Aside0.mk (Kd.N_elder' (by (with_reducible repeat (first | apply Kd.N_alloc | apply Kd.N_drewN | apply Kd.N_drew)); exact HO200.out) (Kd.R_base ho29) hb); have n1_ := Aside0.mk (Kd.R_elder' (by (with_reducible repeat (first | apply Kd.R_alloc | apply Kd.R_drewN | apply Kd.R_drew)); exact HO204.out) (Kd.R_base ho29) hb); have n2_ := Aside0.mk (Kd.R_lower (Kd.R_new' ho29 (Kd.R_lt (by (with_reducible repeat (first | apply Kd.R_alloc | apply Kd.R_drewN | apply Kd.R_drew)); exact HO204.out))) (below_size (by repeat (first | (with_reducible first | exact HB.out | apply below_alloc | apply pw_below_drewN | apply below_drew1) | exact HB.out)))); have n3_ := Aside0.mk (below_step (by repeat (first | (with_reducible first | exact HB.out | apply below_alloc | apply pw_below_drewN | apply below_drew1) | exact HB.out)) hb); clear HO200; clear HO204; clear HB; have HO200 := n0_; have HO204 := n1_; have HO207 := n2_; have HB := n3_; clear n0_ n1_ n2_ n3_; clear hb ho29; obtain ⟨Ao31, co31, eo31⟩ := Kd.R_slice HO204.out; subst eo31) | ((with_reducible refine gate_builtin (b := .append) (xs := #[.tmp 41, .tmp 42]) rfl ?_); (try (refine gate_guard (by rfl) ?_; dsimp only)); at_builtin; refine Kd.R_append_rows (Kd.int .u8) (w0 := w) w.heap.size rfl (.tmp 41) (.tmp 42) 28 5 (.int .u8 0) 1 rfl Tryd.underlying28 info5 rfl (by decide) (by omega) v206 y205 t201 _ _ _ (fun k_ => some k_ ≠ (.slice Ao31 t201.length co31 : Value).ownBlock) (fun _ => False) rfl rfl ?aO ?aR (fun _ _ h => h) (fun _ h => h.elim) ?aF ?aB ?aS ?aL ?_; (case aR => repeat (first | exact (Kd.R_reads' HO204.out).2.2 | (with_reducible refine Kd.C_alloc ?_ _) | (with_reducible refine Kd.C_drewN ?_ _) | (with_reducible refine Kd.C_drew ?_))); (case aB => exact (by repeat (first | (with_reducible first | exact HB.out | apply below_alloc | apply pw_below_drewN | apply below_drew1) | exact HB.out))); (case aF => exact (fun k_ hk => Kd.fresh' (Kd.R_lt (by (with_reducible repeat (first | apply Kd.R_alloc | apply Kd.R_drewN | apply Kd.R_drew)); exact HO204.out)) k_ hk)); (case aO => exact (by (with_reducible repeat (first | apply Kd.R_alloc | apply Kd.R_drewN | apply Kd.R_drew)); exact Kd.R_mono HO207.out (fun _ hk => hk.2))); (case aS => exact (below_size (by repeat (first | (with_reducible first | exact HB.out | apply below_alloc | apply pw_below_drewN | apply below_drew1) | exact HB.out)))); (case aL => have := LMc20.out; omega); intro v209 w30 ho hb hg hat; rw [← Ny208.out] at ho; have n0_ := Aside0.mk (Kd.N_afterv (ok := (fun k_ => some k_ ≠ (.slice Ao31 t201.length co31 : Value).ownBlock)) (by (with_reducible repeat (first | apply Kd.N_alloc | apply Kd.N_drewN | apply Kd.N_drew)); exact Kd.N_mono HO200.out (fun _ hk => ⟨hk.1.2, hk.2⟩)) hg hat); have n1_ := Aside0.mk (Kd.R_after (ok := (fun _ => True)) (by (with_reducible repeat (first | apply Kd.R_alloc | apply Kd.R_drewN | apply Kd.R_drew)); exact HO204.out) hg hat); have n2_ := Aside0.mk (hb); have n3_ := Aside0.mk (ho); clear HO200; clear HO204; clear HB; clear HO207; have HO200 := n0_; have HO204 := n1_; have HB := n2_; have HO210 := n3_; clear n0_ n1_ n2_ n3_; clear ho hb hg hat) | ((with_reducible refine gate_dst (N := 44) rfl ?_); (try (refine gate_guard (by rfl) ?_; dsimp only)); refine Kd.R_lit (Kd.int .u8) _ 5 ?hg (N := 44) ?hd (xs := ([0, 0, 0, 0] : List Int)) (inner := [.int .u8 0, .int .u8 0, .int .u8 0, .int .u8 0]) (ok := fun _ => True) (okp := fun _ => True) ?hr ?hp (fun _ hk => hk) trivial (Below.refl _ _) (Nat.le_refl _) (by simp) ?_; (case hd => rfl); (case hg => rfl); (case hr => first | (go_simp; done) | (go_simp; simp only [IntKind.wrap_u8, IntKind.wrap_u16, IntKind.wrap_u32, IntKind.wrap_u64]; done) | (go_simp; simp only [IntKind.wrap_u8, IntKind.wrap_u16, IntKind.wrap_u32, IntKind.wrap_u64, Int.tmod_eq_emod_of_nonneg (Int.natCast_nonneg _), Int.emod_emod]; done) | (go_simp; rfl)); (case hp => exact (Reps.one (show Kd.M (Kd.int .u8) _ _ _ 0 [.int .u8 0] from rfl) (Reps.one (show Kd.M (Kd.int .u8) _ _ _ 0 [.int .u8 0] from rfl) (Reps.one (show Kd.M (Kd.int .u8) _ _ _ 0 [.int .u8 0] from rfl) (Reps.one (show Kd.M (Kd.int .u8) _ _ _ 0 [.int .u8 0] from rfl) (Reps.none _ _)))))); intro v212 w32 ho33 hb hg_ hnew_; clear hg_ hnew_; (first | rw [← Ny211.out] at ho33 | (simp only [Int.reduceToNat] at ho33; rw [← Ny211.out] at ho33)); have n0_ := Aside0.mk (Kd.N_elder' (by (with_reducible repeat (first | apply Kd.N_alloc | apply Kd.N_drewN | apply Kd.N_drew)); exact HO200.out) (Kd.R_base ho33) hb); have n1_ := Aside0.mk (Kd.R_elder' (by (with_reducible repeat (first | apply Kd.R_alloc | apply Kd.R_drewN | apply Kd.R_drew)); exact HO204.out) (Kd.R_base ho33) hb); have n2_ := Aside0.mk (Kd.R_elder' (by (with_reducible repeat (first | apply Kd.R_alloc | apply Kd.R_drewN | apply Kd.R_drew)); exact HO210.out) (Kd.R_base ho33) hb); have n3_ := Aside0.mk (Kd.R_lower (Kd.R_new' (Kd.R_new' ho33 (Kd.R_lt (by (with_reducible repeat (first | apply Kd.R_alloc | apply Kd.R_drewN | apply Kd.R_drew)); exact HO204.out))) (Kd.R_lt (by (with_reducible repeat (first | apply Kd.R_alloc | apply Kd.R_drewN | apply Kd.R_drew)); exact HO210.out))) (below_size (by repeat (first | (with_reducible first | exact HB.out | apply below_alloc | apply pw_below_drewN | apply below_drew1) | exact HB.out)))); have n4_ := Aside0.mk (below_step (by repeat (first | (with_reducible first | exact HB.out | apply below_alloc | apply pw_below_drewN | apply below_drew1) | exact HB.out)) hb); clear HO200; clear HO204; clear HO210; clear HB; have HO200 := n0_; have HO204 := n1_; have HO210 := n2_; have HO213 := n3_; have HB := n4_; clear n0_ n1_ n2_ n3_ n4_; clear hb ho33; obtain ⟨Ao35, co35, eo35⟩ := Kd.R_slice HO213.out; subst eo35) | ((with_reducible refine gate_builtin (b := .append) (xs := #[.tmp 43, .tmp 44]) rfl ?_); (try (refine gate_guard (by rfl) ?_; dsimp only)); at_builtin; refine Kd.R_append_rows (Kd.int .u8) (w0 := w) w.heap.size rfl (.tmp 43) (.tmp 44) 28 5 (.int .u8 0) 1 rfl Tryd.underlying28 info5 rfl (by decide) (by omega) v209 y208 y211 _ _ _ (fun k_ => some k_ ≠ (.slice Ao31 t201.length co31 : Value).ownBlock ∧ some k_ ≠ (.slice Ao35 y211.length co35 : Value).ownBlock) (fun _ => False) rfl rfl ?aO ?aR (fun _ _ h => h) (fun _ h => h.elim) ?aF ?aB ?aS ?aL ?_; (case aR => repeat (first | exact (Kd.R_reads' HO213.out).2.2 | (with_reducible refine Kd.C_alloc ?_ _) | (with_reducible refine Kd.C_drewN ?_ _) | (with_reducible refine Kd.C_drew ?_))); (case aB => exact (by repeat (first | (with_reducible first | exact HB.out | apply below_alloc | apply pw_below_drewN | apply below_drew1) | exact HB.out))); (case aF => exact (fun k_ hk => ⟨Kd.fresh' (Kd.R_lt (by (with_reducible repeat (first | apply Kd.R_alloc | apply Kd.R_drewN | apply Kd.R_drew)); exact HO204.out)) k_ hk, Kd.fresh' (Kd.R_lt (by (with_reducible repeat (first | apply Kd.R_alloc | apply Kd.R_drewN | apply Kd.R_drew)); exact HO213.out)) k_ hk⟩)); (case aO => exact (by (with_reducible repeat (first | apply Kd.R_alloc | apply Kd.R_drewN | apply Kd.R_drew)); exact HO210.out)); (case aS => exact (below_size (by repeat (first | (with_reducible first | exact HB.out | apply below_alloc | apply pw_below_drewN | apply below_drew1) | exact HB.out)))); (case aL => have := LMc21.out; omega); intro v215 w34 ho hb hg hat; rw [← Ny214.out] at ho; have n0_ := Aside0.mk (Kd.N_afterv (ok := (fun k_ => some k_ ≠ (.slice Ao31 t201.length co31 : Value).ownBlock ∧ some k_ ≠ (.slice Ao35 y211.length co35 : Value).ownBlock)) (by (with_reducible repeat (first | apply Kd.N_alloc | apply Kd.N_drewN | apply Kd.N_drew)); exact Kd.N_mono HO200.out (fun _ hk => ⟨⟨hk.1.1, hk.2⟩, hk.1.2⟩)) hg hat); have n1_ := Aside0.mk (Kd.R_after (ok := (fun k_ => some k_ ≠ (.slice Ao35 y211.length co35 : Value).ownBlock)) (by (with_reducible repeat (first | apply Kd.R_alloc | apply Kd.R_drewN | apply Kd.R_drew)); exact Kd.R_mono HO204.out (fun _ hk => ⟨hk.2, hk.1.2⟩)) hg hat); have n2_ := Aside0.mk (Kd.R_after (ok := (fun k_ => some k_ ≠ (.slice Ao31 t201.length co31 : Value).ownBlock)) (by (with_reducible repeat (first | apply Kd.R_alloc | apply Kd.R_drewN | apply Kd.R_drew)); exact Kd.R_mono HO213.out (fun _ hk => ⟨hk.1.2, hk.2⟩)) hg hat); have n3_ := Aside0.mk (hb); have n4_ := Aside0.mk (ho); clear HO200; clear HO204; clear HO213; clear HB; clear HO210; have HO200 := n0_; have HO204 := n1_; have HO213 := n2_; have HB := n3_; have HO216 := n4_; clear n0_ n1_ n2_ n3_ n4_; clear ho hb hg hat) | ((with_reducible refine gate_builtin (b := .append) (xs := #[.tmp 45, .tmp 46]) rfl ?_); (try (refine gate_guard (by rfl) ?_; dsimp only)); at_builtin; refine Kd.R_append_rows (Kd.int .u8) (w0 := w) w.heap.size rfl (.tmp 45) (.tmp 46) 28 5 (.int .u8 0) 1 rfl Tryd.underlying28 info5 rfl (by decide) (by omega) v215 y214 l1 _ _ _ (fun k_ => some k_ ≠ (.slice Ao31 t201.length co31 : Value).ownBlock ∧ some k_ ≠ (.slice Ao35 y211.length co35 : Value).ownBlock) (fun _ => False) rfl rfl ?aO ?aR (fun _ _ h => h) (fun _ h => h.elim) ?aF ?aB ?aS ?aL ?_; (case aR => repeat (first | exact (Kd.C_below HR1.out HB.out) | (with_reducible refine Kd.C_alloc ?_ _) | (with_reducible refine Kd.C_drewN ?_ _) | (with_reducible refine Kd.C_drew ?_))); (case aB => exact (by repeat (first | (with_reducible first | exact HB.out | apply below_alloc | apply pw_below_drewN | apply below_drew1) | exact HB.out))); (case aF => exact (fun k_ hk => ⟨Kd.fresh' (Kd.R_lt (by (with_reducible repeat (first | apply Kd.R_alloc | apply Kd.R_drewN | apply Kd.R_drew)); exact HO204.out)) k_ hk, Kd.fresh' (Kd.R_lt (by (with_reducible repeat (first | apply Kd.R_alloc | apply Kd.R_drewN | apply Kd.R_drew)); exact HO213.out)) k_ hk⟩)); (case aO => exact (by (with_reducible repeat (first | apply Kd.R_alloc | apply Kd.R_drewN | apply Kd.R_drew)); exact HO216.out)); (case aS => exact (below_size (by repeat (first | (with_reducible first | exact HB.out | apply below_alloc | apply pw_below_drewN | apply below_drew1) | exact HB.out)))); (case aL => have := LMc22.out; omega); intro v218 w36 ho hb hg hat; rw [← Ny217.out] at ho; have n0_ := Aside0.mk (Kd.N_afterv (ok := (fun k_ => some k_ ≠ (.slice Ao31 t201.length co31 : Value).ownBlock ∧ some k_ ≠ (.slice Ao35 y211.length co35 : Value).ownBlock)) (by (with_reducible repeat (first | apply Kd.N_alloc | apply Kd.N_drewN | apply Kd.N_drew)); exact HO200.out) hg hat); have n1_ := Aside0.mk (Kd.R_after (ok := (fun k_ => some k_ ≠ (.slice Ao35 y211.length co35 : Value).ownBlock)) (by (with_reducible repeat (first | apply Kd.R_alloc | apply Kd.R_drewN | apply Kd.R_drew)); exact HO204.out) hg hat); have n2_ := Aside0.mk (Kd.R_after (ok := (fun k_ => some k_ ≠ (.slice Ao31 t201.length co31 : Value).ownBlock)) (by (with_reducible repeat (first | apply Kd.R_alloc | apply Kd.R_drewN | apply Kd.R_drew)); exact HO213.out) hg hat); have n3_ := Aside0.mk (hb); have n4_ := Aside0.mk (ho); clear HO200; clear HO204; clear HO213; clear HB; clear HO216; have HO200 := n0_; have HO204 := n1_; have HO213 := n2_; have HB := n3_; have HO219 := n4_; clear n0_ n1_ n2_ n3_ n4_; clear ho hb hg hat; obtain ⟨Ao37, co37, eo37⟩ := Kd.R_slice HO219.out; subst eo37) | ((with_reducible refine gate_callee (f := 16) rfl ?_); refine goesL_ (some 48) rfl rfl Tryd.func16 (by kernel_rfl) rfl #[.slice Ao37 y217.length co37] rfl (by (try simp only [List.map_toArray, List.map_cons, List.map_nil]); first | done | rfl | (simp only [List.length_drop, List.length_take]; rfl)) ?_; (with_reducible refine (tags_Get.calls kj3 _ _ y217 t220 t221 t222 _ ?side1 ?side2 A23.out).mono ?_); (case side1 => repeat (first | exact (Kd.R_reads' HO219.out).2.2 | (with_reducible refine Kd.C_alloc ?_ _) | (with_reducible refine Kd.C_drewN ?_ _) | (with_reducible refine Kd.C_drew ?_))); (case side2 => exact (Kd.R_reads' HO219.out).2.1); rintro e w38 ⟨v223, rfl, ho0, hb⟩; refine ⟨_, rfl, ?_⟩; have n0_ := Aside0.mk (Kd.N_elder' (by (with_reducible repeat (first | apply Kd.N_alloc | apply Kd.N_drewN | apply Kd.N_drew)); exact HO200.out) (Kd.S_base ho0) hb); have n1_ := Aside0.mk (Kd.R_below (by (with_reducible repeat (first | apply Kd.R_alloc | apply Kd.R_drewN | apply Kd.R_drew)); exact HO204.out) hb); have n2_ := Aside0.mk (Kd.R_below (by (with_reducible repeat (first | apply Kd.R_alloc | apply Kd.R_drewN | apply Kd.R_drew)); exact HO213.out) hb); have n3_ := Aside0.mk (Kd.R_below (by (with_reducible repeat (first | apply Kd.R_alloc | apply Kd.R_drewN | apply Kd.R_drew)); exact HO219.out) hb); have n4_ := Aside0.mk (Kd.N_lower (Kd.N_mono (ok' := fun k_ => some k_ ≠ (.slice Ao26 t198.length co26 : Value).ownBlock ∧ some k_ ≠ (.slice Ao31 t201.length co31 : Value).ownBlock ∧ some k_ ≠ (.slice Ao35 y211.length co35 : Value).ownBlock ∧ some k_ ≠ (.slice Ao37 y217.length co37 : Value).ownBlock) (Kd.S_N (Kd.S_bound ho0)) (fun k_ hk_ => ⟨(Kd.fresh' (Kd.N_lt (by (with_reducible repeat (first | apply Kd.N_alloc | apply Kd.N_drewN | apply Kd.N_drew)); exact HO200.out)) k_ hk_.2.1), (Kd.fresh' (Kd.R_lt (by (with_reducible repeat (first | apply Kd.R_alloc | apply Kd.R_drewN | apply Kd.R_drew)); exact HO204.out)) k_ hk_.2.1), (Kd.fresh' (Kd.R_lt (by (with_reducible repeat (first | apply Kd.R_alloc | apply Kd.R_drewN | apply Kd.R_drew)); exact HO213.out)) k_ hk_.2.1), (Kd.fresh' (Kd.R_lt (by (with_reducible repeat (first | apply Kd.R_alloc | apply Kd.R_drewN | apply Kd.R_drew)); exact HO219.out)) k_ hk_.2.1)⟩)) (below_size (by repeat (first | (with_reducible first | exact HB.out | apply below_alloc | apply pw_below_drewN | apply below_drew1) | exact HB.out)))); have n5_ := Aside0.mk (below_step (by repeat (first | (with_reducible first | exact HB.out | apply below_alloc | apply pw_below_drewN | apply below_drew1) | exact HB.out)) hb); clear HO200; clear HO204; clear HO213; clear HO219; clear HB; have HO200 := n0_; have HO204 := n1_; have HO213 := n2_; have HO219 := n3_; have HO224 := n4_; have HB := n5_; clear n0_ n1_ n2_ n3_ n4_ n5_; (try clear hb); (try clear hb2); (try clear hk); (try clear hi); (try clear ho0)))
                (try simp only [Act.put, List.setIfInBounds_toArray, List.set_cons_zero, List.set_cons_succ])
                go_cut [67] (fun v67 wc => ∃ (kq : Nat) (x67_23 : Bool), v67 = .bool x67_23 ∧ Aside0 (marlinelaw21_TagsEnds.j1 kq l0 a2 t201 x67_23 = some r) ∧ Aside0 (kq ≤ kj3) ∧ Aside0 (Kd.R (Kd.int .u8) 5 wc w.heap.size (fun _ => True) (.slice Ao31 t201.length co31) t201) ∧ Aside0 (Below w.heap.size w wc))
                case first =>
                  have H := HC24.out
                  clear HC24
                  by_cases c39 : t222 = 0
                  · rw [if_pos c39] at H
                    have c39b0 : (t222 == 0) = true := beq_iff_eq.mpr c39
                    have c39b1 : (t222 != 0) = false := bne_eq_false_iff_eq.mpr c39
                    clear c39
                    (first | rw [c39b0] | (simp only [i64_w, i32_w]; rw [c39b0]) | skip)
                    by_cases c40 : t221 = (wrap64 ((t201.length : Int) + 4))
                    · rw [if_pos c40] at H
                      have c40b0 : (t221 == (wrap64 ((t201.length : Int) + 4))) = true := beq_iff_eq.mpr c40
                      have c40b1 : (t221 != (wrap64 ((t201.length : Int) + 4))) = false := bne_eq_false_iff_eq.mpr c40
                      clear c40
                      replace H := Option.bind_eq_some_iff.mp H
                      obtain ⟨t225, A410, H⟩ := H
                      replace H : ((marlineref21_Same.f kj3 t225 l0).bind fun t228 => (marlinelaw21_TagsEnds.j1 kj3 l0 a2 t201 (!t228))) = some r := H
                      have A41 := Aside0.mk A410
                      clear A410
                      replace H := Option.bind_eq_some_iff.mp H
                      obtain ⟨t228, A420, H⟩ := H
                      replace H : (marlinelaw21_TagsEnds.j1 kj3 l0 a2 t201 (!t228)) = some r := H
                      have A42 := Aside0.mk A420
                      clear A420
                      have H' := Aside0.mk H
                      clear H
                      obtain ⟨Ao43, co43, eo43⟩ := Kd.N_slice HO224.out
                      subst eo43
                      go_wp2_with (first | (go_at_call 13; (with_reducible refine (marlinelaw21_To.calls kj3 (fun k_ => (some k_ ≠ (.slice Ao26 t198.length co26 : Value).ownBlock ∧ (some k_ ≠ (.slice Ao31 t201.length co31 : Value).ownBlock ∧ (some k_ ≠ (.slice Ao35 y211.length co35 : Value).ownBlock ∧ some k_ ≠ (.slice Ao37 y217.length co37 : Value).ownBlock)))) _ _ t220 t225 _ ?side1 A41.out).mono ?_); (case side1 => exact Kd.N_V (HO224.out)); rintro e w44 ⟨v226, rfl, ho0, hb⟩; have n0_ := Aside0.mk (Kd.N_elder' (by (with_reducible repeat (first | apply Kd.N_alloc | apply Kd.N_drewN | apply Kd.N_drew)); exact HO200.out) (Kd.N_base ho0) hb); have n1_ := Aside0.mk (Kd.R_below (by (with_reducible repeat (first | apply Kd.R_alloc | apply Kd.R_drewN | apply Kd.R_drew)); exact HO204.out) hb); have n2_ := Aside0.mk (Kd.R_below (by (with_reducible repeat (first | apply Kd.R_alloc | apply Kd.R_drewN | apply Kd.R_drew)); exact HO213.out) hb); have n3_ := Aside0.mk (Kd.R_below (by (with_reducible repeat (first | apply Kd.R_alloc | apply Kd.R_drewN | apply Kd.R_drew)); exact HO219.out) hb); have n4_ := Aside0.mk (Kd.N_elder' (by (with_reducible repeat (first | apply Kd.N_alloc | apply Kd.N_drewN | apply Kd.N_drew)); exact HO224.out) (Kd.N_base ho0) hb); have n5_ := Aside0.mk (Kd.N_lower (Kd.N_mono (ok' := fun k_ => some k_ ≠ (.slice Ao26 t198.length co26 : Value).ownBlock ∧ some k_ ≠ (.slice Ao31 t201.length co31 : Value).ownBlock ∧ some k_ ≠ (.slice Ao35 y211.length co35 : Value).ownBlock ∧ some k_ ≠ (.slice Ao37 y217.length co37 : Value).ownBlock) ho0 (fun k_ hk_ => ⟨Or.elim hk_ (fun hs_ => hs_.1) (fun hn_ => (Kd.fresh' (Kd.N_lt (by (with_reducible repeat (first | apply Kd.N_alloc | apply Kd.N_drewN | apply Kd.N_drew)); exact HO200.out)) k_ hn_)), Or.elim hk_ (fun hs_ => hs_.2.1) (fun hn_ => (Kd.fresh' (Kd.R_lt (by (with_reducible repeat (first | apply Kd.R_alloc | apply Kd.R_drewN | apply Kd.R_drew)); exact HO204.out)) k_ hn_)), Or.elim hk_ (fun hs_ => hs_.2.2.1) (fun hn_ => (Kd.fresh' (Kd.R_lt (by (with_reducible repeat (first | apply Kd.R_alloc | apply Kd.R_drewN | apply Kd.R_drew)); exact HO213.out)) k_ hn_)), Or.elim hk_ (fun hs_ => hs_.2.2.2) (fun hn_ => (Kd.fresh' (Kd.R_lt (by (with_reducible repeat (first | apply Kd.R_alloc | apply Kd.R_drewN | apply Kd.R_drew)); exact HO219.out)) k_ hn_))⟩)) (below_size (by repeat (first | (with_reducible first | exact HB.out | apply below_alloc | apply pw_below_drewN | apply below_drew1) | exact HB.out)))); have n6_ := Aside0.mk (below_step (by repeat (first | (with_reducible first | exact HB.out | apply below_alloc | apply pw_below_drewN | apply below_drew1) | exact HB.out)) hb); clear HO200; clear HO204; clear HO213; clear HO219; clear HO224; clear HB; have HO200 := n0_; have HO204 := n1_; have HO213 := n2_; have HO219 := n3_; have HO224 := n4_; have HO227 := n5_; have HB := n6_; clear n0_ n1_ n2_ n3_ n4_ n5_ n6_; (try clear hb); (try clear hb2); (try clear hk); (try clear hi); (try clear ho0); obtain ⟨Ao45, co45, eo45⟩ := Kd.N_slice HO227.out; subst eo45) | (go_at_call 12; (with_reducible refine (marlineref21_Same.calls kj3 _ _ t225 _ _ l0 t228 _ ?side1 ?side2 ?side3 ?side4 A42.out).mono ?_); (case side1 => repeat (first | exact (Kd.N_reads' HO227.out).2.2 | (with_reducible refine Kd.C_alloc ?_ _) | (with_reducible refine Kd.C_drewN ?_ _) | (with_reducible refine Kd.C_drew ?_))); (case side2 => exact (Kd.N_reads' HO227.out).2.1); (case side3 => repeat (first | exact (Kd.C_below HR0.out HB.out) | (with_reducible refine Kd.C_alloc ?_ _) | (with_reducible refine Kd.C_drewN ?_ _) | (with_reducible refine Kd.C_drew ?_))); (case side4 => exact HC0.out); rintro e w' ⟨rfl, ⟨nd, rfl⟩⟩))
                      go_meet
                      case rel => exact ⟨_, (!t228), (by first | rfl | (simp; done) | (simp [*]; done)), H', ⟨by have := HJ3.out; first | omega | exact Nat.le_refl _⟩, ⟨by (with_reducible repeat (first | apply Kd.R_alloc | apply Kd.R_drewN | apply Kd.R_drew)); exact Kd.R_mono HO204.out (fun _ hk => trivial)⟩, ⟨by repeat (first | (with_reducible first | exact HB.out | apply below_alloc | apply pw_below_drewN | apply below_drew1) | exact HB.out)⟩⟩
                    · rw [if_neg c40] at H
                      have c40b0 : (t221 == (wrap64 ((t201.length : Int) + 4))) = false := beq_eq_false_iff_ne.mpr c40
                      have c40b1 : (t221 != (wrap64 ((t201.length : Int) + 4))) = true := bne_iff_ne.mpr c40
                      have H' := Aside0.mk H
                      clear H
                      go_wp2
                      go_meet
                      case rel => exact ⟨_, (true), (by first | rfl | (simp; done) | (simp [*]; done)), H', ⟨by have := HJ3.out; first | omega | exact Nat.le_refl _⟩, ⟨by (with_reducible repeat (first | apply Kd.R_alloc | apply Kd.R_drewN | apply Kd.R_drew)); exact Kd.R_mono HO204.out (fun _ hk => trivial)⟩, ⟨by repeat (first | (with_reducible first | exact HB.out | apply below_alloc | apply pw_below_drewN | apply below_drew1) | exact HB.out)⟩⟩
                  · rw [if_neg c39] at H
                    have c39b0 : (t222 == 0) = false := beq_eq_false_iff_ne.mpr c39
                    have c39b1 : (t222 != 0) = true := bne_iff_ne.mpr c39
                    (first | rw [c39b0] | (simp only [i64_w, i32_w]; rw [c39b0]) | skip)
                    have H' := Aside0.mk H
                    clear H
                    go_wp2
                    go_meet
                    case rel => exact ⟨_, (true), (by first | rfl | (simp; done) | (simp [*]; done)), H', ⟨by have := HJ3.out; first | omega | exact Nat.le_refl _⟩, ⟨by (with_reducible repeat (first | apply Kd.R_alloc | apply Kd.R_drewN | apply Kd.R_drew)); exact Kd.R_mono HO204.out (fun _ hk => trivial)⟩, ⟨by repeat (first | (with_reducible first | exact HB.out | apply below_alloc | apply pw_below_drewN | apply below_drew1) | exact HB.out)⟩⟩
                case rest =>
                  clear HC24
                  try clear c1
                  try clear c2
                  try clear p2
                  try clear c3
                  try clear c4
                  try clear c6
                  try clear p6
                  try clear c7
                  try clear c8
                  try clear c9
                  try clear c14
                  try clear c16
                  try clear c19
                  try clear c19b0
                  try clear c19b1
                  try clear c20
                  try clear c21
                  try clear c22
                  try clear c39
                  try clear c39b0
                  try clear c39b1
                  try clear c40
                  try clear c40b0
                  try clear c40b1
                  try clear p2
                  obtain ⟨kq, x67_23, rfl, HA, HJ23, HO_7, HB⟩ := hcut
                  cases kq with
                  | zero => exact absurd HA.out (by simp [marlinelaw21_TagsEnds.j1])
                  | succ kj23 =>
                    have H := HA.out
                    clear HA
                    simp only [marlinelaw21_TagsEnds.j1] at H
                    by_cases c46 : x67_23 = true
                    · subst c46
                      have H1 : (none) = some r := by rw [if_pos rfl] at H; exact H
                      clear H
                      have H := H1
                      clear H1
                      exact absurd H (by simp)
                    · replace c46 := Bool.eq_false_iff.mpr c46
                      subst c46
                      have H1 : (if (t201.length : Int) = 0 then (some true) else (if 0 ≤ (Int.tmod (wrap64 (a2)) (t201.length : Int)) then (if (Int.tmod (wrap64 (a2)) (t201.length : Int)) ≤ (t201.length : Int) then ((tags_Get.f kj23 (t201.take ((Int.tmod (wrap64 (a2)) (t201.length : Int)) : Int).toNat)).bind fun bt234 => (if bt234.2.2 = 0 then (if bt234.2.1 = (Int.tmod (wrap64 (a2)) (t201.length : Int)) then (if (bt234.1.length : Int) < (l0.length : Int) then ((marlinelaw21_To.f kj23 bt234.1).bind fun t239 => (if 0 ≤ (bt234.1.length : Int) then (if (bt234.1.length : Int) ≤ (l0.length : Int) then ((marlineref21_Same.f kj23 t239 (l0.take ((bt234.1.length : Int) : Int).toNat)).bind fun t246 => (some t246)) else (none)) else (none))) else (none)) else (none)) else (if bt234.2.2 = 2 then (if (bt234.1.length : Int) = 0 then (some (bt234.2.1 == 0)) else (none)) else (none)))) else (none)) else (none))) = some r := by rw [if_neg (show ¬ (false = true) by decide)] at H; exact H
                      clear H
                      have H := H1
                      clear H1
                      by_cases c47 : (t201.length : Int) = 0
                      · rw [if_pos c47] at H
                        have c47b0 : ((t201.length : Int) == 0) = true := beq_iff_eq.mpr c47
                        have c47b1 : ((t201.length : Int) != 0) = false := bne_eq_false_iff_eq.mpr c47
                        clear c47
                        obtain rfl := Option.some.inj H
                        go_wp2
                        go_ret
                        exact ⟨by first | rfl | (simp [errW_none, errW_some] <;> rfl) | (simp [*, errW_none, errW_some] <;> rfl), by repeat (first | (with_reducible first | exact HB.out | apply below_alloc | apply pw_below_drewN | apply below_drew1) | exact HB.out)⟩
                      · rw [if_neg c47] at H
                        have c47b0 : ((t201.length : Int) == 0) = false := beq_eq_false_iff_ne.mpr c47
                        have c47b1 : ((t201.length : Int) != 0) = true := bne_iff_ne.mpr c47
                        have c47b2 : ¬ (t201 = []) := fun h_ => c47 (by rw [h_]; rfl)
                        obtain ⟨ji48, hji48⟩ : ∃ j_ : Int, (Int.tmod (wrap64 (a2)) (t201.length : Int)) = j_ := ⟨_, rfl⟩
                        replace H : (if 0 ≤ (ji48) then (if (ji48) ≤ (t201.length : Int) then ((tags_Get.f kj23 (t201.take ((ji48) : Int).toNat)).bind fun bt234 => (if bt234.2.2 = 0 then (if bt234.2.1 = (ji48) then (if (bt234.1.length : Int) < (l0.length : Int) then ((marlinelaw21_To.f kj23 bt234.1).bind fun t239 => (if 0 ≤ (bt234.1.length : Int) then (if (bt234.1.length : Int) ≤ (l0.length : Int) then ((marlineref21_Same.f kj23 t239 (l0.take ((bt234.1.length : Int) : Int).toNat)).bind fun t246 => (some t246)) else (none)) else (none))) else (none)) else (none)) else (if bt234.2.2 = 2 then (if (bt234.1.length : Int) = 0 then (some (bt234.2.1 == 0)) else (none)) else (none)))) else (none)) else (none)) = some r := by first | (rw [hji48] at H; exact H) | (simp only [hji48] at H ⊢; exact H)
                        by_cases c49 : 0 ≤ (ji48)
                        · rw [if_pos c49] at H
                          have c49b0 := eq_true c49
                          have c49b1 : decide (0 ≤ (ji48)) = true := decide_eq_true c49
                          clear c49
                          by_cases c50 : (ji48) ≤ (t201.length : Int)
                          · rw [if_pos c50] at H
                            have c50b0 := eq_true c50
                            have c50b1 : decide ((ji48) ≤ (t201.length : Int)) = true := decide_eq_true c50
                            clear c50
                            obtain ⟨y229, hy229⟩ : ∃ y_ : List Int, y_ = (t201.take ((ji48) : Int).toNat) := ⟨_, rfl⟩
                            replace H : ((tags_Get.f kj23 y229).bind fun bt234 => (if bt234.2.2 = 0 then (if bt234.2.1 = (ji48) then (if (bt234.1.length : Int) < (l0.length : Int) then ((marlinelaw21_To.f kj23 bt234.1).bind fun t239 => (if 0 ≤ (bt234.1.length : Int) then (if (bt234.1.length : Int) ≤ (l0.length : Int) then ((marlineref21_Same.f kj23 t239 (l0.take ((bt234.1.length : Int) : Int).toNat)).bind fun t246 => (some t246)) else (none)) else (none))) else (none)) else (none)) else (if bt234.2.2 = 2 then (if (bt234.1.length : Int) = 0 then (some (bt234.2.1 == 0)) else (none)) else (none)))) = some r := by first | (rw [hy229]; with_reducible exact H) | (have H2_ := (Option.bind_some _ _).symm.trans H; rw [hy229]; with_reducible exact H2_) | (have H2_ := (Option.bind_some _ _).symm.trans H; with_reducible exact H2_) | with_reducible exact H | (rw [hy229]; exact H) | exact H
                            have Ny229 := Aside0.mk hy229
                            clear hy229
                            replace H := Option.bind_eq_some_iff.mp H
                            obtain ⟨⟨t234, t235, t236⟩, A510, H⟩ := H
                            replace H : (if t236 = 0 then (if t235 = (ji48) then (if (t234.length : Int) < (l0.length : Int) then ((marlinelaw21_To.f kj23 t234).bind fun t239 => (if 0 ≤ (t234.length : Int) then (if (t234.length : Int) ≤ (l0.length : Int) then ((marlineref21_Same.f kj23 t239 (l0.take ((t234.length : Int) : Int).toNat)).bind fun t246 => (some t246)) else (none)) else (none))) else (none)) else (none)) else (if t236 = 2 then (if (t234.length : Int) = 0 then (some (t235 == 0)) else (none)) else (none))) = some r := H
                            have A51 := Aside0.mk A510
                            clear A510
                            by_cases c52 : t236 = 0
                            · rw [if_pos c52] at H
                              have c52b0 : (t236 == 0) = true := beq_iff_eq.mpr c52
                              have c52b1 : (t236 != 0) = false := bne_eq_false_iff_eq.mpr c52
                              clear c52
                              by_cases c53 : t235 = (ji48)
                              · rw [if_pos c53] at H
                                have c53b0 : (t235 == (ji48)) = true := beq_iff_eq.mpr c53
                                have c53b1 : (t235 != (ji48)) = false := bne_eq_false_iff_eq.mpr c53
                                clear c53
                                by_cases c54 : (t234.length : Int) < (l0.length : Int)
                                · rw [if_pos c54] at H
                                  have c54b0 : decide ((t234.length : Int) < (l0.length : Int)) = true := decide_eq_true c54
                                  have c54b1 : decide (t234.length < l0.length) = true := decide_eq_true (Int.ofNat_lt.mp c54)
                                  clear c54
                                  replace H := Option.bind_eq_some_iff.mp H
                                  obtain ⟨t239, A550, H⟩ := H
                                  replace H : (if 0 ≤ (t234.length : Int) then (if (t234.length : Int) ≤ (l0.length : Int) then ((marlineref21_Same.f kj23 t239 (l0.take ((t234.length : Int) : Int).toNat)).bind fun t246 => (some t246)) else (none)) else (none)) = some r := H
                                  have A55 := Aside0.mk A550
                                  clear A550
                                  by_cases c56 : 0 ≤ (t234.length : Int)
                                  · rw [if_pos c56] at H
                                    have c56b0 := eq_true c56
                                    have c56b1 : decide (0 ≤ (t234.length : Int)) = true := decide_eq_true c56
                                    clear c56
                                    by_cases c57 : (t234.length : Int) ≤ (l0.length : Int)
                                    · rw [if_pos c57] at H
                                      have c57b0 := eq_true c57
                                      have c57b1 : decide ((t234.length : Int) ≤ (l0.length : Int)) = true := decide_eq_true c57
                                      clear c57
                                      obtain ⟨y242, hy242⟩ : ∃ y_ : List (S32), y_ = (l0.take ((t234.length : Int) : Int).toNat) := ⟨_, rfl⟩
                                      replace H : ((marlineref21_Same.f kj23 t239 y242).bind fun t246 => (some t246)) = some r := by first | (rw [hy242]; with_reducible exact H) | (have H2_ := (Option.bind_some _ _).symm.trans H; rw [hy242]; with_reducible exact H2_) | (have H2_ := (Option.bind_some _ _).symm.trans H; with_reducible exact H2_) | with_reducible exact H | (rw [hy242]; exact H) | exact H
                                      have Ny242 := Aside0.mk hy242
                                      clear hy242
                                      replace H := Option.bind_eq_some_iff.mp H
                                      obtain ⟨t246, A580, H⟩ := H
                                      replace H : (some t246) = some r := H
                                      have A58 := Aside0.mk A580
                                      clear A580
                                      obtain rfl := Option.some.inj H
                                      have q59 : ((ji48) : Int) ≤ ((t201.length : Int) : Int) := of_decide_eq_true (by first | (with_reducible assumption) | assumption)
                                      obtain ⟨i059, hi059, _, hsz59, _⟩ := info_parts info5
                                      have hroom59 : t201.length ≤ co31 := (Kd.R_reads' HO_7.out).2.1
                                      have hC59 : Kd.F (Kd.int .u8) _ _ Ao31 t201.length t201 := (Kd.V_at (base := w.heap.size) (Kd.R_V HO_7.out)).2.2
                                      have hcut59 := cut_to (P := Tryd.prog) 28 5 .i64 Tryd.underlying28 hi059 Ao31 t201.length co31 (ji48) (of_decide_eq_true (by first | (with_reducible assumption) | assumption)) q59 hroom59
                                      have hr59 := Kd.F_take (m := ((ji48) : Int).toNat) hC59 (by omega)
                                      have hy59 : y229.length = ((ji48) : Int).toNat := (by rw [Ny229.out, List.length_take]; omega)
                                      rw [← Ny229.out] at hr59
                                      rw [← hy59] at hcut59
                                      have HO233 := Aside0.mk (show Kd.V (Kd.int .u8) 5 _ w.heap.size _ (.slice Ao31 y229.length co31) y229 from Kd.V_mk (by omega) hr59)
                                      have HC233 := Aside0.mk (show y229.length ≤ co31 from by omega)
                                      clear hr59 hC59 hroom59 hi059 hsz59
                                      have KY59 := Aside0.mk hy59
                                      clear hy59
                                      replace q59 := eq_true q59
                                      try go_wp2_with (first | ((with_reducible refine gate_callee (f := 16) rfl ?_); refine goesL_ (some 80) rfl rfl Tryd.func16 (by kernel_rfl) rfl #[.slice Ao31 y229.length co31] rfl (by (try simp only [List.map_toArray, List.map_cons, List.map_nil]); first | done | rfl | (simp only [List.length_drop, List.length_take]; rfl)) ?_; (with_reducible refine (tags_Get.calls kj23 _ _ y229 t234 t235 t236 _ ?side1 ?side2 A51.out).mono ?_); (case side1 => repeat (first | exact (Kd.V_reads' HO233.out).2.2 | (with_reducible refine Kd.C_alloc ?_ _) | (with_reducible refine Kd.C_drewN ?_ _) | (with_reducible refine Kd.C_drew ?_))); (case side2 => exact (Kd.V_reads' HO233.out).2.1); rintro e w60 ⟨v237, rfl, ho0, hb⟩; refine ⟨_, rfl, ?_⟩; have n0_ := Aside0.mk (Kd.R_below (by (with_reducible repeat (first | apply Kd.R_alloc | apply Kd.R_drewN | apply Kd.R_drew)); exact HO_7.out) hb); have n1_ := Aside0.mk (Kd.V_elder' (by (with_reducible repeat (first | apply Kd.V_alloc | apply Kd.V_drewN | apply Kd.V_drew)); exact HO233.out) (Kd.S_base ho0) hb); have n2_ := Aside0.mk (Kd.N_lower (Kd.N_mono (ok' := fun k_ => some k_ ≠ (.slice Ao31 t201.length co31 : Value).ownBlock) (Kd.S_N (Kd.S_bound ho0)) (fun k_ hk_ => (Kd.fresh' (Kd.R_lt (by (with_reducible repeat (first | apply Kd.R_alloc | apply Kd.R_drewN | apply Kd.R_drew)); exact HO_7.out)) k_ hk_.2.1))) (below_size (by repeat (first | (with_reducible first | exact HB.out | apply below_alloc | apply pw_below_drewN | apply below_drew1) | exact HB.out)))); have n3_ := Aside0.mk (below_step (by repeat (first | (with_reducible first | exact HB.out | apply below_alloc | apply pw_below_drewN | apply below_drew1) | exact HB.out)) hb); clear HO_7; clear HO233; clear HB; have HO_7 := n0_; have HO233 := n1_; have HO238 := n2_; have HB := n3_; clear n0_ n1_ n2_ n3_; (try clear hb); (try clear hb2); (try clear hk); (try clear hi); (try clear ho0)))
                                      have n0_ := Aside0.mk (Kd.R_drew HO_7.out)
                                      have n1_ := Aside0.mk (Kd.V_drew HO233.out)
                                      have n2_ := Aside0.mk (Kd.N_drew HO238.out)
                                      have n3_ := Aside0.mk (below_drew1 HB.out)
                                      clear HO_7
                                      clear HO233
                                      clear HO238
                                      clear HB
                                      have HO_7 := n0_
                                      have HO233 := n1_
                                      have HO238 := n2_
                                      have HB := n3_
                                      clear n0_ n1_ n2_ n3_
                                      obtain ⟨Ao62, co62, eo62⟩ := Kd.N_slice HO238.out
                                      (first | subst eo62 | (injection eo62 with f1_ f2_ f3_; have f4_ := f1_.symm; have f5_ := f3_.symm; clear f1_ f2_ f3_; subst f4_; subst f5_))
                                      have q63 : ((t234.length : Int) : Int) ≤ ((l0.length : Int) : Int) := of_decide_eq_true (by first | (with_reducible assumption) | assumption)
                                      obtain ⟨i063, hi063, _, hsz63, _⟩ := info_parts info32
                                      have hroom63 : l0.length ≤ c0 := HC0.out
                                      have hC63 : Kd.C k32 _ A0 l0.length l0 := HR0.out
                                      have hcut63 := cut_to (P := Tryd.prog) 22 32 .i64 Tryd.underlying22 hi063 A0 l0.length c0 (t234.length : Int) (of_decide_eq_true (by first | (with_reducible assumption) | assumption)) q63 hroom63
                                      have hr63 := Kd.C_take (m := ((t234.length : Int) : Int).toNat) hC63 (by omega)
                                      have hy63 : y242.length = ((t234.length : Int) : Int).toNat := (by rw [Ny242.out, List.length_take]; omega)
                                      rw [← Ny242.out] at hr63
                                      rw [← hy63] at hcut63
                                      have HR245 := Aside0.mk hr63
                                      have HC245 := Aside0.mk (show y242.length ≤ c0 from by omega)
                                      clear hr63 hC63 hroom63 hi063 hsz63
                                      have KY63 := Aside0.mk hy63
                                      clear hy63
                                      replace q63 := eq_true q63
                                      refine start_ (n := 20) (S := fun w' => True) (ds := []) #[false, false, false, false, false, false, false, false, false, false, false, false, false, false, false, false, false, false, false, false] (by kernel_rfl) rfl rfl trivial (fun hHeld => ?_); refine with_tabW marlinelaw21_TagsEnds.tab15 marlinelaw21_TagsEnds.bits15 (fun HT_ HW_ => ?_)
                                      generalize w60.drew = w61 at HO_7 HO233 HO238 HB HR245 hHeld ⊢
                                      refine pure_ (i := 0) (N := some 97) (v := ?_) (a' := ?_) #[true, false, false, false, false, false, false, false, false, false, false, false, false, false, false, false, false, false, false, false] rfl rfl (any_of HT_.out (by kernel_rfl)) (fun _ _ _ h => h) (Or.inl ⟨by rfl, ?_⟩) ?_ ?_
                                      rotate_left
                                      · intro w'
                                        go_simp
                                        with_reducible rfl
                                      rotate_left
                                      · simp only [Act.put, List.setIfInBounds_toArray, List.set_cons_zero, List.set_cons_succ, i64_w, i32_w]
                                        rfl
                                      refine pure_ (i := 1) (N := some 98) (v := ?_) (a' := ?_) #[true, true, false, false, false, false, false, false, false, false, false, false, false, false, false, false, false, false, false, false] rfl rfl (any_of HT_.out (by kernel_rfl)) (fun _ _ _ h => h) (Or.inl ⟨by rfl, ?_⟩) ?_ ?_
                                      rotate_left
                                      · intro w'
                                        go_simp
                                        with_reducible rfl
                                      rotate_left
                                      · simp only [Act.put, List.setIfInBounds_toArray, List.set_cons_zero, List.set_cons_succ, i64_w, i32_w]
                                        rfl
                                      refine pure_ (i := 2) (N := some 99) (v := ?_) (a' := ?_) #[true, true, true, false, false, false, false, false, false, false, false, false, false, false, false, false, false, false, false, false] rfl rfl (any_of HT_.out (by kernel_rfl)) (fun _ _ _ h => h) (Or.inl ⟨by rfl, ?_⟩) ?_ ?_
                                      rotate_left
                                      · intro w'
                                        go_simp
                                        with_reducible rfl
                                      rotate_left
                                      · simp only [Act.put, List.setIfInBounds_toArray, List.set_cons_zero, List.set_cons_succ, i64_w, i32_w]
                                        rfl
                                      refine pure_ (i := 3) (N := some 100) (v := ?_) (a' := ?_) #[true, true, true, true, false, false, false, false, false, false, false, false, false, false, false, false, false, false, false, false] rfl rfl (any_of HT_.out (by kernel_rfl)) (fun _ _ _ h => h) (Or.inl ⟨by rfl, ?_⟩) ?_ ?_
                                      rotate_left
                                      · intro w'
                                        go_simp
                                        with_reducible rfl
                                      rotate_left
                                      · simp only [Act.put, List.setIfInBounds_toArray, List.set_cons_zero, List.set_cons_succ, i64_w, i32_w]
                                        rfl
                                      refine pure_ (i := 4) (N := some 101) (v := ?_) (a' := ?_) #[true, true, true, true, true, false, false, false, false, false, false, false, false, false, false, false, false, false, false, false] rfl rfl (any_of HT_.out (by kernel_rfl)) (fun _ _ _ h => h) (Or.inl ⟨by rfl, ?_⟩) ?_ ?_
                                      rotate_left
                                      · intro w'
                                        go_simp
                                        with_reducible rfl
                                      rotate_left
                                      · simp only [Act.put, List.setIfInBounds_toArray, List.set_cons_zero, List.set_cons_succ, i64_w, i32_w]
                                        rfl
                                      refine pure_ (i := 5) (N := some 102) (v := ?_) (a' := ?_) #[true, true, true, true, true, true, false, false, false, false, false, false, false, false, false, false, false, false, false, false] rfl rfl (any_of HT_.out (by kernel_rfl)) (fun _ _ _ h => h) (Or.inl ⟨by rfl, ?_⟩) ?_ ?_
                                      rotate_left
                                      · intro w'
                                        go_simp
                                        with_reducible rfl
                                      rotate_left
                                      · simp only [Act.put, List.setIfInBounds_toArray, List.set_cons_zero, List.set_cons_succ, i64_w, i32_w]
                                        rfl
                                      refine pure_ (i := 6) (N := some 103) (v := ?_) (a' := ?_) #[true, true, true, true, true, true, true, false, false, false, false, false, false, false, false, false, false, false, false, false] rfl rfl (any_of HT_.out (by kernel_rfl)) (fun _ _ _ h => h) (Or.inl ⟨by rfl, ?_⟩) ?_ ?_
                                      rotate_left
                                      · intro w'
                                        go_simp
                                        with_reducible rfl
                                      rotate_left
                                      · simp only [Act.put, List.setIfInBounds_toArray, List.set_cons_zero, List.set_cons_succ, i64_w, i32_w]
                                        rfl
                                      refine pure_ (i := 7) (N := some 104) (v := ?_) (a' := ?_) #[true, true, true, true, true, true, true, true, false, false, false, false, false, false, false, false, false, false, false, false] rfl rfl (any_of HT_.out (by kernel_rfl)) (fun _ _ _ h => h) (Or.inl ⟨by rfl, ?_⟩) ?_ ?_
                                      rotate_left
                                      · intro w'
                                        go_simp
                                        with_reducible rfl
                                      rotate_left
                                      · simp only [Act.put, List.setIfInBounds_toArray, List.set_cons_zero, List.set_cons_succ, i64_w, i32_w]
                                        rfl
                                      refine pure_ (i := 8) (N := some 105) (v := ?_) (a' := ?_) #[true, true, true, true, true, true, true, true, true, false, false, false, false, false, false, false, false, false, false, false] rfl rfl (any_of HT_.out (by kernel_rfl)) (fun _ _ _ h => h) (Or.inl ⟨by rfl, ?_⟩) ?_ ?_
                                      rotate_left
                                      · intro w'
                                        go_simp
                                        with_reducible rfl
                                      rotate_left
                                      · simp only [Act.put, List.setIfInBounds_toArray, List.set_cons_zero, List.set_cons_succ, i64_w, i32_w]
                                        rfl
                                      refine pure_ (i := 9) (N := some 106) (v := ?_) (a' := ?_) #[true, true, true, true, true, true, true, true, true, true, false, false, false, false, false, false, false, false, false, false] rfl rfl (any_of HT_.out (by kernel_rfl)) (fun _ _ _ h => h) (Or.inl ⟨by rfl, ?_⟩) ?_ ?_
                                      rotate_left
                                      · intro w'
                                        go_simp
                                        with_reducible rfl
                                      rotate_left
                                      · simp only [Act.put, List.setIfInBounds_toArray, List.set_cons_zero, List.set_cons_succ, i64_w, i32_w]
                                        rfl
                                      refine pure_ (i := 10) (N := some 107) (v := ?_) (a' := ?_) #[true, true, true, true, true, true, true, true, true, true, true, false, false, false, false, false, false, false, false, false] rfl rfl (any_of HT_.out (by kernel_rfl)) (fun _ _ _ h => h) (Or.inl ⟨by rfl, ?_⟩) ?_ ?_
                                      rotate_left
                                      · intro w'
                                        go_simp
                                        with_reducible rfl
                                      rotate_left
                                      · simp only [Act.put, List.setIfInBounds_toArray, List.set_cons_zero, List.set_cons_succ, i64_w, i32_w]
                                        rfl
                                      refine pure_ (i := 11) (N := some 108) (v := ?_) (a' := ?_) #[true, true, true, true, true, true, true, true, true, true, true, true, false, false, false, false, false, false, false, false] rfl rfl (any_of HT_.out (by kernel_rfl)) (fun _ _ _ h => h) (Or.inl ⟨by rfl, ?_⟩) ?_ ?_
                                      rotate_left
                                      · intro w'
                                        go_simp
                                        with_reducible rfl
                                      rotate_left
                                      · simp only [Act.put, List.setIfInBounds_toArray, List.set_cons_zero, List.set_cons_succ, i64_w, i32_w]
                                        rfl
                                      refine pure_ (i := 13) (N := some 110) (v := ?_) (a' := ?_) #[true, true, true, true, true, true, true, true, true, true, true, true, false, true, false, false, false, false, false, false] rfl rfl (any_of HT_.out (by kernel_rfl)) (fun _ _ _ h => h) (Or.inl ⟨by rfl, ?_⟩) ?_ ?_
                                      rotate_left
                                      · intro w'
                                        go_simp
                                        with_reducible rfl
                                      rotate_left
                                      · simp only [Act.put, List.setIfInBounds_toArray, List.set_cons_zero, List.set_cons_succ, i64_w, i32_w]
                                        rfl
                                      refine pure_ (i := 14) (N := some 111) (v := ?_) (a' := ?_) #[true, true, true, true, true, true, true, true, true, true, true, true, false, true, true, false, false, false, false, false] rfl rfl (any_of HT_.out (by kernel_rfl)) (fun _ _ _ h => h) (Or.inl ⟨by rfl, ?_⟩) ?_ ?_
                                      rotate_left
                                      · intro w'
                                        go_simp
                                        with_reducible rfl
                                      rotate_left
                                      · simp only [Act.put, List.setIfInBounds_toArray, List.set_cons_zero, List.set_cons_succ, i64_w, i32_w]
                                        rfl
                                      refine pure_ (i := 15) (N := some 112) (v := ?_) (a' := ?_) #[true, true, true, true, true, true, true, true, true, true, true, true, false, true, true, true, false, false, false, false] rfl rfl (any_of HT_.out (by kernel_rfl)) (fun _ _ _ h => h) (Or.inl ⟨by rfl, ?_⟩) ?_ ?_
                                      rotate_left
                                      · intro w'
                                        go_simp
                                        with_reducible rfl
                                      rotate_left
                                      · simp only [Act.put, List.setIfInBounds_toArray, List.set_cons_zero, List.set_cons_succ, i64_w, i32_w]
                                        rfl
                                      refine pure_ (i := 16) (N := some 113) (v := ?_) (a' := ?_) #[true, true, true, true, true, true, true, true, true, true, true, true, false, true, true, true, true, false, false, false] rfl rfl (any_of HT_.out (by kernel_rfl)) (fun _ _ _ h => h) (Or.inl ⟨by rfl, ?_⟩) ?_ ?_
                                      rotate_left
                                      · intro w'
                                        go_simp
                                        with_reducible rfl
                                      rotate_left
                                      · simp only [Act.put, List.setIfInBounds_toArray, List.set_cons_zero, List.set_cons_succ, i64_w, i32_w]
                                        rfl
                                      refine one_ (i := 12) (N := some 109) #[true, true, true, true, true, true, true, true, true, true, true, true, true, true, true, true, true, false, false, false] rfl rfl (one_of HT_.out (by kernel_rfl)) (by decide) (fun K hK => ?_)
                                      refine goes_ Tryd.func13 (by kernel_rfl) rfl #[.slice Ao62 t234.length co62] (by rfl) rfl rfl (by (try simp only [List.map_toArray, List.map_cons, List.map_nil]); first | done | rfl | (simp only [List.length_drop, List.length_take]; rfl)) ?_
                                      with_reducible refine (marlinelaw21_To.calls kj23 (fun k_ => some k_ ≠ (.slice Ao31 t201.length co31 : Value).ownBlock) _ _ t234 t239 _ ?side1 A55.out).mono ?_
                                      (case side1 => exact Kd.N_V (HO238.out))
                                      rintro e w64 ⟨v240, rfl, ho0, hb⟩
                                      refine ⟨_, rfl, ?_⟩
                                      have n0_ := Aside0.mk (Kd.R_below (by (with_reducible repeat (first | apply Kd.R_alloc | apply Kd.R_drewN | apply Kd.R_drew)); exact HO_7.out) hb)
                                      have n1_ := Aside0.mk (Kd.V_elder' (by (with_reducible repeat (first | apply Kd.V_alloc | apply Kd.V_drewN | apply Kd.V_drew)); exact HO233.out) (Kd.N_base ho0) hb)
                                      have n2_ := Aside0.mk (Kd.N_elder' (by (with_reducible repeat (first | apply Kd.N_alloc | apply Kd.N_drewN | apply Kd.N_drew)); exact HO238.out) (Kd.N_base ho0) hb)
                                      have n3_ := Aside0.mk (Kd.N_lower (Kd.N_mono (ok' := fun k_ => some k_ ≠ (.slice Ao31 t201.length co31 : Value).ownBlock) ho0 (fun k_ hk_ => Or.elim hk_ (fun hs_ => hs_) (fun hn_ => (Kd.fresh' (Kd.R_lt (by (with_reducible repeat (first | apply Kd.R_alloc | apply Kd.R_drewN | apply Kd.R_drew)); exact HO_7.out)) k_ hn_)))) (below_size (by repeat (first | (with_reducible first | exact HB.out | apply below_alloc | apply pw_below_drewN | apply below_drew1) | exact HB.out))))
                                      have n4_ := Aside0.mk (below_step (by repeat (first | (with_reducible first | exact HB.out | apply below_alloc | apply pw_below_drewN | apply below_drew1) | exact HB.out)) hb)
                                      clear HO_7
                                      clear HO233
                                      clear HO238
                                      clear HB
                                      have HO_7 := n0_
                                      have HO233 := n1_
                                      have HO238 := n2_
                                      have HO241 := n3_
                                      have HB := n4_
                                      clear n0_ n1_ n2_ n3_ n4_
                                      (try clear hb)
                                      (try clear hb2)
                                      (try clear hk)
                                      (try clear hi)
                                      (try clear ho0)
                                      obtain ⟨Ao65, co65, eo65⟩ := Kd.N_slice HO241.out
                                      (first | subst eo65 | (injection eo65 with f1_ f2_ f3_; have f4_ := f1_.symm; have f5_ := f3_.symm; clear f1_ f2_ f3_; subst f4_; subst f5_))
                                      refine hK.out _ _ trivial (fun hHeld => ?_)
                                      clear hK K
                                      refine norm_ (a' := ?_) ?_ ?_
                                      rotate_left
                                      · show Act.put _ (some 109) _ = _
                                        simp only [Act.put, List.setIfInBounds_toArray, List.set_cons_zero, List.set_cons_succ, i64_w, i32_w]
                                        rfl
                                      refine one_ (i := 17) (N := some 114) #[true, true, true, true, true, true, true, true, true, true, true, true, true, true, true, true, true, true, false, false] rfl rfl (one_of HT_.out (by kernel_rfl)) (by decide) (fun K hK => ?_)
                                      refine goes_ Tryd.func12 (by kernel_rfl) rfl #[.slice Ao65 t239.length co65, .slice A0 y242.length c0] (by rfl) rfl rfl (by (try simp only [List.map_toArray, List.map_cons, List.map_nil]); first | done | rfl | (simp only [List.length_drop, List.length_take]; rfl)) ?_
                                      with_reducible refine (marlineref21_Same.calls kj23 _ _ t239 _ _ y242 t246 _ ?side1 ?side2 ?side3 ?side4 A58.out).mono ?_
                                      (case side1 => repeat (first | exact (Kd.N_reads' HO241.out).2.2 | (with_reducible refine Kd.C_alloc ?_ _) | (with_reducible refine Kd.C_drewN ?_ _) | (with_reducible refine Kd.C_drew ?_)))
                                      (case side2 => exact (Kd.N_reads' HO241.out).2.1)
                                      (case side3 => repeat (first | exact (Kd.C_below HR245.out HB.out) | (with_reducible refine Kd.C_alloc ?_ _) | (with_reducible refine Kd.C_drewN ?_ _) | (with_reducible refine Kd.C_drew ?_)))
                                      (case side4 => exact HC245.out)
                                      rintro e w' ⟨rfl, ⟨nd, rfl⟩⟩
                                      refine ⟨_, rfl, ?_⟩
                                      refine hK.out _ _ trivial (fun hHeld => ?_)
                                      clear hK K
                                      refine norm_ (a' := ?_) ?_ ?_
                                      rotate_left
                                      · show Act.put _ (some 114) _ = _
                                        simp only [Act.put, List.setIfInBounds_toArray, List.set_cons_zero, List.set_cons_succ, i64_w, i32_w]
                                        rfl
                                      refine pure_ (i := 18) (N := some 115) (v := ?_) (a' := ?_) #[true, true, true, true, true, true, true, true, true, true, true, true, true, true, true, true, true, true, true, false] rfl rfl (any_of HT_.out (by kernel_rfl)) (fun _ _ _ h => h) (Or.inl ⟨by rfl, ?_⟩) ?_ ?_
                                      rotate_left
                                      · intro w'
                                        go_simp
                                        with_reducible rfl
                                      rotate_left
                                      · simp only [Act.put, List.setIfInBounds_toArray, List.set_cons_zero, List.set_cons_succ, i64_w, i32_w]
                                        rfl
                                      refine pure_ (i := 19) (N := some 6) (v := ?_) (a' := ?_) #[true, true, true, true, true, true, true, true, true, true, true, true, true, true, true, true, true, true, true, true] rfl rfl (any_of HT_.out (by kernel_rfl)) (fun _ _ _ h => h) (Or.inl ⟨by rfl, ?_⟩) ?_ ?_
                                      rotate_left
                                      · intro w'
                                        go_simp
                                        with_reducible rfl
                                      rotate_left
                                      · simp only [Act.put, List.setIfInBounds_toArray, List.set_cons_zero, List.set_cons_succ, i64_w, i32_w]
                                        rfl
                                      refine done_ (done_of HT_.out (by kernel_rfl)) ?_
                                      try go_wp2
                                      go_ret
                                      exact ⟨by first | rfl | (simp [errW_none, errW_some] <;> rfl) | (simp only [← hji48]; first | rfl | (simp [errW_none, errW_some] <;> rfl)) | (simp [*, errW_none, errW_some] <;> rfl), by repeat (first | (with_reducible first | exact HB.out | apply below_alloc | apply pw_below_drewN | apply below_drew1) | exact HB.out)⟩
                                    · rw [if_neg c57] at H
                                      exact absurd H (by simp)
                                  · rw [if_neg c56] at H
                                    exact absurd H (by simp)
                                · rw [if_neg c54] at H
                                  exact absurd H (by simp)
                              · rw [if_neg c53] at H
                                exact absurd H (by simp)
                            · rw [if_neg c52] at H
                              have c52b0 : (t236 == 0) = false := beq_eq_false_iff_ne.mpr c52
                              have c52b1 : (t236 != 0) = true := bne_iff_ne.mpr c52
                              by_cases c66 : t236 = 2
                              · rw [if_pos c66] at H
                                have c66b0 : (t236 == 2) = true := beq_iff_eq.mpr c66
                                have c66b1 : (t236 != 2) = false := bne_eq_false_iff_eq.mpr c66
                                clear c66
                                by_cases c67 : (t234.length : Int) = 0
                                · rw [if_pos c67] at H
                                  have c67b0 : ((t234.length : Int) == 0) = true := beq_iff_eq.mpr c67
                                  have c67b1 : ((t234.length : Int) != 0) = false := bne_eq_false_iff_eq.mpr c67
                                  clear c67
                                  obtain rfl := Option.some.inj H
                                  have q68 : ((ji48) : Int) ≤ ((t201.length : Int) : Int) := of_decide_eq_true (by first | (with_reducible assumption) | assumption)
                                  obtain ⟨i068, hi068, _, hsz68, _⟩ := info_parts info5
                                  have hroom68 : t201.length ≤ co31 := (Kd.R_reads' HO_7.out).2.1
                                  have hC68 : Kd.F (Kd.int .u8) _ _ Ao31 t201.length t201 := (Kd.V_at (base := w.heap.size) (Kd.R_V HO_7.out)).2.2
                                  have hcut68 := cut_to (P := Tryd.prog) 28 5 .i64 Tryd.underlying28 hi068 Ao31 t201.length co31 (ji48) (of_decide_eq_true (by first | (with_reducible assumption) | assumption)) q68 hroom68
                                  have hr68 := Kd.F_take (m := ((ji48) : Int).toNat) hC68 (by omega)
                                  have hy68 : y229.length = ((ji48) : Int).toNat := (by rw [Ny229.out, List.length_take]; omega)
                                  rw [← Ny229.out] at hr68
                                  rw [← hy68] at hcut68
                                  have HO233 := Aside0.mk (show Kd.V (Kd.int .u8) 5 _ w.heap.size _ (.slice Ao31 y229.length co31) y229 from Kd.V_mk (by omega) hr68)
                                  have HC233 := Aside0.mk (show y229.length ≤ co31 from by omega)
                                  clear hr68 hC68 hroom68 hi068 hsz68
                                  have KY68 := Aside0.mk hy68
                                  clear hy68
                                  replace q68 := eq_true q68
                                  go_wp2_with (first | ((with_reducible refine gate_callee (f := 16) rfl ?_); refine goesL_ (some 80) rfl rfl Tryd.func16 (by kernel_rfl) rfl #[.slice Ao31 y229.length co31] rfl (by (try simp only [List.map_toArray, List.map_cons, List.map_nil]); first | done | rfl | (simp only [List.length_drop, List.length_take]; rfl)) ?_; (with_reducible refine (tags_Get.calls kj23 _ _ y229 t234 t235 t236 _ ?side1 ?side2 A51.out).mono ?_); (case side1 => repeat (first | exact (Kd.V_reads' HO233.out).2.2 | (with_reducible refine Kd.C_alloc ?_ _) | (with_reducible refine Kd.C_drewN ?_ _) | (with_reducible refine Kd.C_drew ?_))); (case side2 => exact (Kd.V_reads' HO233.out).2.1); rintro e w69 ⟨v237, rfl, ho0, hb⟩; refine ⟨_, rfl, ?_⟩; have n0_ := Aside0.mk (Kd.R_below (by (with_reducible repeat (first | apply Kd.R_alloc | apply Kd.R_drewN | apply Kd.R_drew)); exact HO_7.out) hb); have n1_ := Aside0.mk (Kd.V_elder' (by (with_reducible repeat (first | apply Kd.V_alloc | apply Kd.V_drewN | apply Kd.V_drew)); exact HO233.out) (Kd.S_base ho0) hb); have n2_ := Aside0.mk (Kd.N_lower (Kd.N_mono (ok' := fun k_ => some k_ ≠ (.slice Ao31 t201.length co31 : Value).ownBlock) (Kd.S_N (Kd.S_bound ho0)) (fun k_ hk_ => (Kd.fresh' (Kd.R_lt (by (with_reducible repeat (first | apply Kd.R_alloc | apply Kd.R_drewN | apply Kd.R_drew)); exact HO_7.out)) k_ hk_.2.1))) (below_size (by repeat (first | (with_reducible first | exact HB.out | apply below_alloc | apply pw_below_drewN | apply below_drew1) | exact HB.out)))); have n3_ := Aside0.mk (below_step (by repeat (first | (with_reducible first | exact HB.out | apply below_alloc | apply pw_below_drewN | apply below_drew1) | exact HB.out)) hb); clear HO_7; clear HO233; clear HB; have HO_7 := n0_; have HO233 := n1_; have HO238 := n2_; have HB := n3_; clear n0_ n1_ n2_ n3_; (try clear hb); (try clear hb2); (try clear hk); (try clear hi); (try clear ho0); obtain ⟨Ao70, co70, eo70⟩ := Kd.N_slice HO238.out; subst eo70))
                                  go_ret
                                  exact ⟨by first | rfl | (simp [errW_none, errW_some] <;> rfl) | (simp only [← hji48]; first | rfl | (simp [errW_none, errW_some] <;> rfl)) | (simp [*, errW_none, errW_some] <;> rfl), by repeat (first | (with_reducible first | exact HB.out | apply below_alloc | apply pw_below_drewN | apply below_drew1) | exact HB.out)⟩
                                · rw [if_neg c67] at H
                                  exact absurd H (by simp)
                              · rw [if_neg c66] at H
                                exact absurd H (by simp)
                          · rw [if_neg c50] at H
                            exact absurd H (by simp)
                        · rw [if_neg c49] at H
                          exact absurd H (by simp)
              · rw [if_neg c22] at H
                exact absurd H (by simp)
            · rw [if_neg c21] at H
              exact absurd H (by simp)
          · rw [if_neg c20] at H
            exact absurd H (by simp)
        · rw [if_neg c19] at H
          have c19b0 : (t202 == 0) = false := beq_eq_false_iff_ne.mpr c19
          have c19b1 : (t202 != 0) = true := bne_iff_ne.mpr c19
          obtain rfl := Option.some.inj H
          go_wp2_with (first | ((with_reducible refine gate_callee (f := 9) rfl ?_); refine goesL_ (some 31) rfl rfl Tryd.func9 (by kernel_rfl) rfl #[.slice A0 l0.length c0] rfl (by (try simp only [List.map_toArray, List.map_cons, List.map_nil]); first | done | rfl | (simp only [List.length_drop, List.length_take]; rfl)) ?_; (with_reducible refine (marlinelaw21_Of.calls kj3 (fun k_ => k_ < w.heap.size) _ _ l0 t198 _ ?side1 A17.out).mono ?_); (case side1 => exact Kd.V_mk HC0.out (Kd.F_below (Kd.C_F k32_heap HR0.out) (by repeat (first | (with_reducible first | exact HB.out | apply below_alloc | apply pw_below_drewN | apply below_drew1) | exact HB.out)))); rintro e w71 ⟨v199, rfl, ho0, hb⟩; refine ⟨_, rfl, ?_⟩; have n0_ := Aside0.mk (Kd.N_lower (Kd.N_mono (ok' := fun k_ => True) ho0 (fun k_ hk_ => trivial)) (below_size (by repeat (first | (with_reducible first | exact HB.out | apply below_alloc | apply pw_below_drewN | apply below_drew1) | exact HB.out)))); have n1_ := Aside0.mk (below_step (by repeat (first | (with_reducible first | exact HB.out | apply below_alloc | apply pw_below_drewN | apply below_drew1) | exact HB.out)) hb); clear HB; have HO200 := n0_; have HB := n1_; clear n0_ n1_; (try clear hb); (try clear hb2); (try clear hk); (try clear hi); (try clear ho0); obtain ⟨Ao72, co72, eo72⟩ := Kd.N_slice HO200.out; subst eo72) | ((with_reducible refine gate_callee (f := 14) rfl ?_); refine goesL_ (some 32) rfl rfl Tryd.func14 (by kernel_rfl) rfl #[.slice Ao72 t198.length co72] rfl (by (try simp only [List.map_toArray, List.map_cons, List.map_nil]); first | done | rfl | (simp only [List.length_drop, List.length_take]; rfl)) ?_; (with_reducible refine (tags_Put.calls kj3 _ _ t198 t201 t202 _ ?side1 ?side2 A18.out).mono ?_); (case side1 => repeat (first | exact (Kd.N_reads' HO200.out).2.2 | (with_reducible refine Kd.C_alloc ?_ _) | (with_reducible refine Kd.C_drewN ?_ _) | (with_reducible refine Kd.C_drew ?_))); (case side2 => exact (Kd.N_reads' HO200.out).2.1); rintro e w73 ⟨v203, rfl, ho0, hb⟩; refine ⟨_, rfl, ?_⟩; have n0_ := Aside0.mk (Kd.N_elder' (by (with_reducible repeat (first | apply Kd.N_alloc | apply Kd.N_drewN | apply Kd.N_drew)); exact HO200.out) (Kd.R_base ho0) hb); have n1_ := Aside0.mk (Kd.R_lower ho0 (below_size (by repeat (first | (with_reducible first | exact HB.out | apply below_alloc | apply pw_below_drewN | apply below_drew1) | exact HB.out)))); have n2_ := Aside0.mk (below_step (by repeat (first | (with_reducible first | exact HB.out | apply below_alloc | apply pw_below_drewN | apply below_drew1) | exact HB.out)) hb); clear HO200; clear HB; have HO200 := n0_; have HO204 := n1_; have HB := n2_; clear n0_ n1_ n2_; (try clear hb); (try clear hb2); (try clear hk); (try clear hi); (try clear ho0); obtain ⟨Ao74, co74, eo74⟩ := Kd.R_slice HO204.out; subst eo74))
          go_ret
          exact ⟨by first | rfl | (simp [errW_none, errW_some] <;> rfl) | (simp [*, errW_none, errW_some] <;> rfl), by repeat (first | (with_reducible first | exact HB.out | apply below_alloc | apply pw_below_drewN | apply below_drew1) | exact HB.out)⟩

/-- THE ONE PURE STATEMENT of marlinelaw21_TagsEnds: yours. -/
def marlinelaw21_TagsEnds.Pure : Prop := ∀ (l0 : List (S32)) (l1 : List Int) (a2 : Int), ((l0.length ≤ 9223372036854775807 ∧ l0.length * 32 ≤ 140737488351232) ∧ ∀ y0_ ∈ l0, ((Lit.int .u16 y0_.f0).wf = true ∧ ((y0_.f1.length ≤ 9223372036854775807 ∧ y0_.f1.length * 1 ≤ 140737488351232) ∧ ∀ y1_ ∈ y0_.f1, (Lit.int .u8 y1_).wf = true))) → l1.length ≤ maxLen → l1.length * 1 ≤ 140737488351232 → (∀ x ∈ l1, (Lit.int .u8 x).wf = true) → (Lit.int .u16 a2).wf = true → ∃ k, marlinelaw21_TagsEnds.f k l0 l1 a2 = some true
theorem marlinelaw21_TagsEnds.walk (P : marlinelaw21_TagsEnds.Pure) (A0 : Option Addr) (c0 : Nat) (l0 : List (S32)) (A1 : Option Addr) (c1 : Nat) (l1 : List Int) (a2 : Int) (w : World) (hGL : GL w) (hr0 : Kd.C k32 w A0 l0.length l0) (hc0 : l0.length ≤ c0) (hw0 : ((l0.length ≤ 9223372036854775807 ∧ l0.length * 32 ≤ 140737488351232) ∧ ∀ y0_ ∈ l0, ((Lit.int .u16 y0_.f0).wf = true ∧ ((y0_.f1.length ≤ 9223372036854775807 ∧ y0_.f1.length * 1 ≤ 140737488351232) ∧ ∀ y1_ ∈ y0_.f1, (Lit.int .u8 y1_).wf = true)))) (hr1 : Kd.C (Kd.int .u8) w A1 l1.length l1) (hc1 : l1.length ≤ c1) (hm1 : l1.length ≤ maxLen) (y1 : l1.length * 1 ≤ 140737488351232) (hw1 : ∀ x ∈ l1, (Lit.int .u8 x).wf = true) (hw2 : (Lit.int .u16 a2).wf = true) :
    Calls Tryd.prog 6 #[.slice A0 l0.length c0, .slice A1 l1.length c1, .int .u16 a2] w fun e w' => e = .returned (.bool true) ∧ Below w.heap.size w w' := by
  obtain ⟨k, h⟩ := P l0 l1 a2 hw0 hm1 y1 hw1 hw2
  refine (marlinelaw21_TagsEnds.calls k _ _ l0 _ _ l1 a2 true w hr0 hc0 hr1 hc1 h).mono ?_
  rintro e w' ⟨rfl, hd⟩
  exact ⟨rfl, hd⟩

end Go.Proofs.YthkgaciibfjejaaDoor.Print
