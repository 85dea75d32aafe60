/- A text that a program of this claim (wip/x) laid out of the translation: what Go functions come to, and that they come to it. Lean checks it. -/
import Derived.Test.YthkgaciibfjejaaDoorPrint0
import Derived.Test.YthkgaciibfjejaaDoorPrintMarlinelaw21Few
import Derived.Test.YthkgaciibfjejaaDoorPrintMarlinelaw21Of
import Derived.Test.YthkgaciibfjejaaDoorPrintMarlinelaw21Speaks
import Derived.Test.YthkgaciibfjejaaDoorPrintMarlinelaw21To
import Derived.Test.YthkgaciibfjejaaDoorPrintMarlineref01Equal
import Derived.Test.YthkgaciibfjejaaDoorPrintMarlineref21Same
import Derived.Test.YthkgaciibfjejaaDoorPrintTagsGet
import Derived.Test.YthkgaciibfjejaaDoorPrintTagsName
import Derived.Test.YthkgaciibfjejaaDoorPrintTagsPut
namespace Go.Proofs.YthkgaciibfjejaaDoor.Print
open Go.RowKit Go.Proofs.YthkgaciibfjejaaDoorW.PrintWords Go.Proofs.YthkgaciibfjejaaDoorW.PrintLast Go.Proofs.YthkgaciibfjejaaDoorW.PrintMore
attribute [local go_sem] max2_int min2_int max_two min_two max_three min_three max_four min_four   -- for this text's walks alone
set_option linter.unusedVariables false
set_option linter.unusedSimpArgs false

/-! ### marlinelaw21_TagsBack: function 5 -/
mutual
def marlinelaw21_TagsBack.j0 : Nat → List (S32) → List Int → Bool → Option (Bool)
  | 0, _, _, _ => none
  | k + 1, x0, x1, x26 => if x26 = true then ((marlinelaw21_speaks.f k).bind fun t262 => (some t262)) else ((marlinelaw21_Of.f k x0).bind fun t263 => ((tags_Put.f k t263).bind fun bt266 => (if bt266.2 = 0 then ((tags_Get.f k bt266.1).bind fun bt270 => (if bt270.2.2 = 0 then (if bt270.2.1 = (bt266.1.length : Int) then ((marlinelaw21_To.f k bt270.1).bind fun t275 => ((marlineref21_Same.f k t275 x0).bind fun t278 => (marlinelaw21_TagsBack.j1 k x1 (!t278)))) else (marlinelaw21_TagsBack.j1 k x1 true)) else (marlinelaw21_TagsBack.j1 k x1 true))) else (if (bt266.1.length : Int) = 0 then (marlinelaw21_TagsBack.j2 k x1) else (none)))))
def marlinelaw21_TagsBack.j2 : Nat → List Int → Option (Bool)
  | 0, _ => none
  | k + 1, x1 => (tags_Get.f k x1).bind fun bt279 => (if bt279.2.2 = 0 then ((tags_Put.f k bt279.1).bind fun bt284 => (if bt284.2 = 0 then (if bt279.2.1 > (x1.length : Int) then (marlinelaw21_TagsBack.j3 k x1 bt279.2.1 bt284.1 true) else (if bt279.2.1 < (bt284.1.length : Int) then (marlinelaw21_TagsBack.j3 k x1 bt279.2.1 bt284.1 true) else (if 0 ≤ (bt284.1.length : Int) then (if (bt284.1.length : Int) ≤ (x1.length : Int) then ((marlineref01_Equal.f k bt284.1 (x1.take ((bt284.1.length : Int) : Int).toNat)).bind fun t292 => (marlinelaw21_TagsBack.j3 k x1 bt279.2.1 bt284.1 (!t292))) else (none)) else (none)))) else (marlinelaw21_TagsBack.j3 k x1 bt279.2.1 bt284.1 true))) else (if (bt279.1.length : Int) = 0 then (some (bt279.2.1 == 0)) else (none)))
def marlinelaw21_TagsBack.j3 : Nat → List Int → Int → List Int → Bool → Option (Bool)
  | 0, _, _, _, _ => none
  | k + 1, x1, x11, x13, x102 => if x102 = true then (none) else (if x11 = (x13.length : Int) then (if x11 = (x1.length : Int) then (some true) else (if x11 = (wrap64 ((x13.length : Int) + 4)) then (if 0 ≤ (x13.length : Int) then (if (x13.length : Int) ≤ x11 then (if x11 ≤ (x1.length : Int) then ((marlineref01_Equal.f k ((x1.take (x11 : Int).toNat).drop ((x13.length : Int) : Int).toNat) (([0, 0, 0, 0] : List Int))).bind fun t300 => (some t300)) else (none)) else (none)) else (none)) else (none))) else (if x11 = (wrap64 ((x13.length : Int) + 4)) then (if 0 ≤ (x13.length : Int) then (if (x13.length : Int) ≤ x11 then (if x11 ≤ (x1.length : Int) then ((marlineref01_Equal.f k ((x1.take (x11 : Int).toNat).drop ((x13.length : Int) : Int).toNat) (([0, 0, 0, 0] : List Int))).bind fun t308 => (some t308)) else (none)) else (none)) else (none)) else (none)))
def marlinelaw21_TagsBack.j1 : Nat → List Int → Bool → Option (Bool)
  | 0, _, _ => none
  | k + 1, x1, x56 => if x56 = true then (none) else (marlinelaw21_TagsBack.j2 k x1)
end
def marlinelaw21_TagsBack.f (k : Nat) (l0 : List (S32)) (l1 : List Int) : Option (Bool) := (marlinelaw21_speaks.f k).bind fun t260 => (if t260 = true then ((marlinelaw21_Few.f k l0).bind fun t261 => (if t261 = true then (marlinelaw21_TagsBack.j0 k l0 l1 (decide ((l1.length : Int) > 1000))) else (marlinelaw21_TagsBack.j0 k l0 l1 true))) else (marlinelaw21_TagsBack.j0 k l0 l1 true))
theorem marlinelaw21_TagsBack.mono_l : ∀ k, (∀ y0 y1 y2, LeO (marlinelaw21_TagsBack.j0 k y0 y1 y2) (marlinelaw21_TagsBack.j0 (k + 1) y0 y1 y2)) ∧ (∀ y0, LeO (marlinelaw21_TagsBack.j2 k y0) (marlinelaw21_TagsBack.j2 (k + 1) y0)) ∧ (∀ y0 y1 y2 y3, LeO (marlinelaw21_TagsBack.j3 k y0 y1 y2 y3) (marlinelaw21_TagsBack.j3 (k + 1) y0 y1 y2 y3)) ∧ (∀ y0 y1, LeO (marlinelaw21_TagsBack.j1 k y0 y1) (marlinelaw21_TagsBack.j1 (k + 1) y0 y1))
  | 0 => ⟨fun _ _ _ r h => by simp [marlinelaw21_TagsBack.j0] at h, fun _ r h => by simp [marlinelaw21_TagsBack.j2] at h, fun _ _ _ _ r h => by simp [marlinelaw21_TagsBack.j3] at h, fun _ _ r h => by simp [marlinelaw21_TagsBack.j1] at h⟩
  | k + 1 => by
    obtain ⟨ih0, ih1, ih2, ih3⟩ := marlinelaw21_TagsBack.mono_l k
    refine ⟨?_, ?_, ?_, ?_⟩
    · intro y0 y1 y2
      unfold marlinelaw21_TagsBack.j0
      repeat' first
      | (with_reducible exact ih0 _ _ _)
      | (with_reducible exact ih1 _)
      | (with_reducible exact ih2 _ _ _ _)
      | (with_reducible exact ih3 _ _)
      | (with_reducible exact marlinelaw21_Few.mono _ _)
      | (with_reducible exact marlinelaw21_Of.mono _ _)
      | (with_reducible exact marlinelaw21_To.mono _ _)
      | (with_reducible exact marlinelaw21_speaks.mono _)
      | (with_reducible exact marlineref01_Equal.mono _ _ _)
      | (with_reducible exact marlineref21_Same.mono _ _ _)
      | (with_reducible exact tags_Get.mono _ _)
      | (with_reducible exact tags_Put.mono _ _)
      | (with_reducible exact LeO.refl _)
      | (with_reducible exact LeO.none _)
      | (with_reducible refine LeO.ite ?_ ?_)
      | (with_reducible refine LeO.bind ?_ (fun _ => ?_))
      | exact ih0 _ _ _
      | exact ih1 _
      | exact ih2 _ _ _ _
      | exact ih3 _ _
      | exact marlinelaw21_Few.mono _ _
      | exact marlinelaw21_Of.mono _ _
      | exact marlinelaw21_To.mono _ _
      | exact marlinelaw21_speaks.mono _
      | exact marlineref01_Equal.mono _ _ _
      | exact marlineref21_Same.mono _ _ _
      | exact tags_Get.mono _ _
      | exact tags_Put.mono _ _
      | exact LeO.none _
      | refine LeO.ite ?_ ?_
      | refine LeO.bind ?_ (fun _ => ?_)
    · intro y0
      unfold marlinelaw21_TagsBack.j2
      repeat' first
      | (with_reducible exact ih0 _ _ _)
      | (with_reducible exact ih1 _)
      | (with_reducible exact ih2 _ _ _ _)
      | (with_reducible exact ih3 _ _)
      | (with_reducible exact marlinelaw21_Few.mono _ _)
      | (with_reducible exact marlinelaw21_Of.mono _ _)
      | (with_reducible exact marlinelaw21_To.mono _ _)
      | (with_reducible exact marlinelaw21_speaks.mono _)
      | (with_reducible exact marlineref01_Equal.mono _ _ _)
      | (with_reducible exact marlineref21_Same.mono _ _ _)
      | (with_reducible exact tags_Get.mono _ _)
      | (with_reducible exact tags_Put.mono _ _)
      | (with_reducible exact LeO.refl _)
      | (with_reducible exact LeO.none _)
      | (with_reducible refine LeO.ite ?_ ?_)
      | (with_reducible refine LeO.bind ?_ (fun _ => ?_))
      | exact ih0 _ _ _
      | exact ih1 _
      | exact ih2 _ _ _ _
      | exact ih3 _ _
      | exact marlinelaw21_Few.mono _ _
      | exact marlinelaw21_Of.mono _ _
      | exact marlinelaw21_To.mono _ _
      | exact marlinelaw21_speaks.mono _
      | exact marlineref01_Equal.mono _ _ _
      | exact marlineref21_Same.mono _ _ _
      | exact tags_Get.mono _ _
      | exact tags_Put.mono _ _
      | exact LeO.none _
      | refine LeO.ite ?_ ?_
      | refine LeO.bind ?_ (fun _ => ?_)
    · intro y0 y1 y2 y3
      unfold marlinelaw21_TagsBack.j3
      repeat' first
      | (with_reducible exact ih0 _ _ _)
      | (with_reducible exact ih1 _)
      | (with_reducible exact ih2 _ _ _ _)
      | (with_reducible exact ih3 _ _)
      | (with_reducible exact marlinelaw21_Few.mono _ _)
      | (with_reducible exact marlinelaw21_Of.mono _ _)
      | (with_reducible exact marlinelaw21_To.mono _ _)
      | (with_reducible exact marlinelaw21_speaks.mono _)
      | (with_reducible exact marlineref01_Equal.mono _ _ _)
      | (with_reducible exact marlineref21_Same.mono _ _ _)
      | (with_reducible exact tags_Get.mono _ _)
      | (with_reducible exact tags_Put.mono _ _)
      | (with_reducible exact LeO.refl _)
      | (with_reducible exact LeO.none _)
      | (with_reducible refine LeO.ite ?_ ?_)
      | (with_reducible refine LeO.bind ?_ (fun _ => ?_))
      | exact ih0 _ _ _
      | exact ih1 _
      | exact ih2 _ _ _ _
      | exact ih3 _ _
      | exact marlinelaw21_Few.mono _ _
      | exact marlinelaw21_Of.mono _ _
      | exact marlinelaw21_To.mono _ _
      | exact marlinelaw21_speaks.mono _
      | exact marlineref01_Equal.mono _ _ _
      | exact marlineref21_Same.mono _ _ _
      | exact tags_Get.mono _ _
      | exact tags_Put.mono _ _
      | exact LeO.none _
      | refine LeO.ite ?_ ?_
      | refine LeO.bind ?_ (fun _ => ?_)
    · intro y0 y1
      unfold marlinelaw21_TagsBack.j1
      repeat' first
      | (with_reducible exact ih0 _ _ _)
      | (with_reducible exact ih1 _)
      | (with_reducible exact ih2 _ _ _ _)
      | (with_reducible exact ih3 _ _)
      | (with_reducible exact marlinelaw21_Few.mono _ _)
      | (with_reducible exact marlinelaw21_Of.mono _ _)
      | (with_reducible exact marlinelaw21_To.mono _ _)
      | (with_reducible exact marlinelaw21_speaks.mono _)
      | (with_reducible exact marlineref01_Equal.mono _ _ _)
      | (with_reducible exact marlineref21_Same.mono _ _ _)
      | (with_reducible exact tags_Get.mono _ _)
      | (with_reducible exact tags_Put.mono _ _)
      | (with_reducible exact LeO.refl _)
      | (with_reducible exact LeO.none _)
      | (with_reducible refine LeO.ite ?_ ?_)
      | (with_reducible refine LeO.bind ?_ (fun _ => ?_))
      | exact ih0 _ _ _
      | exact ih1 _
      | exact ih2 _ _ _ _
      | exact ih3 _ _
      | exact marlinelaw21_Few.mono _ _
      | exact marlinelaw21_Of.mono _ _
      | exact marlinelaw21_To.mono _ _
      | exact marlinelaw21_speaks.mono _
      | exact marlineref01_Equal.mono _ _ _
      | exact marlineref21_Same.mono _ _ _
      | exact tags_Get.mono _ _
      | exact tags_Put.mono _ _
      | exact LeO.none _
      | refine LeO.ite ?_ ?_
      | refine LeO.bind ?_ (fun _ => ?_)
theorem marlinelaw21_TagsBack.mono : ∀ a0 a1 k, LeO (marlinelaw21_TagsBack.f k a0 a1) (marlinelaw21_TagsBack.f (k + 1) a0 a1) := by
  intro a0 a1 k
  obtain ⟨ih0, ih1, ih2, ih3⟩ := marlinelaw21_TagsBack.mono_l k
  unfold marlinelaw21_TagsBack.f
  repeat' first
      | (with_reducible exact ih0 _ _ _)
      | (with_reducible exact ih1 _)
      | (with_reducible exact ih2 _ _ _ _)
      | (with_reducible exact ih3 _ _)
      | (with_reducible exact marlinelaw21_Few.mono _ _)
      | (with_reducible exact marlinelaw21_Of.mono _ _)
      | (with_reducible exact marlinelaw21_To.mono _ _)
      | (with_reducible exact marlinelaw21_speaks.mono _)
      | (with_reducible exact marlineref01_Equal.mono _ _ _)
      | (with_reducible exact marlineref21_Same.mono _ _ _)
      | (with_reducible exact tags_Get.mono _ _)
      | (with_reducible exact tags_Put.mono _ _)
      | (with_reducible exact LeO.refl _)
      | (with_reducible exact LeO.none _)
      | (with_reducible refine LeO.ite ?_ ?_)
      | (with_reducible refine LeO.bind ?_ (fun _ => ?_))
      | exact ih0 _ _ _
      | exact ih1 _
      | exact ih2 _ _ _ _
      | exact ih3 _ _
      | exact marlinelaw21_Few.mono _ _
      | exact marlinelaw21_Of.mono _ _
      | exact marlinelaw21_To.mono _ _
      | exact marlinelaw21_speaks.mono _
      | exact marlineref01_Equal.mono _ _ _
      | exact marlineref21_Same.mono _ _ _
      | exact tags_Get.mono _ _
      | exact tags_Put.mono _ _
      | exact LeO.none _
      | refine LeO.ite ?_ ?_
      | refine LeO.bind ?_ (fun _ => ?_)
set_option maxHeartbeats 8000000 in
set_option maxRecDepth 100000 in
theorem marlinelaw21_TagsBack.calls (k : Nat) (A0 : Option Addr) (c0 : Nat) (l0 : List (S32)) (A1 : Option Addr) (c1 : Nat) (l1 : List Int) (r : Bool) (w : World) (hr0 : Kd.C k32 w A0 l0.length l0) (hc0 : l0.length ≤ c0) (hr1 : Kd.C (Kd.int .u8) w A1 l1.length l1) (hc1 : l1.length ≤ c1) (h : marlinelaw21_TagsBack.f k l0 l1 = some r) (hGL : GL w := by first | exact hGL | exact hGL.below HB.out | exact hGL.below (by repeat (first | (with_reducible first | exact HB.out | apply below_alloc | apply pw_below_drewN | apply below_drew1) | exact HB.out))) :
    Calls Tryd.prog 5 #[.slice A0 l0.length c0, .slice A1 l1.length c1] w fun e w' => e = .returned (.bool r) ∧ Below w.heap.size w w' := by
  have HR0 := Aside0.mk hr0
  have HC0 := Aside0.mk hc0
  clear hr0 hc0
  have HR1 := Aside0.mk hr1
  have HC1 := Aside0.mk hc1
  clear hr1 hc1
  have HB := Aside0.mk (Below.refl w.heap.size w)
  have H : ((marlinelaw21_speaks.f k).bind fun t260 => (if t260 = true then ((marlinelaw21_Few.f k l0).bind fun t261 => (if t261 = true then (marlinelaw21_TagsBack.j0 k l0 l1 (decide ((l1.length : Int) > 1000))) else (marlinelaw21_TagsBack.j0 k l0 l1 true))) else (marlinelaw21_TagsBack.j0 k l0 l1 true))) = some r := h
  clear h
  have HC3 := Aside0.mk H
  clear H
  go_enter Tryd.func5, Tryd.ntmps5
  go_upto_region 1 with (fail)
  go_cut [26] (fun v26 wc => ∃ (kq : Nat) (x26_2 : Bool), v26 = .bool x26_2 ∧ Aside0 (marlinelaw21_TagsBack.j0 kq l0 l1 x26_2 = some r) ∧ Aside0 (kq ≤ k) ∧ Aside0 (Below w.heap.size w wc))
  case first =>
    have H := HC3.out
    clear HC3
    replace H := Option.bind_eq_some_iff.mp H
    obtain ⟨t260, A40, H⟩ := H
    replace H : (if t260 = true then ((marlinelaw21_Few.f k l0).bind fun t261 => (if t261 = true then (marlinelaw21_TagsBack.j0 k l0 l1 (decide ((l1.length : Int) > 1000))) else (marlinelaw21_TagsBack.j0 k l0 l1 true))) else (marlinelaw21_TagsBack.j0 k l0 l1 true)) = some r := H
    have A4 := Aside0.mk A40
    clear A40
    by_cases c5 : t260 = true
    · subst c5
      have H1 : ((marlinelaw21_Few.f k l0).bind fun t261 => (if t261 = true then (marlinelaw21_TagsBack.j0 k l0 l1 (decide ((l1.length : Int) > 1000))) else (marlinelaw21_TagsBack.j0 k l0 l1 true))) = some r := by rw [if_pos rfl] at H; exact H
      clear H
      have H := H1
      clear H1
      replace H := Option.bind_eq_some_iff.mp H
      obtain ⟨t261, A60, H⟩ := H
      replace H : (if t261 = true then (marlinelaw21_TagsBack.j0 k l0 l1 (decide ((l1.length : Int) > 1000))) else (marlinelaw21_TagsBack.j0 k l0 l1 true)) = some r := H
      have A6 := Aside0.mk A60
      clear A60
      by_cases c7 : t261 = true
      · subst c7
        have H1 : (marlinelaw21_TagsBack.j0 k l0 l1 (decide ((l1.length : Int) > 1000))) = some r := by rw [if_pos rfl] at H; exact H
        clear H
        have H := H1
        clear H1
        have H' := Aside0.mk H
        clear H
        go_wp2_with (first | ((with_reducible refine gate_callee (f := 7) rfl ?_); refine goesL_ (some 15) rfl rfl Tryd.func7 (by kernel_rfl) rfl #[] rfl (by (try simp only [List.map_toArray, List.map_cons, List.map_nil]); first | done | rfl | (simp only [List.length_drop, List.length_take]; rfl)) ?_; (with_reducible refine (marlinelaw21_speaks.calls k  true _ A4.out).mono ?_); rintro e w8 ⟨rfl, hb⟩; refine ⟨_, rfl, ?_⟩; have n0_ := Aside0.mk (below_step (by repeat (first | (with_reducible first | exact HB.out | apply below_alloc | apply pw_below_drewN | apply below_drew1) | exact HB.out)) hb); clear HB; have HB := n0_; clear n0_; (try clear hb); (try clear hb2); (try clear hk); (try clear hi)) | (go_at_call 8; (with_reducible refine (marlinelaw21_Few.calls k _ _ l0 true _ ?side1 ?side2 A6.out).mono ?_); (case side1 => repeat (first | exact (Kd.C_below HR0.out HB.out) | (with_reducible refine Kd.C_alloc ?_ _) | (with_reducible refine Kd.C_drewN ?_ _) | (with_reducible refine Kd.C_drew ?_))); (case side2 => exact HC0.out); rintro e w9 ⟨rfl, hb⟩; have n0_ := Aside0.mk (below_step (by repeat (first | (with_reducible first | exact HB.out | apply below_alloc | apply pw_below_drewN | apply below_drew1) | exact HB.out)) hb); clear HB; have HB := n0_; clear n0_; (try clear hb); (try clear hb2); (try clear hk); (try clear hi)))
        go_meet
        case rel => exact ⟨_, (decide ((l1.length : Int) > 1000)), (by first | rfl | (simp; done) | (simp [*]; done)), H', ⟨by first | omega | exact Nat.le_refl _⟩, ⟨by repeat (first | (with_reducible first | exact HB.out | apply below_alloc | apply pw_below_drewN | apply below_drew1) | exact HB.out)⟩⟩
      · replace c7 := Bool.eq_false_iff.mpr c7
        subst c7
        have H1 : (marlinelaw21_TagsBack.j0 k l0 l1 true) = some r := by rw [if_neg (show ¬ (false = true) by decide)] at H; exact H
        clear H
        have H := H1
        clear H1
        have H' := Aside0.mk H
        clear H
        go_wp2_with (first | ((with_reducible refine gate_callee (f := 7) rfl ?_); refine goesL_ (some 15) rfl rfl Tryd.func7 (by kernel_rfl) rfl #[] rfl (by (try simp only [List.map_toArray, List.map_cons, List.map_nil]); first | done | rfl | (simp only [List.length_drop, List.length_take]; rfl)) ?_; (with_reducible refine (marlinelaw21_speaks.calls k  true _ A4.out).mono ?_); rintro e w10 ⟨rfl, hb⟩; refine ⟨_, rfl, ?_⟩; have n0_ := Aside0.mk (below_step (by repeat (first | (with_reducible first | exact HB.out | apply below_alloc | apply pw_below_drewN | apply below_drew1) | exact HB.out)) hb); clear HB; have HB := n0_; clear n0_; (try clear hb); (try clear hb2); (try clear hk); (try clear hi)) | (go_at_call 8; (with_reducible refine (marlinelaw21_Few.calls k _ _ l0 false _ ?side1 ?side2 A6.out).mono ?_); (case side1 => repeat (first | exact (Kd.C_below HR0.out HB.out) | (with_reducible refine Kd.C_alloc ?_ _) | (with_reducible refine Kd.C_drewN ?_ _) | (with_reducible refine Kd.C_drew ?_))); (case side2 => exact HC0.out); rintro e w11 ⟨rfl, hb⟩; have n0_ := Aside0.mk (below_step (by repeat (first | (with_reducible first | exact HB.out | apply below_alloc | apply pw_below_drewN | apply below_drew1) | exact HB.out)) hb); clear HB; have HB := n0_; clear n0_; (try clear hb); (try clear hb2); (try clear hk); (try clear hi)))
        go_meet
        case rel => exact ⟨_, (true), (by first | rfl | (simp; done) | (simp [*]; done)), H', ⟨by first | omega | exact Nat.le_refl _⟩, ⟨by repeat (first | (with_reducible first | exact HB.out | apply below_alloc | apply pw_below_drewN | apply below_drew1) | exact HB.out)⟩⟩
    · replace c5 := Bool.eq_false_iff.mpr c5
      subst c5
      have H1 : (marlinelaw21_TagsBack.j0 k l0 l1 true) = some r := by rw [if_neg (show ¬ (false = true) by decide)] at H; exact H
      clear H
      have H := H1
      clear H1
      have H' := Aside0.mk H
      clear H
      go_wp2_with (first | ((with_reducible refine gate_callee (f := 7) rfl ?_); refine goesL_ (some 15) rfl rfl Tryd.func7 (by kernel_rfl) rfl #[] rfl (by (try simp only [List.map_toArray, List.map_cons, List.map_nil]); first | done | rfl | (simp only [List.length_drop, List.length_take]; rfl)) ?_; (with_reducible refine (marlinelaw21_speaks.calls k  false _ A4.out).mono ?_); rintro e w12 ⟨rfl, hb⟩; refine ⟨_, rfl, ?_⟩; have n0_ := Aside0.mk (below_step (by repeat (first | (with_reducible first | exact HB.out | apply below_alloc | apply pw_below_drewN | apply below_drew1) | exact HB.out)) hb); clear HB; have HB := n0_; clear n0_; (try clear hb); (try clear hb2); (try clear hk); (try clear hi)))
      go_meet
      case rel => exact ⟨_, (true), (by first | rfl | (simp; done) | (simp [*]; done)), H', ⟨by first | omega | exact Nat.le_refl _⟩, ⟨by repeat (first | (with_reducible first | exact HB.out | apply below_alloc | apply pw_below_drewN | apply below_drew1) | exact HB.out)⟩⟩
  case rest =>
    clear HC3
    try clear c1
    try clear p2
    try clear c5
    try clear c7
    obtain ⟨kq, x26_2, rfl, HA, HJ2, HB⟩ := hcut
    cases kq with
    | zero => exact absurd HA.out (by simp [marlinelaw21_TagsBack.j0])
    | succ kj2 =>
      have H := HA.out
      clear HA
      simp only [marlinelaw21_TagsBack.j0] at H
      by_cases c13 : x26_2 = true
      · subst c13
        have H1 : ((marlinelaw21_speaks.f kj2).bind fun t262 => (some t262)) = some r := by rw [if_pos rfl] at H; exact H
        clear H
        have H := H1
        clear H1
        replace H := Option.bind_eq_some_iff.mp H
        obtain ⟨t262, A140, H⟩ := H
        replace H : (some t262) = some r := H
        have A14 := Aside0.mk A140
        clear A140
        obtain rfl := Option.some.inj H
        go_wp2_with (first | ((with_reducible refine gate_callee (f := 7) rfl ?_); refine goesL_ (some 27) rfl rfl Tryd.func7 (by kernel_rfl) rfl #[] rfl (by (try simp only [List.map_toArray, List.map_cons, List.map_nil]); first | done | rfl | (simp only [List.length_drop, List.length_take]; rfl)) ?_; (with_reducible refine (marlinelaw21_speaks.calls kj2  t262 _ A14.out).mono ?_); rintro e w15 ⟨rfl, hb⟩; refine ⟨_, rfl, ?_⟩; have n0_ := Aside0.mk (below_step (by repeat (first | (with_reducible first | exact HB.out | apply below_alloc | apply pw_below_drewN | apply below_drew1) | exact HB.out)) hb); clear HB; have HB := n0_; clear n0_; (try clear hb); (try clear hb2); (try clear hk); (try clear hi)))
        go_ret
        exact ⟨by first | rfl | (simp [errW_none, errW_some] <;> rfl) | (simp [*, errW_none, errW_some] <;> rfl), by repeat (first | (with_reducible first | exact HB.out | apply below_alloc | apply pw_below_drewN | apply below_drew1) | exact HB.out)⟩
      · replace c13 := Bool.eq_false_iff.mpr c13
        subst c13
        have H1 : ((marlinelaw21_Of.f kj2 l0).bind fun t263 => ((tags_Put.f kj2 t263).bind fun bt266 => (if bt266.2 = 0 then ((tags_Get.f kj2 bt266.1).bind fun bt270 => (if bt270.2.2 = 0 then (if bt270.2.1 = (bt266.1.length : Int) then ((marlinelaw21_To.f kj2 bt270.1).bind fun t275 => ((marlineref21_Same.f kj2 t275 l0).bind fun t278 => (marlinelaw21_TagsBack.j1 kj2 l1 (!t278)))) else (marlinelaw21_TagsBack.j1 kj2 l1 true)) else (marlinelaw21_TagsBack.j1 kj2 l1 true))) else (if (bt266.1.length : Int) = 0 then (marlinelaw21_TagsBack.j2 kj2 l1) else (none))))) = some r := by rw [if_neg (show ¬ (false = true) by decide)] at H; exact H
        clear H
        have H := H1
        clear H1
        replace H := Option.bind_eq_some_iff.mp H
        obtain ⟨t263, A160, H⟩ := H
        replace H : ((tags_Put.f kj2 t263).bind fun bt266 => (if bt266.2 = 0 then ((tags_Get.f kj2 bt266.1).bind fun bt270 => (if bt270.2.2 = 0 then (if bt270.2.1 = (bt266.1.length : Int) then ((marlinelaw21_To.f kj2 bt270.1).bind fun t275 => ((marlineref21_Same.f kj2 t275 l0).bind fun t278 => (marlinelaw21_TagsBack.j1 kj2 l1 (!t278)))) else (marlinelaw21_TagsBack.j1 kj2 l1 true)) else (marlinelaw21_TagsBack.j1 kj2 l1 true))) else (if (bt266.1.length : Int) = 0 then (marlinelaw21_TagsBack.j2 kj2 l1) else (none)))) = some r := H
        have A16 := Aside0.mk A160
        clear A160
        replace H := Option.bind_eq_some_iff.mp H
        obtain ⟨⟨t266, t267⟩, A170, H⟩ := H
        replace H : (if t267 = 0 then ((tags_Get.f kj2 t266).bind fun bt270 => (if bt270.2.2 = 0 then (if bt270.2.1 = (t266.length : Int) then ((marlinelaw21_To.f kj2 bt270.1).bind fun t275 => ((marlineref21_Same.f kj2 t275 l0).bind fun t278 => (marlinelaw21_TagsBack.j1 kj2 l1 (!t278)))) else (marlinelaw21_TagsBack.j1 kj2 l1 true)) else (marlinelaw21_TagsBack.j1 kj2 l1 true))) else (if (t266.length : Int) = 0 then (marlinelaw21_TagsBack.j2 kj2 l1) else (none))) = some r := H
        have A17 := Aside0.mk A170
        clear A170
        have HC18 := Aside0.mk H
        clear H
        go_upto_if 35 with (first | ((with_reducible refine gate_callee (f := 9) rfl ?_); refine goesL_ (some 30) rfl rfl Tryd.func9 (by kernel_rfl) rfl #[.slice A0 l0.length c0] rfl (by (try simp only [List.map_toArray, List.map_cons, List.map_nil]); first | done | rfl | (simp only [List.length_drop, List.length_take]; rfl)) ?_; (with_reducible refine (marlinelaw21_Of.calls kj2 (fun k_ => k_ < w.heap.size) _ _ l0 t263 _ ?side1 A16.out).mono ?_); (case side1 => exact Kd.V_mk HC0.out (Kd.F_below (Kd.C_F k32_heap HR0.out) (by repeat (first | (with_reducible first | exact HB.out | apply below_alloc | apply pw_below_drewN | apply below_drew1) | exact HB.out)))); rintro e w19 ⟨v264, rfl, ho0, hb⟩; refine ⟨_, rfl, ?_⟩; have n0_ := Aside0.mk (Kd.N_lower (Kd.N_mono (ok' := fun k_ => True) ho0 (fun k_ hk_ => trivial)) (below_size (by repeat (first | (with_reducible first | exact HB.out | apply below_alloc | apply pw_below_drewN | apply below_drew1) | exact HB.out)))); have n1_ := Aside0.mk (below_step (by repeat (first | (with_reducible first | exact HB.out | apply below_alloc | apply pw_below_drewN | apply below_drew1) | exact HB.out)) hb); clear HB; have HO265 := n0_; have HB := n1_; clear n0_ n1_; (try clear hb); (try clear hb2); (try clear hk); (try clear hi); (try clear ho0); obtain ⟨Ao20, co20, eo20⟩ := Kd.N_slice HO265.out; subst eo20) | ((with_reducible refine gate_callee (f := 14) rfl ?_); refine goesL_ (some 31) rfl rfl Tryd.func14 (by kernel_rfl) rfl #[.slice Ao20 t263.length co20] rfl (by (try simp only [List.map_toArray, List.map_cons, List.map_nil]); first | done | rfl | (simp only [List.length_drop, List.length_take]; rfl)) ?_; (with_reducible refine (tags_Put.calls kj2 _ _ t263 t266 t267 _ ?side1 ?side2 A17.out).mono ?_); (case side1 => repeat (first | exact (Kd.N_reads' HO265.out).2.2 | (with_reducible refine Kd.C_alloc ?_ _) | (with_reducible refine Kd.C_drewN ?_ _) | (with_reducible refine Kd.C_drew ?_))); (case side2 => exact (Kd.N_reads' HO265.out).2.1); rintro e w21 ⟨v268, rfl, ho0, hb⟩; refine ⟨_, rfl, ?_⟩; have n0_ := Aside0.mk (Kd.N_below (by (with_reducible repeat (first | apply Kd.N_alloc | apply Kd.N_drewN | apply Kd.N_drew)); exact HO265.out) hb); have n1_ := Aside0.mk (Kd.R_lower ho0 (below_size (by repeat (first | (with_reducible first | exact HB.out | apply below_alloc | apply pw_below_drewN | apply below_drew1) | exact HB.out)))); have n2_ := Aside0.mk (below_step (by repeat (first | (with_reducible first | exact HB.out | apply below_alloc | apply pw_below_drewN | apply below_drew1) | exact HB.out)) hb); clear HO265; clear HB; have HO265 := n0_; have HO269 := n1_; have HB := n2_; clear n0_ n1_ n2_; (try clear hb); (try clear hb2); (try clear hk); (try clear hi); (try clear ho0)))
        (try simp only [Act.put, List.setIfInBounds_toArray, List.set_cons_zero, List.set_cons_succ])
        go_cut [] (fun wc => ∃ (kq : Nat), Aside0 (marlinelaw21_TagsBack.j2 kq l1 = some r) ∧ Aside0 (kq ≤ kj2) ∧ Aside0 (Below w.heap.size w wc))
        case first =>
          have H := HC18.out
          clear HC18
          by_cases c22 : t267 = 0
          · rw [if_pos c22] at H
            have c22b0 : (t267 == 0) = true := beq_iff_eq.mpr c22
            have c22b1 : (t267 != 0) = false := bne_eq_false_iff_eq.mpr c22
            clear c22
            (first | rw [c22b0] | (simp only [i64_w, i32_w]; rw [c22b0]) | skip)
            replace H := Option.bind_eq_some_iff.mp H
            obtain ⟨⟨t270, t271, t272⟩, A230, H⟩ := H
            replace H : (if t272 = 0 then (if t271 = (t266.length : Int) then ((marlinelaw21_To.f kj2 t270).bind fun t275 => ((marlineref21_Same.f kj2 t275 l0).bind fun t278 => (marlinelaw21_TagsBack.j1 kj2 l1 (!t278)))) else (marlinelaw21_TagsBack.j1 kj2 l1 true)) else (marlinelaw21_TagsBack.j1 kj2 l1 true)) = some r := H
            have A23 := Aside0.mk A230
            clear A230
            have HC24 := Aside0.mk H
            clear H
            obtain ⟨Ao25, co25, eo25⟩ := Kd.R_slice HO269.out
            subst eo25
            go_upto_region 6 with (first | ((with_reducible refine gate_callee (f := 16) rfl ?_); refine goesL_ (some 38) rfl rfl Tryd.func16 (by kernel_rfl) rfl #[.slice Ao25 t266.length co25] rfl (by (try simp only [List.map_toArray, List.map_cons, List.map_nil]); first | done | rfl | (simp only [List.length_drop, List.length_take]; rfl)) ?_; (with_reducible refine (tags_Get.calls kj2 _ _ t266 t270 t271 t272 _ ?side1 ?side2 A23.out).mono ?_); (case side1 => repeat (first | exact (Kd.R_reads' HO269.out).2.2 | (with_reducible refine Kd.C_alloc ?_ _) | (with_reducible refine Kd.C_drewN ?_ _) | (with_reducible refine Kd.C_drew ?_))); (case side2 => exact (Kd.R_reads' HO269.out).2.1); rintro e w26 ⟨v273, rfl, ho0, hb⟩; refine ⟨_, rfl, ?_⟩; have n0_ := Aside0.mk (Kd.N_below (by (with_reducible repeat (first | apply Kd.N_alloc | apply Kd.N_drewN | apply Kd.N_drew)); exact HO265.out) hb); have n1_ := Aside0.mk (Kd.R_below (by (with_reducible repeat (first | apply Kd.R_alloc | apply Kd.R_drewN | apply Kd.R_drew)); exact HO269.out) hb); have n2_ := Aside0.mk (Kd.N_lower (Kd.N_mono (ok' := fun k_ => True) (Kd.S_N (Kd.S_bound ho0)) (fun k_ hk_ => trivial)) (below_size (by repeat (first | (with_reducible first | exact HB.out | apply below_alloc | apply pw_below_drewN | apply below_drew1) | exact HB.out)))); have n3_ := Aside0.mk (below_step (by repeat (first | (with_reducible first | exact HB.out | apply below_alloc | apply pw_below_drewN | apply below_drew1) | exact HB.out)) hb); clear HO265; clear HO269; clear HB; have HO265 := n0_; have HO269 := n1_; have HO274 := n2_; have HB := n3_; clear n0_ n1_ n2_ n3_; (try clear hb); (try clear hb2); (try clear hk); (try clear hi); (try clear ho0)))
            (try simp only [Act.put, List.setIfInBounds_toArray, List.set_cons_zero, List.set_cons_succ])
            go_cut [56] (fun v56 wc => ∃ (kq : Nat) (x56_23 : Bool), v56 = .bool x56_23 ∧ Aside0 (marlinelaw21_TagsBack.j1 kq l1 x56_23 = some r) ∧ Aside0 (kq ≤ kj2) ∧ Aside0 (Below w.heap.size w wc))
            case first =>
              have H := HC24.out
              clear HC24
              by_cases c27 : t272 = 0
              · rw [if_pos c27] at H
                have c27b0 : (t272 == 0) = true := beq_iff_eq.mpr c27
                have c27b1 : (t272 != 0) = false := bne_eq_false_iff_eq.mpr c27
                clear c27
                (first | rw [c27b0] | (simp only [i64_w, i32_w]; rw [c27b0]) | skip)
                by_cases c28 : t271 = (t266.length : Int)
                · rw [if_pos c28] at H
                  have c28b0 : (t271 == (t266.length : Int)) = true := beq_iff_eq.mpr c28
                  have c28b1 : (t271 != (t266.length : Int)) = false := bne_eq_false_iff_eq.mpr c28
                  clear c28
                  replace H := Option.bind_eq_some_iff.mp H
                  obtain ⟨t275, A290, H⟩ := H
                  replace H : ((marlineref21_Same.f kj2 t275 l0).bind fun t278 => (marlinelaw21_TagsBack.j1 kj2 l1 (!t278))) = some r := H
                  have A29 := Aside0.mk A290
                  clear A290
                  replace H := Option.bind_eq_some_iff.mp H
                  obtain ⟨t278, A300, H⟩ := H
                  replace H : (marlinelaw21_TagsBack.j1 kj2 l1 (!t278)) = some r := H
                  have A30 := Aside0.mk A300
                  clear A300
                  have H' := Aside0.mk H
                  clear H
                  obtain ⟨Ao31, co31, eo31⟩ := Kd.N_slice HO274.out
                  subst eo31
                  go_wp2_with (first | (go_at_call 13; (with_reducible refine (marlinelaw21_To.calls kj2 (fun k_ => True) _ _ t270 t275 _ ?side1 A29.out).mono ?_); (case side1 => exact Kd.N_V (HO274.out)); rintro e w32 ⟨v276, rfl, ho0, hb⟩; have n0_ := Aside0.mk (Kd.N_below (by (with_reducible repeat (first | apply Kd.N_alloc | apply Kd.N_drewN | apply Kd.N_drew)); exact HO265.out) hb); have n1_ := Aside0.mk (Kd.R_below (by (with_reducible repeat (first | apply Kd.R_alloc | apply Kd.R_drewN | apply Kd.R_drew)); exact HO269.out) hb); have n2_ := Aside0.mk (Kd.N_below (by (with_reducible repeat (first | apply Kd.N_alloc | apply Kd.N_drewN | apply Kd.N_drew)); exact HO274.out) hb); have n3_ := Aside0.mk (Kd.N_lower (Kd.N_mono (ok' := fun k_ => True) ho0 (fun k_ hk_ => trivial)) (below_size (by repeat (first | (with_reducible first | exact HB.out | apply below_alloc | apply pw_below_drewN | apply below_drew1) | exact HB.out)))); have n4_ := Aside0.mk (below_step (by repeat (first | (with_reducible first | exact HB.out | apply below_alloc | apply pw_below_drewN | apply below_drew1) | exact HB.out)) hb); clear HO265; clear HO269; clear HO274; clear HB; have HO265 := n0_; have HO269 := n1_; have HO274 := n2_; have HO277 := n3_; have HB := n4_; clear n0_ n1_ n2_ n3_ n4_; (try clear hb); (try clear hb2); (try clear hk); (try clear hi); (try clear ho0); obtain ⟨Ao33, co33, eo33⟩ := Kd.N_slice HO277.out; subst eo33) | (go_at_call 12; (with_reducible refine (marlineref21_Same.calls kj2 _ _ t275 _ _ l0 t278 _ ?side1 ?side2 ?side3 ?side4 A30.out).mono ?_); (case side1 => repeat (first | exact (Kd.N_reads' HO277.out).2.2 | (with_reducible refine Kd.C_alloc ?_ _) | (with_reducible refine Kd.C_drewN ?_ _) | (with_reducible refine Kd.C_drew ?_))); (case side2 => exact (Kd.N_reads' HO277.out).2.1); (case side3 => repeat (first | exact (Kd.C_below HR0.out HB.out) | (with_reducible refine Kd.C_alloc ?_ _) | (with_reducible refine Kd.C_drewN ?_ _) | (with_reducible refine Kd.C_drew ?_))); (case side4 => exact HC0.out); rintro e w' ⟨rfl, ⟨nd, rfl⟩⟩))
                  go_meet
                  case rel => exact ⟨_, (!t278), (by first | rfl | (simp; done) | (simp [*]; done)), H', ⟨by have := HJ2.out; first | omega | exact Nat.le_refl _⟩, ⟨by repeat (first | (with_reducible first | exact HB.out | apply below_alloc | apply pw_below_drewN | apply below_drew1) | exact HB.out)⟩⟩
                · rw [if_neg c28] at H
                  have c28b0 : (t271 == (t266.length : Int)) = false := beq_eq_false_iff_ne.mpr c28
                  have c28b1 : (t271 != (t266.length : Int)) = true := bne_iff_ne.mpr c28
                  have H' := Aside0.mk H
                  clear H
                  go_wp2
                  go_meet
                  case rel => exact ⟨_, (true), (by first | rfl | (simp; done) | (simp [*]; done)), H', ⟨by have := HJ2.out; first | omega | exact Nat.le_refl _⟩, ⟨by repeat (first | (with_reducible first | exact HB.out | apply below_alloc | apply pw_below_drewN | apply below_drew1) | exact HB.out)⟩⟩
              · rw [if_neg c27] at H
                have c27b0 : (t272 == 0) = false := beq_eq_false_iff_ne.mpr c27
                have c27b1 : (t272 != 0) = true := bne_iff_ne.mpr c27
                (first | rw [c27b0] | (simp only [i64_w, i32_w]; rw [c27b0]) | skip)
                have H' := Aside0.mk H
                clear H
                go_wp2
                go_meet
                case rel => exact ⟨_, (true), (by first | rfl | (simp; done) | (simp [*]; done)), H', ⟨by have := HJ2.out; first | omega | exact Nat.le_refl _⟩, ⟨by repeat (first | (with_reducible first | exact HB.out | apply below_alloc | apply pw_below_drewN | apply below_drew1) | exact HB.out)⟩⟩
            case rest =>
              clear HC24
              try clear c1
              try clear c2
              try clear p2
              try clear c5
              try clear c7
              try clear c9
              try clear c13
              try clear c14
              try clear c16
              try clear c22
              try clear c22b0
              try clear c22b1
              try clear c27
              try clear c27b0
              try clear c27b1
              try clear c28
              try clear c28b0
              try clear c28b1
              try clear p2
              obtain ⟨kq, x56_23, rfl, HA, HJ23, HB⟩ := hcut
              cases kq with
              | zero => exact absurd HA.out (by simp [marlinelaw21_TagsBack.j1])
              | succ kj23 =>
                have H := HA.out
                clear HA
                simp only [marlinelaw21_TagsBack.j1] at H
                by_cases c34 : x56_23 = true
                · subst c34
                  have H1 : (none) = some r := by rw [if_pos rfl] at H; exact H
                  clear H
                  have H := H1
                  clear H1
                  exact absurd H (by simp)
                · replace c34 := Bool.eq_false_iff.mpr c34
                  subst c34
                  have H1 : (marlinelaw21_TagsBack.j2 kj23 l1) = some r := by rw [if_neg (show ¬ (false = true) by decide)] at H; exact H
                  clear H
                  have H := H1
                  clear H1
                  have H' := Aside0.mk H
                  clear H
                  go_wp2
                  go_meet
                  case rel => exact ⟨_, H', ⟨by have := HJ2.out; have := HJ23.out; first | omega | exact Nat.le_refl _⟩, ⟨by repeat (first | (with_reducible first | exact HB.out | apply below_alloc | apply pw_below_drewN | apply below_drew1) | exact HB.out)⟩⟩
          · rw [if_neg c22] at H
            have c22b0 : (t267 == 0) = false := beq_eq_false_iff_ne.mpr c22
            have c22b1 : (t267 != 0) = true := bne_iff_ne.mpr c22
            (first | rw [c22b0] | (simp only [i64_w, i32_w]; rw [c22b0]) | skip)
            by_cases c35 : (t266.length : Int) = 0
            · rw [if_pos c35] at H
              have c35b0 : ((t266.length : Int) == 0) = true := beq_iff_eq.mpr c35
              have c35b1 : ((t266.length : Int) != 0) = false := bne_eq_false_iff_eq.mpr c35
              clear c35
              have H' := Aside0.mk H
              clear H
              obtain ⟨Ao36, co36, eo36⟩ := Kd.R_slice HO269.out
              subst eo36
              go_wp2
              go_meet
              case rel => exact ⟨_, H', ⟨by have := HJ2.out; first | omega | exact Nat.le_refl _⟩, ⟨by repeat (first | (with_reducible first | exact HB.out | apply below_alloc | apply pw_below_drewN | apply below_drew1) | exact HB.out)⟩⟩
            · rw [if_neg c35] at H
              exact absurd H (by simp)
        case rest =>
          clear HC18
          try clear c1
          try clear c2
          try clear p2
          try clear c3
          try clear c5
          try clear c7
          try clear c9
          try clear c13
          try clear c14
          try clear c16
          try clear c22
          try clear c22b0
          try clear c22b1
          try clear c27
          try clear c27b0
          try clear c27b1
          try clear c28
          try clear c28b0
          try clear c28b1
          try clear c34
          try clear c35
          try clear c35b0
          try clear c35b1
          try clear p2
          obtain ⟨kq, HA, HJ17, HB⟩ := hcut
          cases kq with
          | zero => exact absurd HA.out (by simp [marlinelaw21_TagsBack.j2])
          | succ kj17 =>
            have H := HA.out
            clear HA
            simp only [marlinelaw21_TagsBack.j2] at H
            replace H := Option.bind_eq_some_iff.mp H
            obtain ⟨⟨t279, t280, t281⟩, A370, H⟩ := H
            replace H : (if t281 = 0 then ((tags_Put.f kj17 t279).bind fun bt284 => (if bt284.2 = 0 then (if t280 > (l1.length : Int) then (marlinelaw21_TagsBack.j3 kj17 l1 t280 bt284.1 true) else (if t280 < (bt284.1.length : Int) then (marlinelaw21_TagsBack.j3 kj17 l1 t280 bt284.1 true) else (if 0 ≤ (bt284.1.length : Int) then (if (bt284.1.length : Int) ≤ (l1.length : Int) then ((marlineref01_Equal.f kj17 bt284.1 (l1.take ((bt284.1.length : Int) : Int).toNat)).bind fun t292 => (marlinelaw21_TagsBack.j3 kj17 l1 t280 bt284.1 (!t292))) else (none)) else (none)))) else (marlinelaw21_TagsBack.j3 kj17 l1 t280 bt284.1 true))) else (if (t279.length : Int) = 0 then (some (t280 == 0)) else (none))) = some r := H
            have A37 := Aside0.mk A370
            clear A370
            by_cases c38 : t281 = 0
            · rw [if_pos c38] at H
              have c38b0 : (t281 == 0) = true := beq_iff_eq.mpr c38
              have c38b1 : (t281 != 0) = false := bne_eq_false_iff_eq.mpr c38
              clear c38
              replace H := Option.bind_eq_some_iff.mp H
              obtain ⟨⟨t284, t285⟩, A390, H⟩ := H
              replace H : (if t285 = 0 then (if t280 > (l1.length : Int) then (marlinelaw21_TagsBack.j3 kj17 l1 t280 t284 true) else (if t280 < (t284.length : Int) then (marlinelaw21_TagsBack.j3 kj17 l1 t280 t284 true) else (if 0 ≤ (t284.length : Int) then (if (t284.length : Int) ≤ (l1.length : Int) then ((marlineref01_Equal.f kj17 t284 (l1.take ((t284.length : Int) : Int).toNat)).bind fun t292 => (marlinelaw21_TagsBack.j3 kj17 l1 t280 t284 (!t292))) else (none)) else (none)))) else (marlinelaw21_TagsBack.j3 kj17 l1 t280 t284 true)) = some r := H
              have A39 := Aside0.mk A390
              clear A390
              have HC40 := Aside0.mk H
              clear H
              go_upto_region 14 with (first | ((with_reducible refine gate_callee (f := 16) rfl ?_); refine goesL_ (some 62) rfl rfl Tryd.func16 (by kernel_rfl) rfl #[.slice A1 l1.length c1] rfl (by (try simp only [List.map_toArray, List.map_cons, List.map_nil]); first | done | rfl | (simp only [List.length_drop, List.length_take]; rfl)) ?_; (with_reducible refine (tags_Get.calls kj17 _ _ l1 t279 t280 t281 _ ?side1 ?side2 A37.out).mono ?_); (case side1 => repeat (first | exact (Kd.C_below HR1.out HB.out) | (with_reducible refine Kd.C_alloc ?_ _) | (with_reducible refine Kd.C_drewN ?_ _) | (with_reducible refine Kd.C_drew ?_))); (case side2 => exact HC1.out); rintro e w41 ⟨v282, rfl, ho0, hb⟩; refine ⟨_, rfl, ?_⟩; have n0_ := Aside0.mk (Kd.N_lower (Kd.N_mono (ok' := fun k_ => True) (Kd.S_N (Kd.S_bound ho0)) (fun k_ hk_ => trivial)) (below_size (by repeat (first | (with_reducible first | exact HB.out | apply below_alloc | apply pw_below_drewN | apply below_drew1) | exact HB.out)))); have n1_ := Aside0.mk (below_step (by repeat (first | (with_reducible first | exact HB.out | apply below_alloc | apply pw_below_drewN | apply below_drew1) | exact HB.out)) hb); clear HB; have HO283 := n0_; have HB := n1_; clear n0_ n1_; (try clear hb); (try clear hb2); (try clear hk); (try clear hi); (try clear ho0); obtain ⟨Ao42, co42, eo42⟩ := Kd.N_slice HO283.out; subst eo42) | ((with_reducible refine gate_callee (f := 14) rfl ?_); refine goesL_ (some 77) rfl rfl Tryd.func14 (by kernel_rfl) rfl #[.slice Ao42 t279.length co42] rfl (by (try simp only [List.map_toArray, List.map_cons, List.map_nil]); first | done | rfl | (simp only [List.length_drop, List.length_take]; rfl)) ?_; (with_reducible refine (tags_Put.calls kj17 _ _ t279 t284 t285 _ ?side1 ?side2 A39.out).mono ?_); (case side1 => repeat (first | exact (Kd.N_reads' HO283.out).2.2 | (with_reducible refine Kd.C_alloc ?_ _) | (with_reducible refine Kd.C_drewN ?_ _) | (with_reducible refine Kd.C_drew ?_))); (case side2 => exact (Kd.N_reads' HO283.out).2.1); rintro e w43 ⟨v286, rfl, ho0, hb⟩; refine ⟨_, rfl, ?_⟩; have n0_ := Aside0.mk (Kd.N_below (by (with_reducible repeat (first | apply Kd.N_alloc | apply Kd.N_drewN | apply Kd.N_drew)); exact HO283.out) hb); have n1_ := Aside0.mk (Kd.R_lower ho0 (below_size (by repeat (first | (with_reducible first | exact HB.out | apply below_alloc | apply pw_below_drewN | apply below_drew1) | exact HB.out)))); have n2_ := Aside0.mk (below_step (by repeat (first | (with_reducible first | exact HB.out | apply below_alloc | apply pw_below_drewN | apply below_drew1) | exact HB.out)) hb); clear HO283; clear HB; have HO283 := n0_; have HO287 := n1_; have HB := n2_; clear n0_ n1_ n2_; (try clear hb); (try clear hb2); (try clear hk); (try clear hi); (try clear ho0)))
              (try simp only [Act.put, List.setIfInBounds_toArray, List.set_cons_zero, List.set_cons_succ])
              go_cut [102] (fun v102 wc => ∃ (kq : Nat) (x102_39 : Bool), v102 = .bool x102_39 ∧ Aside0 (marlinelaw21_TagsBack.j3 kq l1 t280 t284 x102_39 = some r) ∧ Aside0 (kq ≤ kj17) ∧ Aside0 (Kd.R (Kd.int .u8) 5 wc w.heap.size (fun _ => True) v286 t284) ∧ Aside0 (Below w.heap.size w wc))
              case first =>
                have H := HC40.out
                clear HC40
                by_cases c44 : t285 = 0
                · rw [if_pos c44] at H
                  have c44b0 : (t285 == 0) = true := beq_iff_eq.mpr c44
                  have c44b1 : (t285 != 0) = false := bne_eq_false_iff_eq.mpr c44
                  clear c44
                  (first | rw [c44b0] | (simp only [i64_w, i32_w]; rw [c44b0]) | skip)
                  by_cases c45 : t280 > (l1.length : Int)
                  · rw [if_pos c45] at H
                    have c45b0 : decide ((l1.length : Int) < t280) = true := decide_eq_true c45
                    clear c45
                    have H' := Aside0.mk H
                    clear H
                    go_wp2
                    go_meet
                    case rel => exact ⟨_, (true), (by first | rfl | (simp; done) | (simp [*]; done)), H', ⟨by have := HJ2.out; have := HJ17.out; first | omega | exact Nat.le_refl _⟩, ⟨by (with_reducible repeat (first | apply Kd.R_alloc | apply Kd.R_drewN | apply Kd.R_drew)); exact HO287.out⟩, ⟨by repeat (first | (with_reducible first | exact HB.out | apply below_alloc | apply pw_below_drewN | apply below_drew1) | exact HB.out)⟩⟩
                  · rw [if_neg c45] at H
                    have c45b0 : decide ((l1.length : Int) < t280) = false := decide_eq_false c45
                    clear c45
                    by_cases c46 : t280 < (t284.length : Int)
                    · rw [if_pos c46] at H
                      have c46b0 : decide (t280 < (t284.length : Int)) = true := decide_eq_true c46
                      clear c46
                      have H' := Aside0.mk H
                      clear H
                      obtain ⟨Ao47, co47, eo47⟩ := Kd.R_slice HO287.out
                      subst eo47
                      go_wp2
                      go_meet
                      case rel => exact ⟨_, (true), (by first | rfl | (simp; done) | (simp [*]; done)), H', ⟨by have := HJ2.out; have := HJ17.out; first | omega | exact Nat.le_refl _⟩, ⟨by (with_reducible repeat (first | apply Kd.R_alloc | apply Kd.R_drewN | apply Kd.R_drew)); exact HO287.out⟩, ⟨by repeat (first | (with_reducible first | exact HB.out | apply below_alloc | apply pw_below_drewN | apply below_drew1) | exact HB.out)⟩⟩
                    · rw [if_neg c46] at H
                      have c46b0 : decide (t280 < (t284.length : Int)) = false := decide_eq_false c46
                      clear c46
                      by_cases c48 : 0 ≤ (t284.length : Int)
                      · rw [if_pos c48] at H
                        have c48b0 := eq_true c48
                        have c48b1 : decide (0 ≤ (t284.length : Int)) = true := decide_eq_true c48
                        clear c48
                        by_cases c49 : (t284.length : Int) ≤ (l1.length : Int)
                        · rw [if_pos c49] at H
                          have c49b0 := eq_true c49
                          have c49b1 : decide ((t284.length : Int) ≤ (l1.length : Int)) = true := decide_eq_true c49
                          clear c49
                          obtain ⟨y288, hy288⟩ : ∃ y_ : List Int, y_ = (l1.take ((t284.length : Int) : Int).toNat) := ⟨_, rfl⟩
                          replace H : ((marlineref01_Equal.f kj17 t284 y288).bind fun t292 => (marlinelaw21_TagsBack.j3 kj17 l1 t280 t284 (!t292))) = some r := by first | (rw [hy288]; with_reducible exact H) | (have H2_ := (Option.bind_some _ _).symm.trans H; rw [hy288]; with_reducible exact H2_) | (have H2_ := (Option.bind_some _ _).symm.trans H; with_reducible exact H2_) | with_reducible exact H | (rw [hy288]; exact H) | exact H
                          have Ny288 := Aside0.mk hy288
                          clear hy288
                          replace H := Option.bind_eq_some_iff.mp H
                          obtain ⟨t292, A500, H⟩ := H
                          replace H : (marlinelaw21_TagsBack.j3 kj17 l1 t280 t284 (!t292)) = some r := H
                          have A50 := Aside0.mk A500
                          clear A500
                          have H' := Aside0.mk H
                          clear H
                          obtain ⟨Ao51, co51, eo51⟩ := Kd.R_slice HO287.out
                          subst eo51
                          have q52 : ((t284.length : Int) : Int) ≤ ((l1.length : Int) : Int) := of_decide_eq_true (by first | (with_reducible assumption) | assumption)
                          obtain ⟨i052, hi052, _, hsz52, _⟩ := info_parts info5
                          have hroom52 : l1.length ≤ c1 := HC1.out
                          have hC52 : Kd.C (Kd.int .u8) _ A1 l1.length l1 := HR1.out
                          have hcut52 := cut_to (P := Tryd.prog) 28 5 .i64 Tryd.underlying28 hi052 A1 l1.length c1 (t284.length : Int) (of_decide_eq_true (by first | (with_reducible assumption) | assumption)) q52 hroom52
                          have hr52 := Kd.C_take (m := ((t284.length : Int) : Int).toNat) hC52 (by omega)
                          have hy52 : y288.length = ((t284.length : Int) : Int).toNat := (by rw [Ny288.out, List.length_take]; omega)
                          rw [← Ny288.out] at hr52
                          rw [← hy52] at hcut52
                          have HR291 := Aside0.mk hr52
                          have HC291 := Aside0.mk (show y288.length ≤ c1 from by omega)
                          clear hr52 hC52 hroom52 hi052 hsz52
                          have KY52 := Aside0.mk hy52
                          clear hy52
                          replace q52 := eq_true q52
                          go_wp2_with (first | (go_at_call 11; (with_reducible refine (marlineref01_Equal.calls kj17 _ _ t284 _ _ y288 t292 _ ?side1 ?side2 ?side3 ?side4 A50.out).mono ?_); (case side1 => repeat (first | exact (Kd.R_reads' HO287.out).2.2 | (with_reducible refine Kd.C_alloc ?_ _) | (with_reducible refine Kd.C_drewN ?_ _) | (with_reducible refine Kd.C_drew ?_))); (case side2 => exact (Kd.R_reads' HO287.out).2.1); (case side3 => repeat (first | exact (Kd.C_below HR291.out HB.out) | (with_reducible refine Kd.C_alloc ?_ _) | (with_reducible refine Kd.C_drewN ?_ _) | (with_reducible refine Kd.C_drew ?_))); (case side4 => exact HC291.out); rintro e w' ⟨rfl, ⟨nd, rfl⟩⟩))
                          go_meet
                          case rel => exact ⟨_, (!t292), (by first | rfl | (simp; done) | (simp [*]; done)), H', ⟨by have := HJ2.out; have := HJ17.out; first | omega | exact Nat.le_refl _⟩, ⟨by (with_reducible repeat (first | apply Kd.R_alloc | apply Kd.R_drewN | apply Kd.R_drew)); exact HO287.out⟩, ⟨by repeat (first | (with_reducible first | exact HB.out | apply below_alloc | apply pw_below_drewN | apply below_drew1) | exact HB.out)⟩⟩
                        · rw [if_neg c49] at H
                          exact absurd H (by simp)
                      · rw [if_neg c48] at H
                        exact absurd H (by simp)
                · rw [if_neg c44] at H
                  have c44b0 : (t285 == 0) = false := beq_eq_false_iff_ne.mpr c44
                  have c44b1 : (t285 != 0) = true := bne_iff_ne.mpr c44
                  (first | rw [c44b0] | (simp only [i64_w, i32_w]; rw [c44b0]) | skip)
                  have H' := Aside0.mk H
                  clear H
                  go_wp2
                  go_meet
                  case rel => exact ⟨_, (true), (by first | rfl | (simp; done) | (simp [*]; done)), H', ⟨by have := HJ2.out; have := HJ17.out; first | omega | exact Nat.le_refl _⟩, ⟨by (with_reducible repeat (first | apply Kd.R_alloc | apply Kd.R_drewN | apply Kd.R_drew)); exact HO287.out⟩, ⟨by repeat (first | (with_reducible first | exact HB.out | apply below_alloc | apply pw_below_drewN | apply below_drew1) | exact HB.out)⟩⟩
              case rest =>
                clear HC40
                try clear c1
                try clear c2
                try clear p2
                try clear c3
                try clear c4
                try clear c5
                try clear q5
                try clear c7
                try clear c9
                try clear c13
                try clear c14
                try clear c16
                try clear c22
                try clear c22b0
                try clear c22b1
                try clear c27
                try clear c27b0
                try clear c27b1
                try clear c28
                try clear c28b0
                try clear c28b1
                try clear c34
                try clear c35
                try clear c35b0
                try clear c35b1
                try clear c38
                try clear c38b0
                try clear c38b1
                try clear c44
                try clear c44b0
                try clear c44b1
                try clear c45
                try clear c45b0
                try clear c46
                try clear c46b0
                try clear c48
                try clear c48b0
                try clear c48b1
                try clear c49
                try clear c49b0
                try clear c49b1
                try clear q52
                try clear p2
                try clear q52
                obtain ⟨kq, x102_39, rfl, HA, HJ39, HO_13, HB⟩ := hcut
                cases kq with
                | zero => exact absurd HA.out (by simp [marlinelaw21_TagsBack.j3])
                | succ kj39 =>
                  have H := HA.out
                  clear HA
                  simp only [marlinelaw21_TagsBack.j3] at H
                  by_cases c53 : x102_39 = true
                  · subst c53
                    have H1 : (none) = some r := by rw [if_pos rfl] at H; exact H
                    clear H
                    have H := H1
                    clear H1
                    exact absurd H (by simp)
                  · replace c53 := Bool.eq_false_iff.mpr c53
                    subst c53
                    have H1 : (if t280 = (t284.length : Int) then (if t280 = (l1.length : Int) then (some true) else (if t280 = (wrap64 ((t284.length : Int) + 4)) then (if 0 ≤ (t284.length : Int) then (if (t284.length : Int) ≤ t280 then (if t280 ≤ (l1.length : Int) then ((marlineref01_Equal.f kj39 ((l1.take (t280 : Int).toNat).drop ((t284.length : Int) : Int).toNat) (([0, 0, 0, 0] : List Int))).bind fun t300 => (some t300)) else (none)) else (none)) else (none)) else (none))) else (if t280 = (wrap64 ((t284.length : Int) + 4)) then (if 0 ≤ (t284.length : Int) then (if (t284.length : Int) ≤ t280 then (if t280 ≤ (l1.length : Int) then ((marlineref01_Equal.f kj39 ((l1.take (t280 : Int).toNat).drop ((t284.length : Int) : Int).toNat) (([0, 0, 0, 0] : List Int))).bind fun t308 => (some t308)) else (none)) else (none)) else (none)) else (none))) = some r := by rw [if_neg (show ¬ (false = true) by decide)] at H; exact H
                    clear H
                    have H := H1
                    clear H1
                    by_cases c54 : t280 = (t284.length : Int)
                    · rw [if_pos c54] at H
                      have c54b0 : (t280 == (t284.length : Int)) = true := beq_iff_eq.mpr c54
                      have c54b1 : (t280 != (t284.length : Int)) = false := bne_eq_false_iff_eq.mpr c54
                      clear c54
                      by_cases c55 : t280 = (l1.length : Int)
                      · rw [if_pos c55] at H
                        have c55b0 : (t280 == (l1.length : Int)) = true := beq_iff_eq.mpr c55
                        have c55b1 : (t280 != (l1.length : Int)) = false := bne_eq_false_iff_eq.mpr c55
                        clear c55
                        obtain rfl := Option.some.inj H
                        obtain ⟨Ao56, co56, eo56⟩ := Kd.R_slice HO_13.out
                        subst eo56
                        go_wp2
                        go_ret
                        exact ⟨by first | rfl | (simp [errW_none, errW_some] <;> rfl) | (simp [*, errW_none, errW_some] <;> rfl), by repeat (first | (with_reducible first | exact HB.out | apply below_alloc | apply pw_below_drewN | apply below_drew1) | exact HB.out)⟩
                      · rw [if_neg c55] at H
                        have c55b0 : (t280 == (l1.length : Int)) = false := beq_eq_false_iff_ne.mpr c55
                        have c55b1 : (t280 != (l1.length : Int)) = true := bne_iff_ne.mpr c55
                        by_cases c57 : t280 = (wrap64 ((t284.length : Int) + 4))
                        · rw [if_pos c57] at H
                          have c57b0 : (t280 == (wrap64 ((t284.length : Int) + 4))) = true := beq_iff_eq.mpr c57
                          have c57b1 : (t280 != (wrap64 ((t284.length : Int) + 4))) = false := bne_eq_false_iff_eq.mpr c57
                          clear c57
                          by_cases c58 : 0 ≤ (t284.length : Int)
                          · rw [if_pos c58] at H
                            have c58b0 := eq_true c58
                            have c58b1 : decide (0 ≤ (t284.length : Int)) = true := decide_eq_true c58
                            clear c58
                            by_cases c59 : (t284.length : Int) ≤ t280
                            · rw [if_pos c59] at H
                              have c59b0 := eq_true c59
                              have c59b1 : decide ((t284.length : Int) ≤ t280) = true := decide_eq_true c59
                              clear c59
                              by_cases c60 : t280 ≤ (l1.length : Int)
                              · rw [if_pos c60] at H
                                have c60b0 := eq_true c60
                                have c60b1 : decide (t280 ≤ (l1.length : Int)) = true := decide_eq_true c60
                                clear c60
                                obtain ⟨y293, hy293⟩ : ∃ y_ : List Int, y_ = ((l1.take (t280 : Int).toNat).drop ((t284.length : Int) : Int).toNat) := ⟨_, rfl⟩
                                replace H : ((marlineref01_Equal.f kj39 y293 (([0, 0, 0, 0] : List Int))).bind fun t300 => (some t300)) = some r := by first | (rw [hy293]; with_reducible exact H) | (have H2_ := (Option.bind_some _ _).symm.trans H; rw [hy293]; with_reducible exact H2_) | (have H2_ := (Option.bind_some _ _).symm.trans H; with_reducible exact H2_) | with_reducible exact H | (rw [hy293]; exact H) | exact H
                                have Ny293 := Aside0.mk hy293
                                clear hy293
                                obtain ⟨y297, hy297⟩ : ∃ y_ : List Int, y_ = (([0, 0, 0, 0] : List Int)) := ⟨_, rfl⟩
                                replace H : ((marlineref01_Equal.f kj39 y293 y297).bind fun t300 => (some t300)) = some r := by first | (rw [hy297]; with_reducible exact H) | (have H2_ := (Option.bind_some _ _).symm.trans H; rw [hy297]; with_reducible exact H2_) | (have H2_ := (Option.bind_some _ _).symm.trans H; with_reducible exact H2_) | with_reducible exact H | (rw [hy297]; exact H) | exact H
                                have Ny297 := Aside0.mk hy297
                                clear hy297
                                replace H := Option.bind_eq_some_iff.mp H
                                obtain ⟨t300, A610, H⟩ := H
                                replace H : (some t300) = some r := H
                                have A61 := Aside0.mk A610
                                clear A610
                                obtain rfl := Option.some.inj H
                                obtain ⟨Ao62, co62, eo62⟩ := Kd.R_slice HO_13.out
                                subst eo62
                                have q63 : (t280 : Int) ≤ ((l1.length : Int) : Int) := of_decide_eq_true (by first | (with_reducible assumption) | assumption)
                                obtain ⟨i063, hi063, _, hsz63, _⟩ := info_parts info5
                                have hroom63 : l1.length ≤ c1 := HC1.out
                                have hC63 : Kd.C (Kd.int .u8) _ A1 l1.length l1 := HR1.out
                                have ql63 : ((t284.length : Int) : Int) ≤ (t280 : Int) := of_decide_eq_true (by first | (with_reducible assumption) | assumption)
                                have q063 : (0 : Int) ≤ ((t284.length : Int) : Int) := of_decide_eq_true (by first | (with_reducible assumption) | assumption)
                                have hcut63 := cut_mid (P := Tryd.prog) 28 5 .i64 .i64 Tryd.underlying28 hi063 1 hsz63 A1 l1.length c1 (t284.length : Int) t280 q063 ql63 q63 hroom63
                                have hr63 := Kd.C_mid (lo := ((t284.length : Int) : Int).toNat) (hi := (t280 : Int).toNat) (c := c1) hC63 (by omega) (by omega) hroom63
                                obtain ⟨A63, hA63⟩ : ∃ A1_, A1_ = (if c1 = ((t284.length : Int) : Int).toNat then A1 else (A1 : Option Addr).map (·.add (((t284.length : Int) : Int).toNat * 1))) := ⟨_, rfl⟩
                                obtain ⟨c63, hc63⟩ : ∃ c1_, c1_ = c1 - ((t284.length : Int) : Int).toNat := ⟨_, rfl⟩
                                have hy63 : y293.length = (t280 : Int).toNat - ((t284.length : Int) : Int).toNat := (by rw [Ny293.out, List.length_drop, List.length_take] <;> omega)
                                rw [show ((l1).take (t280 : Int).toNat).drop ((t284.length : Int) : Int).toNat = y293 from Ny293.out.symm] at hr63
                                replace hr63 : Kd.C (Kd.int .u8) _ A63 y293.length y293 := (by rw [hA63]; exact hr63)
                                rw [← hy63, ← hA63, ← hc63] at hcut63
                                have HR296 := Aside0.mk hr63
                                have HC296 := Aside0.mk (show y293.length ≤ c63 from by rw [hy63, hc63]; exact Nat.sub_le_sub_right (Nat.le_trans (by omega) hroom63) _)
                                clear hr63 hC63 hroom63 hi063 hsz63 hc63
                                have KY63 := Aside0.mk hy63
                                have KA63 := Aside0.mk hA63
                                clear hy63 hA63
                                replace q63 := eq_true q63
                                go_wp2_with (first | ((with_reducible refine gate_dst (N := 125) rfl ?_); (try (refine gate_guard (by rfl) ?_; dsimp only)); refine Kd.R_lit (Kd.int .u8) _ 5 ?hg (N := 125) ?hd (xs := ([0, 0, 0, 0] : List Int)) (inner := [.int .u8 0, .int .u8 0, .int .u8 0, .int .u8 0]) (ok := fun _ => True) (okp := fun _ => True) ?hr ?hp (fun _ hk => hk) trivial (Below.refl _ _) (Nat.le_refl _) (by simp) ?_; (case hd => rfl); (case hg => rfl); (case hr => first | (go_simp; done) | (go_simp; simp only [IntKind.wrap_u8, IntKind.wrap_u16, IntKind.wrap_u32, IntKind.wrap_u64]; done) | (go_simp; simp only [IntKind.wrap_u8, IntKind.wrap_u16, IntKind.wrap_u32, IntKind.wrap_u64, Int.tmod_eq_emod_of_nonneg (Int.natCast_nonneg _), Int.emod_emod]; done) | (go_simp; rfl)); (case hp => exact (Reps.one (show Kd.M (Kd.int .u8) _ _ _ 0 [.int .u8 0] from rfl) (Reps.one (show Kd.M (Kd.int .u8) _ _ _ 0 [.int .u8 0] from rfl) (Reps.one (show Kd.M (Kd.int .u8) _ _ _ 0 [.int .u8 0] from rfl) (Reps.one (show Kd.M (Kd.int .u8) _ _ _ 0 [.int .u8 0] from rfl) (Reps.none _ _)))))); intro v298 w64 ho65 hb hg_ hnew_; clear hg_ hnew_; (first | rw [← Ny297.out] at ho65 | (simp only [Int.reduceToNat] at ho65; rw [← Ny297.out] at ho65)); have n0_ := Aside0.mk (Kd.R_lower ho65 (below_size (by repeat (first | (with_reducible first | exact HB.out | apply below_alloc | apply pw_below_drewN | apply below_drew1) | exact HB.out)))); have n1_ := Aside0.mk (below_step (by repeat (first | (with_reducible first | exact HB.out | apply below_alloc | apply pw_below_drewN | apply below_drew1) | exact HB.out)) hb); clear HB; have HO299 := n0_; have HB := n1_; clear n0_ n1_; clear hb ho65; obtain ⟨Ao66, co66, eo66⟩ := Kd.R_slice HO299.out; subst eo66) | (go_at_call 11; (with_reducible refine (marlineref01_Equal.calls kj39 _ _ y293 _ _ y297 t300 _ ?side1 ?side2 ?side3 ?side4 A61.out).mono ?_); (case side1 => repeat (first | exact (Kd.C_below HR296.out HB.out) | (with_reducible refine Kd.C_alloc ?_ _) | (with_reducible refine Kd.C_drewN ?_ _) | (with_reducible refine Kd.C_drew ?_))); (case side2 => exact HC296.out); (case side3 => repeat (first | exact (Kd.R_reads' HO299.out).2.2 | (with_reducible refine Kd.C_alloc ?_ _) | (with_reducible refine Kd.C_drewN ?_ _) | (with_reducible refine Kd.C_drew ?_))); (case side4 => exact (Kd.R_reads' HO299.out).2.1); rintro e w' ⟨rfl, ⟨nd, rfl⟩⟩))
                                go_ret
                                exact ⟨by first | rfl | (simp [errW_none, errW_some] <;> rfl) | (simp [*, errW_none, errW_some] <;> rfl), by repeat (first | (with_reducible first | exact HB.out | apply below_alloc | apply pw_below_drewN | apply below_drew1) | exact HB.out)⟩
                              · rw [if_neg c60] at H
                                exact absurd H (by simp)
                            · rw [if_neg c59] at H
                              exact absurd H (by simp)
                          · rw [if_neg c58] at H
                            exact absurd H (by simp)
                        · rw [if_neg c57] at H
                          exact absurd H (by simp)
                    · rw [if_neg c54] at H
                      have c54b0 : (t280 == (t284.length : Int)) = false := beq_eq_false_iff_ne.mpr c54
                      have c54b1 : (t280 != (t284.length : Int)) = true := bne_iff_ne.mpr c54
                      by_cases c67 : t280 = (wrap64 ((t284.length : Int) + 4))
                      · rw [if_pos c67] at H
                        have c67b0 : (t280 == (wrap64 ((t284.length : Int) + 4))) = true := beq_iff_eq.mpr c67
                        have c67b1 : (t280 != (wrap64 ((t284.length : Int) + 4))) = false := bne_eq_false_iff_eq.mpr c67
                        clear c67
                        by_cases c68 : 0 ≤ (t284.length : Int)
                        · rw [if_pos c68] at H
                          have c68b0 := eq_true c68
                          have c68b1 : decide (0 ≤ (t284.length : Int)) = true := decide_eq_true c68
                          clear c68
                          by_cases c69 : (t284.length : Int) ≤ t280
                          · rw [if_pos c69] at H
                            have c69b0 := eq_true c69
                            have c69b1 : decide ((t284.length : Int) ≤ t280) = true := decide_eq_true c69
                            clear c69
                            by_cases c70 : t280 ≤ (l1.length : Int)
                            · rw [if_pos c70] at H
                              have c70b0 := eq_true c70
                              have c70b1 : decide (t280 ≤ (l1.length : Int)) = true := decide_eq_true c70
                              clear c70
                              obtain ⟨y301, hy301⟩ : ∃ y_ : List Int, y_ = ((l1.take (t280 : Int).toNat).drop ((t284.length : Int) : Int).toNat) := ⟨_, rfl⟩
                              replace H : ((marlineref01_Equal.f kj39 y301 (([0, 0, 0, 0] : List Int))).bind fun t308 => (some t308)) = some r := by first | (rw [hy301]; with_reducible exact H) | (have H2_ := (Option.bind_some _ _).symm.trans H; rw [hy301]; with_reducible exact H2_) | (have H2_ := (Option.bind_some _ _).symm.trans H; with_reducible exact H2_) | with_reducible exact H | (rw [hy301]; exact H) | exact H
                              have Ny301 := Aside0.mk hy301
                              clear hy301
                              obtain ⟨y305, hy305⟩ : ∃ y_ : List Int, y_ = (([0, 0, 0, 0] : List Int)) := ⟨_, rfl⟩
                              replace H : ((marlineref01_Equal.f kj39 y301 y305).bind fun t308 => (some t308)) = some r := by first | (rw [hy305]; with_reducible exact H) | (have H2_ := (Option.bind_some _ _).symm.trans H; rw [hy305]; with_reducible exact H2_) | (have H2_ := (Option.bind_some _ _).symm.trans H; with_reducible exact H2_) | with_reducible exact H | (rw [hy305]; exact H) | exact H
                              have Ny305 := Aside0.mk hy305
                              clear hy305
                              replace H := Option.bind_eq_some_iff.mp H
                              obtain ⟨t308, A710, H⟩ := H
                              replace H : (some t308) = some r := H
                              have A71 := Aside0.mk A710
                              clear A710
                              obtain rfl := Option.some.inj H
                              obtain ⟨Ao72, co72, eo72⟩ := Kd.R_slice HO_13.out
                              subst eo72
                              have q73 : (t280 : Int) ≤ ((l1.length : Int) : Int) := of_decide_eq_true (by first | (with_reducible assumption) | assumption)
                              obtain ⟨i073, hi073, _, hsz73, _⟩ := info_parts info5
                              have hroom73 : l1.length ≤ c1 := HC1.out
                              have hC73 : Kd.C (Kd.int .u8) _ A1 l1.length l1 := HR1.out
                              have ql73 : ((t284.length : Int) : Int) ≤ (t280 : Int) := of_decide_eq_true (by first | (with_reducible assumption) | assumption)
                              have q073 : (0 : Int) ≤ ((t284.length : Int) : Int) := of_decide_eq_true (by first | (with_reducible assumption) | assumption)
                              have hcut73 := cut_mid (P := Tryd.prog) 28 5 .i64 .i64 Tryd.underlying28 hi073 1 hsz73 A1 l1.length c1 (t284.length : Int) t280 q073 ql73 q73 hroom73
                              have hr73 := Kd.C_mid (lo := ((t284.length : Int) : Int).toNat) (hi := (t280 : Int).toNat) (c := c1) hC73 (by omega) (by omega) hroom73
                              obtain ⟨A73, hA73⟩ : ∃ A1_, A1_ = (if c1 = ((t284.length : Int) : Int).toNat then A1 else (A1 : Option Addr).map (·.add (((t284.length : Int) : Int).toNat * 1))) := ⟨_, rfl⟩
                              obtain ⟨c73, hc73⟩ : ∃ c1_, c1_ = c1 - ((t284.length : Int) : Int).toNat := ⟨_, rfl⟩
                              have hy73 : y301.length = (t280 : Int).toNat - ((t284.length : Int) : Int).toNat := (by rw [Ny301.out, List.length_drop, List.length_take] <;> omega)
                              rw [show ((l1).take (t280 : Int).toNat).drop ((t284.length : Int) : Int).toNat = y301 from Ny301.out.symm] at hr73
                              replace hr73 : Kd.C (Kd.int .u8) _ A73 y301.length y301 := (by rw [hA73]; exact hr73)
                              rw [← hy73, ← hA73, ← hc73] at hcut73
                              have HR304 := Aside0.mk hr73
                              have HC304 := Aside0.mk (show y301.length ≤ c73 from by rw [hy73, hc73]; exact Nat.sub_le_sub_right (Nat.le_trans (by omega) hroom73) _)
                              clear hr73 hC73 hroom73 hi073 hsz73 hc73
                              have KY73 := Aside0.mk hy73
                              have KA73 := Aside0.mk hA73
                              clear hy73 hA73
                              replace q73 := eq_true q73
                              go_wp2_with (first | ((with_reducible refine gate_dst (N := 125) rfl ?_); (try (refine gate_guard (by rfl) ?_; dsimp only)); refine Kd.R_lit (Kd.int .u8) _ 5 ?hg (N := 125) ?hd (xs := ([0, 0, 0, 0] : List Int)) (inner := [.int .u8 0, .int .u8 0, .int .u8 0, .int .u8 0]) (ok := fun _ => True) (okp := fun _ => True) ?hr ?hp (fun _ hk => hk) trivial (Below.refl _ _) (Nat.le_refl _) (by simp) ?_; (case hd => rfl); (case hg => rfl); (case hr => first | (go_simp; done) | (go_simp; simp only [IntKind.wrap_u8, IntKind.wrap_u16, IntKind.wrap_u32, IntKind.wrap_u64]; done) | (go_simp; simp only [IntKind.wrap_u8, IntKind.wrap_u16, IntKind.wrap_u32, IntKind.wrap_u64, Int.tmod_eq_emod_of_nonneg (Int.natCast_nonneg _), Int.emod_emod]; done) | (go_simp; rfl)); (case hp => exact (Reps.one (show Kd.M (Kd.int .u8) _ _ _ 0 [.int .u8 0] from rfl) (Reps.one (show Kd.M (Kd.int .u8) _ _ _ 0 [.int .u8 0] from rfl) (Reps.one (show Kd.M (Kd.int .u8) _ _ _ 0 [.int .u8 0] from rfl) (Reps.one (show Kd.M (Kd.int .u8) _ _ _ 0 [.int .u8 0] from rfl) (Reps.none _ _)))))); intro v306 w74 ho75 hb hg_ hnew_; clear hg_ hnew_; (first | rw [← Ny305.out] at ho75 | (simp only [Int.reduceToNat] at ho75; rw [← Ny305.out] at ho75)); have n0_ := Aside0.mk (Kd.R_lower ho75 (below_size (by repeat (first | (with_reducible first | exact HB.out | apply below_alloc | apply pw_below_drewN | apply below_drew1) | exact HB.out)))); have n1_ := Aside0.mk (below_step (by repeat (first | (with_reducible first | exact HB.out | apply below_alloc | apply pw_below_drewN | apply below_drew1) | exact HB.out)) hb); clear HB; have HO307 := n0_; have HB := n1_; clear n0_ n1_; clear hb ho75; obtain ⟨Ao76, co76, eo76⟩ := Kd.R_slice HO307.out; subst eo76) | (go_at_call 11; (with_reducible refine (marlineref01_Equal.calls kj39 _ _ y301 _ _ y305 t308 _ ?side1 ?side2 ?side3 ?side4 A71.out).mono ?_); (case side1 => repeat (first | exact (Kd.C_below HR304.out HB.out) | (with_reducible refine Kd.C_alloc ?_ _) | (with_reducible refine Kd.C_drewN ?_ _) | (with_reducible refine Kd.C_drew ?_))); (case side2 => exact HC304.out); (case side3 => repeat (first | exact (Kd.R_reads' HO307.out).2.2 | (with_reducible refine Kd.C_alloc ?_ _) | (with_reducible refine Kd.C_drewN ?_ _) | (with_reducible refine Kd.C_drew ?_))); (case side4 => exact (Kd.R_reads' HO307.out).2.1); rintro e w' ⟨rfl, ⟨nd, rfl⟩⟩))
                              go_ret
                              exact ⟨by first | rfl | (simp [errW_none, errW_some] <;> rfl) | (simp [*, errW_none, errW_some] <;> rfl), by repeat (first | (with_reducible first | exact HB.out | apply below_alloc | apply pw_below_drewN | apply below_drew1) | exact HB.out)⟩
                            · rw [if_neg c70] at H
                              exact absurd H (by simp)
                          · rw [if_neg c69] at H
                            exact absurd H (by simp)
                        · rw [if_neg c68] at H
                          exact absurd H (by simp)
                      · rw [if_neg c67] at H
                        exact absurd H (by simp)
            · rw [if_neg c38] at H
              have c38b0 : (t281 == 0) = false := beq_eq_false_iff_ne.mpr c38
              have c38b1 : (t281 != 0) = true := bne_iff_ne.mpr c38
              by_cases c77 : (t279.length : Int) = 0
              · rw [if_pos c77] at H
                have c77b0 : ((t279.length : Int) == 0) = true := beq_iff_eq.mpr c77
                have c77b1 : ((t279.length : Int) != 0) = false := bne_eq_false_iff_eq.mpr c77
                clear c77
                obtain rfl := Option.some.inj H
                go_wp2_with (first | ((with_reducible refine gate_callee (f := 16) rfl ?_); refine goesL_ (some 62) rfl rfl Tryd.func16 (by kernel_rfl) rfl #[.slice A1 l1.length c1] rfl (by (try simp only [List.map_toArray, List.map_cons, List.map_nil]); first | done | rfl | (simp only [List.length_drop, List.length_take]; rfl)) ?_; (with_reducible refine (tags_Get.calls kj17 _ _ l1 t279 t280 t281 _ ?side1 ?side2 A37.out).mono ?_); (case side1 => repeat (first | exact (Kd.C_below HR1.out HB.out) | (with_reducible refine Kd.C_alloc ?_ _) | (with_reducible refine Kd.C_drewN ?_ _) | (with_reducible refine Kd.C_drew ?_))); (case side2 => exact HC1.out); rintro e w78 ⟨v282, rfl, ho0, hb⟩; refine ⟨_, rfl, ?_⟩; have n0_ := Aside0.mk (Kd.N_lower (Kd.N_mono (ok' := fun k_ => True) (Kd.S_N (Kd.S_bound ho0)) (fun k_ hk_ => trivial)) (below_size (by repeat (first | (with_reducible first | exact HB.out | apply below_alloc | apply pw_below_drewN | apply below_drew1) | exact HB.out)))); have n1_ := Aside0.mk (below_step (by repeat (first | (with_reducible first | exact HB.out | apply below_alloc | apply pw_below_drewN | apply below_drew1) | exact HB.out)) hb); clear HB; have HO283 := n0_; have HB := n1_; clear n0_ n1_; (try clear hb); (try clear hb2); (try clear hk); (try clear hi); (try clear ho0); obtain ⟨Ao79, co79, eo79⟩ := Kd.N_slice HO283.out; subst eo79))
                go_ret
                exact ⟨by first | rfl | (simp [errW_none, errW_some] <;> rfl) | (simp [*, errW_none, errW_some] <;> rfl), by repeat (first | (with_reducible first | exact HB.out | apply below_alloc | apply pw_below_drewN | apply below_drew1) | exact HB.out)⟩
              · rw [if_neg c77] at H
                exact absurd H (by simp)

/-- THE ONE PURE STATEMENT of marlinelaw21_TagsBack: yours. -/
def marlinelaw21_TagsBack.Pure : Prop := ∀ (l0 : List (S32)) (l1 : List Int), ((l0.length ≤ 9223372036854775807 ∧ l0.length * 32 ≤ 140737488351232) ∧ ∀ y0_ ∈ l0, ((Lit.int .u16 y0_.f0).wf = true ∧ ((y0_.f1.length ≤ 9223372036854775807 ∧ y0_.f1.length * 1 ≤ 140737488351232) ∧ ∀ y1_ ∈ y0_.f1, (Lit.int .u8 y1_).wf = true))) → l1.length ≤ maxLen → l1.length * 1 ≤ 140737488351232 → (∀ x ∈ l1, (Lit.int .u8 x).wf = true) → ∃ k, marlinelaw21_TagsBack.f k l0 l1 = some true
theorem marlinelaw21_TagsBack.walk (P : marlinelaw21_TagsBack.Pure) (A0 : Option Addr) (c0 : Nat) (l0 : List (S32)) (A1 : Option Addr) (c1 : Nat) (l1 : List Int) (w : World) (hGL : GL w) (hr0 : Kd.C k32 w A0 l0.length l0) (hc0 : l0.length ≤ c0) (hw0 : ((l0.length ≤ 9223372036854775807 ∧ l0.length * 32 ≤ 140737488351232) ∧ ∀ y0_ ∈ l0, ((Lit.int .u16 y0_.f0).wf = true ∧ ((y0_.f1.length ≤ 9223372036854775807 ∧ y0_.f1.length * 1 ≤ 140737488351232) ∧ ∀ y1_ ∈ y0_.f1, (Lit.int .u8 y1_).wf = true)))) (hr1 : Kd.C (Kd.int .u8) w A1 l1.length l1) (hc1 : l1.length ≤ c1) (hm1 : l1.length ≤ maxLen) (y1 : l1.length * 1 ≤ 140737488351232) (hw1 : ∀ x ∈ l1, (Lit.int .u8 x).wf = true) :
    Calls Tryd.prog 5 #[.slice A0 l0.length c0, .slice A1 l1.length c1] w fun e w' => e = .returned (.bool true) ∧ Below w.heap.size w w' := by
  obtain ⟨k, h⟩ := P l0 l1 hw0 hm1 y1 hw1
  refine (marlinelaw21_TagsBack.calls k _ _ l0 _ _ l1 true w hr0 hc0 hr1 hc1 h).mono ?_
  rintro e w' ⟨rfl, hd⟩
  exact ⟨rfl, hd⟩

end Go.Proofs.YthkgaciibfjejaaDoor.Print
