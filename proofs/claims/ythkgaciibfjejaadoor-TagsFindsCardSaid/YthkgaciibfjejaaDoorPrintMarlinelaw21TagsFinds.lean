/- A text that a program of this claim (wip/x) laid out of the translation: what Go functions come to, and that they come to it. Lean checks it. -/
import Derived.Test.YthkgaciibfjejaaDoorPrint0
import Derived.Test.YthkgaciibfjejaaDoorPrintMarlinelaw21Few
import Derived.Test.YthkgaciibfjejaaDoorPrintMarlinelaw21Of
import Derived.Test.YthkgaciibfjejaaDoorPrintMarlinelaw21Speaks
import Derived.Test.YthkgaciibfjejaaDoorPrintMarlinelaw21To
import Derived.Test.YthkgaciibfjejaaDoorPrintMarlineref01Equal
import Derived.Test.YthkgaciibfjejaaDoorPrintMarlineref21Same
import Derived.Test.YthkgaciibfjejaaDoorPrintTagsFind
import Derived.Test.YthkgaciibfjejaaDoorPrintTagsName
namespace Go.Proofs.YthkgaciibfjejaaDoor.Print
open Go.RowKit Go.Proofs.YthkgaciibfjejaaDoorW.PrintWords Go.Proofs.YthkgaciibfjejaaDoorW.PrintLast Go.Proofs.YthkgaciibfjejaaDoorW.PrintMore
attribute [local go_sem] max2_int min2_int max_two min_two max_three min_three max_four min_four   -- for this text's walks alone
set_option linter.unusedVariables false
set_option linter.unusedSimpArgs false

/-! ### marlinelaw21_TagsFinds: function 3 -/
mutual
def marlinelaw21_TagsFinds.j0 : Nat → List (S32) → Int → Bool → Option (Bool)
  | 0, _, _, _ => none
  | k + 1, x0, x1, x19 => if x19 = true then ((marlinelaw21_speaks.f k).bind fun t147 => (some t147)) else ((marlinelaw21_Of.f k x0).bind fun t148 => ((tags_Find.f t148 x1).bind fun bt151 => (marlinelaw21_TagsFinds.l0 k x0 x1 t148 bt151.1 bt151.2 x0 (x0.length : Int) 0)))
def marlinelaw21_TagsFinds.l0 : Nat → List (S32) → Int → List (S50) → List Int → Bool → List (S32) → Int → Int → Option (Bool)
  | 0, _, _, _, _, _, _, _, _ => none
  | k + 1, x0, x1, x5, x6, x7, x29, x30, x31 => if x31 < x30 then (if 0 ≤ x31 then (if x31 < (x29.length : Int) then (if ((rd_T32 x29 x31).f0) = x1 then (if x7 = true then ((marlineref01_Equal.f k x6 ((rd_T32 x29 x31).f1)).bind fun t157 => (marlinelaw21_TagsFinds.j2 k x0 x1 x5 x6 (!t157) ((rd_T32 x29 x31).f0) ((rd_T32 x29 x31).f1))) else (marlinelaw21_TagsFinds.j2 k x0 x1 x5 x6 true ((rd_T32 x29 x31).f0) ((rd_T32 x29 x31).f1))) else (marlinelaw21_TagsFinds.l0 k x0 x1 x5 x6 x7 x29 x30 (wrap64 (x31 + 1)))) else (none)) else (none)) else (if x7 = true then (none) else (some ((x6.length : Int) == 0)))
def marlinelaw21_TagsFinds.j2 : Nat → List (S32) → Int → List (S50) → List Int → Bool → Int → List Int → Option (Bool)
  | 0, _, _, _, _, _, _, _ => none
  | k + 1, x0, x1, x5, x6, x47, x157000, x157001 => if x47 = true then (none) else (marlinelaw21_TagsFinds.l1 k x0 x1 x5 x6 (x6.length : Int) 0 x157000 x157001)
def marlinelaw21_TagsFinds.l1 : Nat → List (S32) → Int → List (S50) → List Int → Int → Int → Int → List Int → Option (Bool)
  | 0, _, _, _, _, _, _, _, _ => none
  | k + 1, x0, x1, x5, x6, x49, x50, x157000, x157001 => if x50 < x49 then (if 0 ≤ x50 then (if x50 < (x6.length : Int) then (marlinelaw21_TagsFinds.l1 k x0 x1 x5 (x6.set (x50 : Int).toNat (((rd x6 x50) + 1) % 256)) x49 (wrap64 (x50 + 1)) x157000 x157001) else (none)) else (none)) else ((tags_Find.f x5 x1).bind fun bt160 => (if bt160.2 = true then ((marlineref01_Equal.f k bt160.1 x157001).bind fun t164 => (if t164 = true then ((marlinelaw21_To.f k x5).bind fun t165 => ((marlineref21_Same.f k t165 x0).bind fun t168 => (some t168))) else (none))) else (none)))
end
def marlinelaw21_TagsFinds.f (k : Nat) (l0 : List (S32)) (a1 : Int) : Option (Bool) := (marlinelaw21_speaks.f k).bind fun t145 => (if t145 = true then ((marlinelaw21_Few.f k l0).bind fun t146 => (marlinelaw21_TagsFinds.j0 k l0 a1 (!t146))) else (marlinelaw21_TagsFinds.j0 k l0 a1 true))
theorem marlinelaw21_TagsFinds.mono_l : ∀ k, (∀ y0 y1 y2, LeO (marlinelaw21_TagsFinds.j0 k y0 y1 y2) (marlinelaw21_TagsFinds.j0 (k + 1) y0 y1 y2)) ∧ (∀ y0 y1 y2 y3 y4 y5 y6 y7, LeO (marlinelaw21_TagsFinds.l0 k y0 y1 y2 y3 y4 y5 y6 y7) (marlinelaw21_TagsFinds.l0 (k + 1) y0 y1 y2 y3 y4 y5 y6 y7)) ∧ (∀ y0 y1 y2 y3 y4 y5 y6, LeO (marlinelaw21_TagsFinds.j2 k y0 y1 y2 y3 y4 y5 y6) (marlinelaw21_TagsFinds.j2 (k + 1) y0 y1 y2 y3 y4 y5 y6)) ∧ (∀ y0 y1 y2 y3 y4 y5 y6 y7, LeO (marlinelaw21_TagsFinds.l1 k y0 y1 y2 y3 y4 y5 y6 y7) (marlinelaw21_TagsFinds.l1 (k + 1) y0 y1 y2 y3 y4 y5 y6 y7))
  | 0 => ⟨fun _ _ _ r h => by simp [marlinelaw21_TagsFinds.j0] at h, fun _ _ _ _ _ _ _ _ r h => by simp [marlinelaw21_TagsFinds.l0] at h, fun _ _ _ _ _ _ _ r h => by simp [marlinelaw21_TagsFinds.j2] at h, fun _ _ _ _ _ _ _ _ r h => by simp [marlinelaw21_TagsFinds.l1] at h⟩
  | k + 1 => by
    obtain ⟨ih0, ih1, ih2, ih3⟩ := marlinelaw21_TagsFinds.mono_l k
    refine ⟨?_, ?_, ?_, ?_⟩
    · intro y0 y1 y2
      unfold marlinelaw21_TagsFinds.j0
      repeat' first
      | (with_reducible exact ih0 _ _ _)
      | (with_reducible exact ih1 _ _ _ _ _ _ _ _)
      | (with_reducible exact ih2 _ _ _ _ _ _ _)
      | (with_reducible exact ih3 _ _ _ _ _ _ _ _)
      | (with_reducible exact marlinelaw21_Few.mono _ _)
      | (with_reducible exact marlinelaw21_Of.mono _ _)
      | (with_reducible exact marlinelaw21_To.mono _ _)
      | (with_reducible exact marlinelaw21_speaks.mono _)
      | (with_reducible exact marlineref01_Equal.mono _ _ _)
      | (with_reducible exact marlineref21_Same.mono _ _ _)
      | (with_reducible exact LeO.refl _)
      | (with_reducible exact LeO.none _)
      | (with_reducible refine LeO.ite ?_ ?_)
      | (with_reducible refine LeO.bind ?_ (fun _ => ?_))
      | exact ih0 _ _ _
      | exact ih1 _ _ _ _ _ _ _ _
      | exact ih2 _ _ _ _ _ _ _
      | exact ih3 _ _ _ _ _ _ _ _
      | exact marlinelaw21_Few.mono _ _
      | exact marlinelaw21_Of.mono _ _
      | exact marlinelaw21_To.mono _ _
      | exact marlinelaw21_speaks.mono _
      | exact marlineref01_Equal.mono _ _ _
      | exact marlineref21_Same.mono _ _ _
      | exact LeO.none _
      | refine LeO.ite ?_ ?_
      | refine LeO.bind ?_ (fun _ => ?_)
    · intro y0 y1 y2 y3 y4 y5 y6 y7
      unfold marlinelaw21_TagsFinds.l0
      repeat' first
      | (with_reducible exact ih0 _ _ _)
      | (with_reducible exact ih1 _ _ _ _ _ _ _ _)
      | (with_reducible exact ih2 _ _ _ _ _ _ _)
      | (with_reducible exact ih3 _ _ _ _ _ _ _ _)
      | (with_reducible exact marlinelaw21_Few.mono _ _)
      | (with_reducible exact marlinelaw21_Of.mono _ _)
      | (with_reducible exact marlinelaw21_To.mono _ _)
      | (with_reducible exact marlinelaw21_speaks.mono _)
      | (with_reducible exact marlineref01_Equal.mono _ _ _)
      | (with_reducible exact marlineref21_Same.mono _ _ _)
      | (with_reducible exact LeO.refl _)
      | (with_reducible exact LeO.none _)
      | (with_reducible refine LeO.ite ?_ ?_)
      | (with_reducible refine LeO.bind ?_ (fun _ => ?_))
      | exact ih0 _ _ _
      | exact ih1 _ _ _ _ _ _ _ _
      | exact ih2 _ _ _ _ _ _ _
      | exact ih3 _ _ _ _ _ _ _ _
      | exact marlinelaw21_Few.mono _ _
      | exact marlinelaw21_Of.mono _ _
      | exact marlinelaw21_To.mono _ _
      | exact marlinelaw21_speaks.mono _
      | exact marlineref01_Equal.mono _ _ _
      | exact marlineref21_Same.mono _ _ _
      | exact LeO.none _
      | refine LeO.ite ?_ ?_
      | refine LeO.bind ?_ (fun _ => ?_)
    · intro y0 y1 y2 y3 y4 y5 y6
      unfold marlinelaw21_TagsFinds.j2
      repeat' first
      | (with_reducible exact ih0 _ _ _)
      | (with_reducible exact ih1 _ _ _ _ _ _ _ _)
      | (with_reducible exact ih2 _ _ _ _ _ _ _)
      | (with_reducible exact ih3 _ _ _ _ _ _ _ _)
      | (with_reducible exact marlinelaw21_Few.mono _ _)
      | (with_reducible exact marlinelaw21_Of.mono _ _)
      | (with_reducible exact marlinelaw21_To.mono _ _)
      | (with_reducible exact marlinelaw21_speaks.mono _)
      | (with_reducible exact marlineref01_Equal.mono _ _ _)
      | (with_reducible exact marlineref21_Same.mono _ _ _)
      | (with_reducible exact LeO.refl _)
      | (with_reducible exact LeO.none _)
      | (with_reducible refine LeO.ite ?_ ?_)
      | (with_reducible refine LeO.bind ?_ (fun _ => ?_))
      | exact ih0 _ _ _
      | exact ih1 _ _ _ _ _ _ _ _
      | exact ih2 _ _ _ _ _ _ _
      | exact ih3 _ _ _ _ _ _ _ _
      | exact marlinelaw21_Few.mono _ _
      | exact marlinelaw21_Of.mono _ _
      | exact marlinelaw21_To.mono _ _
      | exact marlinelaw21_speaks.mono _
      | exact marlineref01_Equal.mono _ _ _
      | exact marlineref21_Same.mono _ _ _
      | exact LeO.none _
      | refine LeO.ite ?_ ?_
      | refine LeO.bind ?_ (fun _ => ?_)
    · intro y0 y1 y2 y3 y4 y5 y6 y7
      unfold marlinelaw21_TagsFinds.l1
      repeat' first
      | (with_reducible exact ih0 _ _ _)
      | (with_reducible exact ih1 _ _ _ _ _ _ _ _)
      | (with_reducible exact ih2 _ _ _ _ _ _ _)
      | (with_reducible exact ih3 _ _ _ _ _ _ _ _)
      | (with_reducible exact marlinelaw21_Few.mono _ _)
      | (with_reducible exact marlinelaw21_Of.mono _ _)
      | (with_reducible exact marlinelaw21_To.mono _ _)
      | (with_reducible exact marlinelaw21_speaks.mono _)
      | (with_reducible exact marlineref01_Equal.mono _ _ _)
      | (with_reducible exact marlineref21_Same.mono _ _ _)
      | (with_reducible exact LeO.refl _)
      | (with_reducible exact LeO.none _)
      | (with_reducible refine LeO.ite ?_ ?_)
      | (with_reducible refine LeO.bind ?_ (fun _ => ?_))
      | exact ih0 _ _ _
      | exact ih1 _ _ _ _ _ _ _ _
      | exact ih2 _ _ _ _ _ _ _
      | exact ih3 _ _ _ _ _ _ _ _
      | exact marlinelaw21_Few.mono _ _
      | exact marlinelaw21_Of.mono _ _
      | exact marlinelaw21_To.mono _ _
      | exact marlinelaw21_speaks.mono _
      | exact marlineref01_Equal.mono _ _ _
      | exact marlineref21_Same.mono _ _ _
      | exact LeO.none _
      | refine LeO.ite ?_ ?_
      | refine LeO.bind ?_ (fun _ => ?_)
theorem marlinelaw21_TagsFinds.mono : ∀ a0 a1 k, LeO (marlinelaw21_TagsFinds.f k a0 a1) (marlinelaw21_TagsFinds.f (k + 1) a0 a1) := by
  intro a0 a1 k
  obtain ⟨ih0, ih1, ih2, ih3⟩ := marlinelaw21_TagsFinds.mono_l k
  unfold marlinelaw21_TagsFinds.f
  repeat' first
      | (with_reducible exact ih0 _ _ _)
      | (with_reducible exact ih1 _ _ _ _ _ _ _ _)
      | (with_reducible exact ih2 _ _ _ _ _ _ _)
      | (with_reducible exact ih3 _ _ _ _ _ _ _ _)
      | (with_reducible exact marlinelaw21_Few.mono _ _)
      | (with_reducible exact marlinelaw21_Of.mono _ _)
      | (with_reducible exact marlinelaw21_To.mono _ _)
      | (with_reducible exact marlinelaw21_speaks.mono _)
      | (with_reducible exact marlineref01_Equal.mono _ _ _)
      | (with_reducible exact marlineref21_Same.mono _ _ _)
      | (with_reducible exact LeO.refl _)
      | (with_reducible exact LeO.none _)
      | (with_reducible refine LeO.ite ?_ ?_)
      | (with_reducible refine LeO.bind ?_ (fun _ => ?_))
      | exact ih0 _ _ _
      | exact ih1 _ _ _ _ _ _ _ _
      | exact ih2 _ _ _ _ _ _ _
      | exact ih3 _ _ _ _ _ _ _ _
      | exact marlinelaw21_Few.mono _ _
      | exact marlinelaw21_Of.mono _ _
      | exact marlinelaw21_To.mono _ _
      | exact marlinelaw21_speaks.mono _
      | exact marlineref01_Equal.mono _ _ _
      | exact marlineref21_Same.mono _ _ _
      | exact LeO.none _
      | refine LeO.ite ?_ ?_
      | refine LeO.bind ?_ (fun _ => ?_)
set_option maxHeartbeats 8000000 in
set_option maxRecDepth 100000 in
theorem marlinelaw21_TagsFinds.calls (k : Nat) (A0 : Option Addr) (c0 : Nat) (l0 : List (S32)) (a1 : Int) (r : Bool) (w : World) (hr0 : Kd.C k32 w A0 l0.length l0) (hc0 : l0.length ≤ c0) (h : marlinelaw21_TagsFinds.f k l0 a1 = some r) (hGL : GL w := by first | exact hGL | exact hGL.below HB.out | exact hGL.below (by repeat (first | (with_reducible first | exact HB.out | apply below_alloc | apply pw_below_drewN | apply below_drew1) | exact HB.out))) :
    Calls Tryd.prog 3 #[.slice A0 l0.length c0, .int .u16 a1] w fun e w' => e = .returned (.bool r) ∧ Below w.heap.size w w' := by
  have hu32 := Tryd.underlying32
  have HR0 := Aside0.mk hr0
  have HC0 := Aside0.mk hc0
  clear hr0 hc0
  have HB := Aside0.mk (Below.refl w.heap.size w)
  have H : ((marlinelaw21_speaks.f k).bind fun t145 => (if t145 = true then ((marlinelaw21_Few.f k l0).bind fun t146 => (marlinelaw21_TagsFinds.j0 k l0 a1 (!t146))) else (marlinelaw21_TagsFinds.j0 k l0 a1 true))) = some r := h
  clear h
  have HC3 := Aside0.mk H
  clear H
  go_enter Tryd.func3, Tryd.ntmps3
  go_upto_region 1 with (fail)
  go_cut [19] (fun v19 wc => ∃ (kq : Nat) (x19_2 : Bool), v19 = .bool x19_2 ∧ Aside0 (marlinelaw21_TagsFinds.j0 kq l0 a1 x19_2 = some r) ∧ Aside0 (kq ≤ k) ∧ Aside0 (Below w.heap.size w wc))
  case first =>
    have H := HC3.out
    clear HC3
    replace H := Option.bind_eq_some_iff.mp H
    obtain ⟨t145, A40, H⟩ := H
    replace H : (if t145 = true then ((marlinelaw21_Few.f k l0).bind fun t146 => (marlinelaw21_TagsFinds.j0 k l0 a1 (!t146))) else (marlinelaw21_TagsFinds.j0 k l0 a1 true)) = some r := H
    have A4 := Aside0.mk A40
    clear A40
    by_cases c5 : t145 = true
    · subst c5
      have H1 : ((marlinelaw21_Few.f k l0).bind fun t146 => (marlinelaw21_TagsFinds.j0 k l0 a1 (!t146))) = some r := by rw [if_pos rfl] at H; exact H
      clear H
      have H := H1
      clear H1
      replace H := Option.bind_eq_some_iff.mp H
      obtain ⟨t146, A60, H⟩ := H
      replace H : (marlinelaw21_TagsFinds.j0 k l0 a1 (!t146)) = some r := H
      have A6 := Aside0.mk A60
      clear A60
      have H' := Aside0.mk H
      clear H
      go_wp2_with (first | ((with_reducible refine gate_callee (f := 7) rfl ?_); refine goesL_ (some 13) rfl rfl Tryd.func7 (by kernel_rfl) rfl #[] rfl (by (try simp only [List.map_toArray, List.map_cons, List.map_nil]); first | done | rfl | (simp only [List.length_drop, List.length_take]; rfl)) ?_; (with_reducible refine (marlinelaw21_speaks.calls k  true _ A4.out).mono ?_); rintro e w7 ⟨rfl, hb⟩; refine ⟨_, rfl, ?_⟩; have n0_ := Aside0.mk (below_step (by repeat (first | (with_reducible first | exact HB.out | apply below_alloc | apply pw_below_drewN | apply below_drew1) | exact HB.out)) hb); clear HB; have HB := n0_; clear n0_; (try clear hb); (try clear hb2); (try clear hk); (try clear hi)) | (go_at_call 8; (with_reducible refine (marlinelaw21_Few.calls k _ _ l0 t146 _ ?side1 ?side2 A6.out).mono ?_); (case side1 => repeat (first | exact (Kd.C_below HR0.out HB.out) | (with_reducible refine Kd.C_alloc ?_ _) | (with_reducible refine Kd.C_drewN ?_ _) | (with_reducible refine Kd.C_drew ?_))); (case side2 => exact HC0.out); rintro e w8 ⟨rfl, hb⟩; have n0_ := Aside0.mk (below_step (by repeat (first | (with_reducible first | exact HB.out | apply below_alloc | apply pw_below_drewN | apply below_drew1) | exact HB.out)) hb); clear HB; have HB := n0_; clear n0_; (try clear hb); (try clear hb2); (try clear hk); (try clear hi)))
      go_meet
      case rel => exact ⟨_, (!t146), (by first | rfl | (simp; done) | (simp [*]; done)), H', ⟨by first | omega | exact Nat.le_refl _⟩, ⟨by repeat (first | (with_reducible first | exact HB.out | apply below_alloc | apply pw_below_drewN | apply below_drew1) | exact HB.out)⟩⟩
    · replace c5 := Bool.eq_false_iff.mpr c5
      subst c5
      have H1 : (marlinelaw21_TagsFinds.j0 k l0 a1 true) = some r := by rw [if_neg (show ¬ (false = true) by decide)] at H; exact H
      clear H
      have H := H1
      clear H1
      have H' := Aside0.mk H
      clear H
      go_wp2_with (first | ((with_reducible refine gate_callee (f := 7) rfl ?_); refine goesL_ (some 13) rfl rfl Tryd.func7 (by kernel_rfl) rfl #[] rfl (by (try simp only [List.map_toArray, List.map_cons, List.map_nil]); first | done | rfl | (simp only [List.length_drop, List.length_take]; rfl)) ?_; (with_reducible refine (marlinelaw21_speaks.calls k  false _ A4.out).mono ?_); rintro e w9 ⟨rfl, hb⟩; refine ⟨_, rfl, ?_⟩; have n0_ := Aside0.mk (below_step (by repeat (first | (with_reducible first | exact HB.out | apply below_alloc | apply pw_below_drewN | apply below_drew1) | exact HB.out)) hb); clear HB; have HB := n0_; clear n0_; (try clear hb); (try clear hb2); (try clear hk); (try clear hi)))
      go_meet
      case rel => exact ⟨_, (true), (by first | rfl | (simp; done) | (simp [*]; done)), H', ⟨by first | omega | exact Nat.le_refl _⟩, ⟨by repeat (first | (with_reducible first | exact HB.out | apply below_alloc | apply pw_below_drewN | apply below_drew1) | exact HB.out)⟩⟩
  case rest =>
    clear HC3
    try clear p2
    try clear c3
    try clear c5
    try clear c7
    obtain ⟨kq, x19_2, rfl, HA, HJ2, HB⟩ := hcut
    cases kq with
    | zero => exact absurd HA.out (by simp [marlinelaw21_TagsFinds.j0])
    | succ kj2 =>
      have H := HA.out
      clear HA
      simp only [marlinelaw21_TagsFinds.j0] at H
      by_cases c10 : x19_2 = true
      · subst c10
        have H1 : ((marlinelaw21_speaks.f kj2).bind fun t147 => (some t147)) = some r := by rw [if_pos rfl] at H; exact H
        clear H
        have H := H1
        clear H1
        replace H := Option.bind_eq_some_iff.mp H
        obtain ⟨t147, A110, H⟩ := H
        replace H : (some t147) = some r := H
        have A11 := Aside0.mk A110
        clear A110
        obtain rfl := Option.some.inj H
        go_wp2_with (first | ((with_reducible refine gate_callee (f := 7) rfl ?_); refine goesL_ (some 20) rfl rfl Tryd.func7 (by kernel_rfl) rfl #[] rfl (by (try simp only [List.map_toArray, List.map_cons, List.map_nil]); first | done | rfl | (simp only [List.length_drop, List.length_take]; rfl)) ?_; (with_reducible refine (marlinelaw21_speaks.calls kj2  t147 _ A11.out).mono ?_); rintro e w12 ⟨rfl, hb⟩; refine ⟨_, rfl, ?_⟩; have n0_ := Aside0.mk (below_step (by repeat (first | (with_reducible first | exact HB.out | apply below_alloc | apply pw_below_drewN | apply below_drew1) | exact HB.out)) hb); clear HB; have HB := n0_; clear n0_; (try clear hb); (try clear hb2); (try clear hk); (try clear hi)))
        go_ret
        exact ⟨by first | rfl | (simp [errW_none, errW_some] <;> rfl) | (simp [*, errW_none, errW_some] <;> rfl), by repeat (first | (with_reducible first | exact HB.out | apply below_alloc | apply pw_below_drewN | apply below_drew1) | exact HB.out)⟩
      · replace c10 := Bool.eq_false_iff.mpr c10
        subst c10
        have H1 : ((marlinelaw21_Of.f kj2 l0).bind fun t148 => ((tags_Find.f t148 a1).bind fun bt151 => (marlinelaw21_TagsFinds.l0 kj2 l0 a1 t148 bt151.1 bt151.2 l0 (l0.length : Int) 0))) = some r := by rw [if_neg (show ¬ (false = true) by decide)] at H; exact H
        clear H
        have H := H1
        clear H1
        replace H := Option.bind_eq_some_iff.mp H
        obtain ⟨t148, A130, H⟩ := H
        replace H : ((tags_Find.f t148 a1).bind fun bt151 => (marlinelaw21_TagsFinds.l0 kj2 l0 a1 t148 bt151.1 bt151.2 l0 (l0.length : Int) 0)) = some r := H
        have A13 := Aside0.mk A130
        clear A130
        replace H := Option.bind_eq_some_iff.mp H
        obtain ⟨⟨t151, t152⟩, A140, H⟩ := H
        replace H : (marlinelaw21_TagsFinds.l0 kj2 l0 a1 t148 t151 t152 l0 (l0.length : Int) 0) = some r := H
        have A14 := Aside0.mk A140
        clear A140
        have H' := Aside0.mk H
        clear H
        go_wp2_with (first | ((with_reducible refine gate_callee (f := 9) rfl ?_); refine goesL_ (some 22) rfl rfl Tryd.func9 (by kernel_rfl) rfl #[.slice A0 l0.length c0] rfl (by (try simp only [List.map_toArray, List.map_cons, List.map_nil]); first | done | rfl | (simp only [List.length_drop, List.length_take]; rfl)) ?_; (with_reducible refine (marlinelaw21_Of.calls kj2 (fun k_ => k_ < w.heap.size) _ _ l0 t148 _ ?side1 A13.out).mono ?_); (case side1 => exact Kd.V_mk HC0.out (Kd.F_below (Kd.C_F k32_heap HR0.out) (by repeat (first | (with_reducible first | exact HB.out | apply below_alloc | apply pw_below_drewN | apply below_drew1) | exact HB.out)))); rintro e w15 ⟨v149, rfl, ho0, hb⟩; refine ⟨_, rfl, ?_⟩; have n0_ := Aside0.mk (Kd.N_lower (Kd.N_mono (ok' := fun k_ => True) ho0 (fun k_ hk_ => trivial)) (below_size (by repeat (first | (with_reducible first | exact HB.out | apply below_alloc | apply pw_below_drewN | apply below_drew1) | exact HB.out)))); have n1_ := Aside0.mk (below_step (by repeat (first | (with_reducible first | exact HB.out | apply below_alloc | apply pw_below_drewN | apply below_drew1) | exact HB.out)) hb); clear HB; have HO150 := n0_; have HB := n1_; clear n0_ n1_; (try clear hb); (try clear hb2); (try clear hk); (try clear hi); (try clear ho0); obtain ⟨Ao16, co16, eo16⟩ := Kd.N_slice HO150.out; subst eo16) | ((with_reducible refine gate_callee (f := 10) rfl ?_); refine goesL_ (some 26) rfl rfl Tryd.func10 (by kernel_rfl) rfl #[.slice Ao16 t148.length co16, .int .u16 a1] rfl (by (try simp only [List.map_toArray, List.map_cons, List.map_nil]); first | done | rfl | (simp only [List.length_drop, List.length_take]; rfl)) ?_; (with_reducible refine (tags_Find.calls _ _ t148 a1 t151 t152 _ ?side1 ?side2 A14.out).mono ?_); (case side1 => repeat (first | exact (Kd.N_reads' HO150.out).2.2 | (with_reducible refine Kd.C_alloc ?_ _) | (with_reducible refine Kd.C_drewN ?_ _) | (with_reducible refine Kd.C_drew ?_))); (case side2 => exact (Kd.N_reads' HO150.out).2.1); rintro e w17 ⟨v153, rfl, ho0, hb⟩; refine ⟨_, rfl, ?_⟩; have n0_ := Aside0.mk (Kd.N_elder' (by (with_reducible repeat (first | apply Kd.N_alloc | apply Kd.N_drewN | apply Kd.N_drew)); exact HO150.out) (Kd.R_base ho0) hb); have n1_ := Aside0.mk (Kd.R_lower ho0 (below_size (by repeat (first | (with_reducible first | exact HB.out | apply below_alloc | apply pw_below_drewN | apply below_drew1) | exact HB.out)))); have n2_ := Aside0.mk (below_step (by repeat (first | (with_reducible first | exact HB.out | apply below_alloc | apply pw_below_drewN | apply below_drew1) | exact HB.out)) hb); clear HO150; clear HB; have HO150 := n0_; have HO154 := n1_; have HB := n2_; clear n0_ n1_ n2_; (try clear hb); (try clear hb2); (try clear hk); (try clear hi); (try clear ho0)))
        go_loopg [31] kj2 (fun kq v31 w' => ∃ (x6_2 : List Int) (x31_2 : Int), v31 = .int .i64 x31_2 ∧ Aside0 (marlinelaw21_TagsFinds.l0 kq l0 a1 t148 x6_2 t152 l0 (l0.length : Int) x31_2 = some r) ∧ Aside0 (kq ≤ kj2) ∧ Aside0 (Kd.N k50 50 w' w.heap.size (fun k_ => some k_ ≠ (v153 : Value).ownBlock) (.slice Ao16 t148.length co16) t148) ∧ Aside0 (Kd.R (Kd.int .u8) 5 w' w.heap.size (fun _ => True) v153 x6_2) ∧ Aside0 (Below w.heap.size w w'))
        case atStart => exact ⟨(t151), (0), (by first | rfl | (simp; done) | (simp [*]; done)), H', ⟨Nat.le_refl _⟩, ⟨by (with_reducible repeat (first | apply Kd.N_alloc | apply Kd.N_drewN | apply Kd.N_drew)); exact Kd.N_mono HO150.out (fun _ hk => hk.2)⟩, ⟨by (with_reducible repeat (first | apply Kd.R_alloc | apply Kd.R_drewN | apply Kd.R_drew)); exact HO154.out⟩, ⟨by repeat (first | (with_reducible first | exact HB.out | apply below_alloc | apply pw_below_drewN | apply below_drew1) | exact HB.out)⟩⟩
        case round =>
          clear H'
          try clear c1
          try clear p2
          try clear c3
          try clear c5
          try clear c7
          try clear c9
          try clear c10
          try clear p2
          obtain ⟨x6_2, x31_2, rfl, HA, HK2, HO_5, HO_6, HB⟩ := hrel
          cases gk with
          | zero => exact absurd HA.out (by simp [marlinelaw21_TagsFinds.l0])
          | succ k2 =>
            have H := HA.out
            clear HA
            simp only [marlinelaw21_TagsFinds.l0] at H
            by_cases c18 : x31_2 < (l0.length : Int)
            · rw [if_pos c18] at H
              have c18b0 : decide (x31_2 < (l0.length : Int)) = true := decide_eq_true c18
              clear c18
              by_cases c19 : 0 ≤ x31_2
              · rw [if_pos c19] at H
                have c19b0 : decide (0 ≤ x31_2) = true := decide_eq_true c19
                clear c19
                by_cases c20 : x31_2 < (l0.length : Int)
                · rw [if_pos c20] at H
                  have c20b0 : decide (x31_2 < (l0.length : Int)) = true := decide_eq_true c20
                  clear c20
                  by_cases c21 : ((rd_T32 l0 x31_2).f0) = a1
                  · rw [if_pos c21] at H
                    have c21b0 : (((rd_T32 l0 x31_2).f0) == a1) = true := beq_iff_eq.mpr c21
                    have c21b1 : (((rd_T32 l0 x31_2).f0) != a1) = false := bne_eq_false_iff_eq.mpr c21
                    clear c21
                    have HC22 := Aside0.mk H
                    clear H
                    have p155 : 0 ≤ (x31_2 : Int) := of_decide_eq_true (by first | (with_reducible assumption) | assumption)
                    have q155 : x31_2 < (l0.length : Int) := of_decide_eq_true (by first | (with_reducible assumption) | assumption)
                    (try clear hHeld)
                    obtain ⟨ad155, A155_1, c155_1, e155, hx155_0, hx155_1, hl155_1, hi155_1⟩ := at_T32 HR0.out x31_2 p155 q155
                    cases e155
                    replace hx155_0 := (HB.out.cell (World.block_lt_of_cell? w _ hx155_0)).trans hx155_0
                    replace hx155_1 := (HB.out.cell (World.block_lt_of_cell? w _ hx155_1)).trans hx155_1
                    have HR155_1 := Aside0.mk hi155_1
                    have HC155_1 := Aside0.mk hl155_1
                    clear hi155_1 hl155_1
                    replace p155 := eq_true p155
                    replace q155 := eq_true q155
                    go_upto_region 9 with (first | ((with_reducible refine gate_dst (N := 9) rfl ?_); (try (refine gate_guard (by rfl) ?_; dsimp only)); refine box_event ?hg (N := 9) ?hd (cs := #[.int .u16 0, .slice none 0 0]) (t := 32) ?hr ?_; (case hd => rfl); (case hg => rfl); (case hr => first | (go_simp; done) | (go_simp; simp only [IntKind.wrap_u8, IntKind.wrap_u16, IntKind.wrap_u32, IntKind.wrap_u64]; done) | (go_simp; simp only [IntKind.wrap_u8, IntKind.wrap_u16, IntKind.wrap_u32, IntKind.wrap_u64, Int.tmod_eq_emod_of_nonneg (Int.natCast_nonneg _), Int.emod_emod]; done) | (go_simp; rfl)); intro gb156 hg w23 hbox hb; have n0_ := Aside0.mk (Kd.N_below (Kd.N_elderB (by (with_reducible repeat (first | apply Kd.N_alloc | apply Kd.N_drewN | apply Kd.N_drew)); exact HO_5.out) gb156 (Nat.le_of_eq hg.symm)) hb); have n1_ := Aside0.mk (Kd.R_below (by (with_reducible repeat (first | apply Kd.R_alloc | apply Kd.R_drewN | apply Kd.R_drew)); exact HO_6.out) hb); have n2_ := Aside0.mk (below_step (by repeat (first | (with_reducible first | exact HB.out | apply below_alloc | apply pw_below_drewN | apply below_drew1) | exact HB.out)) hb); have n3_ := Aside0.mk (hbox); have n4_ := Aside0.mk ((by rw [hg]; exact (below_size (by repeat (first | (with_reducible first | exact HB.out | apply below_alloc | apply pw_below_drewN | apply below_drew1) | exact HB.out))) : w.heap.size ≤ gb156)); have n5_ := Aside0.mk ((by rw [hg]; exact (below_size (by repeat (first | (with_reducible first | exact HB.out | apply below_alloc | apply pw_below_drewN | apply below_drew1) | exact HB.out))) : w.heap.size ≤ gb156)); clear HO_5; clear HO_6; clear HB; have HO_5 := n0_; have HO_6 := n1_; have HB := n2_; have BK156 := n3_; have GW156 := n4_; have GE156 := n5_; clear n0_ n1_ n2_ n3_ n4_ n5_; clear hb hbox hg; have hcz24_0 : w23.cell? ⟨gb156, 0, none⟩ = some (.int .u16 0) := (blk_cell BK156.out 0).trans rfl; have hcz24_1 : w23.cell? ⟨gb156, 1, none⟩ = some (.slice none 0 0) := (blk_cell BK156.out 1).trans rfl; have hfz24_0 := blk_frozen BK156.out 0; have hfz24_1 := blk_frozen BK156.out 1))
                    (try simp only [Act.put, List.setIfInBounds_toArray, List.set_cons_zero, List.set_cons_succ])
                    go_cut [47] (fun v47 wc => ∃ (kq : Nat) (x47_21 : Bool), v47 = .bool x47_21 ∧ Aside0 (marlinelaw21_TagsFinds.j2 kq l0 a1 t148 x6_2 x47_21 ((rd_T32 l0 x31_2).f0) ((rd_T32 l0 x31_2).f1) = some r) ∧ Aside0 (kq ≤ k2) ∧ Aside0 (Kd.N k50 50 wc w.heap.size (fun k_ => some k_ ≠ (v153 : Value).ownBlock ∧ k_ ≠ gb156) (.slice Ao16 t148.length co16) t148) ∧ Aside0 (Kd.R (Kd.int .u8) 5 wc w.heap.size (fun _ => True) v153 x6_2) ∧ Aside0 (wc.heap[gb156]? = some (.cells #[.int .u16 ((rd_T32 l0 x31_2).f0), (.slice A155_1 ((rd_T32 l0 x31_2).f1).length c155_1)] 32 (0, 0))) ∧ Aside0 (Below w.heap.size w wc))
                    case first =>
                      have H := HC22.out
                      clear HC22
                      by_cases c25 : t152 = true
                      · subst c25
                        have H1 : ((marlineref01_Equal.f k2 x6_2 ((rd_T32 l0 x31_2).f1)).bind fun t157 => (marlinelaw21_TagsFinds.j2 k2 l0 a1 t148 x6_2 (!t157) ((rd_T32 l0 x31_2).f0) ((rd_T32 l0 x31_2).f1))) = some r := by rw [if_pos rfl] at H; exact H
                        clear H
                        have H := H1
                        clear H1
                        replace H := Option.bind_eq_some_iff.mp H
                        obtain ⟨t157, A260, H⟩ := H
                        replace H : (marlinelaw21_TagsFinds.j2 k2 l0 a1 t148 x6_2 (!t157) ((rd_T32 l0 x31_2).f0) ((rd_T32 l0 x31_2).f1)) = some r := H
                        have A26 := Aside0.mk A260
                        clear A260
                        have H' := Aside0.mk H
                        clear H
                        have hcz27_0 : w23.cell? ⟨gb156, 0, none⟩ = some (.int .u16 0) := (blk_cell BK156.out 0).trans rfl
                        have hcz27_1 : w23.cell? ⟨gb156, 1, none⟩ = some (.slice none 0 0) := (blk_cell BK156.out 1).trans rfl
                        have hfz27_0 := blk_frozen BK156.out 0
                        have hfz27_1 := blk_frozen BK156.out 1
                        obtain ⟨Ao28, co28, eo28⟩ := Kd.R_slice HO_6.out
                        subst eo28
                        go_wp2_with (first | (go_at_call 11; (with_reducible refine (marlineref01_Equal.calls k2 _ _ x6_2 _ _ ((rd_T32 l0 x31_2).f1) t157 _ ?side1 ?side2 ?side3 ?side4 A26.out).mono ?_); (case side1 => refine (Kd.R_reads' (e := 5) (base := w.heap.size) (ok := fun k_ => True) (n := x6_2.length) (c := co28) ?_).2.2; exact (by (with_reducible repeat (first | apply Kd.R_alloc | apply Kd.R_drewN | apply Kd.R_drew)); exact (Kd.R_mono (Kd.R_far (p := ⟨gb156, 1, none⟩) (Kd.R_far (p := ⟨gb156, 0, none⟩) (Kd.R_types HO_6.out BK156.out (by decide)) (fun _ hk => hk.2) (.int .u16 ((rd_T32 l0 x31_2).f0))) (fun _ hk => hk.2) (.slice A155_1 ((rd_T32 l0 x31_2).f1).length c155_1)) (fun _ h_ => h_.1)))); (case side2 => exact (Kd.R_reads' HO_6.out).2.1); (case side3 => exact Kd.C_below HR155_1.out (by repeat (first | (with_reducible first | exact HB.out | apply below_alloc | apply pw_below_drewN | apply below_drew1 | refine below_set ?_ GE156.out) | exact HB.out))); (case side4 => exact HC155_1.out); rintro e w' ⟨rfl, ⟨nd, rfl⟩⟩))
                        go_meet
                        case rel => exact ⟨_, (!t157), (by first | rfl | (simp; done) | (simp [*]; done)), H', ⟨by have := HJ2.out; have := HK2.out; first | omega | exact Nat.le_refl _⟩, ⟨by (with_reducible repeat (first | apply Kd.N_alloc | apply Kd.N_drewN | apply Kd.N_drew)); exact Kd.N_mono (Kd.N_far (p := ⟨gb156, 1, none⟩) (Kd.N_far (p := ⟨gb156, 0, none⟩) (Kd.N_mono HO_5.out (fun k_ hk => (⟨hk, hk.2⟩ : _ ∧ k_ ≠ gb156))) (fun _ hk => hk.2) (.int .u16 ((rd_T32 l0 x31_2).f0))) (fun _ hk => hk.2) (.slice A155_1 ((rd_T32 l0 x31_2).f1).length c155_1)) (fun _ hk => ⟨hk.1.1, hk.1.2⟩)⟩, ⟨by (with_reducible repeat (first | apply Kd.R_alloc | apply Kd.R_drewN | apply Kd.R_drew)); exact Kd.R_mono (Kd.R_far (p := ⟨gb156, 1, none⟩) (Kd.R_far (p := ⟨gb156, 0, none⟩) (Kd.R_types HO_6.out BK156.out (by decide)) (fun _ hk => hk.2) (.int .u16 ((rd_T32 l0 x31_2).f0))) (fun _ hk => hk.2) (.slice A155_1 ((rd_T32 l0 x31_2).f1).length c155_1)) (fun _ hk => trivial)⟩, ⟨by (with_reducible repeat (first | refine blk_drewN ?_ _ | refine blk_drew ?_ | refine blk_alloc ?_ _)); refine blk_put (cs := #[.int .u16 ((rd_T32 l0 x31_2).f0), .slice none 0 0]) ?_ 1 _ rfl; (with_reducible repeat (first | refine blk_drewN ?_ _ | refine blk_drew ?_ | refine blk_alloc ?_ _)); refine blk_put (cs := #[.int .u16 0, .slice none 0 0]) ?_ 0 _ rfl; (with_reducible repeat (first | refine blk_drewN ?_ _ | refine blk_drew ?_ | refine blk_alloc ?_ _)); exact BK156.out⟩, ⟨by repeat (first | (with_reducible first | exact HB.out | apply below_alloc | apply pw_below_drewN | apply below_drew1 | refine below_set ?_ GE156.out) | exact HB.out)⟩⟩
                      · replace c25 := Bool.eq_false_iff.mpr c25
                        subst c25
                        have H1 : (marlinelaw21_TagsFinds.j2 k2 l0 a1 t148 x6_2 true ((rd_T32 l0 x31_2).f0) ((rd_T32 l0 x31_2).f1)) = some r := by rw [if_neg (show ¬ (false = true) by decide)] at H; exact H
                        clear H
                        have H := H1
                        clear H1
                        have H' := Aside0.mk H
                        clear H
                        go_wp2
                        go_meet
                        case rel => exact ⟨_, (true), (by first | rfl | (simp; done) | (simp [*]; done)), H', ⟨by have := HJ2.out; have := HK2.out; first | omega | exact Nat.le_refl _⟩, ⟨by (with_reducible repeat (first | apply Kd.N_alloc | apply Kd.N_drewN | apply Kd.N_drew)); exact Kd.N_mono (Kd.N_far (p := ⟨gb156, 1, none⟩) (Kd.N_far (p := ⟨gb156, 0, none⟩) (Kd.N_mono HO_5.out (fun k_ hk => (⟨hk, hk.2⟩ : _ ∧ k_ ≠ gb156))) (fun _ hk => hk.2) (.int .u16 ((rd_T32 l0 x31_2).f0))) (fun _ hk => hk.2) (.slice A155_1 ((rd_T32 l0 x31_2).f1).length c155_1)) (fun _ hk => ⟨hk.1.1, hk.1.2⟩)⟩, ⟨by (with_reducible repeat (first | apply Kd.R_alloc | apply Kd.R_drewN | apply Kd.R_drew)); exact Kd.R_mono (Kd.R_far (p := ⟨gb156, 1, none⟩) (Kd.R_far (p := ⟨gb156, 0, none⟩) (Kd.R_types HO_6.out BK156.out (by decide)) (fun _ hk => hk.2) (.int .u16 ((rd_T32 l0 x31_2).f0))) (fun _ hk => hk.2) (.slice A155_1 ((rd_T32 l0 x31_2).f1).length c155_1)) (fun _ hk => trivial)⟩, ⟨by (with_reducible repeat (first | refine blk_drewN ?_ _ | refine blk_drew ?_ | refine blk_alloc ?_ _)); refine blk_put (cs := #[.int .u16 ((rd_T32 l0 x31_2).f0), .slice none 0 0]) ?_ 1 _ rfl; (with_reducible repeat (first | refine blk_drewN ?_ _ | refine blk_drew ?_ | refine blk_alloc ?_ _)); refine blk_put (cs := #[.int .u16 0, .slice none 0 0]) ?_ 0 _ rfl; (with_reducible repeat (first | refine blk_drewN ?_ _ | refine blk_drew ?_ | refine blk_alloc ?_ _)); exact BK156.out⟩, ⟨by repeat (first | (with_reducible first | exact HB.out | apply below_alloc | apply pw_below_drewN | apply below_drew1 | refine below_set ?_ GE156.out) | exact HB.out)⟩⟩
                    case rest =>
                      clear HC22
                      try clear c1
                      try clear p1
                      try clear q1
                      try clear hx1
                      try clear c2
                      try clear p2
                      try clear c3
                      try clear c5
                      try clear c7
                      try clear c9
                      try clear c10
                      try clear c15
                      try clear p15
                      try clear q15
                      try clear hx15
                      try clear c18
                      try clear c18b0
                      try clear c19
                      try clear c19b0
                      try clear c20
                      try clear c20b0
                      try clear c21
                      try clear c21b0
                      try clear c21b1
                      try clear c25
                      try clear hcz24_0
                      try clear hcz24_1
                      try clear hcz27_0
                      try clear hcz27_1
                      try clear hfz24_0
                      try clear hfz24_1
                      try clear hfz27_0
                      try clear hfz27_1
                      try clear hx155_0
                      try clear hx155_1
                      try clear p155
                      try clear p2
                      try clear q155
                      obtain ⟨kq, x47_21, rfl, HA, HJ21, HO_5, HO_6, BK156, HB⟩ := hcut
                      cases kq with
                      | zero => exact absurd HA.out (by simp [marlinelaw21_TagsFinds.j2])
                      | succ kj21 =>
                        have H := HA.out
                        clear HA
                        simp only [marlinelaw21_TagsFinds.j2] at H
                        by_cases c29 : x47_21 = true
                        · subst c29
                          have H1 : (none) = some r := by rw [if_pos rfl] at H; exact H
                          clear H
                          have H := H1
                          clear H1
                          exact absurd H (by simp)
                        · replace c29 := Bool.eq_false_iff.mpr c29
                          subst c29
                          have H1 : (marlinelaw21_TagsFinds.l1 kj21 l0 a1 t148 x6_2 (x6_2.length : Int) 0 ((rd_T32 l0 x31_2).f0) ((rd_T32 l0 x31_2).f1)) = some r := by rw [if_neg (show ¬ (false = true) by decide)] at H; exact H
                          clear H
                          have H := H1
                          clear H1
                          have H' := Aside0.mk H
                          clear H
                          obtain ⟨Ao30, co30, eo30⟩ := Kd.R_slice HO_6.out
                          subst eo30
                          go_wp2
                          go_loopg [50] kj21 (fun kq v50 w' => ∃ (x6_4 : List Int) (x50_4 : Int), v50 = .int .i64 x50_4 ∧ Aside0 (marlinelaw21_TagsFinds.l1 kq l0 a1 t148 x6_4 (x6_2.length : Int) x50_4 ((rd_T32 l0 x31_2).f0) ((rd_T32 l0 x31_2).f1) = some r) ∧ Aside0 (kq ≤ kj21) ∧ Aside0 (Kd.N k50 50 w' w.heap.size (fun k_ => some k_ ≠ ((.slice Ao30 x6_2.length co30) : Value).ownBlock ∧ k_ ≠ gb156) (.slice Ao16 t148.length co16) t148) ∧ Aside0 (Kd.R (Kd.int .u8) 5 w' w.heap.size (fun _ => True) (.slice Ao30 x6_2.length co30) x6_4) ∧ Aside0 (w'.heap[gb156]? = some (.cells #[.int .u16 ((rd_T32 l0 x31_2).f0), (.slice A155_1 ((rd_T32 l0 x31_2).f1).length c155_1)] 32 (0, 0))) ∧ Aside0 (Below w.heap.size w w'))
                          case atStart => exact ⟨(x6_2), (0), (by first | rfl | (simp; done) | (simp [*]; done)), H', ⟨Nat.le_refl _⟩, ⟨by (with_reducible repeat (first | apply Kd.N_alloc | apply Kd.N_drewN | apply Kd.N_drew)); exact HO_5.out⟩, ⟨by (with_reducible repeat (first | apply Kd.R_alloc | apply Kd.R_drewN | apply Kd.R_drew)); exact HO_6.out⟩, ⟨by (with_reducible repeat (first | refine blk_drewN ?_ _ | refine blk_drew ?_ | refine blk_alloc ?_ _)); exact BK156.out⟩, ⟨by repeat (first | (with_reducible first | exact HB.out | apply below_alloc | apply pw_below_drewN | apply below_drew1 | refine below_set ?_ GE156.out) | exact HB.out)⟩⟩
                          case round =>
                            clear H'
                            try clear c1
                            try clear p1
                            try clear q1
                            try clear hx1
                            try clear c2
                            try clear p2
                            try clear c3
                            try clear c5
                            try clear c7
                            try clear c9
                            try clear c10
                            try clear c15
                            try clear p15
                            try clear q15
                            try clear hx15
                            try clear c18
                            try clear c18b0
                            try clear c19
                            try clear c19b0
                            try clear c20
                            try clear c20b0
                            try clear c21
                            try clear c21b0
                            try clear c21b1
                            try clear c25
                            try clear c29
                            try clear hcz24_0
                            try clear hcz24_1
                            try clear hcz27_0
                            try clear hcz27_1
                            try clear hfz24_0
                            try clear hfz24_1
                            try clear hfz27_0
                            try clear hfz27_1
                            try clear hx155_0
                            try clear hx155_1
                            try clear p1
                            try clear p15
                            try clear p155
                            try clear p2
                            try clear q1
                            try clear q15
                            try clear q155
                            obtain ⟨x6_4, x50_4, rfl, HA, HK4, HO_5, HO_6, BK156, HB⟩ := hrel
                            have hl6_4 := (Kd.R_reads' HO_6.out).1
                            rw [hl6_4] at HO_6
                            (try simp only [hl6_4])
                            (try simp only [hl6_4] at BK156)
                            (try simp only [hl6_4] at HO_5)
                            cases gk with
                            | zero => exact absurd HA.out (by simp [marlinelaw21_TagsFinds.l1])
                            | succ k4 =>
                              have H := HA.out
                              clear HA
                              simp only [marlinelaw21_TagsFinds.l1] at H
                              by_cases c31 : x50_4 < (x6_2.length : Int)
                              · rw [if_pos c31] at H
                                have c31b0 : decide (x50_4 < (x6_2.length : Int)) = true := decide_eq_true c31
                                clear c31
                                by_cases c32 : 0 ≤ x50_4
                                · rw [if_pos c32] at H
                                  have c32b0 : decide (0 ≤ x50_4) = true := decide_eq_true c32
                                  clear c32
                                  by_cases c33 : x50_4 < (x6_4.length : Int)
                                  · rw [if_pos c33] at H
                                    have c33b0 : decide (x50_4 < (x6_4.length : Int)) = true := decide_eq_true c33
                                    clear c33
                                    obtain ⟨y159, hy159⟩ : ∃ y_ : List Int, y_ = (x6_4.set (x50_4 : Int).toNat (((rd x6_4 x50_4) + 1) % 256)) := ⟨_, rfl⟩
                                    replace H : (marlinelaw21_TagsFinds.l1 k4 l0 a1 t148 y159 (x6_2.length : Int) (wrap64 (x50_4 + 1)) ((rd_T32 l0 x31_2).f0) ((rd_T32 l0 x31_2).f1)) = some r := by first | (rw [hy159]; with_reducible exact H) | (have H2_ := (Option.bind_some _ _).symm.trans H; rw [hy159]; with_reducible exact H2_) | (have H2_ := (Option.bind_some _ _).symm.trans H; with_reducible exact H2_) | with_reducible exact H | (rw [hy159]; exact H) | exact H
                                    have Ny159 := Aside0.mk hy159
                                    clear hy159
                                    have H' := Aside0.mk H
                                    clear H
                                    have p158 : 0 ≤ (x50_4 : Int) := of_decide_eq_true (by first | (with_reducible assumption) | assumption)
                                    have q158 : x50_4 < (x6_4.length : Int) := of_decide_eq_true (by first | (with_reducible assumption) | assumption)
                                    obtain ⟨ad158, e158, hx158_0⟩ := Kd.at_int (Kd.R_reads' HO_6.out).2.2 x50_4 p158 q158
                                    cases e158
                                    replace p158 := eq_true p158
                                    replace q158 := eq_true q158
                                    have p34 : 0 ≤ (x50_4 : Int) := of_decide_eq_true (by first | (with_reducible assumption) | assumption)
                                    have q34 : (x50_4 : Int) < ((x6_4.length : Int) : Int) := of_decide_eq_true (by first | (with_reducible assumption) | assumption)
                                    obtain ⟨go34, co34, eo34, gb34, gl34, cl34, HG34⟩ := Kd.R_form HO_6.out (by omega)
                                    (first | cases eo34 | (injection eo34 with ea_ en_ ec_; (first | subst ea_ | (injection ea_ with ea_; subst ea_)); subst ec_; clear en_))
                                    have GB34 := Aside0.mk gb34
                                    have GG34 := Aside0.mk HG34
                                    clear gb34 gl34 HG34
                                    (first | simp only [add_plain] at hx158_0 | skip)
                                    obtain ⟨hx34_0, hf34_0⟩ := Kd.R_celln 0 HO_6.out (x50_4 : Int) p34 q34
                                    replace p34 := eq_true p34
                                    replace q34 := eq_true q34
                                    have HP35 := Kd.R_putg HO_6.out (x50_4 : Int) (((rd x6_4 x50_4) + 1) % 256)
                                    go_wp2_with (first | ((with_reducible refine gate_store (t := 5) (p := 58) rfl ?_); refine store_event (t := 5) (p := 58) (v := ?vo_w36) (w1 := (wr.setCell ⟨go34, (x50_4 : Int).toNat, none⟩ (.int .u8 (((rd x6_4 x50_4) + 1) % 256)))) ?hg ?ho ?hn ?hr ?_; (case ho => rfl); (case hg => rfl); (case hn => rfl); (case hr => first | (go_simp; done) | (go_simp; simp only [IntKind.wrap_u8, IntKind.wrap_u16, IntKind.wrap_u32, IntKind.wrap_u64]; done) | (go_simp; simp only [IntKind.wrap_u8, IntKind.wrap_u16, IntKind.wrap_u32, IntKind.wrap_u64, Int.tmod_eq_emod_of_nonneg (Int.natCast_nonneg _), Int.emod_emod]; done) | (go_simp; rfl)); intro w36 hw; have hg : wr.grownBy w36 (some go34) := (by rw [hw]; exact HP35.2); have hp_ : Kd.R (Kd.int .u8) 5 w36 w.heap.size (fun _ => True) (.slice (some ⟨go34, 0, none⟩) x6_4.length co30) y159 := (by rw [hw, Ny159.out]; exact HP35.1); clear HP35; have n0_ := Aside0.mk (Kd.N_afterv (v := (.slice (some ⟨go34, 0, none⟩) x6_4.length co30)) (v1 := (.slice (some ⟨go34, 0, none⟩) x6_4.length co30)) (ok := (fun k_ => k_ ≠ gb156)) (by (with_reducible repeat (first | apply Kd.N_alloc | apply Kd.N_drewN | apply Kd.N_drew)); exact Kd.N_mono HO_5.out (fun _ hk => ⟨hk.2, hk.1⟩)) hg (.inl rfl)); have n1_ := Aside0.mk (hp_); have n2_ := Aside0.mk (blk_grown (g := gb156) (o := .cells #[.int .u16 ((rd_T32 l0 x31_2).f0), .slice A155_1 ((rd_T32 l0 x31_2).f1).length c155_1] 32 (0, 0)) (by (with_reducible repeat (first | refine blk_drewN ?_ _ | refine blk_drew ?_ | refine blk_alloc ?_ _)); exact BK156.out) hg (Kd.R_ne HO_6.out BK156.out (by decide))); have n3_ := Aside0.mk ((by rw [hw]; exact below_set (HB.out) GB34.out : Below w.heap.size w w36)); clear HO_5; clear HO_6; clear BK156; clear HB; have HO_5 := n0_; have HO_6 := n1_; have BK156 := n2_; have HB := n3_; clear n0_ n1_ n2_ n3_; clear hg hw hp_))
                                    (try simp only [← hl6_4])
                                    go_roundg k4
                                    case measure => have := HJ2.out; have := HK2.out; have := HJ21.out; have := HK4.out; omega
                                    case rel => exact ⟨(y159), (wrap64 (x50_4 + 1)), (by first | rfl | (simp; done) | (simp [*]; done)), H', ⟨by have := HJ2.out; have := HK2.out; have := HJ21.out; have := HK4.out; omega⟩, ⟨by (try simp only [hl6_4]); (with_reducible repeat (first | apply Kd.N_alloc | apply Kd.N_drewN | apply Kd.N_drew)); exact Kd.N_mono HO_5.out (fun _ hk => ⟨hk.2, hk.1⟩)⟩, ⟨by (try simp only [hl6_4]); (with_reducible repeat (first | apply Kd.R_alloc | apply Kd.R_drewN | apply Kd.R_drew)); exact HO_6.out⟩, ⟨by (try simp only [hl6_4]); (with_reducible repeat (first | refine blk_drewN ?_ _ | refine blk_drew ?_ | refine blk_alloc ?_ _)); exact BK156.out⟩, ⟨by repeat (first | (with_reducible first | exact HB.out | apply below_alloc | apply pw_below_drewN | apply below_drew1 | refine below_set ?_ GE156.out) | exact HB.out)⟩⟩
                                  · rw [if_neg c33] at H
                                    exact absurd H (by simp)
                                · rw [if_neg c32] at H
                                  exact absurd H (by simp)
                              · rw [if_neg c31] at H
                                have c31b0 : decide (x50_4 < (x6_2.length : Int)) = false := decide_eq_false c31
                                (try simp only [hl6_4] at c31b0)
                                clear c31
                                replace H := Option.bind_eq_some_iff.mp H
                                obtain ⟨⟨t160, t161⟩, A370, H⟩ := H
                                replace H : (if t161 = true then ((marlineref01_Equal.f k4 t160 ((rd_T32 l0 x31_2).f1)).bind fun t164 => (if t164 = true then ((marlinelaw21_To.f k4 t148).bind fun t165 => ((marlineref21_Same.f k4 t165 l0).bind fun t168 => (some t168))) else (none))) else (none)) = some r := H
                                have A37 := Aside0.mk A370
                                clear A370
                                by_cases c38 : t161 = true
                                · subst c38
                                  have H1 : ((marlineref01_Equal.f k4 t160 ((rd_T32 l0 x31_2).f1)).bind fun t164 => (if t164 = true then ((marlinelaw21_To.f k4 t148).bind fun t165 => ((marlineref21_Same.f k4 t165 l0).bind fun t168 => (some t168))) else (none))) = some r := by rw [if_pos rfl] at H; exact H
                                  clear H
                                  have H := H1
                                  clear H1
                                  replace H := Option.bind_eq_some_iff.mp H
                                  obtain ⟨t164, A390, H⟩ := H
                                  replace H : (if t164 = true then ((marlinelaw21_To.f k4 t148).bind fun t165 => ((marlineref21_Same.f k4 t165 l0).bind fun t168 => (some t168))) else (none)) = some r := H
                                  have A39 := Aside0.mk A390
                                  clear A390
                                  by_cases c40 : t164 = true
                                  · subst c40
                                    have H1 : ((marlinelaw21_To.f k4 t148).bind fun t165 => ((marlineref21_Same.f k4 t165 l0).bind fun t168 => (some t168))) = some r := by rw [if_pos rfl] at H; exact H
                                    clear H
                                    have H := H1
                                    clear H1
                                    replace H := Option.bind_eq_some_iff.mp H
                                    obtain ⟨t165, A410, H⟩ := H
                                    replace H : ((marlineref21_Same.f k4 t165 l0).bind fun t168 => (some t168)) = some r := H
                                    have A41 := Aside0.mk A410
                                    clear A410
                                    replace H := Option.bind_eq_some_iff.mp H
                                    obtain ⟨t168, A420, H⟩ := H
                                    replace H : (some t168) = some r := H
                                    have A42 := Aside0.mk A420
                                    clear A420
                                    obtain rfl := Option.some.inj H
                                    go_wp2_with (first | ((with_reducible refine gate_callee (f := 10) rfl ?_); refine goesL_ (some 63) rfl rfl Tryd.func10 (by kernel_rfl) rfl #[.slice Ao16 t148.length co16, .int .u16 a1] rfl (by (try simp only [List.map_toArray, List.map_cons, List.map_nil]); first | done | rfl | (simp only [List.length_drop, List.length_take]; rfl)) ?_; (with_reducible refine (tags_Find.calls _ _ t148 a1 t160 true _ ?side1 ?side2 A37.out).mono ?_); (case side1 => repeat (first | exact (Kd.N_reads' HO_5.out).2.2 | (with_reducible refine Kd.C_alloc ?_ _) | (with_reducible refine Kd.C_drewN ?_ _) | (with_reducible refine Kd.C_drew ?_))); (case side2 => exact (Kd.N_reads' HO_5.out).2.1); rintro e w43 ⟨v162, rfl, ho0, hb⟩; refine ⟨_, rfl, ?_⟩; have n0_ := Aside0.mk (Kd.N_elder' (by (with_reducible repeat (first | apply Kd.N_alloc | apply Kd.N_drewN | apply Kd.N_drew)); exact HO_5.out) (Kd.R_base ho0) hb); have n1_ := Aside0.mk (Kd.R_elder' (by (with_reducible repeat (first | apply Kd.R_alloc | apply Kd.R_drewN | apply Kd.R_drew)); exact HO_6.out) (Kd.R_base ho0) hb); have n2_ := Aside0.mk (Kd.R_lower (Kd.R_new' ho0 (Kd.R_lt (by (with_reducible repeat (first | apply Kd.R_alloc | apply Kd.R_drewN | apply Kd.R_drew)); exact HO_6.out))) (below_size (by repeat (first | (with_reducible first | exact HB.out | apply below_alloc | apply pw_below_drewN | apply below_drew1 | refine below_set ?_ GE156.out) | exact HB.out)))); have n3_ := Aside0.mk (blk_below (g := gb156) (o := .cells #[.int .u16 ((rd_T32 l0 x31_2).f0), .slice A155_1 ((rd_T32 l0 x31_2).f1).length c155_1] 32 (0, 0)) (by (with_reducible repeat (first | refine blk_drewN ?_ _ | refine blk_drew ?_ | refine blk_alloc ?_ _)); exact BK156.out) hb); have n4_ := Aside0.mk (below_step (by repeat (first | (with_reducible first | exact HB.out | apply below_alloc | apply pw_below_drewN | apply below_drew1 | refine below_set ?_ GE156.out) | exact HB.out)) hb); clear HO_5; clear HO_6; clear BK156; clear HB; have HO_5 := n0_; have HO_6 := n1_; have HO163 := n2_; have BK156 := n3_; have HB := n4_; clear n0_ n1_ n2_ n3_ n4_; (try clear hb); (try clear hb2); (try clear hk); (try clear hi); (try clear ho0); have hcz44_0 : w43.cell? ⟨gb156, 0, none⟩ = some (.int .u16 ((rd_T32 l0 x31_2).f0)) := (blk_cell BK156.out 0).trans rfl; have hcz44_1 : w43.cell? ⟨gb156, 1, none⟩ = some (.slice A155_1 ((rd_T32 l0 x31_2).f1).length c155_1) := (blk_cell BK156.out 1).trans rfl; have hfz44_0 := blk_frozen BK156.out 0; have hfz44_1 := blk_frozen BK156.out 1; obtain ⟨Ao45, co45, eo45⟩ := Kd.R_slice HO163.out; subst eo45) | (go_at_call 11; (with_reducible refine (marlineref01_Equal.calls k4 _ _ t160 _ _ ((rd_T32 l0 x31_2).f1) true _ ?side1 ?side2 ?side3 ?side4 A39.out).mono ?_); (case side1 => repeat (first | exact (Kd.R_reads' HO163.out).2.2 | (with_reducible refine Kd.C_alloc ?_ _) | (with_reducible refine Kd.C_drewN ?_ _) | (with_reducible refine Kd.C_drew ?_))); (case side2 => exact (Kd.R_reads' HO163.out).2.1); (case side3 => repeat (first | exact (Kd.C_below HR155_1.out HB.out) | (with_reducible refine Kd.C_alloc ?_ _) | (with_reducible refine Kd.C_drewN ?_ _) | (with_reducible refine Kd.C_drew ?_))); (case side4 => exact HC155_1.out); rintro e w' ⟨rfl, ⟨nd, rfl⟩⟩) | (go_at_call 13; (with_reducible refine (marlinelaw21_To.calls k4 (fun k_ => ((some k_ ≠ (.slice Ao30 x6_4.length co30 : Value).ownBlock ∧ k_ ≠ gb156) ∧ some k_ ≠ (.slice Ao45 t160.length co45 : Value).ownBlock)) _ _ t148 t165 _ ?side1 A41.out).mono ?_); (case side1 => exact Kd.N_V (HO_5.out)); rintro e w46 ⟨v166, rfl, ho0, hb⟩; have n0_ := Aside0.mk (Kd.N_elder' (by (with_reducible repeat (first | apply Kd.N_alloc | apply Kd.N_drewN | apply Kd.N_drew)); exact HO_5.out) (Kd.N_base ho0) hb); have n1_ := Aside0.mk (Kd.R_below (by (with_reducible repeat (first | apply Kd.R_alloc | apply Kd.R_drewN | apply Kd.R_drew)); exact HO_6.out) hb); have n2_ := Aside0.mk (Kd.R_below (by (with_reducible repeat (first | apply Kd.R_alloc | apply Kd.R_drewN | apply Kd.R_drew)); exact HO163.out) hb); have n3_ := Aside0.mk (Kd.N_lower (Kd.N_mono (ok' := fun k_ => some k_ ≠ (.slice Ao30 x6_4.length co30 : Value).ownBlock ∧ some k_ ≠ (.slice Ao45 t160.length co45 : Value).ownBlock ∧ k_ ≠ gb156) ho0 (fun k_ hk_ => ⟨Or.elim hk_ (fun hs_ => hs_.1.1) (fun hn_ => (Kd.fresh' (Kd.R_lt (by (with_reducible repeat (first | apply Kd.R_alloc | apply Kd.R_drewN | apply Kd.R_drew)); exact HO_6.out)) k_ hn_)), Or.elim hk_ (fun hs_ => hs_.2) (fun hn_ => (Kd.fresh' (Kd.R_lt (by (with_reducible repeat (first | apply Kd.R_alloc | apply Kd.R_drewN | apply Kd.R_drew)); exact HO163.out)) k_ hn_)), Or.elim hk_ (fun hs_ => hs_.1.2) (fun hn_ => (Kd.freshB (g := gb156) (o := .cells #[.int .u16 ((rd_T32 l0 x31_2).f0), .slice A155_1 ((rd_T32 l0 x31_2).f1).length c155_1] 32 (0, 0)) (by (with_reducible repeat (first | refine blk_drewN ?_ _ | refine blk_drew ?_ | refine blk_alloc ?_ _)); exact BK156.out) k_ hn_))⟩)) (below_size (by repeat (first | (with_reducible first | exact HB.out | apply below_alloc | apply pw_below_drewN | apply below_drew1 | refine below_set ?_ GE156.out) | exact HB.out)))); have n4_ := Aside0.mk (blk_below (g := gb156) (o := .cells #[.int .u16 ((rd_T32 l0 x31_2).f0), .slice A155_1 ((rd_T32 l0 x31_2).f1).length c155_1] 32 (0, 0)) (by (with_reducible repeat (first | refine blk_drewN ?_ _ | refine blk_drew ?_ | refine blk_alloc ?_ _)); exact BK156.out) hb); have n5_ := Aside0.mk (below_step (by repeat (first | (with_reducible first | exact HB.out | apply below_alloc | apply pw_below_drewN | apply below_drew1 | refine below_set ?_ GE156.out) | exact HB.out)) hb); clear HO_5; clear HO_6; clear HO163; clear BK156; clear HB; have HO_5 := n0_; have HO_6 := n1_; have HO163 := n2_; have HO167 := n3_; have BK156 := n4_; have HB := n5_; clear n0_ n1_ n2_ n3_ n4_ n5_; (try clear hb); (try clear hb2); (try clear hk); (try clear hi); (try clear ho0); obtain ⟨Ao47, co47, eo47⟩ := Kd.N_slice HO167.out; subst eo47) | (go_at_call 12; (with_reducible refine (marlineref21_Same.calls k4 _ _ t165 _ _ l0 t168 _ ?side1 ?side2 ?side3 ?side4 A42.out).mono ?_); (case side1 => repeat (first | exact (Kd.N_reads' HO167.out).2.2 | (with_reducible refine Kd.C_alloc ?_ _) | (with_reducible refine Kd.C_drewN ?_ _) | (with_reducible refine Kd.C_drew ?_))); (case side2 => exact (Kd.N_reads' HO167.out).2.1); (case side3 => repeat (first | exact (Kd.C_below HR0.out HB.out) | (with_reducible refine Kd.C_alloc ?_ _) | (with_reducible refine Kd.C_drewN ?_ _) | (with_reducible refine Kd.C_drew ?_))); (case side4 => exact HC0.out); rintro e w' ⟨rfl, ⟨nd, rfl⟩⟩))
                                    go_ret
                                    exact ⟨by first | rfl | (simp [errW_none, errW_some] <;> rfl) | (simp [*, errW_none, errW_some] <;> rfl), by repeat (first | (with_reducible first | exact HB.out | apply below_alloc | apply pw_below_drewN | apply below_drew1 | refine below_set ?_ GE156.out) | exact HB.out)⟩
                                  · replace c40 := Bool.eq_false_iff.mpr c40
                                    subst c40
                                    have H1 : (none) = some r := by rw [if_neg (show ¬ (false = true) by decide)] at H; exact H
                                    clear H
                                    have H := H1
                                    clear H1
                                    exact absurd H (by simp)
                                · replace c38 := Bool.eq_false_iff.mpr c38
                                  subst c38
                                  have H1 : (none) = some r := by rw [if_neg (show ¬ (false = true) by decide)] at H; exact H
                                  clear H
                                  have H := H1
                                  clear H1
                                  exact absurd H (by simp)
                  · rw [if_neg c21] at H
                    have c21b0 : (((rd_T32 l0 x31_2).f0) == a1) = false := beq_eq_false_iff_ne.mpr c21
                    have c21b1 : (((rd_T32 l0 x31_2).f0) != a1) = true := bne_iff_ne.mpr c21
                    have H' := Aside0.mk H
                    clear H
                    have p155 : 0 ≤ (x31_2 : Int) := of_decide_eq_true (by first | (with_reducible assumption) | assumption)
                    have q155 : x31_2 < (l0.length : Int) := of_decide_eq_true (by first | (with_reducible assumption) | assumption)
                    (try clear hHeld)
                    obtain ⟨ad155, A155_1, c155_1, e155, hx155_0, hx155_1, hl155_1, hi155_1⟩ := at_T32 HR0.out x31_2 p155 q155
                    cases e155
                    replace hx155_0 := (HB.out.cell (World.block_lt_of_cell? w _ hx155_0)).trans hx155_0
                    replace hx155_1 := (HB.out.cell (World.block_lt_of_cell? w _ hx155_1)).trans hx155_1
                    have HR155_1 := Aside0.mk hi155_1
                    have HC155_1 := Aside0.mk hl155_1
                    clear hi155_1 hl155_1
                    replace p155 := eq_true p155
                    replace q155 := eq_true q155
                    go_wp2_with (first | ((with_reducible refine gate_dst (N := 9) rfl ?_); (try (refine gate_guard (by rfl) ?_; dsimp only)); refine box_event ?hg (N := 9) ?hd (cs := #[.int .u16 0, .slice none 0 0]) (t := 32) ?hr ?_; (case hd => rfl); (case hg => rfl); (case hr => first | (go_simp; done) | (go_simp; simp only [IntKind.wrap_u8, IntKind.wrap_u16, IntKind.wrap_u32, IntKind.wrap_u64]; done) | (go_simp; simp only [IntKind.wrap_u8, IntKind.wrap_u16, IntKind.wrap_u32, IntKind.wrap_u64, Int.tmod_eq_emod_of_nonneg (Int.natCast_nonneg _), Int.emod_emod]; done) | (go_simp; rfl)); intro gb156 hg w48 hbox hb; have n0_ := Aside0.mk (Kd.N_below (Kd.N_elderB (by (with_reducible repeat (first | apply Kd.N_alloc | apply Kd.N_drewN | apply Kd.N_drew)); exact HO_5.out) gb156 (Nat.le_of_eq hg.symm)) hb); have n1_ := Aside0.mk (Kd.R_below (by (with_reducible repeat (first | apply Kd.R_alloc | apply Kd.R_drewN | apply Kd.R_drew)); exact HO_6.out) hb); have n2_ := Aside0.mk (below_step (by repeat (first | (with_reducible first | exact HB.out | apply below_alloc | apply pw_below_drewN | apply below_drew1) | exact HB.out)) hb); have n3_ := Aside0.mk (hbox); have n4_ := Aside0.mk ((by rw [hg]; exact (below_size (by repeat (first | (with_reducible first | exact HB.out | apply below_alloc | apply pw_below_drewN | apply below_drew1) | exact HB.out))) : w.heap.size ≤ gb156)); have n5_ := Aside0.mk ((by rw [hg]; exact (below_size (by repeat (first | (with_reducible first | exact HB.out | apply below_alloc | apply pw_below_drewN | apply below_drew1) | exact HB.out))) : w.heap.size ≤ gb156)); clear HO_5; clear HO_6; clear HB; have HO_5 := n0_; have HO_6 := n1_; have HB := n2_; have BK156 := n3_; have GW156 := n4_; have GE156 := n5_; clear n0_ n1_ n2_ n3_ n4_ n5_; clear hb hbox hg; have hcz49_0 : w48.cell? ⟨gb156, 0, none⟩ = some (.int .u16 0) := (blk_cell BK156.out 0).trans rfl; have hcz49_1 : w48.cell? ⟨gb156, 1, none⟩ = some (.slice none 0 0) := (blk_cell BK156.out 1).trans rfl; have hfz49_0 := blk_frozen BK156.out 0; have hfz49_1 := blk_frozen BK156.out 1))
                    go_roundg k2
                    case measure => have := HJ2.out; have := HK2.out; omega
                    case rel => exact ⟨(x6_2), (wrap64 (x31_2 + 1)), (by first | rfl | (simp; done) | (simp [*]; done)), H', ⟨by have := HJ2.out; have := HK2.out; omega⟩, ⟨by (with_reducible repeat (first | apply Kd.N_alloc | apply Kd.N_drewN | apply Kd.N_drew)); exact Kd.N_mono (Kd.N_far (p := ⟨gb156, 1, none⟩) (Kd.N_far (p := ⟨gb156, 0, none⟩) (Kd.N_mono HO_5.out (fun k_ hk => (⟨hk, hk.2⟩ : _ ∧ k_ ≠ gb156))) (fun _ hk => hk.2) (.int .u16 ((rd_T32 l0 x31_2).f0))) (fun _ hk => hk.2) (.slice A155_1 ((rd_T32 l0 x31_2).f1).length c155_1)) (fun _ hk => hk.1.1)⟩, ⟨by (with_reducible repeat (first | apply Kd.R_alloc | apply Kd.R_drewN | apply Kd.R_drew)); exact Kd.R_mono (Kd.R_far (p := ⟨gb156, 1, none⟩) (Kd.R_far (p := ⟨gb156, 0, none⟩) (Kd.R_types HO_6.out BK156.out (by decide)) (fun _ hk => hk.2) (.int .u16 ((rd_T32 l0 x31_2).f0))) (fun _ hk => hk.2) (.slice A155_1 ((rd_T32 l0 x31_2).f1).length c155_1)) (fun _ hk => trivial)⟩, ⟨by repeat (first | (with_reducible first | exact HB.out | apply below_alloc | apply pw_below_drewN | apply below_drew1 | refine below_set ?_ GE156.out) | exact HB.out)⟩⟩
                · rw [if_neg c20] at H
                  exact absurd H (by simp)
              · rw [if_neg c19] at H
                exact absurd H (by simp)
            · rw [if_neg c18] at H
              have c18b0 : decide (x31_2 < (l0.length : Int)) = false := decide_eq_false c18
              (try simp only [hl6_4] at c18b0)
              clear c18
              by_cases c50 : t152 = true
              · subst c50
                have H1 : (none) = some r := by rw [if_pos rfl] at H; exact H
                clear H
                have H := H1
                clear H1
                exact absurd H (by simp)
              · replace c50 := Bool.eq_false_iff.mpr c50
                subst c50
                have H1 : (some ((x6_2.length : Int) == 0)) = some r := by rw [if_neg (show ¬ (false = true) by decide)] at H; exact H
                clear H
                have H := H1
                clear H1
                obtain rfl := Option.some.inj H
                obtain ⟨Ao51, co51, eo51⟩ := Kd.R_slice HO_6.out
                subst eo51
                go_wp2
                go_ret
                exact ⟨by first | rfl | (simp [errW_none, errW_some] <;> rfl) | (simp [*, errW_none, errW_some] <;> rfl), by repeat (first | (with_reducible first | exact HB.out | apply below_alloc | apply pw_below_drewN | apply below_drew1) | exact HB.out)⟩

/-- THE ONE PURE STATEMENT of marlinelaw21_TagsFinds: yours. -/
def marlinelaw21_TagsFinds.Pure : Prop := ∀ (l0 : List (S32)) (a1 : Int), ((l0.length ≤ 9223372036854775807 ∧ l0.length * 32 ≤ 140737488351232) ∧ ∀ y0_ ∈ l0, ((Lit.int .u16 y0_.f0).wf = true ∧ ((y0_.f1.length ≤ 9223372036854775807 ∧ y0_.f1.length * 1 ≤ 140737488351232) ∧ ∀ y1_ ∈ y0_.f1, (Lit.int .u8 y1_).wf = true))) → (Lit.int .u16 a1).wf = true → ∃ k, marlinelaw21_TagsFinds.f k l0 a1 = some true
theorem marlinelaw21_TagsFinds.walk (P : marlinelaw21_TagsFinds.Pure) (A0 : Option Addr) (c0 : Nat) (l0 : List (S32)) (a1 : Int) (w : World) (hGL : GL w) (hr0 : Kd.C k32 w A0 l0.length l0) (hc0 : l0.length ≤ c0) (hw0 : ((l0.length ≤ 9223372036854775807 ∧ l0.length * 32 ≤ 140737488351232) ∧ ∀ y0_ ∈ l0, ((Lit.int .u16 y0_.f0).wf = true ∧ ((y0_.f1.length ≤ 9223372036854775807 ∧ y0_.f1.length * 1 ≤ 140737488351232) ∧ ∀ y1_ ∈ y0_.f1, (Lit.int .u8 y1_).wf = true)))) (hw1 : (Lit.int .u16 a1).wf = true) :
    Calls Tryd.prog 3 #[.slice A0 l0.length c0, .int .u16 a1] w fun e w' => e = .returned (.bool true) ∧ Below w.heap.size w w' := by
  obtain ⟨k, h⟩ := P l0 a1 hw0 hw1
  refine (marlinelaw21_TagsFinds.calls k _ _ l0 a1 true w hr0 hc0 h).mono ?_
  rintro e w' ⟨rfl, hd⟩
  exact ⟨rfl, hd⟩

end Go.Proofs.YthkgaciibfjejaaDoor.Print
