/- A text that a program of this claim (wip/x) laid out of the translation: what Go functions come to, and that they come to it. Lean checks it. -/
import Derived.Test.YthkgaciibfjejaaDoorPrint0
import Derived.Test.YthkgaciibfjejaaDoorPrintMarlinelaw21Few
import Derived.Test.YthkgaciibfjejaaDoorPrintMarlinelaw21Of
import Derived.Test.YthkgaciibfjejaaDoorPrintMarlinelaw21Speaks
import Derived.Test.YthkgaciibfjejaaDoorPrintMarlinelaw21To
import Derived.Test.YthkgaciibfjejaaDoorPrintMarlineref01Equal
import Derived.Test.YthkgaciibfjejaaDoorPrintMarlineref21Get
import Derived.Test.YthkgaciibfjejaaDoorPrintMarlineref21Name
import Derived.Test.YthkgaciibfjejaaDoorPrintMarlineref21Put
import Derived.Test.YthkgaciibfjejaaDoorPrintMarlineref21Same
import Derived.Test.YthkgaciibfjejaaDoorPrintTagsGet
import Derived.Test.YthkgaciibfjejaaDoorPrintTagsName
import Derived.Test.YthkgaciibfjejaaDoorPrintTagsPut
namespace Go.Proofs.YthkgaciibfjejaaDoor.Print
open Go.RowKit Go.Proofs.YthkgaciibfjejaaDoorW.PrintWords Go.Proofs.YthkgaciibfjejaaDoorW.PrintLast Go.Proofs.YthkgaciibfjejaaDoorW.PrintMore
attribute [local go_sem] max2_int min2_int max_two min_two max_three min_three max_four min_four   -- for this text's walks alone
set_option linter.unusedVariables false
set_option linter.unusedSimpArgs false

/-! ### marlinelaw21_TagsTells: function 4 -/
def marlinelaw21_TagsTells.j0 : Nat → List (S32) → List Int → Int → Bool → Option (Bool)
  | 0, _, _, _, _ => none
  | k + 1, x0, x1, x2, x28 => if x28 = true then ((marlinelaw21_speaks.f k).bind fun t231 => (some t231)) else ((marlinelaw21_Of.f k x0).bind fun t232 => ((tags_Put.f k t232).bind fun bt235 => ((marlineref21_Put.f k x0).bind fun bt239 => ((tags_Get.f k x1).bind fun bt243 => ((marlineref21_Get.f k x1).bind fun bt248 => (if bt235.2 = bt239.2 then ((marlineref01_Equal.f k bt235.1 bt239.1).bind fun t253 => (if t253 = true then (if bt243.2.2 = bt248.2.2 then (if bt243.2.1 = bt248.2.1 then ((marlinelaw21_To.f k bt243.1).bind fun t254 => ((marlineref21_Same.f k t254 bt248.1).bind fun t257 => (if t257 = true then ((tags_Name.f x2).bind fun t258 => ((marlineref21_Name.f k (wrap64 (x2))).bind fun t259 => (some (t258.toList == t259.toList)))) else (none)))) else (none)) else (none)) else (none))) else (none)))))))
def marlinelaw21_TagsTells.f (k : Nat) (l0 : List (S32)) (l1 : List Int) (a2 : Int) : Option (Bool) := (marlinelaw21_speaks.f k).bind fun t229 => (if t229 = true then ((marlinelaw21_Few.f k l0).bind fun t230 => (if t230 = true then (marlinelaw21_TagsTells.j0 k l0 l1 a2 (decide ((l1.length : Int) > 1000))) else (marlinelaw21_TagsTells.j0 k l0 l1 a2 true))) else (marlinelaw21_TagsTells.j0 k l0 l1 a2 true))
theorem marlinelaw21_TagsTells.mono_l : ∀ k, (∀ y0 y1 y2 y3, LeO (marlinelaw21_TagsTells.j0 k y0 y1 y2 y3) (marlinelaw21_TagsTells.j0 (k + 1) y0 y1 y2 y3))
  | 0 => fun _ _ _ _ r h => by simp [marlinelaw21_TagsTells.j0] at h
  | k + 1 => by
    have ih0 := marlinelaw21_TagsTells.mono_l k
    · intro y0 y1 y2 y3
      unfold marlinelaw21_TagsTells.j0
      repeat' first
      | (with_reducible exact ih0 _ _ _ _)
      | (with_reducible exact marlinelaw21_Few.mono _ _)
      | (with_reducible exact marlinelaw21_Of.mono _ _)
      | (with_reducible exact marlinelaw21_To.mono _ _)
      | (with_reducible exact marlinelaw21_speaks.mono _)
      | (with_reducible exact marlineref01_Equal.mono _ _ _)
      | (with_reducible exact marlineref21_Get.mono _ _)
      | (with_reducible exact marlineref21_Name.mono _ _)
      | (with_reducible exact marlineref21_Put.mono _ _)
      | (with_reducible exact marlineref21_Same.mono _ _ _)
      | (with_reducible exact tags_Get.mono _ _)
      | (with_reducible exact tags_Put.mono _ _)
      | (with_reducible exact LeO.refl _)
      | (with_reducible exact LeO.none _)
      | (with_reducible refine LeO.ite ?_ ?_)
      | (with_reducible refine LeO.bind ?_ (fun _ => ?_))
      | exact ih0 _ _ _ _
      | exact marlinelaw21_Few.mono _ _
      | exact marlinelaw21_Of.mono _ _
      | exact marlinelaw21_To.mono _ _
      | exact marlinelaw21_speaks.mono _
      | exact marlineref01_Equal.mono _ _ _
      | exact marlineref21_Get.mono _ _
      | exact marlineref21_Name.mono _ _
      | exact marlineref21_Put.mono _ _
      | exact marlineref21_Same.mono _ _ _
      | exact tags_Get.mono _ _
      | exact tags_Put.mono _ _
      | exact LeO.none _
      | refine LeO.ite ?_ ?_
      | refine LeO.bind ?_ (fun _ => ?_)
theorem marlinelaw21_TagsTells.mono : ∀ a0 a1 a2 k, LeO (marlinelaw21_TagsTells.f k a0 a1 a2) (marlinelaw21_TagsTells.f (k + 1) a0 a1 a2) := by
  intro a0 a1 a2 k
  have ih0 := marlinelaw21_TagsTells.mono_l k
  unfold marlinelaw21_TagsTells.f
  repeat' first
      | (with_reducible exact ih0 _ _ _ _)
      | (with_reducible exact marlinelaw21_Few.mono _ _)
      | (with_reducible exact marlinelaw21_Of.mono _ _)
      | (with_reducible exact marlinelaw21_To.mono _ _)
      | (with_reducible exact marlinelaw21_speaks.mono _)
      | (with_reducible exact marlineref01_Equal.mono _ _ _)
      | (with_reducible exact marlineref21_Get.mono _ _)
      | (with_reducible exact marlineref21_Name.mono _ _)
      | (with_reducible exact marlineref21_Put.mono _ _)
      | (with_reducible exact marlineref21_Same.mono _ _ _)
      | (with_reducible exact tags_Get.mono _ _)
      | (with_reducible exact tags_Put.mono _ _)
      | (with_reducible exact LeO.refl _)
      | (with_reducible exact LeO.none _)
      | (with_reducible refine LeO.ite ?_ ?_)
      | (with_reducible refine LeO.bind ?_ (fun _ => ?_))
      | exact ih0 _ _ _ _
      | exact marlinelaw21_Few.mono _ _
      | exact marlinelaw21_Of.mono _ _
      | exact marlinelaw21_To.mono _ _
      | exact marlinelaw21_speaks.mono _
      | exact marlineref01_Equal.mono _ _ _
      | exact marlineref21_Get.mono _ _
      | exact marlineref21_Name.mono _ _
      | exact marlineref21_Put.mono _ _
      | exact marlineref21_Same.mono _ _ _
      | exact tags_Get.mono _ _
      | exact tags_Put.mono _ _
      | exact LeO.none _
      | refine LeO.ite ?_ ?_
      | refine LeO.bind ?_ (fun _ => ?_)
set_option maxHeartbeats 8000000 in
set_option maxRecDepth 100000 in
theorem marlinelaw21_TagsTells.calls (k : Nat) (A0 : Option Addr) (c0 : Nat) (l0 : List (S32)) (A1 : Option Addr) (c1 : Nat) (l1 : List Int) (a2 : Int) (r : Bool) (w : World) (hr0 : Kd.C k32 w A0 l0.length l0) (hc0 : l0.length ≤ c0) (hr1 : Kd.C (Kd.int .u8) w A1 l1.length l1) (hc1 : l1.length ≤ c1) (h : marlinelaw21_TagsTells.f k l0 l1 a2 = some r) (hGL : GL w := by first | exact hGL | exact hGL.below HB.out | exact hGL.below (by repeat (first | (with_reducible first | exact HB.out | apply below_alloc | apply pw_below_drewN | apply below_drew1) | exact HB.out))) :
    Calls Tryd.prog 4 #[.slice A0 l0.length c0, .slice A1 l1.length c1, .int .u16 a2] w fun e w' => e = .returned (.bool r) ∧ Below w.heap.size w w' := by
  have HR0 := Aside0.mk hr0
  have HC0 := Aside0.mk hc0
  clear hr0 hc0
  have HR1 := Aside0.mk hr1
  have HC1 := Aside0.mk hc1
  clear hr1 hc1
  have HB := Aside0.mk (Below.refl w.heap.size w)
  have H : ((marlinelaw21_speaks.f k).bind fun t229 => (if t229 = true then ((marlinelaw21_Few.f k l0).bind fun t230 => (if t230 = true then (marlinelaw21_TagsTells.j0 k l0 l1 a2 (decide ((l1.length : Int) > 1000))) else (marlinelaw21_TagsTells.j0 k l0 l1 a2 true))) else (marlinelaw21_TagsTells.j0 k l0 l1 a2 true))) = some r := h
  clear h
  have HC4 := Aside0.mk H
  clear H
  go_enter Tryd.func4, Tryd.ntmps4
  go_upto_region 1 with (fail)
  go_cut [28] (fun v28 wc => ∃ (kq : Nat) (x28_3 : Bool), v28 = .bool x28_3 ∧ Aside0 (marlinelaw21_TagsTells.j0 kq l0 l1 a2 x28_3 = some r) ∧ Aside0 (kq ≤ k) ∧ Aside0 (Below w.heap.size w wc))
  case first =>
    have H := HC4.out
    clear HC4
    replace H := Option.bind_eq_some_iff.mp H
    obtain ⟨t229, A50, H⟩ := H
    replace H : (if t229 = true then ((marlinelaw21_Few.f k l0).bind fun t230 => (if t230 = true then (marlinelaw21_TagsTells.j0 k l0 l1 a2 (decide ((l1.length : Int) > 1000))) else (marlinelaw21_TagsTells.j0 k l0 l1 a2 true))) else (marlinelaw21_TagsTells.j0 k l0 l1 a2 true)) = some r := H
    have A5 := Aside0.mk A50
    clear A50
    by_cases c6 : t229 = true
    · subst c6
      have H1 : ((marlinelaw21_Few.f k l0).bind fun t230 => (if t230 = true then (marlinelaw21_TagsTells.j0 k l0 l1 a2 (decide ((l1.length : Int) > 1000))) else (marlinelaw21_TagsTells.j0 k l0 l1 a2 true))) = some r := by rw [if_pos rfl] at H; exact H
      clear H
      have H := H1
      clear H1
      replace H := Option.bind_eq_some_iff.mp H
      obtain ⟨t230, A70, H⟩ := H
      replace H : (if t230 = true then (marlinelaw21_TagsTells.j0 k l0 l1 a2 (decide ((l1.length : Int) > 1000))) else (marlinelaw21_TagsTells.j0 k l0 l1 a2 true)) = some r := H
      have A7 := Aside0.mk A70
      clear A70
      by_cases c8 : t230 = true
      · subst c8
        have H1 : (marlinelaw21_TagsTells.j0 k l0 l1 a2 (decide ((l1.length : Int) > 1000))) = some r := by rw [if_pos rfl] at H; exact H
        clear H
        have H := H1
        clear H1
        have H' := Aside0.mk H
        clear H
        go_wp2_with (first | ((with_reducible refine gate_callee (f := 7) rfl ?_); refine goesL_ (some 17) rfl rfl Tryd.func7 (by kernel_rfl) rfl #[] rfl (by (try simp only [List.map_toArray, List.map_cons, List.map_nil]); first | done | rfl | (simp only [List.length_drop, List.length_take]; rfl)) ?_; (with_reducible refine (marlinelaw21_speaks.calls k  true _ A5.out).mono ?_); rintro e w9 ⟨rfl, hb⟩; refine ⟨_, rfl, ?_⟩; have n0_ := Aside0.mk (below_step (by repeat (first | (with_reducible first | exact HB.out | apply below_alloc | apply pw_below_drewN | apply below_drew1) | exact HB.out)) hb); clear HB; have HB := n0_; clear n0_; (try clear hb); (try clear hb2); (try clear hk); (try clear hi)) | (go_at_call 8; (with_reducible refine (marlinelaw21_Few.calls k _ _ l0 true _ ?side1 ?side2 A7.out).mono ?_); (case side1 => repeat (first | exact (Kd.C_below HR0.out HB.out) | (with_reducible refine Kd.C_alloc ?_ _) | (with_reducible refine Kd.C_drewN ?_ _) | (with_reducible refine Kd.C_drew ?_))); (case side2 => exact HC0.out); rintro e w10 ⟨rfl, hb⟩; have n0_ := Aside0.mk (below_step (by repeat (first | (with_reducible first | exact HB.out | apply below_alloc | apply pw_below_drewN | apply below_drew1) | exact HB.out)) hb); clear HB; have HB := n0_; clear n0_; (try clear hb); (try clear hb2); (try clear hk); (try clear hi)))
        go_meet
        case rel => exact ⟨_, (decide ((l1.length : Int) > 1000)), (by first | rfl | (simp; done) | (simp [*]; done)), H', ⟨by first | omega | exact Nat.le_refl _⟩, ⟨by repeat (first | (with_reducible first | exact HB.out | apply below_alloc | apply pw_below_drewN | apply below_drew1) | exact HB.out)⟩⟩
      · replace c8 := Bool.eq_false_iff.mpr c8
        subst c8
        have H1 : (marlinelaw21_TagsTells.j0 k l0 l1 a2 true) = some r := by rw [if_neg (show ¬ (false = true) by decide)] at H; exact H
        clear H
        have H := H1
        clear H1
        have H' := Aside0.mk H
        clear H
        go_wp2_with (first | ((with_reducible refine gate_callee (f := 7) rfl ?_); refine goesL_ (some 17) rfl rfl Tryd.func7 (by kernel_rfl) rfl #[] rfl (by (try simp only [List.map_toArray, List.map_cons, List.map_nil]); first | done | rfl | (simp only [List.length_drop, List.length_take]; rfl)) ?_; (with_reducible refine (marlinelaw21_speaks.calls k  true _ A5.out).mono ?_); rintro e w11 ⟨rfl, hb⟩; refine ⟨_, rfl, ?_⟩; have n0_ := Aside0.mk (below_step (by repeat (first | (with_reducible first | exact HB.out | apply below_alloc | apply pw_below_drewN | apply below_drew1) | exact HB.out)) hb); clear HB; have HB := n0_; clear n0_; (try clear hb); (try clear hb2); (try clear hk); (try clear hi)) | (go_at_call 8; (with_reducible refine (marlinelaw21_Few.calls k _ _ l0 false _ ?side1 ?side2 A7.out).mono ?_); (case side1 => repeat (first | exact (Kd.C_below HR0.out HB.out) | (with_reducible refine Kd.C_alloc ?_ _) | (with_reducible refine Kd.C_drewN ?_ _) | (with_reducible refine Kd.C_drew ?_))); (case side2 => exact HC0.out); rintro e w12 ⟨rfl, hb⟩; have n0_ := Aside0.mk (below_step (by repeat (first | (with_reducible first | exact HB.out | apply below_alloc | apply pw_below_drewN | apply below_drew1) | exact HB.out)) hb); clear HB; have HB := n0_; clear n0_; (try clear hb); (try clear hb2); (try clear hk); (try clear hi)))
        go_meet
        case rel => exact ⟨_, (true), (by first | rfl | (simp; done) | (simp [*]; done)), H', ⟨by first | omega | exact Nat.le_refl _⟩, ⟨by repeat (first | (with_reducible first | exact HB.out | apply below_alloc | apply pw_below_drewN | apply below_drew1) | exact HB.out)⟩⟩
    · replace c6 := Bool.eq_false_iff.mpr c6
      subst c6
      have H1 : (marlinelaw21_TagsTells.j0 k l0 l1 a2 true) = some r := by rw [if_neg (show ¬ (false = true) by decide)] at H; exact H
      clear H
      have H := H1
      clear H1
      have H' := Aside0.mk H
      clear H
      go_wp2_with (first | ((with_reducible refine gate_callee (f := 7) rfl ?_); refine goesL_ (some 17) rfl rfl Tryd.func7 (by kernel_rfl) rfl #[] rfl (by (try simp only [List.map_toArray, List.map_cons, List.map_nil]); first | done | rfl | (simp only [List.length_drop, List.length_take]; rfl)) ?_; (with_reducible refine (marlinelaw21_speaks.calls k  false _ A5.out).mono ?_); rintro e w13 ⟨rfl, hb⟩; refine ⟨_, rfl, ?_⟩; have n0_ := Aside0.mk (below_step (by repeat (first | (with_reducible first | exact HB.out | apply below_alloc | apply pw_below_drewN | apply below_drew1) | exact HB.out)) hb); clear HB; have HB := n0_; clear n0_; (try clear hb); (try clear hb2); (try clear hk); (try clear hi)))
      go_meet
      case rel => exact ⟨_, (true), (by first | rfl | (simp; done) | (simp [*]; done)), H', ⟨by first | omega | exact Nat.le_refl _⟩, ⟨by repeat (first | (with_reducible first | exact HB.out | apply below_alloc | apply pw_below_drewN | apply below_drew1) | exact HB.out)⟩⟩
  case rest =>
    clear HC4
    try clear c1
    try clear p2
    try clear c4
    try clear c6
    try clear c7
    try clear c8
    obtain ⟨kq, x28_3, rfl, HA, HJ3, HB⟩ := hcut
    cases kq with
    | zero => exact absurd HA.out (by simp [marlinelaw21_TagsTells.j0])
    | succ kj3 =>
      have H := HA.out
      clear HA
      simp only [marlinelaw21_TagsTells.j0] at H
      by_cases c14 : x28_3 = true
      · subst c14
        have H1 : ((marlinelaw21_speaks.f kj3).bind fun t231 => (some t231)) = some r := by rw [if_pos rfl] at H; exact H
        clear H
        have H := H1
        clear H1
        replace H := Option.bind_eq_some_iff.mp H
        obtain ⟨t231, A150, H⟩ := H
        replace H : (some t231) = some r := H
        have A15 := Aside0.mk A150
        clear A150
        obtain rfl := Option.some.inj H
        go_wp2_with (first | ((with_reducible refine gate_callee (f := 7) rfl ?_); refine goesL_ (some 29) rfl rfl Tryd.func7 (by kernel_rfl) rfl #[] rfl (by (try simp only [List.map_toArray, List.map_cons, List.map_nil]); first | done | rfl | (simp only [List.length_drop, List.length_take]; rfl)) ?_; (with_reducible refine (marlinelaw21_speaks.calls kj3  t231 _ A15.out).mono ?_); rintro e w16 ⟨rfl, hb⟩; refine ⟨_, rfl, ?_⟩; have n0_ := Aside0.mk (below_step (by repeat (first | (with_reducible first | exact HB.out | apply below_alloc | apply pw_below_drewN | apply below_drew1) | exact HB.out)) hb); clear HB; have HB := n0_; clear n0_; (try clear hb); (try clear hb2); (try clear hk); (try clear hi)))
        go_ret
        exact ⟨by first | rfl | (simp [errW_none, errW_some] <;> rfl) | (simp [*, errW_none, errW_some] <;> rfl), by repeat (first | (with_reducible first | exact HB.out | apply below_alloc | apply pw_below_drewN | apply below_drew1) | exact HB.out)⟩
      · replace c14 := Bool.eq_false_iff.mpr c14
        subst c14
        have H1 : ((marlinelaw21_Of.f kj3 l0).bind fun t232 => ((tags_Put.f kj3 t232).bind fun bt235 => ((marlineref21_Put.f kj3 l0).bind fun bt239 => ((tags_Get.f kj3 l1).bind fun bt243 => ((marlineref21_Get.f kj3 l1).bind fun bt248 => (if bt235.2 = bt239.2 then ((marlineref01_Equal.f kj3 bt235.1 bt239.1).bind fun t253 => (if t253 = true then (if bt243.2.2 = bt248.2.2 then (if bt243.2.1 = bt248.2.1 then ((marlinelaw21_To.f kj3 bt243.1).bind fun t254 => ((marlineref21_Same.f kj3 t254 bt248.1).bind fun t257 => (if t257 = true then ((tags_Name.f a2).bind fun t258 => ((marlineref21_Name.f kj3 (wrap64 (a2))).bind fun t259 => (some (t258.toList == t259.toList)))) else (none)))) else (none)) else (none)) else (none))) else (none))))))) = some r := by rw [if_neg (show ¬ (false = true) by decide)] at H; exact H
        clear H
        have H := H1
        clear H1
        replace H := Option.bind_eq_some_iff.mp H
        obtain ⟨t232, A170, H⟩ := H
        replace H : ((tags_Put.f kj3 t232).bind fun bt235 => ((marlineref21_Put.f kj3 l0).bind fun bt239 => ((tags_Get.f kj3 l1).bind fun bt243 => ((marlineref21_Get.f kj3 l1).bind fun bt248 => (if bt235.2 = bt239.2 then ((marlineref01_Equal.f kj3 bt235.1 bt239.1).bind fun t253 => (if t253 = true then (if bt243.2.2 = bt248.2.2 then (if bt243.2.1 = bt248.2.1 then ((marlinelaw21_To.f kj3 bt243.1).bind fun t254 => ((marlineref21_Same.f kj3 t254 bt248.1).bind fun t257 => (if t257 = true then ((tags_Name.f a2).bind fun t258 => ((marlineref21_Name.f kj3 (wrap64 (a2))).bind fun t259 => (some (t258.toList == t259.toList)))) else (none)))) else (none)) else (none)) else (none))) else (none)))))) = some r := H
        have A17 := Aside0.mk A170
        clear A170
        replace H := Option.bind_eq_some_iff.mp H
        obtain ⟨⟨t235, t236⟩, A180, H⟩ := H
        replace H : ((marlineref21_Put.f kj3 l0).bind fun bt239 => ((tags_Get.f kj3 l1).bind fun bt243 => ((marlineref21_Get.f kj3 l1).bind fun bt248 => (if t236 = bt239.2 then ((marlineref01_Equal.f kj3 t235 bt239.1).bind fun t253 => (if t253 = true then (if bt243.2.2 = bt248.2.2 then (if bt243.2.1 = bt248.2.1 then ((marlinelaw21_To.f kj3 bt243.1).bind fun t254 => ((marlineref21_Same.f kj3 t254 bt248.1).bind fun t257 => (if t257 = true then ((tags_Name.f a2).bind fun t258 => ((marlineref21_Name.f kj3 (wrap64 (a2))).bind fun t259 => (some (t258.toList == t259.toList)))) else (none)))) else (none)) else (none)) else (none))) else (none))))) = some r := H
        have A18 := Aside0.mk A180
        clear A180
        replace H := Option.bind_eq_some_iff.mp H
        obtain ⟨⟨t239, t240⟩, A190, H⟩ := H
        replace H : ((tags_Get.f kj3 l1).bind fun bt243 => ((marlineref21_Get.f kj3 l1).bind fun bt248 => (if t236 = t240 then ((marlineref01_Equal.f kj3 t235 t239).bind fun t253 => (if t253 = true then (if bt243.2.2 = bt248.2.2 then (if bt243.2.1 = bt248.2.1 then ((marlinelaw21_To.f kj3 bt243.1).bind fun t254 => ((marlineref21_Same.f kj3 t254 bt248.1).bind fun t257 => (if t257 = true then ((tags_Name.f a2).bind fun t258 => ((marlineref21_Name.f kj3 (wrap64 (a2))).bind fun t259 => (some (t258.toList == t259.toList)))) else (none)))) else (none)) else (none)) else (none))) else (none)))) = some r := H
        have A19 := Aside0.mk A190
        clear A190
        replace H := Option.bind_eq_some_iff.mp H
        obtain ⟨⟨t243, t244, t245⟩, A200, H⟩ := H
        replace H : ((marlineref21_Get.f kj3 l1).bind fun bt248 => (if t236 = t240 then ((marlineref01_Equal.f kj3 t235 t239).bind fun t253 => (if t253 = true then (if t245 = bt248.2.2 then (if t244 = bt248.2.1 then ((marlinelaw21_To.f kj3 t243).bind fun t254 => ((marlineref21_Same.f kj3 t254 bt248.1).bind fun t257 => (if t257 = true then ((tags_Name.f a2).bind fun t258 => ((marlineref21_Name.f kj3 (wrap64 (a2))).bind fun t259 => (some (t258.toList == t259.toList)))) else (none)))) else (none)) else (none)) else (none))) else (none))) = some r := H
        have A20 := Aside0.mk A200
        clear A200
        replace H := Option.bind_eq_some_iff.mp H
        obtain ⟨⟨t248, t251, t252⟩, A210, H⟩ := H
        replace H : (if t236 = t240 then ((marlineref01_Equal.f kj3 t235 t239).bind fun t253 => (if t253 = true then (if t245 = t252 then (if t244 = t251 then ((marlinelaw21_To.f kj3 t243).bind fun t254 => ((marlineref21_Same.f kj3 t254 t248).bind fun t257 => (if t257 = true then ((tags_Name.f a2).bind fun t258 => ((marlineref21_Name.f kj3 (wrap64 (a2))).bind fun t259 => (some (t258.toList == t259.toList)))) else (none)))) else (none)) else (none)) else (none))) else (none)) = some r := H
        have A21 := Aside0.mk A210
        clear A210
        by_cases c22 : t236 = t240
        · rw [if_pos c22] at H
          have c22b0 : (t236 == t240) = true := beq_iff_eq.mpr c22
          have c22b1 : (t236 != t240) = false := bne_eq_false_iff_eq.mpr c22
          clear c22
          replace H := Option.bind_eq_some_iff.mp H
          obtain ⟨t253, A230, H⟩ := H
          replace H : (if t253 = true then (if t245 = t252 then (if t244 = t251 then ((marlinelaw21_To.f kj3 t243).bind fun t254 => ((marlineref21_Same.f kj3 t254 t248).bind fun t257 => (if t257 = true then ((tags_Name.f a2).bind fun t258 => ((marlineref21_Name.f kj3 (wrap64 (a2))).bind fun t259 => (some (t258.toList == t259.toList)))) else (none)))) else (none)) else (none)) else (none)) = some r := H
          have A23 := Aside0.mk A230
          clear A230
          by_cases c24 : t253 = true
          · subst c24
            have H1 : (if t245 = t252 then (if t244 = t251 then ((marlinelaw21_To.f kj3 t243).bind fun t254 => ((marlineref21_Same.f kj3 t254 t248).bind fun t257 => (if t257 = true then ((tags_Name.f a2).bind fun t258 => ((marlineref21_Name.f kj3 (wrap64 (a2))).bind fun t259 => (some (t258.toList == t259.toList)))) else (none)))) else (none)) else (none)) = some r := by rw [if_pos rfl] at H; exact H
            clear H
            have H := H1
            clear H1
            by_cases c25 : t245 = t252
            · rw [if_pos c25] at H
              have c25b0 : (t245 == t252) = true := beq_iff_eq.mpr c25
              have c25b1 : (t245 != t252) = false := bne_eq_false_iff_eq.mpr c25
              clear c25
              by_cases c26 : t244 = t251
              · rw [if_pos c26] at H
                have c26b0 : (t244 == t251) = true := beq_iff_eq.mpr c26
                have c26b1 : (t244 != t251) = false := bne_eq_false_iff_eq.mpr c26
                clear c26
                replace H := Option.bind_eq_some_iff.mp H
                obtain ⟨t254, A270, H⟩ := H
                replace H : ((marlineref21_Same.f kj3 t254 t248).bind fun t257 => (if t257 = true then ((tags_Name.f a2).bind fun t258 => ((marlineref21_Name.f kj3 (wrap64 (a2))).bind fun t259 => (some (t258.toList == t259.toList)))) else (none))) = some r := H
                have A27 := Aside0.mk A270
                clear A270
                replace H := Option.bind_eq_some_iff.mp H
                obtain ⟨t257, A280, H⟩ := H
                replace H : (if t257 = true then ((tags_Name.f a2).bind fun t258 => ((marlineref21_Name.f kj3 (wrap64 (a2))).bind fun t259 => (some (t258.toList == t259.toList)))) else (none)) = some r := H
                have A28 := Aside0.mk A280
                clear A280
                by_cases c29 : t257 = true
                · subst c29
                  have H1 : ((tags_Name.f a2).bind fun t258 => ((marlineref21_Name.f kj3 (wrap64 (a2))).bind fun t259 => (some (t258.toList == t259.toList)))) = some r := by rw [if_pos rfl] at H; exact H
                  clear H
                  have H := H1
                  clear H1
                  replace H := Option.bind_eq_some_iff.mp H
                  obtain ⟨t258, A300, H⟩ := H
                  replace H : ((marlineref21_Name.f kj3 (wrap64 (a2))).bind fun t259 => (some (t258.toList == t259.toList))) = some r := H
                  have A30 := Aside0.mk A300
                  clear A300
                  replace H := Option.bind_eq_some_iff.mp H
                  obtain ⟨t259, A310, H⟩ := H
                  replace H : (some (t258.toList == t259.toList)) = some r := H
                  have A31 := Aside0.mk A310
                  clear A310
                  obtain rfl := Option.some.inj H
                  go_wp2_with (first | ((with_reducible refine gate_callee (f := 9) rfl ?_); refine goesL_ (some 32) rfl rfl Tryd.func9 (by kernel_rfl) rfl #[.slice A0 l0.length c0] rfl (by (try simp only [List.map_toArray, List.map_cons, List.map_nil]); first | done | rfl | (simp only [List.length_drop, List.length_take]; rfl)) ?_; (with_reducible refine (marlinelaw21_Of.calls kj3 (fun k_ => k_ < w.heap.size) _ _ l0 t232 _ ?side1 A17.out).mono ?_); (case side1 => exact Kd.V_mk HC0.out (Kd.F_below (Kd.C_F k32_heap HR0.out) (by repeat (first | (with_reducible first | exact HB.out | apply below_alloc | apply pw_below_drewN | apply below_drew1) | exact HB.out)))); rintro e w32 ⟨v233, rfl, ho0, hb⟩; refine ⟨_, rfl, ?_⟩; have n0_ := Aside0.mk (Kd.N_lower (Kd.N_mono (ok' := fun k_ => True) ho0 (fun k_ hk_ => trivial)) (below_size (by repeat (first | (with_reducible first | exact HB.out | apply below_alloc | apply pw_below_drewN | apply below_drew1) | exact HB.out)))); have n1_ := Aside0.mk (below_step (by repeat (first | (with_reducible first | exact HB.out | apply below_alloc | apply pw_below_drewN | apply below_drew1) | exact HB.out)) hb); clear HB; have HO234 := n0_; have HB := n1_; clear n0_ n1_; (try clear hb); (try clear hb2); (try clear hk); (try clear hi); (try clear ho0); obtain ⟨Ao33, co33, eo33⟩ := Kd.N_slice HO234.out; subst eo33) | ((with_reducible refine gate_callee (f := 14) rfl ?_); refine goesL_ (some 33) rfl rfl Tryd.func14 (by kernel_rfl) rfl #[.slice Ao33 t232.length co33] rfl (by (try simp only [List.map_toArray, List.map_cons, List.map_nil]); first | done | rfl | (simp only [List.length_drop, List.length_take]; rfl)) ?_; (with_reducible refine (tags_Put.calls kj3 _ _ t232 t235 t236 _ ?side1 ?side2 A18.out).mono ?_); (case side1 => repeat (first | exact (Kd.N_reads' HO234.out).2.2 | (with_reducible refine Kd.C_alloc ?_ _) | (with_reducible refine Kd.C_drewN ?_ _) | (with_reducible refine Kd.C_drew ?_))); (case side2 => exact (Kd.N_reads' HO234.out).2.1); rintro e w34 ⟨v237, rfl, ho0, hb⟩; refine ⟨_, rfl, ?_⟩; have n0_ := Aside0.mk (Kd.N_below (by (with_reducible repeat (first | apply Kd.N_alloc | apply Kd.N_drewN | apply Kd.N_drew)); exact HO234.out) hb); have n1_ := Aside0.mk (Kd.R_lower ho0 (below_size (by repeat (first | (with_reducible first | exact HB.out | apply below_alloc | apply pw_below_drewN | apply below_drew1) | exact HB.out)))); have n2_ := Aside0.mk (below_step (by repeat (first | (with_reducible first | exact HB.out | apply below_alloc | apply pw_below_drewN | apply below_drew1) | exact HB.out)) hb); clear HO234; clear HB; have HO234 := n0_; have HO238 := n1_; have HB := n2_; clear n0_ n1_ n2_; (try clear hb); (try clear hb2); (try clear hk); (try clear hi); (try clear ho0)) | ((with_reducible refine gate_callee (f := 15) rfl ?_); refine goesL_ (some 38) rfl rfl Tryd.func15 (by kernel_rfl) rfl #[.slice A0 l0.length c0] rfl (by (try simp only [List.map_toArray, List.map_cons, List.map_nil]); first | done | rfl | (simp only [List.length_drop, List.length_take]; rfl)) ?_; (with_reducible refine (marlineref21_Put.calls kj3 _ _ l0 t239 t240 _ ?side1 ?side2 A19.out).mono ?_); (case side1 => repeat (first | exact (Kd.C_below HR0.out HB.out) | (with_reducible refine Kd.C_alloc ?_ _) | (with_reducible refine Kd.C_drewN ?_ _) | (with_reducible refine Kd.C_drew ?_))); (case side2 => exact HC0.out); rintro e w35 ⟨v241, rfl, ho0, hb⟩; refine ⟨_, rfl, ?_⟩; have n0_ := Aside0.mk (Kd.R_below (by (with_reducible repeat (first | apply Kd.R_alloc | apply Kd.R_drewN | apply Kd.R_drew)); exact HO238.out) hb); have n1_ := Aside0.mk (Kd.R_lower ho0 (below_size (by repeat (first | (with_reducible first | exact HB.out | apply below_alloc | apply pw_below_drewN | apply below_drew1) | exact HB.out)))); have n2_ := Aside0.mk (below_step (by repeat (first | (with_reducible first | exact HB.out | apply below_alloc | apply pw_below_drewN | apply below_drew1) | exact HB.out)) hb); clear HO238; clear HB; have HO238 := n0_; have HO242 := n1_; have HB := n2_; clear n0_ n1_ n2_; (try clear hb); (try clear hb2); (try clear hk); (try clear hi); (try clear ho0)) | ((with_reducible refine gate_callee (f := 16) rfl ?_); refine goesL_ (some 43) rfl rfl Tryd.func16 (by kernel_rfl) rfl #[.slice A1 l1.length c1] rfl (by (try simp only [List.map_toArray, List.map_cons, List.map_nil]); first | done | rfl | (simp only [List.length_drop, List.length_take]; rfl)) ?_; (with_reducible refine (tags_Get.calls kj3 _ _ l1 t243 t244 t245 _ ?side1 ?side2 A20.out).mono ?_); (case side1 => repeat (first | exact (Kd.C_below HR1.out HB.out) | (with_reducible refine Kd.C_alloc ?_ _) | (with_reducible refine Kd.C_drewN ?_ _) | (with_reducible refine Kd.C_drew ?_))); (case side2 => exact HC1.out); rintro e w36 ⟨v246, rfl, ho0, hb⟩; refine ⟨_, rfl, ?_⟩; have n0_ := Aside0.mk (Kd.R_below (by (with_reducible repeat (first | apply Kd.R_alloc | apply Kd.R_drewN | apply Kd.R_drew)); exact HO238.out) hb); have n1_ := Aside0.mk (Kd.R_below (by (with_reducible repeat (first | apply Kd.R_alloc | apply Kd.R_drewN | apply Kd.R_drew)); exact HO242.out) hb); have n2_ := Aside0.mk (Kd.N_lower (Kd.N_mono (ok' := fun k_ => True) (Kd.S_N (Kd.S_bound ho0)) (fun k_ hk_ => trivial)) (below_size (by repeat (first | (with_reducible first | exact HB.out | apply below_alloc | apply pw_below_drewN | apply below_drew1) | exact HB.out)))); have n3_ := Aside0.mk (below_step (by repeat (first | (with_reducible first | exact HB.out | apply below_alloc | apply pw_below_drewN | apply below_drew1) | exact HB.out)) hb); clear HO238; clear HO242; clear HB; have HO238 := n0_; have HO242 := n1_; have HO247 := n2_; have HB := n3_; clear n0_ n1_ n2_ n3_; (try clear hb); (try clear hb2); (try clear hk); (try clear hi); (try clear ho0)) | ((with_reducible refine gate_callee (f := 17) rfl ?_); refine goesL_ (some 49) rfl rfl Tryd.func17 (by kernel_rfl) rfl #[.slice A1 l1.length c1] rfl (by (try simp only [List.map_toArray, List.map_cons, List.map_nil]); first | done | rfl | (simp only [List.length_drop, List.length_take]; rfl)) ?_; (with_reducible refine (marlineref21_Get.calls kj3 (fun k_ => k_ < w.heap.size) _ _ l1 t248 t251 t252 _ ?side1 A21.out).mono ?_); (case side1 => exact Kd.V_mk HC1.out (Kd.F_below (Kd.C_F (Kd.heap_int .u8) HR1.out) (by repeat (first | (with_reducible first | exact HB.out | apply below_alloc | apply pw_below_drewN | apply below_drew1) | exact HB.out)))); rintro e w37 ⟨v249, rfl, ho0, hb⟩; refine ⟨_, rfl, ?_⟩; have n0_ := Aside0.mk (Kd.R_below (by (with_reducible repeat (first | apply Kd.R_alloc | apply Kd.R_drewN | apply Kd.R_drew)); exact HO238.out) hb); have n1_ := Aside0.mk (Kd.R_below (by (with_reducible repeat (first | apply Kd.R_alloc | apply Kd.R_drewN | apply Kd.R_drew)); exact HO242.out) hb); have n2_ := Aside0.mk (Kd.N_below (by (with_reducible repeat (first | apply Kd.N_alloc | apply Kd.N_drewN | apply Kd.N_drew)); exact HO247.out) hb); have n3_ := Aside0.mk (Kd.N_lower (Kd.N_mono (ok' := fun k_ => True) ho0 (fun k_ hk_ => trivial)) (below_size (by repeat (first | (with_reducible first | exact HB.out | apply below_alloc | apply pw_below_drewN | apply below_drew1) | exact HB.out)))); have n4_ := Aside0.mk (below_step (by repeat (first | (with_reducible first | exact HB.out | apply below_alloc | apply pw_below_drewN | apply below_drew1) | exact HB.out)) hb); clear HO238; clear HO242; clear HO247; clear HB; have HO238 := n0_; have HO242 := n1_; have HO247 := n2_; have HO250 := n3_; have HB := n4_; clear n0_ n1_ n2_ n3_ n4_; (try clear hb); (try clear hb2); (try clear hk); (try clear hi); (try clear ho0); obtain ⟨Ao38, co38, eo38⟩ := Kd.R_slice HO238.out; subst eo38; obtain ⟨Ao39, co39, eo39⟩ := Kd.R_slice HO242.out; subst eo39) | (go_at_call 11; (with_reducible refine (marlineref01_Equal.calls kj3 _ _ t235 _ _ t239 true _ ?side1 ?side2 ?side3 ?side4 A23.out).mono ?_); (case side1 => repeat (first | exact (Kd.R_reads' HO238.out).2.2 | (with_reducible refine Kd.C_alloc ?_ _) | (with_reducible refine Kd.C_drewN ?_ _) | (with_reducible refine Kd.C_drew ?_))); (case side2 => exact (Kd.R_reads' HO238.out).2.1); (case side3 => repeat (first | exact (Kd.R_reads' HO242.out).2.2 | (with_reducible refine Kd.C_alloc ?_ _) | (with_reducible refine Kd.C_drewN ?_ _) | (with_reducible refine Kd.C_drew ?_))); (case side4 => exact (Kd.R_reads' HO242.out).2.1); rintro e w' ⟨rfl, ⟨nd, rfl⟩⟩; obtain ⟨Ao40, co40, eo40⟩ := Kd.N_slice HO247.out; subst eo40) | (go_at_call 13; (with_reducible refine (marlinelaw21_To.calls kj3 (fun k_ => True) _ _ t243 t254 _ ?side1 A27.out).mono ?_); (case side1 => exact Kd.N_V (HO247.out)); rintro e w41 ⟨v255, rfl, ho0, hb⟩; have n0_ := Aside0.mk (Kd.N_below (by (with_reducible repeat (first | apply Kd.N_alloc | apply Kd.N_drewN | apply Kd.N_drew)); exact HO247.out) hb); have n1_ := Aside0.mk (Kd.N_below (by (with_reducible repeat (first | apply Kd.N_alloc | apply Kd.N_drewN | apply Kd.N_drew)); exact HO250.out) hb); have n2_ := Aside0.mk (Kd.N_lower (Kd.N_mono (ok' := fun k_ => True) ho0 (fun k_ hk_ => trivial)) (below_size (by repeat (first | (with_reducible first | exact HB.out | apply below_alloc | apply pw_below_drewN | apply below_drew1) | exact HB.out)))); have n3_ := Aside0.mk (below_step (by repeat (first | (with_reducible first | exact HB.out | apply below_alloc | apply pw_below_drewN | apply below_drew1) | exact HB.out)) hb); clear HO247; clear HO250; clear HB; have HO247 := n0_; have HO250 := n1_; have HO256 := n2_; have HB := n3_; clear n0_ n1_ n2_ n3_; (try clear hb); (try clear hb2); (try clear hk); (try clear hi); (try clear ho0); obtain ⟨Ao42, co42, eo42⟩ := Kd.N_slice HO256.out; subst eo42; obtain ⟨Ao43, co43, eo43⟩ := Kd.N_slice HO250.out; subst eo43) | (go_at_call 12; (with_reducible refine (marlineref21_Same.calls kj3 _ _ t254 _ _ t248 true _ ?side1 ?side2 ?side3 ?side4 A28.out).mono ?_); (case side1 => repeat (first | exact (Kd.N_reads' HO256.out).2.2 | (with_reducible refine Kd.C_alloc ?_ _) | (with_reducible refine Kd.C_drewN ?_ _) | (with_reducible refine Kd.C_drew ?_))); (case side2 => exact (Kd.N_reads' HO256.out).2.1); (case side3 => repeat (first | exact (Kd.N_reads' HO250.out).2.2 | (with_reducible refine Kd.C_alloc ?_ _) | (with_reducible refine Kd.C_drewN ?_ _) | (with_reducible refine Kd.C_drew ?_))); (case side4 => exact (Kd.N_reads' HO250.out).2.1); rintro e w' ⟨rfl, ⟨nd, rfl⟩⟩) | (go_at_call 18; (with_reducible refine (tags_Name.calls a2 t258 _ A30.out).mono ?_); rintro e w' ⟨rfl, ⟨nd, rfl⟩⟩) | (go_at_call 19; (with_reducible refine (marlineref21_Name.calls kj3 (wrap64 (a2)) t259 _ A31.out).mono ?_); rintro e w44 ⟨rfl, hb⟩; have n0_ := Aside0.mk (below_step (by repeat (first | (with_reducible first | exact HB.out | apply below_alloc | apply pw_below_drewN | apply below_drew1) | exact HB.out)) hb); clear HB; have HB := n0_; clear n0_; (try clear hb); (try clear hb2); (try clear hk); (try clear hi)))
                  go_ret
                  exact ⟨by first | rfl | (simp [errW_none, errW_some] <;> rfl) | (simp [*, errW_none, errW_some] <;> rfl), by repeat (first | (with_reducible first | exact HB.out | apply below_alloc | apply pw_below_drewN | apply below_drew1) | exact HB.out)⟩
                · replace c29 := Bool.eq_false_iff.mpr c29
                  subst c29
                  have H1 : (none) = some r := by rw [if_neg (show ¬ (false = true) by decide)] at H; exact H
                  clear H
                  have H := H1
                  clear H1
                  exact absurd H (by simp)
              · rw [if_neg c26] at H
                exact absurd H (by simp)
            · rw [if_neg c25] at H
              exact absurd H (by simp)
          · replace c24 := Bool.eq_false_iff.mpr c24
            subst c24
            have H1 : (none) = some r := by rw [if_neg (show ¬ (false = true) by decide)] at H; exact H
            clear H
            have H := H1
            clear H1
            exact absurd H (by simp)
        · rw [if_neg c22] at H
          exact absurd H (by simp)

/-- THE ONE PURE STATEMENT of marlinelaw21_TagsTells: yours. -/
def marlinelaw21_TagsTells.Pure : Prop := ∀ (l0 : List (S32)) (l1 : List Int) (a2 : Int), ((l0.length ≤ 9223372036854775807 ∧ l0.length * 32 ≤ 140737488351232) ∧ ∀ y0_ ∈ l0, ((Lit.int .u16 y0_.f0).wf = true ∧ ((y0_.f1.length ≤ 9223372036854775807 ∧ y0_.f1.length * 1 ≤ 140737488351232) ∧ ∀ y1_ ∈ y0_.f1, (Lit.int .u8 y1_).wf = true))) → l1.length ≤ maxLen → l1.length * 1 ≤ 140737488351232 → (∀ x ∈ l1, (Lit.int .u8 x).wf = true) → (Lit.int .u16 a2).wf = true → ∃ k, marlinelaw21_TagsTells.f k l0 l1 a2 = some true
theorem marlinelaw21_TagsTells.walk (P : marlinelaw21_TagsTells.Pure) (A0 : Option Addr) (c0 : Nat) (l0 : List (S32)) (A1 : Option Addr) (c1 : Nat) (l1 : List Int) (a2 : Int) (w : World) (hGL : GL w) (hr0 : Kd.C k32 w A0 l0.length l0) (hc0 : l0.length ≤ c0) (hw0 : ((l0.length ≤ 9223372036854775807 ∧ l0.length * 32 ≤ 140737488351232) ∧ ∀ y0_ ∈ l0, ((Lit.int .u16 y0_.f0).wf = true ∧ ((y0_.f1.length ≤ 9223372036854775807 ∧ y0_.f1.length * 1 ≤ 140737488351232) ∧ ∀ y1_ ∈ y0_.f1, (Lit.int .u8 y1_).wf = true)))) (hr1 : Kd.C (Kd.int .u8) w A1 l1.length l1) (hc1 : l1.length ≤ c1) (hm1 : l1.length ≤ maxLen) (y1 : l1.length * 1 ≤ 140737488351232) (hw1 : ∀ x ∈ l1, (Lit.int .u8 x).wf = true) (hw2 : (Lit.int .u16 a2).wf = true) :
    Calls Tryd.prog 4 #[.slice A0 l0.length c0, .slice A1 l1.length c1, .int .u16 a2] w fun e w' => e = .returned (.bool true) ∧ Below w.heap.size w w' := by
  obtain ⟨k, h⟩ := P l0 l1 a2 hw0 hm1 y1 hw1 hw2
  refine (marlinelaw21_TagsTells.calls k _ _ l0 _ _ l1 a2 true w hr0 hc0 hr1 hc1 h).mono ?_
  rintro e w' ⟨rfl, hd⟩
  exact ⟨rfl, hd⟩

end Go.Proofs.YthkgaciibfjejaaDoor.Print
