/- A text that a program of this claim (wip/x) laid out of the translation: what Go functions come to, and that they come to it. Lean checks it. -/
import Derived.Test.YtppfoopecdmblaaPrint0
import Derived.Test.YtppfoopecdmblaaPrintCtlGet
import Derived.Test.YtppfoopecdmblaaPrintCtlPad
import Derived.Test.YtppfoopecdmblaaPrintCtlPut
import Derived.Test.YtppfoopecdmblaaPrintMarlinelaw13Speaks
import Derived.Test.YtppfoopecdmblaaPrintMarlineref01Equal
namespace Go.Proofs.Ytppfoopecdmblaa.Print
open Go.RowKit Go.Proofs.YtppfoopecdmblaaW.PrintWords Go.Proofs.YtppfoopecdmblaaW.PrintLast Go.Proofs.YtppfoopecdmblaaW.PrintMore
attribute [local go_sem] max2_int min2_int max_two min_two max_three min_three max_four min_four   -- for this text's walks alone
set_option linter.unusedVariables false
set_option linter.unusedSimpArgs false

/-! ### marlinelaw13_CtlBack: function 5 -/
mutual
def marlinelaw13_CtlBack.j0 : Nat → Int → Int → List Int → List Int → Int → Bool → Option (Bool)
  | 0, _, _, _, _, _, _ => none
  | k + 1, x0, x1, x2, x3, x4, x30 => if x30 = true then ((marlinelaw13_speaks.f k).bind fun t209 => (some t209)) else ((ctl_Put.f k x0 x1 x2).bind fun bt210 => (if bt210.2 = 0 then (marlinelaw13_CtlBack.j1 k x0 x1 x2 x3 x4 bt210.1 ((bt210.1.length : Int) != (wrap64 ((x2.length : Int) + 4)))) else (marlinelaw13_CtlBack.j1 k x0 x1 x2 x3 x4 bt210.1 true)))
def marlinelaw13_CtlBack.j1 : Nat → Int → Int → List Int → List Int → Int → List Int → Bool → Option (Bool)
  | 0, _, _, _, _, _, _, _ => none
  | k + 1, x0, x1, x2, x3, x4, x11, x48 => if x48 = true then (some false) else ((some (([] : List Int) : List Int)).bind fun y214 => (if y214.length + x11.length < 140737488355328 then ((some (y214 ++ x11 : List Int)).bind fun y217 => (if y217.length + x3.length < 140737488355328 then ((some (y217 ++ x3 : List Int)).bind fun y220 => ((ctl_Get.f k y220).bind fun bt223 => (if bt223.2.2.2 = 0 then (if bt223.1 = x0 then (if bt223.2.1 = x1 then ((marlineref01_Equal.f k bt223.2.2.1 x2).bind fun t229 => (if t229 = true then ((ctl_Pad.f k y220).bind fun t230 => (marlinelaw13_CtlBack.j2 k x4 x11 (t230 != (x3.length : Int)))) else (marlinelaw13_CtlBack.j2 k x4 x11 true))) else (marlinelaw13_CtlBack.j2 k x4 x11 true)) else (marlinelaw13_CtlBack.j2 k x4 x11 true)) else (marlinelaw13_CtlBack.j2 k x4 x11 true)))) else (none))) else (none)))
def marlinelaw13_CtlBack.j2 : Nat → Int → List Int → Bool → Option (Bool)
  | 0, _, _, _ => none
  | k + 1, x4, x11, x85 => if x85 = true then (some false) else (if (x11.length : Int) = 0 then (none) else (if 0 ≤ (Int.tmod (wrap64 (x4)) (x11.length : Int)) then (if (Int.tmod (wrap64 (x4)) (x11.length : Int)) ≤ (x11.length : Int) then ((some (x11.take ((Int.tmod (wrap64 (x4)) (x11.length : Int)) : Int).toNat : List Int)).bind fun y231 => ((ctl_Get.f k y231).bind fun bt235 => (if bt235.2.2.2 = 2 then (if (bt235.2.2.1.length : Int) = 0 then ((ctl_Pad.f k y231).bind fun t241 => (some (t241 == 0))) else (some false)) else (some false)))) else (none)) else (none)))
end
def marlinelaw13_CtlBack.f (k : Nat) (a0 : Int) (a1 : Int) (l2 : List Int) (l3 : List Int) (a4 : Int) : Option (Bool) := (marlinelaw13_speaks.f k).bind fun t208 => (if t208 = true then (if (l2.length : Int) > 1000 then (marlinelaw13_CtlBack.j0 k a0 a1 l2 l3 a4 true) else (marlinelaw13_CtlBack.j0 k a0 a1 l2 l3 a4 (decide ((l3.length : Int) > 1000)))) else (marlinelaw13_CtlBack.j0 k a0 a1 l2 l3 a4 true))
theorem marlinelaw13_CtlBack.mono_l : ∀ k, (∀ y0 y1 y2 y3 y4 y5, LeO (marlinelaw13_CtlBack.j0 k y0 y1 y2 y3 y4 y5) (marlinelaw13_CtlBack.j0 (k + 1) y0 y1 y2 y3 y4 y5)) ∧ (∀ y0 y1 y2 y3 y4 y5 y6, LeO (marlinelaw13_CtlBack.j1 k y0 y1 y2 y3 y4 y5 y6) (marlinelaw13_CtlBack.j1 (k + 1) y0 y1 y2 y3 y4 y5 y6)) ∧ (∀ y0 y1 y2, LeO (marlinelaw13_CtlBack.j2 k y0 y1 y2) (marlinelaw13_CtlBack.j2 (k + 1) y0 y1 y2))
  | 0 => ⟨fun _ _ _ _ _ _ r h => by simp [marlinelaw13_CtlBack.j0] at h, fun _ _ _ _ _ _ _ r h => by simp [marlinelaw13_CtlBack.j1] at h, fun _ _ _ r h => by simp [marlinelaw13_CtlBack.j2] at h⟩
  | k + 1 => by
    obtain ⟨ih0, ih1, ih2⟩ := marlinelaw13_CtlBack.mono_l k
    refine ⟨?_, ?_, ?_⟩
    · intro y0 y1 y2 y3 y4 y5
      unfold marlinelaw13_CtlBack.j0
      repeat' first
      | (with_reducible exact ih0 _ _ _ _ _ _)
      | (with_reducible exact ih1 _ _ _ _ _ _ _)
      | (with_reducible exact ih2 _ _ _)
      | (with_reducible exact ctl_Get.mono _ _)
      | (with_reducible exact ctl_Pad.mono _ _)
      | (with_reducible exact ctl_Put.mono _ _ _ _)
      | (with_reducible exact marlinelaw13_speaks.mono _)
      | (with_reducible exact marlineref01_Equal.mono _ _ _)
      | (with_reducible exact LeO.refl _)
      | (with_reducible exact LeO.none _)
      | (with_reducible refine LeO.ite ?_ ?_)
      | (with_reducible refine LeO.bind ?_ (fun _ => ?_))
      | exact ih0 _ _ _ _ _ _
      | exact ih1 _ _ _ _ _ _ _
      | exact ih2 _ _ _
      | exact ctl_Get.mono _ _
      | exact ctl_Pad.mono _ _
      | exact ctl_Put.mono _ _ _ _
      | exact marlinelaw13_speaks.mono _
      | exact marlineref01_Equal.mono _ _ _
      | exact LeO.none _
      | refine LeO.ite ?_ ?_
      | refine LeO.bind ?_ (fun _ => ?_)
    · intro y0 y1 y2 y3 y4 y5 y6
      unfold marlinelaw13_CtlBack.j1
      repeat' first
      | (with_reducible exact ih0 _ _ _ _ _ _)
      | (with_reducible exact ih1 _ _ _ _ _ _ _)
      | (with_reducible exact ih2 _ _ _)
      | (with_reducible exact ctl_Get.mono _ _)
      | (with_reducible exact ctl_Pad.mono _ _)
      | (with_reducible exact ctl_Put.mono _ _ _ _)
      | (with_reducible exact marlinelaw13_speaks.mono _)
      | (with_reducible exact marlineref01_Equal.mono _ _ _)
      | (with_reducible exact LeO.refl _)
      | (with_reducible exact LeO.none _)
      | (with_reducible refine LeO.ite ?_ ?_)
      | (with_reducible refine LeO.bind ?_ (fun _ => ?_))
      | exact ih0 _ _ _ _ _ _
      | exact ih1 _ _ _ _ _ _ _
      | exact ih2 _ _ _
      | exact ctl_Get.mono _ _
      | exact ctl_Pad.mono _ _
      | exact ctl_Put.mono _ _ _ _
      | exact marlinelaw13_speaks.mono _
      | exact marlineref01_Equal.mono _ _ _
      | exact LeO.none _
      | refine LeO.ite ?_ ?_
      | refine LeO.bind ?_ (fun _ => ?_)
    · intro y0 y1 y2
      unfold marlinelaw13_CtlBack.j2
      repeat' first
      | (with_reducible exact ih0 _ _ _ _ _ _)
      | (with_reducible exact ih1 _ _ _ _ _ _ _)
      | (with_reducible exact ih2 _ _ _)
      | (with_reducible exact ctl_Get.mono _ _)
      | (with_reducible exact ctl_Pad.mono _ _)
      | (with_reducible exact ctl_Put.mono _ _ _ _)
      | (with_reducible exact marlinelaw13_speaks.mono _)
      | (with_reducible exact marlineref01_Equal.mono _ _ _)
      | (with_reducible exact LeO.refl _)
      | (with_reducible exact LeO.none _)
      | (with_reducible refine LeO.ite ?_ ?_)
      | (with_reducible refine LeO.bind ?_ (fun _ => ?_))
      | exact ih0 _ _ _ _ _ _
      | exact ih1 _ _ _ _ _ _ _
      | exact ih2 _ _ _
      | exact ctl_Get.mono _ _
      | exact ctl_Pad.mono _ _
      | exact ctl_Put.mono _ _ _ _
      | exact marlinelaw13_speaks.mono _
      | exact marlineref01_Equal.mono _ _ _
      | exact LeO.none _
      | refine LeO.ite ?_ ?_
      | refine LeO.bind ?_ (fun _ => ?_)
theorem marlinelaw13_CtlBack.mono : ∀ a0 a1 a2 a3 a4 k, LeO (marlinelaw13_CtlBack.f k a0 a1 a2 a3 a4) (marlinelaw13_CtlBack.f (k + 1) a0 a1 a2 a3 a4) := by
  intro a0 a1 a2 a3 a4 k
  obtain ⟨ih0, ih1, ih2⟩ := marlinelaw13_CtlBack.mono_l k
  unfold marlinelaw13_CtlBack.f
  repeat' first
      | (with_reducible exact ih0 _ _ _ _ _ _)
      | (with_reducible exact ih1 _ _ _ _ _ _ _)
      | (with_reducible exact ih2 _ _ _)
      | (with_reducible exact ctl_Get.mono _ _)
      | (with_reducible exact ctl_Pad.mono _ _)
      | (with_reducible exact ctl_Put.mono _ _ _ _)
      | (with_reducible exact marlinelaw13_speaks.mono _)
      | (with_reducible exact marlineref01_Equal.mono _ _ _)
      | (with_reducible exact LeO.refl _)
      | (with_reducible exact LeO.none _)
      | (with_reducible refine LeO.ite ?_ ?_)
      | (with_reducible refine LeO.bind ?_ (fun _ => ?_))
      | exact ih0 _ _ _ _ _ _
      | exact ih1 _ _ _ _ _ _ _
      | exact ih2 _ _ _
      | exact ctl_Get.mono _ _
      | exact ctl_Pad.mono _ _
      | exact ctl_Put.mono _ _ _ _
      | exact marlinelaw13_speaks.mono _
      | exact marlineref01_Equal.mono _ _ _
      | exact LeO.none _
      | refine LeO.ite ?_ ?_
      | refine LeO.bind ?_ (fun _ => ?_)
set_option maxHeartbeats 8000000 in
set_option maxRecDepth 100000 in
theorem marlinelaw13_CtlBack.calls (k : Nat) (a0 : Int) (a1 : Int) (A2 : Option Addr) (c2 : Nat) (l2 : List Int) (A3 : Option Addr) (c3 : Nat) (l3 : List Int) (a4 : Int) (r : Bool) (w : World) (hr2 : Kd.C (Kd.int .u8) w A2 l2.length l2) (hc2 : l2.length ≤ c2) (hr3 : Kd.C (Kd.int .u8) w A3 l3.length l3) (hc3 : l3.length ≤ c3) (h : marlinelaw13_CtlBack.f k a0 a1 l2 l3 a4 = some r) :
    Calls Try.prog 5 #[.int .u8 a0, .int .u8 a1, .slice A2 l2.length c2, .slice A3 l3.length c3, .int .u16 a4] w fun e w' => e = .returned (.bool r) ∧ Below w.heap.size w w' := by
  have HR2 := Aside0.mk hr2
  have HC2 := Aside0.mk hc2
  clear hr2 hc2
  have HR3 := Aside0.mk hr3
  have HC3 := Aside0.mk hc3
  clear hr3 hc3
  have HB := Aside0.mk (Below.refl w.heap.size w)
  have H : ((marlinelaw13_speaks.f k).bind fun t208 => (if t208 = true then (if (l2.length : Int) > 1000 then (marlinelaw13_CtlBack.j0 k a0 a1 l2 l3 a4 true) else (marlinelaw13_CtlBack.j0 k a0 a1 l2 l3 a4 (decide ((l3.length : Int) > 1000)))) else (marlinelaw13_CtlBack.j0 k a0 a1 l2 l3 a4 true))) = some r := h
  clear h
  have HC6 := Aside0.mk H
  clear H
  go_enter Try.func5, Try.ntmps5
  go_upto_region 1 with (fail)
  go_cut [30] (fun v30 wc => ∃ (kq : Nat) (x30_5 : Bool), v30 = .bool x30_5 ∧ Aside0 (marlinelaw13_CtlBack.j0 kq a0 a1 l2 l3 a4 x30_5 = some r) ∧ Aside0 (kq ≤ k) ∧ Aside0 (Below w.heap.size w wc))
  case first =>
    have H := HC6.out
    clear HC6
    replace H := Option.bind_eq_some_iff.mp H
    obtain ⟨t208, A70, H⟩ := H
    replace H : (if t208 = true then (if (l2.length : Int) > 1000 then (marlinelaw13_CtlBack.j0 k a0 a1 l2 l3 a4 true) else (marlinelaw13_CtlBack.j0 k a0 a1 l2 l3 a4 (decide ((l3.length : Int) > 1000)))) else (marlinelaw13_CtlBack.j0 k a0 a1 l2 l3 a4 true)) = some r := H
    have A7 := Aside0.mk A70
    clear A70
    by_cases c8 : t208 = true
    · subst c8
      have H1 : (if (l2.length : Int) > 1000 then (marlinelaw13_CtlBack.j0 k a0 a1 l2 l3 a4 true) else (marlinelaw13_CtlBack.j0 k a0 a1 l2 l3 a4 (decide ((l3.length : Int) > 1000)))) = some r := by rw [if_pos rfl] at H; exact H
      clear H
      have H := H1
      clear H1
      by_cases c9 : (l2.length : Int) > 1000
      · rw [if_pos c9] at H
        have c9b0 : decide (1000 < (l2.length : Int)) = true := decide_eq_true c9
        have c9b1 : decide (1000 < l2.length) = true := decide_eq_true (by omega)
        clear c9
        (first | rw [c9b0] | (simp only [i64_w, i32_w]; rw [c9b0]) | skip)
        have H' := Aside0.mk H
        clear H
        go_wp2_with (first | ((with_reducible refine gate_callee (f := 13) rfl ?_); refine goesL_ (some 19) rfl rfl Try.func13 (by kernel_rfl) rfl #[] rfl (by (try simp only [List.map_toArray, List.map_cons, List.map_nil]); first | done | rfl | (simp only [List.length_drop, List.length_take]; rfl)) ?_; (with_reducible refine (marlinelaw13_speaks.calls k  true _ A7.out).mono ?_); rintro e w10 ⟨rfl, hb⟩; refine ⟨_, rfl, ?_⟩; have n0_ := Aside0.mk (below_step (by repeat (first | (with_reducible first | exact HB.out | apply below_alloc | apply pw_below_drewN | apply below_drew1) | exact HB.out)) hb); clear HB; have HB := n0_; clear n0_; (try clear hb); (try clear hb2); (try clear hk); (try clear hi)))
        go_meet
        case rel => exact ⟨_, (true), (by first | rfl | (simp; done) | (simp [*]; done)), H', ⟨by first | omega | exact Nat.le_refl _⟩, ⟨by repeat (first | (with_reducible first | exact HB.out | apply below_alloc | apply pw_below_drewN | apply below_drew1) | exact HB.out)⟩⟩
      · rw [if_neg c9] at H
        have c9b0 : decide (1000 < (l2.length : Int)) = false := decide_eq_false c9
        have c9b1 : decide (1000 < l2.length) = false := decide_eq_false (by omega)
        clear c9
        (first | rw [c9b0] | (simp only [i64_w, i32_w]; rw [c9b0]) | skip)
        have H' := Aside0.mk H
        clear H
        go_wp2_with (first | ((with_reducible refine gate_callee (f := 13) rfl ?_); refine goesL_ (some 19) rfl rfl Try.func13 (by kernel_rfl) rfl #[] rfl (by (try simp only [List.map_toArray, List.map_cons, List.map_nil]); first | done | rfl | (simp only [List.length_drop, List.length_take]; rfl)) ?_; (with_reducible refine (marlinelaw13_speaks.calls k  true _ A7.out).mono ?_); rintro e w11 ⟨rfl, hb⟩; refine ⟨_, rfl, ?_⟩; have n0_ := Aside0.mk (below_step (by repeat (first | (with_reducible first | exact HB.out | apply below_alloc | apply pw_below_drewN | apply below_drew1) | exact HB.out)) hb); clear HB; have HB := n0_; clear n0_; (try clear hb); (try clear hb2); (try clear hk); (try clear hi)))
        go_meet
        case rel => exact ⟨_, (decide ((l3.length : Int) > 1000)), (by first | rfl | (simp; done) | (simp [*]; done)), H', ⟨by first | omega | exact Nat.le_refl _⟩, ⟨by repeat (first | (with_reducible first | exact HB.out | apply below_alloc | apply pw_below_drewN | apply below_drew1) | exact HB.out)⟩⟩
    · replace c8 := Bool.eq_false_iff.mpr c8
      subst c8
      have H1 : (marlinelaw13_CtlBack.j0 k a0 a1 l2 l3 a4 true) = some r := by rw [if_neg (show ¬ (false = true) by decide)] at H; exact H
      clear H
      have H := H1
      clear H1
      have H' := Aside0.mk H
      clear H
      go_wp2_with (first | ((with_reducible refine gate_callee (f := 13) rfl ?_); refine goesL_ (some 19) rfl rfl Try.func13 (by kernel_rfl) rfl #[] rfl (by (try simp only [List.map_toArray, List.map_cons, List.map_nil]); first | done | rfl | (simp only [List.length_drop, List.length_take]; rfl)) ?_; (with_reducible refine (marlinelaw13_speaks.calls k  false _ A7.out).mono ?_); rintro e w12 ⟨rfl, hb⟩; refine ⟨_, rfl, ?_⟩; have n0_ := Aside0.mk (below_step (by repeat (first | (with_reducible first | exact HB.out | apply below_alloc | apply pw_below_drewN | apply below_drew1) | exact HB.out)) hb); clear HB; have HB := n0_; clear n0_; (try clear hb); (try clear hb2); (try clear hk); (try clear hi)))
      go_meet
      case rel => exact ⟨_, (true), (by first | rfl | (simp; done) | (simp [*]; done)), H', ⟨by first | omega | exact Nat.le_refl _⟩, ⟨by repeat (first | (with_reducible first | exact HB.out | apply below_alloc | apply pw_below_drewN | apply below_drew1) | exact HB.out)⟩⟩
  case rest =>
    clear HC6
    try clear c1
    try clear c2
    try clear p2
    try clear c3
    try clear c5
    try clear c8
    try clear c9
    try clear c9b0
    try clear c9b1
    obtain ⟨kq, x30_5, rfl, HA, HJ5, HB⟩ := hcut
    cases kq with
    | zero => exact absurd HA.out (by simp [marlinelaw13_CtlBack.j0])
    | succ kj5 =>
      have H := HA.out
      clear HA
      simp only [marlinelaw13_CtlBack.j0] at H
      by_cases c13 : x30_5 = true
      · subst c13
        have H1 : ((marlinelaw13_speaks.f kj5).bind fun t209 => (some t209)) = some r := by rw [if_pos rfl] at H; exact H
        clear H
        have H := H1
        clear H1
        replace H := Option.bind_eq_some_iff.mp H
        obtain ⟨t209, A140, H⟩ := H
        replace H : (some t209) = some r := H
        have A14 := Aside0.mk A140
        clear A140
        obtain rfl := Option.some.inj H
        go_wp2_with (first | ((with_reducible refine gate_callee (f := 13) rfl ?_); refine goesL_ (some 31) rfl rfl Try.func13 (by kernel_rfl) rfl #[] rfl (by (try simp only [List.map_toArray, List.map_cons, List.map_nil]); first | done | rfl | (simp only [List.length_drop, List.length_take]; rfl)) ?_; (with_reducible refine (marlinelaw13_speaks.calls kj5  t209 _ A14.out).mono ?_); rintro e w15 ⟨rfl, hb⟩; refine ⟨_, rfl, ?_⟩; have n0_ := Aside0.mk (below_step (by repeat (first | (with_reducible first | exact HB.out | apply below_alloc | apply pw_below_drewN | apply below_drew1) | exact HB.out)) hb); clear HB; have HB := n0_; clear n0_; (try clear hb); (try clear hb2); (try clear hk); (try clear hi)))
        go_ret
        exact ⟨by first | rfl | (simp [errW_none, errW_some] <;> rfl) | (simp [*, errW_none, errW_some] <;> rfl), by repeat (first | (with_reducible first | exact HB.out | apply below_alloc | apply pw_below_drewN | apply below_drew1) | exact HB.out)⟩
      · replace c13 := Bool.eq_false_iff.mpr c13
        subst c13
        have H1 : ((ctl_Put.f kj5 a0 a1 l2).bind fun bt210 => (if bt210.2 = 0 then (marlinelaw13_CtlBack.j1 kj5 a0 a1 l2 l3 a4 bt210.1 ((bt210.1.length : Int) != (wrap64 ((l2.length : Int) + 4)))) else (marlinelaw13_CtlBack.j1 kj5 a0 a1 l2 l3 a4 bt210.1 true))) = some r := by rw [if_neg (show ¬ (false = true) by decide)] at H; exact H
        clear H
        have H := H1
        clear H1
        replace H := Option.bind_eq_some_iff.mp H
        obtain ⟨⟨t210, t211⟩, A160, H⟩ := H
        replace H : (if t211 = 0 then (marlinelaw13_CtlBack.j1 kj5 a0 a1 l2 l3 a4 t210 ((t210.length : Int) != (wrap64 ((l2.length : Int) + 4)))) else (marlinelaw13_CtlBack.j1 kj5 a0 a1 l2 l3 a4 t210 true)) = some r := H
        have A16 := Aside0.mk A160
        clear A160
        have HC17 := Aside0.mk H
        clear H
        go_upto_region 4 with (first | ((with_reducible refine gate_callee (f := 11) rfl ?_); refine goesL_ (some 36) rfl rfl Try.func11 (by kernel_rfl) rfl #[.int .u8 a0, .int .u8 a1, .slice A2 l2.length c2] rfl (by (try simp only [List.map_toArray, List.map_cons, List.map_nil]); first | done | rfl | (simp only [List.length_drop, List.length_take]; rfl)) ?_; (with_reducible refine (ctl_Put.calls kj5 a0 a1 _ _ l2 t210 t211 _ ?side1 ?side2 A16.out).mono ?_); (case side1 => repeat (first | exact (Kd.C_below HR2.out HB.out) | (with_reducible refine Kd.C_alloc ?_ _) | (with_reducible refine Kd.C_drewN ?_ _) | (with_reducible refine Kd.C_drew ?_))); (case side2 => exact HC2.out); rintro e w18 ⟨v212, rfl, ho0, hb⟩; refine ⟨_, rfl, ?_⟩; have n0_ := Aside0.mk (Kd.R_lower ho0 (below_size (by repeat (first | (with_reducible first | exact HB.out | apply below_alloc | apply pw_below_drewN | apply below_drew1) | exact HB.out)))); have n1_ := Aside0.mk (below_step (by repeat (first | (with_reducible first | exact HB.out | apply below_alloc | apply pw_below_drewN | apply below_drew1) | exact HB.out)) hb); clear HB; have HO213 := n0_; have HB := n1_; clear n0_ n1_; (try clear hb); (try clear hb2); (try clear hk); (try clear hi); (try clear ho0)))
        (try simp only [Act.put, List.setIfInBounds_toArray, List.set_cons_zero, List.set_cons_succ])
        go_cut [48] (fun v48 wc => ∃ (kq : Nat) (x48_16 : Bool), v48 = .bool x48_16 ∧ Aside0 (marlinelaw13_CtlBack.j1 kq a0 a1 l2 l3 a4 t210 x48_16 = some r) ∧ Aside0 (kq ≤ kj5) ∧ Aside0 (Kd.R (Kd.int .u8) 5 wc w.heap.size (fun _ => True) v212 t210) ∧ Aside0 (Below w.heap.size w wc))
        case first =>
          have H := HC17.out
          clear HC17
          by_cases c19 : t211 = 0
          · rw [if_pos c19] at H
            have c19b0 : (t211 == 0) = true := beq_iff_eq.mpr c19
            have c19b1 : (t211 != 0) = false := bne_eq_false_iff_eq.mpr c19
            clear c19
            (first | rw [c19b0] | (simp only [i64_w, i32_w]; rw [c19b0]) | skip)
            have H' := Aside0.mk H
            clear H
            obtain ⟨Ao20, co20, eo20⟩ := Kd.R_slice HO213.out
            subst eo20
            go_wp2
            go_meet
            case rel => exact ⟨_, (((t210.length : Int) != (wrap64 ((l2.length : Int) + 4)))), (by first | rfl | (simp; done) | (simp [*]; done)), H', ⟨by have := HJ5.out; first | omega | exact Nat.le_refl _⟩, ⟨by (with_reducible repeat (first | apply Kd.R_alloc | apply Kd.R_drewN | apply Kd.R_drew)); exact HO213.out⟩, ⟨by repeat (first | (with_reducible first | exact HB.out | apply below_alloc | apply pw_below_drewN | apply below_drew1) | exact HB.out)⟩⟩
          · rw [if_neg c19] at H
            have c19b0 : (t211 == 0) = false := beq_eq_false_iff_ne.mpr c19
            have c19b1 : (t211 != 0) = true := bne_iff_ne.mpr c19
            (first | rw [c19b0] | (simp only [i64_w, i32_w]; rw [c19b0]) | skip)
            have H' := Aside0.mk H
            clear H
            go_wp2
            go_meet
            case rel => exact ⟨_, (true), (by first | rfl | (simp; done) | (simp [*]; done)), H', ⟨by have := HJ5.out; first | omega | exact Nat.le_refl _⟩, ⟨by (with_reducible repeat (first | apply Kd.R_alloc | apply Kd.R_drewN | apply Kd.R_drew)); exact HO213.out⟩, ⟨by repeat (first | (with_reducible first | exact HB.out | apply below_alloc | apply pw_below_drewN | apply below_drew1) | exact HB.out)⟩⟩
        case rest =>
          clear HC17
          try clear c1
          try clear c2
          try clear p2
          try clear c3
          try clear c5
          try clear p6
          try clear c8
          try clear c9
          try clear c9b0
          try clear c9b1
          try clear c11
          try clear c13
          try clear c19
          try clear c19b0
          try clear c19b1
          try clear p2
          obtain ⟨kq, x48_16, rfl, HA, HJ16, HO_11, HB⟩ := hcut
          cases kq with
          | zero => exact absurd HA.out (by simp [marlinelaw13_CtlBack.j1])
          | succ kj16 =>
            have H := HA.out
            clear HA
            simp only [marlinelaw13_CtlBack.j1] at H
            by_cases c21 : x48_16 = true
            · subst c21
              have H1 : (some false) = some r := by rw [if_pos rfl] at H; exact H
              clear H
              have H := H1
              clear H1
              obtain rfl := Option.some.inj H
              go_wp2
              go_ret
              exact ⟨by first | rfl | (simp [errW_none, errW_some] <;> rfl) | (simp [*, errW_none, errW_some] <;> rfl), by repeat (first | (with_reducible first | exact HB.out | apply below_alloc | apply pw_below_drewN | apply below_drew1) | exact HB.out)⟩
            · replace c21 := Bool.eq_false_iff.mpr c21
              subst c21
              have H1 : ((some (([] : List Int) : List Int)).bind fun y214 => (if y214.length + t210.length < 140737488355328 then ((some (y214 ++ t210 : List Int)).bind fun y217 => (if y217.length + l3.length < 140737488355328 then ((some (y217 ++ l3 : List Int)).bind fun y220 => ((ctl_Get.f kj16 y220).bind fun bt223 => (if bt223.2.2.2 = 0 then (if bt223.1 = a0 then (if bt223.2.1 = a1 then ((marlineref01_Equal.f kj16 bt223.2.2.1 l2).bind fun t229 => (if t229 = true then ((ctl_Pad.f kj16 y220).bind fun t230 => (marlinelaw13_CtlBack.j2 kj16 a4 t210 (t230 != (l3.length : Int)))) else (marlinelaw13_CtlBack.j2 kj16 a4 t210 true))) else (marlinelaw13_CtlBack.j2 kj16 a4 t210 true)) else (marlinelaw13_CtlBack.j2 kj16 a4 t210 true)) else (marlinelaw13_CtlBack.j2 kj16 a4 t210 true)))) else (none))) else (none))) = some r := by rw [if_neg (show ¬ (false = true) by decide)] at H; exact H
              clear H
              have H := H1
              clear H1
              obtain ⟨y214, hy214⟩ : ∃ y_ : List Int, y_ = (([] : List Int)) := ⟨_, rfl⟩
              replace H : (if y214.length + t210.length < 140737488355328 then ((some (y214 ++ t210 : List Int)).bind fun y217 => (if y217.length + l3.length < 140737488355328 then ((some (y217 ++ l3 : List Int)).bind fun y220 => ((ctl_Get.f kj16 y220).bind fun bt223 => (if bt223.2.2.2 = 0 then (if bt223.1 = a0 then (if bt223.2.1 = a1 then ((marlineref01_Equal.f kj16 bt223.2.2.1 l2).bind fun t229 => (if t229 = true then ((ctl_Pad.f kj16 y220).bind fun t230 => (marlinelaw13_CtlBack.j2 kj16 a4 t210 (t230 != (l3.length : Int)))) else (marlinelaw13_CtlBack.j2 kj16 a4 t210 true))) else (marlinelaw13_CtlBack.j2 kj16 a4 t210 true)) else (marlinelaw13_CtlBack.j2 kj16 a4 t210 true)) else (marlinelaw13_CtlBack.j2 kj16 a4 t210 true)))) else (none))) else (none)) = some r := by first | (rw [hy214]; with_reducible exact H) | (have H2_ := (Option.bind_some _ _).symm.trans H; rw [hy214]; with_reducible exact H2_) | (have H2_ := (Option.bind_some _ _).symm.trans H; with_reducible exact H2_) | with_reducible exact H | (rw [hy214]; exact H) | exact H
              have Ny214 := Aside0.mk hy214
              clear hy214
              by_cases c22 : y214.length + t210.length < 140737488355328
              · rw [if_pos c22] at H
                have LMc22 := Aside0.mk c22
                clear c22
                obtain ⟨y217, hy217⟩ : ∃ y_ : List Int, y_ = (y214 ++ t210) := ⟨_, rfl⟩
                replace H : (if y217.length + l3.length < 140737488355328 then ((some (y217 ++ l3 : List Int)).bind fun y220 => ((ctl_Get.f kj16 y220).bind fun bt223 => (if bt223.2.2.2 = 0 then (if bt223.1 = a0 then (if bt223.2.1 = a1 then ((marlineref01_Equal.f kj16 bt223.2.2.1 l2).bind fun t229 => (if t229 = true then ((ctl_Pad.f kj16 y220).bind fun t230 => (marlinelaw13_CtlBack.j2 kj16 a4 t210 (t230 != (l3.length : Int)))) else (marlinelaw13_CtlBack.j2 kj16 a4 t210 true))) else (marlinelaw13_CtlBack.j2 kj16 a4 t210 true)) else (marlinelaw13_CtlBack.j2 kj16 a4 t210 true)) else (marlinelaw13_CtlBack.j2 kj16 a4 t210 true)))) else (none)) = some r := by first | (rw [hy217]; with_reducible exact H) | (have H2_ := (Option.bind_some _ _).symm.trans H; rw [hy217]; with_reducible exact H2_) | (have H2_ := (Option.bind_some _ _).symm.trans H; with_reducible exact H2_) | with_reducible exact H | (rw [hy217]; exact H) | exact H
                have Ny217 := Aside0.mk hy217
                clear hy217
                by_cases c23 : y217.length + l3.length < 140737488355328
                · rw [if_pos c23] at H
                  have LMc23 := Aside0.mk c23
                  clear c23
                  obtain ⟨y220, hy220⟩ : ∃ y_ : List Int, y_ = (y217 ++ l3) := ⟨_, rfl⟩
                  replace H : ((ctl_Get.f kj16 y220).bind fun bt223 => (if bt223.2.2.2 = 0 then (if bt223.1 = a0 then (if bt223.2.1 = a1 then ((marlineref01_Equal.f kj16 bt223.2.2.1 l2).bind fun t229 => (if t229 = true then ((ctl_Pad.f kj16 y220).bind fun t230 => (marlinelaw13_CtlBack.j2 kj16 a4 t210 (t230 != (l3.length : Int)))) else (marlinelaw13_CtlBack.j2 kj16 a4 t210 true))) else (marlinelaw13_CtlBack.j2 kj16 a4 t210 true)) else (marlinelaw13_CtlBack.j2 kj16 a4 t210 true)) else (marlinelaw13_CtlBack.j2 kj16 a4 t210 true))) = some r := by first | (rw [hy220]; with_reducible exact H) | (have H2_ := (Option.bind_some _ _).symm.trans H; rw [hy220]; with_reducible exact H2_) | (have H2_ := (Option.bind_some _ _).symm.trans H; with_reducible exact H2_) | with_reducible exact H | (rw [hy220]; exact H) | exact H
                  have Ny220 := Aside0.mk hy220
                  clear hy220
                  replace H := Option.bind_eq_some_iff.mp H
                  obtain ⟨⟨t223, t224, t225, t226⟩, A240, H⟩ := H
                  replace H : (if t226 = 0 then (if t223 = a0 then (if t224 = a1 then ((marlineref01_Equal.f kj16 t225 l2).bind fun t229 => (if t229 = true then ((ctl_Pad.f kj16 y220).bind fun t230 => (marlinelaw13_CtlBack.j2 kj16 a4 t210 (t230 != (l3.length : Int)))) else (marlinelaw13_CtlBack.j2 kj16 a4 t210 true))) else (marlinelaw13_CtlBack.j2 kj16 a4 t210 true)) else (marlinelaw13_CtlBack.j2 kj16 a4 t210 true)) else (marlinelaw13_CtlBack.j2 kj16 a4 t210 true)) = some r := H
                  have A24 := Aside0.mk A240
                  clear A240
                  have HC25 := Aside0.mk H
                  clear H
                  go_upto_region 8 with (first | ((with_reducible refine gate_dst (N := 49) rfl ?_); (try (refine gate_guard (by rfl) ?_; dsimp only)); refine Kd.R_lit (Kd.int .u8) _ 5 ?hg (N := 49) ?hd (xs := ([] : List Int)) (inner := []) (ok := fun _ => True) (okp := fun _ => True) ?hr ?hp (fun _ hk => hk) trivial (Below.refl _ _) (Nat.le_refl _) (by simp) ?_; (case hd => rfl); (case hg => rfl); (case hr => first | (go_simp; done) | (go_simp; rfl)); (case hp => exact (Reps.none _ _)); intro v215 w26 ho27 hb hg_ hnew_; clear hg_ hnew_; (first | rw [← Ny214.out] at ho27 | (simp only [Int.reduceToNat] at ho27; rw [← Ny214.out] at ho27)); have n0_ := Aside0.mk (Kd.R_elder' (by (with_reducible repeat (first | apply Kd.R_alloc | apply Kd.R_drewN | apply Kd.R_drew)); exact HO_11.out) (Kd.R_base ho27) hb); have n1_ := Aside0.mk (Kd.R_lower (Kd.R_new' ho27 (Kd.R_lt (by (with_reducible repeat (first | apply Kd.R_alloc | apply Kd.R_drewN | apply Kd.R_drew)); exact HO_11.out))) (below_size (by repeat (first | (with_reducible first | exact HB.out | apply below_alloc | apply pw_below_drewN | apply below_drew1) | exact HB.out)))); have n2_ := Aside0.mk (below_step (by repeat (first | (with_reducible first | exact HB.out | apply below_alloc | apply pw_below_drewN | apply below_drew1) | exact HB.out)) hb); clear HO_11; clear HB; have HO_11 := n0_; have HO216 := n1_; have HB := n2_; clear n0_ n1_ n2_; clear hb ho27; obtain ⟨Ao29, co29, eo29⟩ := Kd.R_slice HO_11.out; subst eo29) | ((with_reducible refine gate_builtin (b := .append) (xs := #[.tmp 49, .tmp 50]) rfl ?_); (try (refine gate_guard (by rfl) ?_; dsimp only)); at_builtin; refine Kd.R_append_rows (Kd.int .u8) (w0 := w) w.heap.size rfl (.tmp 49) (.tmp 50) 22 5 (.int .u8 0) 1 rfl Try.underlying22 info5 rfl (by decide) (by omega) v215 y214 t210 _ _ _ (fun k_ => some k_ ≠ (.slice Ao29 t210.length co29 : Value).ownBlock) (fun _ => False) rfl rfl ?aO ?aR (fun _ _ h => h) (fun _ h => h.elim) ?aF ?aB ?aS ?aL ?_; (case aR => repeat (first | exact (Kd.R_reads' HO_11.out).2.2 | (with_reducible refine Kd.C_alloc ?_ _) | (with_reducible refine Kd.C_drewN ?_ _) | (with_reducible refine Kd.C_drew ?_))); (case aB => exact (by repeat (first | (with_reducible first | exact HB.out | apply below_alloc | apply pw_below_drewN | apply below_drew1) | exact HB.out))); (case aF => exact (fun k_ hk => Kd.fresh' (Kd.R_lt (by (with_reducible repeat (first | apply Kd.R_alloc | apply Kd.R_drewN | apply Kd.R_drew)); exact HO_11.out)) k_ hk)); (case aO => exact (by (with_reducible repeat (first | apply Kd.R_alloc | apply Kd.R_drewN | apply Kd.R_drew)); exact Kd.R_mono HO216.out (fun _ hk => hk.2))); (case aS => exact (below_size (by repeat (first | (with_reducible first | exact HB.out | apply below_alloc | apply pw_below_drewN | apply below_drew1) | exact HB.out)))); (case aL => have := LMc22.out; omega); intro v218 w28 ho hb hg hat; rw [← Ny217.out] at ho; have n0_ := Aside0.mk (Kd.R_after (ok := (fun _ => True)) (by (with_reducible repeat (first | apply Kd.R_alloc | apply Kd.R_drewN | apply Kd.R_drew)); exact HO_11.out) hg hat); have n1_ := Aside0.mk (hb); have n2_ := Aside0.mk (ho); clear HO_11; clear HB; clear HO216; have HO_11 := n0_; have HB := n1_; have HO219 := n2_; clear n0_ n1_ n2_; clear ho hb hg hat) | ((with_reducible refine gate_builtin (b := .append) (xs := #[.tmp 51, .tmp 52]) rfl ?_); (try (refine gate_guard (by rfl) ?_; dsimp only)); at_builtin; refine Kd.R_append_rows (Kd.int .u8) (w0 := w) w.heap.size rfl (.tmp 51) (.tmp 52) 22 5 (.int .u8 0) 1 rfl Try.underlying22 info5 rfl (by decide) (by omega) v218 y217 l3 _ _ _ (fun k_ => some k_ ≠ (.slice Ao29 t210.length co29 : Value).ownBlock) (fun _ => False) rfl rfl ?aO ?aR (fun _ _ h => h) (fun _ h => h.elim) ?aF ?aB ?aS ?aL ?_; (case aR => repeat (first | exact (Kd.C_below HR3.out HB.out) | (with_reducible refine Kd.C_alloc ?_ _) | (with_reducible refine Kd.C_drewN ?_ _) | (with_reducible refine Kd.C_drew ?_))); (case aB => exact (by repeat (first | (with_reducible first | exact HB.out | apply below_alloc | apply pw_below_drewN | apply below_drew1) | exact HB.out))); (case aF => exact (fun k_ hk => Kd.fresh' (Kd.R_lt (by (with_reducible repeat (first | apply Kd.R_alloc | apply Kd.R_drewN | apply Kd.R_drew)); exact HO_11.out)) k_ hk)); (case aO => exact (by (with_reducible repeat (first | apply Kd.R_alloc | apply Kd.R_drewN | apply Kd.R_drew)); exact HO219.out)); (case aS => exact (below_size (by repeat (first | (with_reducible first | exact HB.out | apply below_alloc | apply pw_below_drewN | apply below_drew1) | exact HB.out)))); (case aL => have := LMc23.out; omega); intro v221 w30 ho hb hg hat; rw [← Ny220.out] at ho; have n0_ := Aside0.mk (Kd.R_after (ok := (fun _ => True)) (by (with_reducible repeat (first | apply Kd.R_alloc | apply Kd.R_drewN | apply Kd.R_drew)); exact HO_11.out) hg hat); have n1_ := Aside0.mk (hb); have n2_ := Aside0.mk (ho); clear HO_11; clear HB; clear HO219; have HO_11 := n0_; have HB := n1_; have HO222 := n2_; clear n0_ n1_ n2_; clear ho hb hg hat; obtain ⟨Ao31, co31, eo31⟩ := Kd.R_slice HO222.out; subst eo31) | ((with_reducible refine gate_callee (f := 12) rfl ?_); refine goesL_ (some 56) rfl rfl Try.func12 (by kernel_rfl) rfl #[.slice Ao31 y220.length co31] rfl (by (try simp only [List.map_toArray, List.map_cons, List.map_nil]); first | done | rfl | (simp only [List.length_drop, List.length_take]; rfl)) ?_; (with_reducible refine (ctl_Get.calls kj16 _ _ y220 t223 t224 t225 t226 _ ?side1 ?side2 A24.out).mono ?_); (case side1 => repeat (first | exact (Kd.R_reads' HO222.out).2.2 | (with_reducible refine Kd.C_alloc ?_ _) | (with_reducible refine Kd.C_drewN ?_ _) | (with_reducible refine Kd.C_drew ?_))); (case side2 => exact (Kd.R_reads' HO222.out).2.1); rintro e w32 ⟨v227, rfl, ho0, hb⟩; refine ⟨_, rfl, ?_⟩; have n0_ := Aside0.mk (Kd.R_elder' (by (with_reducible repeat (first | apply Kd.R_alloc | apply Kd.R_drewN | apply Kd.R_drew)); exact HO_11.out) (Kd.R_base ho0) hb); have n1_ := Aside0.mk (Kd.R_elder' (by (with_reducible repeat (first | apply Kd.R_alloc | apply Kd.R_drewN | apply Kd.R_drew)); exact HO222.out) (Kd.R_base ho0) hb); have n2_ := Aside0.mk (Kd.R_lower (Kd.R_new' (Kd.R_new' ho0 (Kd.R_lt (by (with_reducible repeat (first | apply Kd.R_alloc | apply Kd.R_drewN | apply Kd.R_drew)); exact HO_11.out))) (Kd.R_lt (by (with_reducible repeat (first | apply Kd.R_alloc | apply Kd.R_drewN | apply Kd.R_drew)); exact HO222.out))) (below_size (by repeat (first | (with_reducible first | exact HB.out | apply below_alloc | apply pw_below_drewN | apply below_drew1) | exact HB.out)))); have n3_ := Aside0.mk (below_step (by repeat (first | (with_reducible first | exact HB.out | apply below_alloc | apply pw_below_drewN | apply below_drew1) | exact HB.out)) hb); clear HO_11; clear HO222; clear HB; have HO_11 := n0_; have HO222 := n1_; have HO228 := n2_; have HB := n3_; clear n0_ n1_ n2_ n3_; (try clear hb); (try clear hb2); (try clear hk); (try clear hi); (try clear ho0)))
                  (try simp only [Act.put, List.setIfInBounds_toArray, List.set_cons_zero, List.set_cons_succ])
                  go_cut [85] (fun v85 wc => ∃ (kq : Nat) (x85_24 : Bool), v85 = .bool x85_24 ∧ Aside0 (marlinelaw13_CtlBack.j2 kq a4 t210 x85_24 = some r) ∧ Aside0 (kq ≤ kj16) ∧ Aside0 (Kd.R (Kd.int .u8) 5 wc w.heap.size (fun _ => True) (.slice Ao29 t210.length co29) t210) ∧ Aside0 (Below w.heap.size w wc))
                  case first =>
                    have H := HC25.out
                    clear HC25
                    by_cases c33 : t226 = 0
                    · rw [if_pos c33] at H
                      have c33b0 : (t226 == 0) = true := beq_iff_eq.mpr c33
                      have c33b1 : (t226 != 0) = false := bne_eq_false_iff_eq.mpr c33
                      clear c33
                      (first | rw [c33b0] | (simp only [i64_w, i32_w]; rw [c33b0]) | skip)
                      by_cases c34 : t223 = a0
                      · rw [if_pos c34] at H
                        have c34b0 : (t223 == a0) = true := beq_iff_eq.mpr c34
                        have c34b1 : (t223 != a0) = false := bne_eq_false_iff_eq.mpr c34
                        clear c34
                        by_cases c35 : t224 = a1
                        · rw [if_pos c35] at H
                          have c35b0 : (t224 == a1) = true := beq_iff_eq.mpr c35
                          have c35b1 : (t224 != a1) = false := bne_eq_false_iff_eq.mpr c35
                          clear c35
                          replace H := Option.bind_eq_some_iff.mp H
                          obtain ⟨t229, A360, H⟩ := H
                          replace H : (if t229 = true then ((ctl_Pad.f kj16 y220).bind fun t230 => (marlinelaw13_CtlBack.j2 kj16 a4 t210 (t230 != (l3.length : Int)))) else (marlinelaw13_CtlBack.j2 kj16 a4 t210 true)) = some r := H
                          have A36 := Aside0.mk A360
                          clear A360
                          by_cases c37 : t229 = true
                          · subst c37
                            have H1 : ((ctl_Pad.f kj16 y220).bind fun t230 => (marlinelaw13_CtlBack.j2 kj16 a4 t210 (t230 != (l3.length : Int)))) = some r := by rw [if_pos rfl] at H; exact H
                            clear H
                            have H := H1
                            clear H1
                            replace H := Option.bind_eq_some_iff.mp H
                            obtain ⟨t230, A380, H⟩ := H
                            replace H : (marlinelaw13_CtlBack.j2 kj16 a4 t210 (t230 != (l3.length : Int))) = some r := H
                            have A38 := Aside0.mk A380
                            clear A380
                            have H' := Aside0.mk H
                            clear H
                            obtain ⟨Ao39, co39, eo39⟩ := Kd.R_slice HO228.out
                            subst eo39
                            go_wp2_with (first | (go_at_call 16; (with_reducible refine (marlineref01_Equal.calls kj16 _ _ t225 _ _ l2 true _ ?side1 ?side2 ?side3 ?side4 A36.out).mono ?_); (case side1 => repeat (first | exact (Kd.R_reads' HO228.out).2.2 | (with_reducible refine Kd.C_alloc ?_ _) | (with_reducible refine Kd.C_drewN ?_ _) | (with_reducible refine Kd.C_drew ?_))); (case side2 => exact (Kd.R_reads' HO228.out).2.1); (case side3 => repeat (first | exact (Kd.C_below HR2.out HB.out) | (with_reducible refine Kd.C_alloc ?_ _) | (with_reducible refine Kd.C_drewN ?_ _) | (with_reducible refine Kd.C_drew ?_))); (case side4 => exact HC2.out); rintro e w' ⟨rfl, ⟨nd, rfl⟩⟩) | (go_at_call 17; (with_reducible refine (ctl_Pad.calls kj16 _ _ y220 t230 _ ?side1 ?side2 A38.out).mono ?_); (case side1 => repeat (first | exact (Kd.R_reads' HO222.out).2.2 | (with_reducible refine Kd.C_alloc ?_ _) | (with_reducible refine Kd.C_drewN ?_ _) | (with_reducible refine Kd.C_drew ?_))); (case side2 => exact (Kd.R_reads' HO222.out).2.1); rintro e w' ⟨rfl, ⟨nd, rfl⟩⟩))
                            go_meet
                            case rel => exact ⟨_, ((t230 != (l3.length : Int))), (by first | rfl | (simp; done) | (simp [*]; done)), H', ⟨by have := HJ5.out; have := HJ16.out; first | omega | exact Nat.le_refl _⟩, ⟨by (with_reducible repeat (first | apply Kd.R_alloc | apply Kd.R_drewN | apply Kd.R_drew)); exact Kd.R_mono HO_11.out (fun _ hk => trivial)⟩, ⟨by repeat (first | (with_reducible first | exact HB.out | apply below_alloc | apply pw_below_drewN | apply below_drew1) | exact HB.out)⟩⟩
                          · replace c37 := Bool.eq_false_iff.mpr c37
                            subst c37
                            have H1 : (marlinelaw13_CtlBack.j2 kj16 a4 t210 true) = some r := by rw [if_neg (show ¬ (false = true) by decide)] at H; exact H
                            clear H
                            have H := H1
                            clear H1
                            have H' := Aside0.mk H
                            clear H
                            obtain ⟨Ao40, co40, eo40⟩ := Kd.R_slice HO228.out
                            subst eo40
                            go_wp2_with (first | (go_at_call 16; (with_reducible refine (marlineref01_Equal.calls kj16 _ _ t225 _ _ l2 false _ ?side1 ?side2 ?side3 ?side4 A36.out).mono ?_); (case side1 => repeat (first | exact (Kd.R_reads' HO228.out).2.2 | (with_reducible refine Kd.C_alloc ?_ _) | (with_reducible refine Kd.C_drewN ?_ _) | (with_reducible refine Kd.C_drew ?_))); (case side2 => exact (Kd.R_reads' HO228.out).2.1); (case side3 => repeat (first | exact (Kd.C_below HR2.out HB.out) | (with_reducible refine Kd.C_alloc ?_ _) | (with_reducible refine Kd.C_drewN ?_ _) | (with_reducible refine Kd.C_drew ?_))); (case side4 => exact HC2.out); rintro e w' ⟨rfl, ⟨nd, rfl⟩⟩))
                            go_meet
                            case rel => exact ⟨_, (true), (by first | rfl | (simp; done) | (simp [*]; done)), H', ⟨by have := HJ5.out; have := HJ16.out; first | omega | exact Nat.le_refl _⟩, ⟨by (with_reducible repeat (first | apply Kd.R_alloc | apply Kd.R_drewN | apply Kd.R_drew)); exact Kd.R_mono HO_11.out (fun _ hk => trivial)⟩, ⟨by repeat (first | (with_reducible first | exact HB.out | apply below_alloc | apply pw_below_drewN | apply below_drew1) | exact HB.out)⟩⟩
                        · rw [if_neg c35] at H
                          have c35b0 : (t224 == a1) = false := beq_eq_false_iff_ne.mpr c35
                          have c35b1 : (t224 != a1) = true := bne_iff_ne.mpr c35
                          have H' := Aside0.mk H
                          clear H
                          go_wp2
                          go_meet
                          case rel => exact ⟨_, (true), (by first | rfl | (simp; done) | (simp [*]; done)), H', ⟨by have := HJ5.out; have := HJ16.out; first | omega | exact Nat.le_refl _⟩, ⟨by (with_reducible repeat (first | apply Kd.R_alloc | apply Kd.R_drewN | apply Kd.R_drew)); exact Kd.R_mono HO_11.out (fun _ hk => trivial)⟩, ⟨by repeat (first | (with_reducible first | exact HB.out | apply below_alloc | apply pw_below_drewN | apply below_drew1) | exact HB.out)⟩⟩
                      · rw [if_neg c34] at H
                        have c34b0 : (t223 == a0) = false := beq_eq_false_iff_ne.mpr c34
                        have c34b1 : (t223 != a0) = true := bne_iff_ne.mpr c34
                        have H' := Aside0.mk H
                        clear H
                        go_wp2
                        go_meet
                        case rel => exact ⟨_, (true), (by first | rfl | (simp; done) | (simp [*]; done)), H', ⟨by have := HJ5.out; have := HJ16.out; first | omega | exact Nat.le_refl _⟩, ⟨by (with_reducible repeat (first | apply Kd.R_alloc | apply Kd.R_drewN | apply Kd.R_drew)); exact Kd.R_mono HO_11.out (fun _ hk => trivial)⟩, ⟨by repeat (first | (with_reducible first | exact HB.out | apply below_alloc | apply pw_below_drewN | apply below_drew1) | exact HB.out)⟩⟩
                    · rw [if_neg c33] at H
                      have c33b0 : (t226 == 0) = false := beq_eq_false_iff_ne.mpr c33
                      have c33b1 : (t226 != 0) = true := bne_iff_ne.mpr c33
                      (first | rw [c33b0] | (simp only [i64_w, i32_w]; rw [c33b0]) | skip)
                      have H' := Aside0.mk H
                      clear H
                      go_wp2
                      go_meet
                      case rel => exact ⟨_, (true), (by first | rfl | (simp; done) | (simp [*]; done)), H', ⟨by have := HJ5.out; have := HJ16.out; first | omega | exact Nat.le_refl _⟩, ⟨by (with_reducible repeat (first | apply Kd.R_alloc | apply Kd.R_drewN | apply Kd.R_drew)); exact Kd.R_mono HO_11.out (fun _ hk => trivial)⟩, ⟨by repeat (first | (with_reducible first | exact HB.out | apply below_alloc | apply pw_below_drewN | apply below_drew1) | exact HB.out)⟩⟩
                  case rest =>
                    clear HC25
                    try clear c1
                    try clear c2
                    try clear p2
                    try clear c3
                    try clear c5
                    try clear p6
                    try clear c8
                    try clear c9
                    try clear c9b0
                    try clear c9b1
                    try clear c11
                    try clear c12
                    try clear c13
                    try clear c19
                    try clear c19b0
                    try clear c19b1
                    try clear c21
                    try clear c22
                    try clear c23
                    try clear c33
                    try clear c33b0
                    try clear c33b1
                    try clear c34
                    try clear c34b0
                    try clear c34b1
                    try clear c35
                    try clear c35b0
                    try clear c35b1
                    try clear c37
                    try clear p2
                    try clear p6
                    obtain ⟨kq, x85_24, rfl, HA, HJ24, HO_11, HB⟩ := hcut
                    cases kq with
                    | zero => exact absurd HA.out (by simp [marlinelaw13_CtlBack.j2])
                    | succ kj24 =>
                      have H := HA.out
                      clear HA
                      simp only [marlinelaw13_CtlBack.j2] at H
                      by_cases c41 : x85_24 = true
                      · subst c41
                        have H1 : (some false) = some r := by rw [if_pos rfl] at H; exact H
                        clear H
                        have H := H1
                        clear H1
                        obtain rfl := Option.some.inj H
                        go_wp2
                        go_ret
                        exact ⟨by first | rfl | (simp [errW_none, errW_some] <;> rfl) | (simp [*, errW_none, errW_some] <;> rfl), by repeat (first | (with_reducible first | exact HB.out | apply below_alloc | apply pw_below_drewN | apply below_drew1) | exact HB.out)⟩
                      · replace c41 := Bool.eq_false_iff.mpr c41
                        subst c41
                        have H1 : (if (t210.length : Int) = 0 then (none) else (if 0 ≤ (Int.tmod (wrap64 (a4)) (t210.length : Int)) then (if (Int.tmod (wrap64 (a4)) (t210.length : Int)) ≤ (t210.length : Int) then ((some (t210.take ((Int.tmod (wrap64 (a4)) (t210.length : Int)) : Int).toNat : List Int)).bind fun y231 => ((ctl_Get.f kj24 y231).bind fun bt235 => (if bt235.2.2.2 = 2 then (if (bt235.2.2.1.length : Int) = 0 then ((ctl_Pad.f kj24 y231).bind fun t241 => (some (t241 == 0))) else (some false)) else (some false)))) else (none)) else (none))) = some r := by rw [if_neg (show ¬ (false = true) by decide)] at H; exact H
                        clear H
                        have H := H1
                        clear H1
                        by_cases c42 : (t210.length : Int) = 0
                        · rw [if_pos c42] at H
                          exact absurd H (by simp)
                        · rw [if_neg c42] at H
                          have c42b0 : ((t210.length : Int) == 0) = false := beq_eq_false_iff_ne.mpr c42
                          have c42b1 : ((t210.length : Int) != 0) = true := bne_iff_ne.mpr c42
                          have c42b2 : ¬ (t210 = []) := fun h_ => c42 (by rw [h_]; rfl)
                          obtain ⟨ji43, hji43⟩ : ∃ j_ : Int, (Int.tmod (wrap64 (a4)) (t210.length : Int)) = j_ := ⟨_, rfl⟩
                          replace H : (if 0 ≤ (ji43) then (if (ji43) ≤ (t210.length : Int) then ((some (t210.take ((ji43) : Int).toNat : List Int)).bind fun y231 => ((ctl_Get.f kj24 y231).bind fun bt235 => (if bt235.2.2.2 = 2 then (if (bt235.2.2.1.length : Int) = 0 then ((ctl_Pad.f kj24 y231).bind fun t241 => (some (t241 == 0))) else (some false)) else (some false)))) else (none)) else (none)) = some r := by first | (rw [hji43] at H; exact H) | (simp only [hji43] at H ⊢; exact H)
                          by_cases c44 : 0 ≤ (ji43)
                          · rw [if_pos c44] at H
                            have c44b0 := eq_true c44
                            have c44b1 : decide (0 ≤ (ji43)) = true := decide_eq_true c44
                            clear c44
                            by_cases c45 : (ji43) ≤ (t210.length : Int)
                            · rw [if_pos c45] at H
                              have c45b0 := eq_true c45
                              have c45b1 : decide ((ji43) ≤ (t210.length : Int)) = true := decide_eq_true c45
                              clear c45
                              obtain ⟨y231, hy231⟩ : ∃ y_ : List Int, y_ = (t210.take ((ji43) : Int).toNat) := ⟨_, rfl⟩
                              replace H : ((ctl_Get.f kj24 y231).bind fun bt235 => (if bt235.2.2.2 = 2 then (if (bt235.2.2.1.length : Int) = 0 then ((ctl_Pad.f kj24 y231).bind fun t241 => (some (t241 == 0))) else (some false)) else (some false))) = some r := by first | (rw [hy231]; with_reducible exact H) | (have H2_ := (Option.bind_some _ _).symm.trans H; rw [hy231]; with_reducible exact H2_) | (have H2_ := (Option.bind_some _ _).symm.trans H; with_reducible exact H2_) | with_reducible exact H | (rw [hy231]; exact H) | exact H
                              have Ny231 := Aside0.mk hy231
                              clear hy231
                              replace H := Option.bind_eq_some_iff.mp H
                              obtain ⟨⟨t235, t236, t237, t238⟩, A460, H⟩ := H
                              replace H : (if t238 = 2 then (if (t237.length : Int) = 0 then ((ctl_Pad.f kj24 y231).bind fun t241 => (some (t241 == 0))) else (some false)) else (some false)) = some r := H
                              have A46 := Aside0.mk A460
                              clear A460
                              by_cases c47 : t238 = 2
                              · rw [if_pos c47] at H
                                have c47b0 : (t238 == 2) = true := beq_iff_eq.mpr c47
                                have c47b1 : (t238 != 2) = false := bne_eq_false_iff_eq.mpr c47
                                clear c47
                                by_cases c48 : (t237.length : Int) = 0
                                · rw [if_pos c48] at H
                                  have c48b0 : ((t237.length : Int) == 0) = true := beq_iff_eq.mpr c48
                                  have c48b1 : ((t237.length : Int) != 0) = false := bne_eq_false_iff_eq.mpr c48
                                  clear c48
                                  replace H := Option.bind_eq_some_iff.mp H
                                  obtain ⟨t241, A490, H⟩ := H
                                  replace H : (some (t241 == 0)) = some r := H
                                  have A49 := Aside0.mk A490
                                  clear A490
                                  obtain rfl := Option.some.inj H
                                  have q50 : ((ji43) : Int) ≤ ((t210.length : Int) : Int) := of_decide_eq_true (by first | (with_reducible assumption) | assumption)
                                  obtain ⟨i050, hi050, _, hsz50, _⟩ := info_parts info5
                                  have hroom50 : t210.length ≤ co29 := (Kd.R_reads' HO_11.out).2.1
                                  have hC50 : Kd.C (Kd.int .u8) _ Ao29 t210.length t210 := (Kd.R_reads' HO_11.out).2.2
                                  have hcut50 := cut_to (P := Try.prog) 22 5 .i64 Try.underlying22 hi050 Ao29 t210.length co29 (ji43) (of_decide_eq_true (by first | (with_reducible assumption) | assumption)) q50 hroom50
                                  have hr50 := Kd.C_take (m := ((ji43) : Int).toNat) hC50 (by omega)
                                  have hy50 : y231.length = ((ji43) : Int).toNat := (by rw [Ny231.out, List.length_take]; omega)
                                  rw [← Ny231.out] at hr50
                                  rw [← hy50] at hcut50
                                  have HR234 := Aside0.mk hr50
                                  have HC234 := Aside0.mk (show y231.length ≤ co29 from by omega)
                                  clear hr50 hC50 hroom50 hi050 hsz50
                                  have KY50 := Aside0.mk hy50
                                  clear hy50
                                  have KL50 := Aside0.mk (show ((ji43) : Int).toNat ≤ t210.length from by omega)
                                  replace q50 := eq_true q50
                                  go_wp2_with (first | ((with_reducible refine gate_callee (f := 12) rfl ?_); refine goesL_ (some 95) rfl rfl Try.func12 (by kernel_rfl) rfl #[.slice Ao29 y231.length co29] rfl (by (try simp only [List.map_toArray, List.map_cons, List.map_nil]); first | done | rfl | (simp only [List.length_drop, List.length_take]; rfl)) ?_; (with_reducible refine (ctl_Get.calls kj24 _ _ y231 t235 t236 t237 t238 _ ?side1 ?side2 A46.out).mono ?_); (case side1 => repeat (first | exact (by repeat (first | (with_reducible exact HR234.out) | (with_reducible refine Kd.C_alloc ?_ _) | (with_reducible refine Kd.C_drewN ?_ _) | (with_reducible refine Kd.C_drew ?_) | exact HR234.out)) | (with_reducible refine Kd.C_alloc ?_ _) | (with_reducible refine Kd.C_drewN ?_ _) | (with_reducible refine Kd.C_drew ?_))); (case side2 => exact HC234.out); rintro e w51 ⟨v239, rfl, ho0, hb⟩; refine ⟨_, rfl, ?_⟩; have n0_ := Aside0.mk (Kd.R_elder' (by (with_reducible repeat (first | apply Kd.R_alloc | apply Kd.R_drewN | apply Kd.R_drew)); exact HO_11.out) (Kd.R_base ho0) hb); have n1_ := Aside0.mk (Kd.R_lower (Kd.R_new' ho0 (Kd.R_lt (by (with_reducible repeat (first | apply Kd.R_alloc | apply Kd.R_drewN | apply Kd.R_drew)); exact HO_11.out))) (below_size (by repeat (first | (with_reducible first | exact HB.out | apply below_alloc | apply pw_below_drewN | apply below_drew1) | exact HB.out)))); have n2_ := Aside0.mk (Kd.C_below (by repeat (first | (with_reducible exact HR234.out) | (with_reducible refine Kd.C_alloc ?_ _) | (with_reducible refine Kd.C_drewN ?_ _) | (with_reducible refine Kd.C_drew ?_) | exact HR234.out)) hb); have n3_ := Aside0.mk (below_step (by repeat (first | (with_reducible first | exact HB.out | apply below_alloc | apply pw_below_drewN | apply below_drew1) | exact HB.out)) hb); clear HO_11; clear HR234; clear HB; have HO_11 := n0_; have HO240 := n1_; have HR234 := n2_; have HB := n3_; clear n0_ n1_ n2_ n3_; (try clear hb); (try clear hb2); (try clear hk); (try clear hi); (try clear ho0); obtain ⟨Ao52, co52, eo52⟩ := Kd.R_slice HO240.out; subst eo52) | (go_at_call 17; (with_reducible refine (ctl_Pad.calls kj24 _ _ y231 t241 _ ?side1 ?side2 A49.out).mono ?_); (case side1 => repeat (first | exact (by repeat (first | (with_reducible exact HR234.out) | (with_reducible refine Kd.C_alloc ?_ _) | (with_reducible refine Kd.C_drewN ?_ _) | (with_reducible refine Kd.C_drew ?_) | exact HR234.out)) | (with_reducible refine Kd.C_alloc ?_ _) | (with_reducible refine Kd.C_drewN ?_ _) | (with_reducible refine Kd.C_drew ?_))); (case side2 => exact HC234.out); rintro e w' ⟨rfl, ⟨nd, rfl⟩⟩))
                                  go_ret
                                  exact ⟨by first | rfl | (simp [errW_none, errW_some] <;> rfl) | (simp only [← hji43]; first | rfl | (simp [errW_none, errW_some] <;> rfl)) | (simp [*, errW_none, errW_some] <;> rfl), by repeat (first | (with_reducible first | exact HB.out | apply below_alloc | apply pw_below_drewN | apply below_drew1) | exact HB.out)⟩
                                · rw [if_neg c48] at H
                                  have c48b0 : ((t237.length : Int) == 0) = false := beq_eq_false_iff_ne.mpr c48
                                  have c48b1 : ((t237.length : Int) != 0) = true := bne_iff_ne.mpr c48
                                  have c48b2 : ¬ (t237 = []) := fun h_ => c48 (by rw [h_]; rfl)
                                  obtain rfl := Option.some.inj H
                                  have q53 : ((ji43) : Int) ≤ ((t210.length : Int) : Int) := of_decide_eq_true (by first | (with_reducible assumption) | assumption)
                                  obtain ⟨i053, hi053, _, hsz53, _⟩ := info_parts info5
                                  have hroom53 : t210.length ≤ co29 := (Kd.R_reads' HO_11.out).2.1
                                  have hC53 : Kd.C (Kd.int .u8) _ Ao29 t210.length t210 := (Kd.R_reads' HO_11.out).2.2
                                  have hcut53 := cut_to (P := Try.prog) 22 5 .i64 Try.underlying22 hi053 Ao29 t210.length co29 (ji43) (of_decide_eq_true (by first | (with_reducible assumption) | assumption)) q53 hroom53
                                  have hr53 := Kd.C_take (m := ((ji43) : Int).toNat) hC53 (by omega)
                                  have hy53 : y231.length = ((ji43) : Int).toNat := (by rw [Ny231.out, List.length_take]; omega)
                                  rw [← Ny231.out] at hr53
                                  rw [← hy53] at hcut53
                                  have HR234 := Aside0.mk hr53
                                  have HC234 := Aside0.mk (show y231.length ≤ co29 from by omega)
                                  clear hr53 hC53 hroom53 hi053 hsz53
                                  have KY53 := Aside0.mk hy53
                                  clear hy53
                                  have KL53 := Aside0.mk (show ((ji43) : Int).toNat ≤ t210.length from by omega)
                                  replace q53 := eq_true q53
                                  go_wp2_with (first | ((with_reducible refine gate_callee (f := 12) rfl ?_); refine goesL_ (some 95) rfl rfl Try.func12 (by kernel_rfl) rfl #[.slice Ao29 y231.length co29] rfl (by (try simp only [List.map_toArray, List.map_cons, List.map_nil]); first | done | rfl | (simp only [List.length_drop, List.length_take]; rfl)) ?_; (with_reducible refine (ctl_Get.calls kj24 _ _ y231 t235 t236 t237 t238 _ ?side1 ?side2 A46.out).mono ?_); (case side1 => repeat (first | exact (by repeat (first | (with_reducible exact HR234.out) | (with_reducible refine Kd.C_alloc ?_ _) | (with_reducible refine Kd.C_drewN ?_ _) | (with_reducible refine Kd.C_drew ?_) | exact HR234.out)) | (with_reducible refine Kd.C_alloc ?_ _) | (with_reducible refine Kd.C_drewN ?_ _) | (with_reducible refine Kd.C_drew ?_))); (case side2 => exact HC234.out); rintro e w54 ⟨v239, rfl, ho0, hb⟩; refine ⟨_, rfl, ?_⟩; have n0_ := Aside0.mk (Kd.R_elder' (by (with_reducible repeat (first | apply Kd.R_alloc | apply Kd.R_drewN | apply Kd.R_drew)); exact HO_11.out) (Kd.R_base ho0) hb); have n1_ := Aside0.mk (Kd.R_lower (Kd.R_new' ho0 (Kd.R_lt (by (with_reducible repeat (first | apply Kd.R_alloc | apply Kd.R_drewN | apply Kd.R_drew)); exact HO_11.out))) (below_size (by repeat (first | (with_reducible first | exact HB.out | apply below_alloc | apply pw_below_drewN | apply below_drew1) | exact HB.out)))); have n2_ := Aside0.mk (Kd.C_below (by repeat (first | (with_reducible exact HR234.out) | (with_reducible refine Kd.C_alloc ?_ _) | (with_reducible refine Kd.C_drewN ?_ _) | (with_reducible refine Kd.C_drew ?_) | exact HR234.out)) hb); have n3_ := Aside0.mk (below_step (by repeat (first | (with_reducible first | exact HB.out | apply below_alloc | apply pw_below_drewN | apply below_drew1) | exact HB.out)) hb); clear HO_11; clear HR234; clear HB; have HO_11 := n0_; have HO240 := n1_; have HR234 := n2_; have HB := n3_; clear n0_ n1_ n2_ n3_; (try clear hb); (try clear hb2); (try clear hk); (try clear hi); (try clear ho0); obtain ⟨Ao55, co55, eo55⟩ := Kd.R_slice HO240.out; subst eo55))
                                  go_ret
                                  exact ⟨by first | rfl | (simp [errW_none, errW_some] <;> rfl) | (simp only [← hji43]; first | rfl | (simp [errW_none, errW_some] <;> rfl)) | (simp [*, errW_none, errW_some] <;> rfl), by repeat (first | (with_reducible first | exact HB.out | apply below_alloc | apply pw_below_drewN | apply below_drew1) | exact HB.out)⟩
                              · rw [if_neg c47] at H
                                have c47b0 : (t238 == 2) = false := beq_eq_false_iff_ne.mpr c47
                                have c47b1 : (t238 != 2) = true := bne_iff_ne.mpr c47
                                obtain rfl := Option.some.inj H
                                have q56 : ((ji43) : Int) ≤ ((t210.length : Int) : Int) := of_decide_eq_true (by first | (with_reducible assumption) | assumption)
                                obtain ⟨i056, hi056, _, hsz56, _⟩ := info_parts info5
                                have hroom56 : t210.length ≤ co29 := (Kd.R_reads' HO_11.out).2.1
                                have hC56 : Kd.C (Kd.int .u8) _ Ao29 t210.length t210 := (Kd.R_reads' HO_11.out).2.2
                                have hcut56 := cut_to (P := Try.prog) 22 5 .i64 Try.underlying22 hi056 Ao29 t210.length co29 (ji43) (of_decide_eq_true (by first | (with_reducible assumption) | assumption)) q56 hroom56
                                have hr56 := Kd.C_take (m := ((ji43) : Int).toNat) hC56 (by omega)
                                have hy56 : y231.length = ((ji43) : Int).toNat := (by rw [Ny231.out, List.length_take]; omega)
                                rw [← Ny231.out] at hr56
                                rw [← hy56] at hcut56
                                have HR234 := Aside0.mk hr56
                                have HC234 := Aside0.mk (show y231.length ≤ co29 from by omega)
                                clear hr56 hC56 hroom56 hi056 hsz56
                                have KY56 := Aside0.mk hy56
                                clear hy56
                                have KL56 := Aside0.mk (show ((ji43) : Int).toNat ≤ t210.length from by omega)
                                replace q56 := eq_true q56
                                go_wp2_with (first | ((with_reducible refine gate_callee (f := 12) rfl ?_); refine goesL_ (some 95) rfl rfl Try.func12 (by kernel_rfl) rfl #[.slice Ao29 y231.length co29] rfl (by (try simp only [List.map_toArray, List.map_cons, List.map_nil]); first | done | rfl | (simp only [List.length_drop, List.length_take]; rfl)) ?_; (with_reducible refine (ctl_Get.calls kj24 _ _ y231 t235 t236 t237 t238 _ ?side1 ?side2 A46.out).mono ?_); (case side1 => repeat (first | exact (by repeat (first | (with_reducible exact HR234.out) | (with_reducible refine Kd.C_alloc ?_ _) | (with_reducible refine Kd.C_drewN ?_ _) | (with_reducible refine Kd.C_drew ?_) | exact HR234.out)) | (with_reducible refine Kd.C_alloc ?_ _) | (with_reducible refine Kd.C_drewN ?_ _) | (with_reducible refine Kd.C_drew ?_))); (case side2 => exact HC234.out); rintro e w57 ⟨v239, rfl, ho0, hb⟩; refine ⟨_, rfl, ?_⟩; have n0_ := Aside0.mk (Kd.R_elder' (by (with_reducible repeat (first | apply Kd.R_alloc | apply Kd.R_drewN | apply Kd.R_drew)); exact HO_11.out) (Kd.R_base ho0) hb); have n1_ := Aside0.mk (Kd.R_lower (Kd.R_new' ho0 (Kd.R_lt (by (with_reducible repeat (first | apply Kd.R_alloc | apply Kd.R_drewN | apply Kd.R_drew)); exact HO_11.out))) (below_size (by repeat (first | (with_reducible first | exact HB.out | apply below_alloc | apply pw_below_drewN | apply below_drew1) | exact HB.out)))); have n2_ := Aside0.mk (Kd.C_below (by repeat (first | (with_reducible exact HR234.out) | (with_reducible refine Kd.C_alloc ?_ _) | (with_reducible refine Kd.C_drewN ?_ _) | (with_reducible refine Kd.C_drew ?_) | exact HR234.out)) hb); have n3_ := Aside0.mk (below_step (by repeat (first | (with_reducible first | exact HB.out | apply below_alloc | apply pw_below_drewN | apply below_drew1) | exact HB.out)) hb); clear HO_11; clear HR234; clear HB; have HO_11 := n0_; have HO240 := n1_; have HR234 := n2_; have HB := n3_; clear n0_ n1_ n2_ n3_; (try clear hb); (try clear hb2); (try clear hk); (try clear hi); (try clear ho0)))
                                go_ret
                                exact ⟨by first | rfl | (simp [errW_none, errW_some] <;> rfl) | (simp only [← hji43]; first | rfl | (simp [errW_none, errW_some] <;> rfl)) | (simp [*, errW_none, errW_some] <;> rfl), by repeat (first | (with_reducible first | exact HB.out | apply below_alloc | apply pw_below_drewN | apply below_drew1) | exact HB.out)⟩
                            · rw [if_neg c45] at H
                              exact absurd H (by simp)
                          · rw [if_neg c44] at H
                            exact absurd H (by simp)
                · rw [if_neg c23] at H
                  exact absurd H (by simp)
              · rw [if_neg c22] at H
                exact absurd H (by simp)

/-- THE ONE PURE STATEMENT of marlinelaw13_CtlBack: yours. -/
def marlinelaw13_CtlBack.Pure : Prop := ∀ (a0 : Int) (a1 : Int) (l2 : List Int) (l3 : List Int) (a4 : Int), (Lit.int .u8 a0).wf = true → (Lit.int .u8 a1).wf = true → l2.length ≤ maxLen → l2.length * 1 ≤ 140737488351232 → (∀ x ∈ l2, (Lit.int .u8 x).wf = true) → l3.length ≤ maxLen → l3.length * 1 ≤ 140737488351232 → (∀ x ∈ l3, (Lit.int .u8 x).wf = true) → (Lit.int .u16 a4).wf = true → ∃ k, marlinelaw13_CtlBack.f k a0 a1 l2 l3 a4 = some true
theorem marlinelaw13_CtlBack.walk (P : marlinelaw13_CtlBack.Pure) (a0 : Int) (a1 : Int) (a2 : Option Addr) (len2 cap2 : Nat) (z2 : List Int) (a3 : Option Addr) (len3 cap3 : Nat) (z3 : List Int) (a4 : Int) (w : World) (w0 : (Lit.int .u8 a0).wf = true) (w1 : (Lit.int .u8 a1).wf = true) (w2 : (a2 = none ∧ len2 = 0 ∧ cap2 = 0 ∧ z2 = []) ∨ ∃ x, a2 = some x ∧ len2 ≤ cap2 ∧ cap2 ≤ maxLen ∧ z2.length = cap2 ∧ (∀ i, i < z2.length → w.cell? (x.add i) = some (.int .u8 (z2.getD i 0))) ∧ ∀ n ∈ z2, (Lit.int .u8 n).wf = true) (y2 : len2 * 1 ≤ 140737488351232) (w3 : (a3 = none ∧ len3 = 0 ∧ cap3 = 0 ∧ z3 = []) ∨ ∃ x, a3 = some x ∧ len3 ≤ cap3 ∧ cap3 ≤ maxLen ∧ z3.length = cap3 ∧ (∀ i, i < z3.length → w.cell? (x.add i) = some (.int .u8 (z3.getD i 0))) ∧ ∀ n ∈ z3, (Lit.int .u8 n).wf = true) (y3 : len3 * 1 ≤ 140737488351232) (w4 : (Lit.int .u16 a4).wf = true) :
    Calls Try.prog 5 #[.int .u8 a0, .int .u8 a1, .slice a2 len2 cap2, .slice a3 len3 cap3, .int .u16 a4] w fun e w' => e = .returned (.bool true) ∧ Below w.heap.size w w' := by
  obtain ⟨l2, rfl, hr2, hm2, hw2, hc2⟩ := ReadsInt.ofRowC w2
  obtain ⟨l3, rfl, hr3, hm3, hw3, hc3⟩ := ReadsInt.ofRowC w3
  obtain ⟨k, h⟩ := P a0 a1 l2 l3 a4 w0 w1 hm2 y2 hw2 hm3 y3 hw3 w4
  refine (marlinelaw13_CtlBack.calls k a0 a1 _ _ l2 _ _ l3 a4 true w (Kd.C_of_reads (d := (0 : Int)) (h1 := fun _ => rfl) hr2) hc2 (Kd.C_of_reads (d := (0 : Int)) (h1 := fun _ => rfl) hr3) hc3 h).mono ?_
  rintro e w' ⟨rfl, hd⟩
  exact ⟨rfl, hd⟩

end Go.Proofs.Ytppfoopecdmblaa.Print
