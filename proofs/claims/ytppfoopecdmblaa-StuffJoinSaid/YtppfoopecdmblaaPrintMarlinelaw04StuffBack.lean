/- A text that a program of this claim (wip/x) laid out of the translation: what Go functions come to, and that they come to it. Lean checks it. -/
import Derived.Test.YtppfoopecdmblaaPrint0
import Derived.Test.YtppfoopecdmblaaPrintAccmHas
import Derived.Test.YtppfoopecdmblaaPrintMarlinelaw04Speaks
import Derived.Test.YtppfoopecdmblaaPrintMarlineref01Equal
import Derived.Test.YtppfoopecdmblaaPrintStuffStuff
import Derived.Test.YtppfoopecdmblaaPrintStuffUnstuff
namespace Go.Proofs.Ytppfoopecdmblaa.Print
open Go.RowKit Go.Proofs.YtppfoopecdmblaaW.PrintWords Go.Proofs.YtppfoopecdmblaaW.PrintLast Go.Proofs.YtppfoopecdmblaaW.PrintMore
attribute [local go_sem] max2_int min2_int max_two min_two max_three min_three max_four min_four   -- for this text's walks alone
set_option linter.unusedVariables false
set_option linter.unusedSimpArgs false

/-! ### marlinelaw04_StuffBack: function 8 -/
mutual
def marlinelaw04_StuffBack.j0 : Nat → Int → Int → List Int → Bool → Option (Bool)
  | 0, _, _, _, _ => none
  | k + 1, x0, x1, x2, x20 => if x20 = true then ((marlinelaw04_speaks.f k).bind fun t202 => (some t202)) else ((stuff_Stuff.f k x0 x2).bind fun t203 => (marlinelaw04_StuffBack.l0 k x0 x1 x2 t203 t203 (t203.length : Int) 0))
def marlinelaw04_StuffBack.l0 : Nat → Int → Int → List Int → List Int → List Int → Int → Int → Option (Bool)
  | 0, _, _, _, _, _, _, _ => none
  | k + 1, x0, x1, x2, x7, x25, x26, x27 => if x27 < x26 then (if 0 ≤ x27 then (if x27 < (x25.length : Int) then (if (rd x25 x27) = 126 then (none) else ((accm_Has.f x0 (rd x25 x27)).bind fun t207 => (if t207 = true then (none) else (marlinelaw04_StuffBack.l0 k x0 x1 x2 x7 x25 x26 (wrap64 (x27 + 1)))))) else (none)) else (none)) else ((some (([x0, Go.bits .and .u32 x0 x1, 0] : List Int) : List Int)).bind fun y208 => (marlinelaw04_StuffBack.l1 k x2 x7 y208 (y208.length : Int) 0))
def marlinelaw04_StuffBack.l1 : Nat → List Int → List Int → List Int → Int → Int → Option (Bool)
  | 0, _, _, _, _, _ => none
  | k + 1, x2, x7, x43, x44, x45 => if x45 < x44 then (if 0 ≤ x45 then (if x45 < (x43.length : Int) then ((stuff_Unstuff.f k (rd x43 x45) x7).bind fun bt212 => (if bt212.2 = 0 then ((marlineref01_Equal.f k bt212.1 x2).bind fun t216 => (if t216 = true then (marlinelaw04_StuffBack.l1 k x2 x7 x43 x44 (wrap64 (x45 + 1))) else (none))) else (none))) else (none)) else (none)) else (if (x7.length : Int) ≥ (x2.length : Int) then (some (decide ((x7.length : Int) ≤ (wrap64 (2 * (x2.length : Int)))))) else (none))
end
def marlinelaw04_StuffBack.f (k : Nat) (a0 : Int) (a1 : Int) (l2 : List Int) : Option (Bool) := (marlinelaw04_speaks.f k).bind fun t201 => (if t201 = true then (marlinelaw04_StuffBack.j0 k a0 a1 l2 (decide ((l2.length : Int) > 400))) else (marlinelaw04_StuffBack.j0 k a0 a1 l2 true))
theorem marlinelaw04_StuffBack.mono_l : ∀ k, (∀ y0 y1 y2 y3, LeO (marlinelaw04_StuffBack.j0 k y0 y1 y2 y3) (marlinelaw04_StuffBack.j0 (k + 1) y0 y1 y2 y3)) ∧ (∀ y0 y1 y2 y3 y4 y5 y6, LeO (marlinelaw04_StuffBack.l0 k y0 y1 y2 y3 y4 y5 y6) (marlinelaw04_StuffBack.l0 (k + 1) y0 y1 y2 y3 y4 y5 y6)) ∧ (∀ y0 y1 y2 y3 y4, LeO (marlinelaw04_StuffBack.l1 k y0 y1 y2 y3 y4) (marlinelaw04_StuffBack.l1 (k + 1) y0 y1 y2 y3 y4))
  | 0 => ⟨fun _ _ _ _ r h => by simp [marlinelaw04_StuffBack.j0] at h, fun _ _ _ _ _ _ _ r h => by simp [marlinelaw04_StuffBack.l0] at h, fun _ _ _ _ _ r h => by simp [marlinelaw04_StuffBack.l1] at h⟩
  | k + 1 => by
    obtain ⟨ih0, ih1, ih2⟩ := marlinelaw04_StuffBack.mono_l k
    refine ⟨?_, ?_, ?_⟩
    · intro y0 y1 y2 y3
      unfold marlinelaw04_StuffBack.j0
      repeat' first
      | (with_reducible exact ih0 _ _ _ _)
      | (with_reducible exact ih1 _ _ _ _ _ _ _)
      | (with_reducible exact ih2 _ _ _ _ _)
      | (with_reducible exact marlinelaw04_speaks.mono _)
      | (with_reducible exact marlineref01_Equal.mono _ _ _)
      | (with_reducible exact stuff_Stuff.mono _ _ _)
      | (with_reducible exact stuff_Unstuff.mono _ _ _)
      | (with_reducible exact LeO.refl _)
      | (with_reducible exact LeO.none _)
      | (with_reducible refine LeO.ite ?_ ?_)
      | (with_reducible refine LeO.bind ?_ (fun _ => ?_))
      | exact ih0 _ _ _ _
      | exact ih1 _ _ _ _ _ _ _
      | exact ih2 _ _ _ _ _
      | exact marlinelaw04_speaks.mono _
      | exact marlineref01_Equal.mono _ _ _
      | exact stuff_Stuff.mono _ _ _
      | exact stuff_Unstuff.mono _ _ _
      | exact LeO.none _
      | refine LeO.ite ?_ ?_
      | refine LeO.bind ?_ (fun _ => ?_)
    · intro y0 y1 y2 y3 y4 y5 y6
      unfold marlinelaw04_StuffBack.l0
      repeat' first
      | (with_reducible exact ih0 _ _ _ _)
      | (with_reducible exact ih1 _ _ _ _ _ _ _)
      | (with_reducible exact ih2 _ _ _ _ _)
      | (with_reducible exact marlinelaw04_speaks.mono _)
      | (with_reducible exact marlineref01_Equal.mono _ _ _)
      | (with_reducible exact stuff_Stuff.mono _ _ _)
      | (with_reducible exact stuff_Unstuff.mono _ _ _)
      | (with_reducible exact LeO.refl _)
      | (with_reducible exact LeO.none _)
      | (with_reducible refine LeO.ite ?_ ?_)
      | (with_reducible refine LeO.bind ?_ (fun _ => ?_))
      | exact ih0 _ _ _ _
      | exact ih1 _ _ _ _ _ _ _
      | exact ih2 _ _ _ _ _
      | exact marlinelaw04_speaks.mono _
      | exact marlineref01_Equal.mono _ _ _
      | exact stuff_Stuff.mono _ _ _
      | exact stuff_Unstuff.mono _ _ _
      | exact LeO.none _
      | refine LeO.ite ?_ ?_
      | refine LeO.bind ?_ (fun _ => ?_)
    · intro y0 y1 y2 y3 y4
      unfold marlinelaw04_StuffBack.l1
      repeat' first
      | (with_reducible exact ih0 _ _ _ _)
      | (with_reducible exact ih1 _ _ _ _ _ _ _)
      | (with_reducible exact ih2 _ _ _ _ _)
      | (with_reducible exact marlinelaw04_speaks.mono _)
      | (with_reducible exact marlineref01_Equal.mono _ _ _)
      | (with_reducible exact stuff_Stuff.mono _ _ _)
      | (with_reducible exact stuff_Unstuff.mono _ _ _)
      | (with_reducible exact LeO.refl _)
      | (with_reducible exact LeO.none _)
      | (with_reducible refine LeO.ite ?_ ?_)
      | (with_reducible refine LeO.bind ?_ (fun _ => ?_))
      | exact ih0 _ _ _ _
      | exact ih1 _ _ _ _ _ _ _
      | exact ih2 _ _ _ _ _
      | exact marlinelaw04_speaks.mono _
      | exact marlineref01_Equal.mono _ _ _
      | exact stuff_Stuff.mono _ _ _
      | exact stuff_Unstuff.mono _ _ _
      | exact LeO.none _
      | refine LeO.ite ?_ ?_
      | refine LeO.bind ?_ (fun _ => ?_)
theorem marlinelaw04_StuffBack.mono : ∀ a0 a1 a2 k, LeO (marlinelaw04_StuffBack.f k a0 a1 a2) (marlinelaw04_StuffBack.f (k + 1) a0 a1 a2) := by
  intro a0 a1 a2 k
  obtain ⟨ih0, ih1, ih2⟩ := marlinelaw04_StuffBack.mono_l k
  unfold marlinelaw04_StuffBack.f
  repeat' first
      | (with_reducible exact ih0 _ _ _ _)
      | (with_reducible exact ih1 _ _ _ _ _ _ _)
      | (with_reducible exact ih2 _ _ _ _ _)
      | (with_reducible exact marlinelaw04_speaks.mono _)
      | (with_reducible exact marlineref01_Equal.mono _ _ _)
      | (with_reducible exact stuff_Stuff.mono _ _ _)
      | (with_reducible exact stuff_Unstuff.mono _ _ _)
      | (with_reducible exact LeO.refl _)
      | (with_reducible exact LeO.none _)
      | (with_reducible refine LeO.ite ?_ ?_)
      | (with_reducible refine LeO.bind ?_ (fun _ => ?_))
      | exact ih0 _ _ _ _
      | exact ih1 _ _ _ _ _ _ _
      | exact ih2 _ _ _ _ _
      | exact marlinelaw04_speaks.mono _
      | exact marlineref01_Equal.mono _ _ _
      | exact stuff_Stuff.mono _ _ _
      | exact stuff_Unstuff.mono _ _ _
      | exact LeO.none _
      | refine LeO.ite ?_ ?_
      | refine LeO.bind ?_ (fun _ => ?_)
set_option maxHeartbeats 8000000 in
set_option maxRecDepth 100000 in
theorem marlinelaw04_StuffBack.calls (k : Nat) (a0 : Int) (a1 : Int) (A2 : Option Addr) (c2 : Nat) (l2 : List Int) (r : Bool) (w : World) (hr2 : Kd.C (Kd.int .u8) w A2 l2.length l2) (hc2 : l2.length ≤ c2) (h : marlinelaw04_StuffBack.f k a0 a1 l2 = some r) :
    Calls Try.prog 8 #[.int .u32 a0, .int .u32 a1, .slice A2 l2.length c2] w fun e w' => e = .returned (.bool r) ∧ Below w.heap.size w w' := by
  have HR2 := Aside0.mk hr2
  have HC2 := Aside0.mk hc2
  clear hr2 hc2
  have HB := Aside0.mk (Below.refl w.heap.size w)
  have H : ((marlinelaw04_speaks.f k).bind fun t201 => (if t201 = true then (marlinelaw04_StuffBack.j0 k a0 a1 l2 (decide ((l2.length : Int) > 400))) else (marlinelaw04_StuffBack.j0 k a0 a1 l2 true))) = some r := h
  clear h
  have HC4 := Aside0.mk H
  clear H
  go_enter Try.func8, Try.ntmps8
  go_upto_region 1 with (fail)
  go_cut [20] (fun v20 wc => ∃ (kq : Nat) (x20_3 : Bool), v20 = .bool x20_3 ∧ Aside0 (marlinelaw04_StuffBack.j0 kq a0 a1 l2 x20_3 = some r) ∧ Aside0 (kq ≤ k) ∧ Aside0 (Below w.heap.size w wc))
  case first =>
    have H := HC4.out
    clear HC4
    replace H := Option.bind_eq_some_iff.mp H
    obtain ⟨t201, A50, H⟩ := H
    replace H : (if t201 = true then (marlinelaw04_StuffBack.j0 k a0 a1 l2 (decide ((l2.length : Int) > 400))) else (marlinelaw04_StuffBack.j0 k a0 a1 l2 true)) = some r := H
    have A5 := Aside0.mk A50
    clear A50
    by_cases c6 : t201 = true
    · subst c6
      have H1 : (marlinelaw04_StuffBack.j0 k a0 a1 l2 (decide ((l2.length : Int) > 400))) = some r := by rw [if_pos rfl] at H; exact H
      clear H
      have H := H1
      clear H1
      have H' := Aside0.mk H
      clear H
      go_wp2_with (first | ((with_reducible refine gate_callee (f := 18) rfl ?_); refine goesL_ (some 14) rfl rfl Try.func18 (by kernel_rfl) rfl #[] rfl (by (try simp only [List.map_toArray, List.map_cons, List.map_nil]); first | done | rfl | (simp only [List.length_drop, List.length_take]; rfl)) ?_; (with_reducible refine (marlinelaw04_speaks.calls k  true _ A5.out).mono ?_); rintro e w7 ⟨rfl, hb⟩; refine ⟨_, rfl, ?_⟩; have n0_ := Aside0.mk (below_step (by repeat (first | (with_reducible first | exact HB.out | apply below_alloc | apply pw_below_drewN | apply below_drew1) | exact HB.out)) hb); clear HB; have HB := n0_; clear n0_; (try clear hb); (try clear hb2); (try clear hk); (try clear hi)))
      go_meet
      case rel => exact ⟨_, (decide ((l2.length : Int) > 400)), (by first | rfl | (simp; done) | (simp [*]; done)), H', ⟨by first | omega | exact Nat.le_refl _⟩, ⟨by repeat (first | (with_reducible first | exact HB.out | apply below_alloc | apply pw_below_drewN | apply below_drew1) | exact HB.out)⟩⟩
    · replace c6 := Bool.eq_false_iff.mpr c6
      subst c6
      have H1 : (marlinelaw04_StuffBack.j0 k a0 a1 l2 true) = some r := by rw [if_neg (show ¬ (false = true) by decide)] at H; exact H
      clear H
      have H := H1
      clear H1
      have H' := Aside0.mk H
      clear H
      go_wp2_with (first | ((with_reducible refine gate_callee (f := 18) rfl ?_); refine goesL_ (some 14) rfl rfl Try.func18 (by kernel_rfl) rfl #[] rfl (by (try simp only [List.map_toArray, List.map_cons, List.map_nil]); first | done | rfl | (simp only [List.length_drop, List.length_take]; rfl)) ?_; (with_reducible refine (marlinelaw04_speaks.calls k  false _ A5.out).mono ?_); rintro e w8 ⟨rfl, hb⟩; refine ⟨_, rfl, ?_⟩; have n0_ := Aside0.mk (below_step (by repeat (first | (with_reducible first | exact HB.out | apply below_alloc | apply pw_below_drewN | apply below_drew1) | exact HB.out)) hb); clear HB; have HB := n0_; clear n0_; (try clear hb); (try clear hb2); (try clear hk); (try clear hi)))
      go_meet
      case rel => exact ⟨_, (true), (by first | rfl | (simp; done) | (simp [*]; done)), H', ⟨by first | omega | exact Nat.le_refl _⟩, ⟨by repeat (first | (with_reducible first | exact HB.out | apply below_alloc | apply pw_below_drewN | apply below_drew1) | exact HB.out)⟩⟩
  case rest =>
    clear HC4
    try clear c1
    try clear c2
    try clear p2
    try clear c6
    try clear c8
    obtain ⟨kq, x20_3, rfl, HA, HJ3, HB⟩ := hcut
    cases kq with
    | zero => exact absurd HA.out (by simp [marlinelaw04_StuffBack.j0])
    | succ kj3 =>
      have H := HA.out
      clear HA
      simp only [marlinelaw04_StuffBack.j0] at H
      by_cases c9 : x20_3 = true
      · subst c9
        have H1 : ((marlinelaw04_speaks.f kj3).bind fun t202 => (some t202)) = some r := by rw [if_pos rfl] at H; exact H
        clear H
        have H := H1
        clear H1
        replace H := Option.bind_eq_some_iff.mp H
        obtain ⟨t202, A100, H⟩ := H
        replace H : (some t202) = some r := H
        have A10 := Aside0.mk A100
        clear A100
        obtain rfl := Option.some.inj H
        go_wp2_with (first | ((with_reducible refine gate_callee (f := 18) rfl ?_); refine goesL_ (some 21) rfl rfl Try.func18 (by kernel_rfl) rfl #[] rfl (by (try simp only [List.map_toArray, List.map_cons, List.map_nil]); first | done | rfl | (simp only [List.length_drop, List.length_take]; rfl)) ?_; (with_reducible refine (marlinelaw04_speaks.calls kj3  t202 _ A10.out).mono ?_); rintro e w11 ⟨rfl, hb⟩; refine ⟨_, rfl, ?_⟩; have n0_ := Aside0.mk (below_step (by repeat (first | (with_reducible first | exact HB.out | apply below_alloc | apply pw_below_drewN | apply below_drew1) | exact HB.out)) hb); clear HB; have HB := n0_; clear n0_; (try clear hb); (try clear hb2); (try clear hk); (try clear hi)))
        go_ret
        exact ⟨by first | rfl | (simp [errW_none, errW_some] <;> rfl) | (simp [*, errW_none, errW_some] <;> rfl), by repeat (first | (with_reducible first | exact HB.out | apply below_alloc | apply pw_below_drewN | apply below_drew1) | exact HB.out)⟩
      · replace c9 := Bool.eq_false_iff.mpr c9
        subst c9
        have H1 : ((stuff_Stuff.f kj3 a0 l2).bind fun t203 => (marlinelaw04_StuffBack.l0 kj3 a0 a1 l2 t203 t203 (t203.length : Int) 0)) = some r := by rw [if_neg (show ¬ (false = true) by decide)] at H; exact H
        clear H
        have H := H1
        clear H1
        replace H := Option.bind_eq_some_iff.mp H
        obtain ⟨t203, A120, H⟩ := H
        replace H : (marlinelaw04_StuffBack.l0 kj3 a0 a1 l2 t203 t203 (t203.length : Int) 0) = some r := H
        have A12 := Aside0.mk A120
        clear A120
        have H' := Aside0.mk H
        clear H
        go_wp2_with (first | ((with_reducible refine gate_callee (f := 21) rfl ?_); refine goesL_ (some 24) rfl rfl Try.func21 (by kernel_rfl) rfl #[.int .u32 a0, .slice A2 l2.length c2] rfl (by (try simp only [List.map_toArray, List.map_cons, List.map_nil]); first | done | rfl | (simp only [List.length_drop, List.length_take]; rfl)) ?_; (with_reducible refine (stuff_Stuff.calls kj3 a0 _ _ l2 t203 _ ?side1 ?side2 A12.out).mono ?_); (case side1 => repeat (first | exact (Kd.C_below HR2.out HB.out) | (with_reducible refine Kd.C_alloc ?_ _) | (with_reducible refine Kd.C_drewN ?_ _) | (with_reducible refine Kd.C_drew ?_))); (case side2 => exact HC2.out); rintro e w13 ⟨v204, rfl, ho0, hb⟩; refine ⟨_, rfl, ?_⟩; have n0_ := Aside0.mk (Kd.R_lower ho0 (below_size (by repeat (first | (with_reducible first | exact HB.out | apply below_alloc | apply pw_below_drewN | apply below_drew1) | exact HB.out)))); have n1_ := Aside0.mk (below_step (by repeat (first | (with_reducible first | exact HB.out | apply below_alloc | apply pw_below_drewN | apply below_drew1) | exact HB.out)) hb); clear HB; have HO205 := n0_; have HB := n1_; clear n0_ n1_; (try clear hb); (try clear hb2); (try clear hk); (try clear hi); (try clear ho0); obtain ⟨Ao14, co14, eo14⟩ := Kd.R_slice HO205.out; subst eo14))
        go_loopg [27] kj3 (fun kq v27 w' => ∃ (x27_2 : Int), v27 = .int .i64 x27_2 ∧ Aside0 (marlinelaw04_StuffBack.l0 kq a0 a1 l2 t203 t203 (t203.length : Int) x27_2 = some r) ∧ Aside0 (kq ≤ kj3) ∧ Aside0 (Kd.R (Kd.int .u8) 5 w' w.heap.size (fun _ => True) (.slice Ao14 t203.length co14) t203) ∧ Aside0 (Kd.R (Kd.int .u8) 5 w' w.heap.size (fun _ => True) (.slice Ao14 t203.length co14) t203) ∧ Aside0 (Below w.heap.size w w'))
        case atStart => exact ⟨(0), (by first | rfl | (simp; done) | (simp [*]; done)), H', ⟨Nat.le_refl _⟩, ⟨by (with_reducible repeat (first | apply Kd.R_alloc | apply Kd.R_drewN | apply Kd.R_drew)); exact HO205.out⟩, ⟨by (with_reducible repeat (first | apply Kd.R_alloc | apply Kd.R_drewN | apply Kd.R_drew)); exact HO205.out⟩, ⟨by repeat (first | (with_reducible first | exact HB.out | apply below_alloc | apply pw_below_drewN | apply below_drew1) | exact HB.out)⟩⟩
        case round =>
          clear H'
          try clear c1
          try clear c2
          try clear p2
          try clear c6
          try clear c8
          try clear c9
          try clear p2
          obtain ⟨x27_2, rfl, HA, HK2, HO_7, HO_25, HB⟩ := hrel
          cases gk with
          | zero => exact absurd HA.out (by simp [marlinelaw04_StuffBack.l0])
          | succ k2 =>
            have H := HA.out
            clear HA
            simp only [marlinelaw04_StuffBack.l0] at H
            by_cases c15 : x27_2 < (t203.length : Int)
            · rw [if_pos c15] at H
              have c15b0 : decide (x27_2 < (t203.length : Int)) = true := decide_eq_true c15
              clear c15
              by_cases c16 : 0 ≤ x27_2
              · rw [if_pos c16] at H
                have c16b0 : decide (0 ≤ x27_2) = true := decide_eq_true c16
                clear c16
                by_cases c17 : x27_2 < (t203.length : Int)
                · rw [if_pos c17] at H
                  have c17b0 : decide (x27_2 < (t203.length : Int)) = true := decide_eq_true c17
                  clear c17
                  by_cases c18 : (rd t203 x27_2) = 126
                  · rw [if_pos c18] at H
                    exact absurd H (by simp)
                  · rw [if_neg c18] at H
                    have c18b0 : ((rd t203 x27_2) == 126) = false := beq_eq_false_iff_ne.mpr c18
                    have c18b1 : ((rd t203 x27_2) != 126) = true := bne_iff_ne.mpr c18
                    replace H := Option.bind_eq_some_iff.mp H
                    obtain ⟨t207, A190, H⟩ := H
                    replace H : (if t207 = true then (none) else (marlinelaw04_StuffBack.l0 k2 a0 a1 l2 t203 t203 (t203.length : Int) (wrap64 (x27_2 + 1)))) = some r := H
                    have A19 := Aside0.mk A190
                    clear A190
                    by_cases c20 : t207 = true
                    · subst c20
                      have H1 : (none) = some r := by rw [if_pos rfl] at H; exact H
                      clear H
                      have H := H1
                      clear H1
                      exact absurd H (by simp)
                    · replace c20 := Bool.eq_false_iff.mpr c20
                      subst c20
                      have H1 : (marlinelaw04_StuffBack.l0 k2 a0 a1 l2 t203 t203 (t203.length : Int) (wrap64 (x27_2 + 1))) = some r := by rw [if_neg (show ¬ (false = true) by decide)] at H; exact H
                      clear H
                      have H := H1
                      clear H1
                      have H' := Aside0.mk H
                      clear H
                      have p206 : 0 ≤ (x27_2 : Int) := of_decide_eq_true (by first | (with_reducible assumption) | assumption)
                      have q206 : x27_2 < (t203.length : Int) := of_decide_eq_true (by first | (with_reducible assumption) | assumption)
                      obtain ⟨ad206, e206, hx206_0⟩ := Kd.at_int (Kd.R_reads' HO_25.out).2.2 x27_2 p206 q206
                      cases e206
                      replace p206 := eq_true p206
                      replace q206 := eq_true q206
                      go_wp2_with (first | (go_at_call 24; (with_reducible refine (accm_Has.calls a0 (rd t203 x27_2) false _ A19.out).mono ?_); rintro e w' ⟨rfl, ⟨nd, rfl⟩⟩))
                      go_roundg k2
                      case measure => have := HJ3.out; have := HK2.out; omega
                      case rel => exact ⟨(wrap64 (x27_2 + 1)), (by first | rfl | (simp; done) | (simp [*]; done)), H', ⟨by have := HJ3.out; have := HK2.out; omega⟩, ⟨by (with_reducible repeat (first | apply Kd.R_alloc | apply Kd.R_drewN | apply Kd.R_drew)); exact HO_7.out⟩, ⟨by (with_reducible repeat (first | apply Kd.R_alloc | apply Kd.R_drewN | apply Kd.R_drew)); exact HO_25.out⟩, ⟨by repeat (first | (with_reducible first | exact HB.out | apply below_alloc | apply pw_below_drewN | apply below_drew1) | exact HB.out)⟩⟩
                · rw [if_neg c17] at H
                  exact absurd H (by simp)
              · rw [if_neg c16] at H
                exact absurd H (by simp)
            · rw [if_neg c15] at H
              have c15b0 : decide (x27_2 < (t203.length : Int)) = false := decide_eq_false c15
              clear c15
              obtain ⟨y208, hy208⟩ : ∃ y_ : List Int, y_ = (([a0, Go.bits .and .u32 a0 a1, 0] : List Int)) := ⟨_, rfl⟩
              replace H : (marlinelaw04_StuffBack.l1 k2 l2 t203 y208 (y208.length : Int) 0) = some r := by first | (rw [hy208]; with_reducible exact H) | (have H2_ := (Option.bind_some _ _).symm.trans H; rw [hy208]; with_reducible exact H2_) | (have H2_ := (Option.bind_some _ _).symm.trans H; with_reducible exact H2_) | with_reducible exact H | (rw [hy208]; exact H) | exact H
              have Ny208 := Aside0.mk hy208
              clear hy208
              have H' := Aside0.mk H
              clear H
              go_wp2_with (first | ((with_reducible refine gate_dst (N := 43) rfl ?_); (try (refine gate_guard (by rfl) ?_; dsimp only)); refine Kd.R_lit (Kd.int .u32) _ 39 ?hg (N := 43) ?hd (xs := ([a0, Go.bits .and .u32 a0 a1, 0] : List Int)) (inner := [.int .u32 a0, .int .u32 (Go.bits .and .u32 a0 a1), .int .u32 0]) (ok := fun _ => True) (okp := fun _ => True) ?hr ?hp (fun _ hk => hk) trivial (Below.refl _ _) (Nat.le_refl _) (by simp) ?_; (case hd => rfl); (case hg => rfl); (case hr => first | (go_simp; done) | (go_simp; simp only [IntKind.wrap_u8, IntKind.wrap_u16, IntKind.wrap_u32, IntKind.wrap_u64]; done) | (go_simp; rfl)); (case hp => exact (Reps.one (show Kd.M (Kd.int .u32) _ _ _ a0 [.int .u32 a0] from rfl) (Reps.one (show Kd.M (Kd.int .u32) _ _ _ (Go.bits .and .u32 a0 a1) [.int .u32 (Go.bits .and .u32 a0 a1)] from rfl) (Reps.one (show Kd.M (Kd.int .u32) _ _ _ 0 [.int .u32 0] from rfl) (Reps.none _ _))))); intro v209 w21 ho22 hb hg_ hnew_; clear hg_ hnew_; (first | rw [← Ny208.out] at ho22 | (simp only [Int.reduceToNat] at ho22; rw [← Ny208.out] at ho22)); have n0_ := Aside0.mk (Kd.R_below (by (with_reducible repeat (first | apply Kd.R_alloc | apply Kd.R_drewN | apply Kd.R_drew)); exact HO_7.out) hb); have n1_ := Aside0.mk (Kd.R_below (by (with_reducible repeat (first | apply Kd.R_alloc | apply Kd.R_drewN | apply Kd.R_drew)); exact HO_25.out) hb); have n2_ := Aside0.mk (Kd.R_lower ho22 (below_size (by repeat (first | (with_reducible first | exact HB.out | apply below_alloc | apply pw_below_drewN | apply below_drew1) | exact HB.out)))); have n3_ := Aside0.mk (below_step (by repeat (first | (with_reducible first | exact HB.out | apply below_alloc | apply pw_below_drewN | apply below_drew1) | exact HB.out)) hb); clear HO_7; clear HO_25; clear HB; have HO_7 := n0_; have HO_25 := n1_; have HO210 := n2_; have HB := n3_; clear n0_ n1_ n2_ n3_; clear hb ho22; obtain ⟨Ao23, co23, eo23⟩ := Kd.R_slice HO210.out; subst eo23))
              go_loopg [45] k2 (fun kq v45 w' => ∃ (x45_3 : Int), v45 = .int .i64 x45_3 ∧ Aside0 (marlinelaw04_StuffBack.l1 kq l2 t203 y208 (y208.length : Int) x45_3 = some r) ∧ Aside0 (kq ≤ k2) ∧ Aside0 (Kd.R (Kd.int .u8) 5 w' w.heap.size (fun _ => True) (.slice Ao14 t203.length co14) t203) ∧ Aside0 (Kd.R (Kd.int .u32) 39 w' w.heap.size (fun _ => True) (.slice Ao23 y208.length co23) y208) ∧ Aside0 (Below w.heap.size w w'))
              case atStart => exact ⟨(0), (by first | rfl | (simp; done) | (simp [*]; done)), H', ⟨Nat.le_refl _⟩, ⟨by (with_reducible repeat (first | apply Kd.R_alloc | apply Kd.R_drewN | apply Kd.R_drew)); exact HO_7.out⟩, ⟨by (with_reducible repeat (first | apply Kd.R_alloc | apply Kd.R_drewN | apply Kd.R_drew)); exact HO210.out⟩, ⟨by repeat (first | (with_reducible first | exact HB.out | apply below_alloc | apply pw_below_drewN | apply below_drew1) | exact HB.out)⟩⟩
              case round =>
                clear H'
                try clear c1
                try clear c2
                try clear p2
                try clear q2
                try clear hx2
                try clear c6
                try clear p6
                try clear c8
                try clear c9
                try clear c15
                try clear c15b0
                try clear c16
                try clear c16b0
                try clear c17
                try clear c17b0
                try clear c18
                try clear c18b0
                try clear c18b1
                try clear c20
                try clear p20
                try clear q20
                try clear hx20
                try clear c21
                try clear hx206_0
                try clear p2
                try clear p206
                try clear q206
                obtain ⟨x45_3, rfl, HA, HK3, HO_7, HO_43, HB⟩ := hrel
                cases gk with
                | zero => exact absurd HA.out (by simp [marlinelaw04_StuffBack.l1])
                | succ k3 =>
                  have H := HA.out
                  clear HA
                  simp only [marlinelaw04_StuffBack.l1] at H
                  by_cases c24 : x45_3 < (y208.length : Int)
                  · rw [if_pos c24] at H
                    have c24b0 : decide (x45_3 < (y208.length : Int)) = true := decide_eq_true c24
                    clear c24
                    by_cases c25 : 0 ≤ x45_3
                    · rw [if_pos c25] at H
                      have c25b0 : decide (0 ≤ x45_3) = true := decide_eq_true c25
                      clear c25
                      by_cases c26 : x45_3 < (y208.length : Int)
                      · rw [if_pos c26] at H
                        have c26b0 : decide (x45_3 < (y208.length : Int)) = true := decide_eq_true c26
                        clear c26
                        replace H := Option.bind_eq_some_iff.mp H
                        obtain ⟨⟨t212, t213⟩, A270, H⟩ := H
                        replace H : (if t213 = 0 then ((marlineref01_Equal.f k3 t212 l2).bind fun t216 => (if t216 = true then (marlinelaw04_StuffBack.l1 k3 l2 t203 y208 (y208.length : Int) (wrap64 (x45_3 + 1))) else (none))) else (none)) = some r := H
                        have A27 := Aside0.mk A270
                        clear A270
                        by_cases c28 : t213 = 0
                        · rw [if_pos c28] at H
                          have c28b0 : (t213 == 0) = true := beq_iff_eq.mpr c28
                          have c28b1 : (t213 != 0) = false := bne_eq_false_iff_eq.mpr c28
                          clear c28
                          replace H := Option.bind_eq_some_iff.mp H
                          obtain ⟨t216, A290, H⟩ := H
                          replace H : (if t216 = true then (marlinelaw04_StuffBack.l1 k3 l2 t203 y208 (y208.length : Int) (wrap64 (x45_3 + 1))) else (none)) = some r := H
                          have A29 := Aside0.mk A290
                          clear A290
                          by_cases c30 : t216 = true
                          · subst c30
                            have H1 : (marlinelaw04_StuffBack.l1 k3 l2 t203 y208 (y208.length : Int) (wrap64 (x45_3 + 1))) = some r := by rw [if_pos rfl] at H; exact H
                            clear H
                            have H := H1
                            clear H1
                            have H' := Aside0.mk H
                            clear H
                            have p211 : 0 ≤ (x45_3 : Int) := of_decide_eq_true (by first | (with_reducible assumption) | assumption)
                            have q211 : x45_3 < (y208.length : Int) := of_decide_eq_true (by first | (with_reducible assumption) | assumption)
                            obtain ⟨ad211, e211, hx211_0⟩ := Kd.at_int (Kd.R_reads' HO_43.out).2.2 x45_3 p211 q211
                            cases e211
                            replace p211 := eq_true p211
                            replace q211 := eq_true q211
                            go_wp2_with (first | ((with_reducible refine gate_callee (f := 19) rfl ?_); refine goesL_ (some 52) rfl rfl Try.func19 (by kernel_rfl) rfl #[.int .u32 (rd y208 x45_3), .slice Ao14 t203.length co14] rfl (by (try simp only [List.map_toArray, List.map_cons, List.map_nil]); first | done | rfl | (simp only [List.length_drop, List.length_take]; rfl)) ?_; (with_reducible refine (stuff_Unstuff.calls k3 (rd y208 x45_3) _ _ t203 t212 t213 _ ?side1 ?side2 A27.out).mono ?_); (case side1 => repeat (first | exact (Kd.R_reads' HO_7.out).2.2 | (with_reducible refine Kd.C_alloc ?_ _) | (with_reducible refine Kd.C_drewN ?_ _) | (with_reducible refine Kd.C_drew ?_))); (case side2 => exact (Kd.R_reads' HO_7.out).2.1); rintro e w31 ⟨v214, rfl, ho0, hb⟩; refine ⟨_, rfl, ?_⟩; have n0_ := Aside0.mk (Kd.R_below (by (with_reducible repeat (first | apply Kd.R_alloc | apply Kd.R_drewN | apply Kd.R_drew)); exact HO_7.out) hb); have n1_ := Aside0.mk (Kd.R_below (by (with_reducible repeat (first | apply Kd.R_alloc | apply Kd.R_drewN | apply Kd.R_drew)); exact HO_43.out) hb); have n2_ := Aside0.mk (Kd.R_lower ho0 (below_size (by repeat (first | (with_reducible first | exact HB.out | apply below_alloc | apply pw_below_drewN | apply below_drew1) | exact HB.out)))); have n3_ := Aside0.mk (below_step (by repeat (first | (with_reducible first | exact HB.out | apply below_alloc | apply pw_below_drewN | apply below_drew1) | exact HB.out)) hb); clear HO_7; clear HO_43; clear HB; have HO_7 := n0_; have HO_43 := n1_; have HO215 := n2_; have HB := n3_; clear n0_ n1_ n2_ n3_; (try clear hb); (try clear hb2); (try clear hk); (try clear hi); (try clear ho0); obtain ⟨Ao32, co32, eo32⟩ := Kd.R_slice HO215.out; subst eo32) | (go_at_call 16; (with_reducible refine (marlineref01_Equal.calls k3 _ _ t212 _ _ l2 true _ ?side1 ?side2 ?side3 ?side4 A29.out).mono ?_); (case side1 => repeat (first | exact (Kd.R_reads' HO215.out).2.2 | (with_reducible refine Kd.C_alloc ?_ _) | (with_reducible refine Kd.C_drewN ?_ _) | (with_reducible refine Kd.C_drew ?_))); (case side2 => exact (Kd.R_reads' HO215.out).2.1); (case side3 => repeat (first | exact (Kd.C_below HR2.out HB.out) | (with_reducible refine Kd.C_alloc ?_ _) | (with_reducible refine Kd.C_drewN ?_ _) | (with_reducible refine Kd.C_drew ?_))); (case side4 => exact HC2.out); rintro e w' ⟨rfl, ⟨nd, rfl⟩⟩))
                            go_roundg k3
                            case measure => have := HJ3.out; have := HK2.out; have := HK3.out; omega
                            case rel => exact ⟨(wrap64 (x45_3 + 1)), (by first | rfl | (simp; done) | (simp [*]; done)), H', ⟨by have := HJ3.out; have := HK2.out; have := HK3.out; omega⟩, ⟨by (with_reducible repeat (first | apply Kd.R_alloc | apply Kd.R_drewN | apply Kd.R_drew)); exact HO_7.out⟩, ⟨by (with_reducible repeat (first | apply Kd.R_alloc | apply Kd.R_drewN | apply Kd.R_drew)); exact HO_43.out⟩, ⟨by repeat (first | (with_reducible first | exact HB.out | apply below_alloc | apply pw_below_drewN | apply below_drew1) | exact HB.out)⟩⟩
                          · replace c30 := Bool.eq_false_iff.mpr c30
                            subst c30
                            have H1 : (none) = some r := by rw [if_neg (show ¬ (false = true) by decide)] at H; exact H
                            clear H
                            have H := H1
                            clear H1
                            exact absurd H (by simp)
                        · rw [if_neg c28] at H
                          exact absurd H (by simp)
                      · rw [if_neg c26] at H
                        exact absurd H (by simp)
                    · rw [if_neg c25] at H
                      exact absurd H (by simp)
                  · rw [if_neg c24] at H
                    have c24b0 : decide (x45_3 < (y208.length : Int)) = false := decide_eq_false c24
                    clear c24
                    by_cases c33 : (t203.length : Int) ≥ (l2.length : Int)
                    · rw [if_pos c33] at H
                      have c33b0 : decide ((l2.length : Int) ≤ (t203.length : Int)) = true := decide_eq_true c33
                      have c33b1 : decide (l2.length ≤ t203.length) = true := decide_eq_true (Int.ofNat_le.mp c33)
                      clear c33
                      obtain rfl := Option.some.inj H
                      go_wp2
                      go_ret
                      exact ⟨by first | rfl | (simp [errW_none, errW_some] <;> rfl) | (simp [*, errW_none, errW_some] <;> rfl), by repeat (first | (with_reducible first | exact HB.out | apply below_alloc | apply pw_below_drewN | apply below_drew1) | exact HB.out)⟩
                    · rw [if_neg c33] at H
                      exact absurd H (by simp)

/-- THE ONE PURE STATEMENT of marlinelaw04_StuffBack: yours. -/
def marlinelaw04_StuffBack.Pure : Prop := ∀ (a0 : Int) (a1 : Int) (l2 : List Int), (Lit.int .u32 a0).wf = true → (Lit.int .u32 a1).wf = true → l2.length ≤ maxLen → l2.length * 1 ≤ 140737488351232 → (∀ x ∈ l2, (Lit.int .u8 x).wf = true) → ∃ k, marlinelaw04_StuffBack.f k a0 a1 l2 = some true
theorem marlinelaw04_StuffBack.walk (P : marlinelaw04_StuffBack.Pure) (a0 : Int) (a1 : Int) (a2 : Option Addr) (len2 cap2 : Nat) (z2 : List Int) (w : World) (w0 : (Lit.int .u32 a0).wf = true) (w1 : (Lit.int .u32 a1).wf = true) (w2 : (a2 = none ∧ len2 = 0 ∧ cap2 = 0 ∧ z2 = []) ∨ ∃ x, a2 = some x ∧ len2 ≤ cap2 ∧ cap2 ≤ maxLen ∧ z2.length = cap2 ∧ (∀ i, i < z2.length → w.cell? (x.add i) = some (.int .u8 (z2.getD i 0))) ∧ ∀ n ∈ z2, (Lit.int .u8 n).wf = true) (y2 : len2 * 1 ≤ 140737488351232) :
    Calls Try.prog 8 #[.int .u32 a0, .int .u32 a1, .slice a2 len2 cap2] w fun e w' => e = .returned (.bool true) ∧ Below w.heap.size w w' := by
  obtain ⟨l2, rfl, hr2, hm2, hw2, hc2⟩ := ReadsInt.ofRowC w2
  obtain ⟨k, h⟩ := P a0 a1 l2 w0 w1 hm2 y2 hw2
  refine (marlinelaw04_StuffBack.calls k a0 a1 _ _ l2 true w (Kd.C_of_reads (d := (0 : Int)) (h1 := fun _ => rfl) hr2) hc2 h).mono ?_
  rintro e w' ⟨rfl, hd⟩
  exact ⟨rfl, hd⟩

end Go.Proofs.Ytppfoopecdmblaa.Print
