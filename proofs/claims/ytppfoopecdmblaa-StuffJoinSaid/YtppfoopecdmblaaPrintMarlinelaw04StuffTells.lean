/- A text that a program of this claim (wip/x) laid out of the translation: what Go functions come to, and that they come to it. Lean checks it. -/
import Derived.Test.YtppfoopecdmblaaPrint0
import Derived.Test.YtppfoopecdmblaaPrintMarlinelaw04Speaks
import Derived.Test.YtppfoopecdmblaaPrintMarlineref01Equal
import Derived.Test.YtppfoopecdmblaaPrintMarlineref04Stuff
import Derived.Test.YtppfoopecdmblaaPrintMarlineref04Unstuff
import Derived.Test.YtppfoopecdmblaaPrintStuffSize
import Derived.Test.YtppfoopecdmblaaPrintStuffStuff
import Derived.Test.YtppfoopecdmblaaPrintStuffUnstuff
namespace Go.Proofs.Ytppfoopecdmblaa.Print
open Go.RowKit Go.Proofs.YtppfoopecdmblaaW.PrintWords Go.Proofs.YtppfoopecdmblaaW.PrintLast Go.Proofs.YtppfoopecdmblaaW.PrintMore
attribute [local go_sem] max2_int min2_int max_two min_two max_three min_three max_four min_four   -- for this text's walks alone
set_option linter.unusedVariables false
set_option linter.unusedSimpArgs false

/-! ### marlinelaw04_StuffTells: function 7 -/
def marlinelaw04_StuffTells.j0 : Nat → Int → List Int → Bool → Option (Bool)
  | 0, _, _, _ => none
  | k + 1, x0, x1, x15 => if x15 = true then ((marlinelaw04_speaks.f k).bind fun t180 => (some t180)) else ((stuff_Unstuff.f k x0 x1).bind fun bt181 => ((marlineref04_Unstuff.f k x0 x1).bind fun bt185 => ((stuff_Stuff.f k x0 x1).bind fun t189 => ((marlineref04_Stuff.f k x0 x1).bind fun t192 => ((marlineref01_Equal.f k t189 t192).bind fun t195 => (if t195 = true then ((stuff_Size.f k x0 x1).bind fun t196 => ((marlineref04_Stuff.f k x0 x1).bind fun t197 => (if t196 = (t197.length : Int) then (if bt181.2 = bt185.2 then ((marlineref01_Equal.f k bt181.1 bt185.1).bind fun t200 => (some t200)) else (none)) else (none)))) else (none)))))))
def marlinelaw04_StuffTells.f (k : Nat) (a0 : Int) (l1 : List Int) : Option (Bool) := (marlinelaw04_speaks.f k).bind fun t179 => (if t179 = true then (marlinelaw04_StuffTells.j0 k a0 l1 (decide ((l1.length : Int) > 400))) else (marlinelaw04_StuffTells.j0 k a0 l1 true))
theorem marlinelaw04_StuffTells.mono_l : ∀ k, (∀ y0 y1 y2, LeO (marlinelaw04_StuffTells.j0 k y0 y1 y2) (marlinelaw04_StuffTells.j0 (k + 1) y0 y1 y2))
  | 0 => fun _ _ _ r h => by simp [marlinelaw04_StuffTells.j0] at h
  | k + 1 => by
    have ih0 := marlinelaw04_StuffTells.mono_l k
    · intro y0 y1 y2
      unfold marlinelaw04_StuffTells.j0
      repeat' first
      | (with_reducible exact ih0 _ _ _)
      | (with_reducible exact marlinelaw04_speaks.mono _)
      | (with_reducible exact marlineref01_Equal.mono _ _ _)
      | (with_reducible exact marlineref04_Stuff.mono _ _ _)
      | (with_reducible exact marlineref04_Unstuff.mono _ _ _)
      | (with_reducible exact stuff_Size.mono _ _ _)
      | (with_reducible exact stuff_Stuff.mono _ _ _)
      | (with_reducible exact stuff_Unstuff.mono _ _ _)
      | (with_reducible exact LeO.refl _)
      | (with_reducible exact LeO.none _)
      | (with_reducible refine LeO.ite ?_ ?_)
      | (with_reducible refine LeO.bind ?_ (fun _ => ?_))
      | exact ih0 _ _ _
      | exact marlinelaw04_speaks.mono _
      | exact marlineref01_Equal.mono _ _ _
      | exact marlineref04_Stuff.mono _ _ _
      | exact marlineref04_Unstuff.mono _ _ _
      | exact stuff_Size.mono _ _ _
      | exact stuff_Stuff.mono _ _ _
      | exact stuff_Unstuff.mono _ _ _
      | exact LeO.none _
      | refine LeO.ite ?_ ?_
      | refine LeO.bind ?_ (fun _ => ?_)
theorem marlinelaw04_StuffTells.mono : ∀ a0 a1 k, LeO (marlinelaw04_StuffTells.f k a0 a1) (marlinelaw04_StuffTells.f (k + 1) a0 a1) := by
  intro a0 a1 k
  have ih0 := marlinelaw04_StuffTells.mono_l k
  unfold marlinelaw04_StuffTells.f
  repeat' first
      | (with_reducible exact ih0 _ _ _)
      | (with_reducible exact marlinelaw04_speaks.mono _)
      | (with_reducible exact marlineref01_Equal.mono _ _ _)
      | (with_reducible exact marlineref04_Stuff.mono _ _ _)
      | (with_reducible exact marlineref04_Unstuff.mono _ _ _)
      | (with_reducible exact stuff_Size.mono _ _ _)
      | (with_reducible exact stuff_Stuff.mono _ _ _)
      | (with_reducible exact stuff_Unstuff.mono _ _ _)
      | (with_reducible exact LeO.refl _)
      | (with_reducible exact LeO.none _)
      | (with_reducible refine LeO.ite ?_ ?_)
      | (with_reducible refine LeO.bind ?_ (fun _ => ?_))
      | exact ih0 _ _ _
      | exact marlinelaw04_speaks.mono _
      | exact marlineref01_Equal.mono _ _ _
      | exact marlineref04_Stuff.mono _ _ _
      | exact marlineref04_Unstuff.mono _ _ _
      | exact stuff_Size.mono _ _ _
      | exact stuff_Stuff.mono _ _ _
      | exact stuff_Unstuff.mono _ _ _
      | exact LeO.none _
      | refine LeO.ite ?_ ?_
      | refine LeO.bind ?_ (fun _ => ?_)
set_option maxHeartbeats 8000000 in
set_option maxRecDepth 100000 in
theorem marlinelaw04_StuffTells.calls (k : Nat) (a0 : Int) (A1 : Option Addr) (c1 : Nat) (l1 : List Int) (r : Bool) (w : World) (hr1 : Kd.C (Kd.int .u8) w A1 l1.length l1) (hc1 : l1.length ≤ c1) (h : marlinelaw04_StuffTells.f k a0 l1 = some r) :
    Calls Try.prog 7 #[.int .u32 a0, .slice A1 l1.length c1] w fun e w' => e = .returned (.bool r) ∧ Below w.heap.size w w' := by
  have HR1 := Aside0.mk hr1
  have HC1 := Aside0.mk hc1
  clear hr1 hc1
  have HB := Aside0.mk (Below.refl w.heap.size w)
  have H : ((marlinelaw04_speaks.f k).bind fun t179 => (if t179 = true then (marlinelaw04_StuffTells.j0 k a0 l1 (decide ((l1.length : Int) > 400))) else (marlinelaw04_StuffTells.j0 k a0 l1 true))) = some r := h
  clear h
  have HC3 := Aside0.mk H
  clear H
  go_enter Try.func7, Try.ntmps7
  go_upto_region 1 with (fail)
  go_cut [15] (fun v15 wc => ∃ (kq : Nat) (x15_2 : Bool), v15 = .bool x15_2 ∧ Aside0 (marlinelaw04_StuffTells.j0 kq a0 l1 x15_2 = some r) ∧ Aside0 (kq ≤ k) ∧ Aside0 (Below w.heap.size w wc))
  case first =>
    have H := HC3.out
    clear HC3
    replace H := Option.bind_eq_some_iff.mp H
    obtain ⟨t179, A40, H⟩ := H
    replace H : (if t179 = true then (marlinelaw04_StuffTells.j0 k a0 l1 (decide ((l1.length : Int) > 400))) else (marlinelaw04_StuffTells.j0 k a0 l1 true)) = some r := H
    have A4 := Aside0.mk A40
    clear A40
    by_cases c5 : t179 = true
    · subst c5
      have H1 : (marlinelaw04_StuffTells.j0 k a0 l1 (decide ((l1.length : Int) > 400))) = some r := by rw [if_pos rfl] at H; exact H
      clear H
      have H := H1
      clear H1
      have H' := Aside0.mk H
      clear H
      go_wp2_with (first | ((with_reducible refine gate_callee (f := 18) rfl ?_); refine goesL_ (some 9) rfl rfl Try.func18 (by kernel_rfl) rfl #[] rfl (by (try simp only [List.map_toArray, List.map_cons, List.map_nil]); first | done | rfl | (simp only [List.length_drop, List.length_take]; rfl)) ?_; (with_reducible refine (marlinelaw04_speaks.calls k  true _ A4.out).mono ?_); rintro e w6 ⟨rfl, hb⟩; refine ⟨_, rfl, ?_⟩; have n0_ := Aside0.mk (below_step (by repeat (first | (with_reducible first | exact HB.out | apply below_alloc | apply pw_below_drewN | apply below_drew1) | exact HB.out)) hb); clear HB; have HB := n0_; clear n0_; (try clear hb); (try clear hb2); (try clear hk); (try clear hi)))
      go_meet
      case rel => exact ⟨_, (decide ((l1.length : Int) > 400)), (by first | rfl | (simp; done) | (simp [*]; done)), H', ⟨by first | omega | exact Nat.le_refl _⟩, ⟨by repeat (first | (with_reducible first | exact HB.out | apply below_alloc | apply pw_below_drewN | apply below_drew1) | exact HB.out)⟩⟩
    · replace c5 := Bool.eq_false_iff.mpr c5
      subst c5
      have H1 : (marlinelaw04_StuffTells.j0 k a0 l1 true) = some r := by rw [if_neg (show ¬ (false = true) by decide)] at H; exact H
      clear H
      have H := H1
      clear H1
      have H' := Aside0.mk H
      clear H
      go_wp2_with (first | ((with_reducible refine gate_callee (f := 18) rfl ?_); refine goesL_ (some 9) rfl rfl Try.func18 (by kernel_rfl) rfl #[] rfl (by (try simp only [List.map_toArray, List.map_cons, List.map_nil]); first | done | rfl | (simp only [List.length_drop, List.length_take]; rfl)) ?_; (with_reducible refine (marlinelaw04_speaks.calls k  false _ A4.out).mono ?_); rintro e w7 ⟨rfl, hb⟩; refine ⟨_, rfl, ?_⟩; have n0_ := Aside0.mk (below_step (by repeat (first | (with_reducible first | exact HB.out | apply below_alloc | apply pw_below_drewN | apply below_drew1) | exact HB.out)) hb); clear HB; have HB := n0_; clear n0_; (try clear hb); (try clear hb2); (try clear hk); (try clear hi)))
      go_meet
      case rel => exact ⟨_, (true), (by first | rfl | (simp; done) | (simp [*]; done)), H', ⟨by first | omega | exact Nat.le_refl _⟩, ⟨by repeat (first | (with_reducible first | exact HB.out | apply below_alloc | apply pw_below_drewN | apply below_drew1) | exact HB.out)⟩⟩
  case rest =>
    clear HC3
    try clear c1
    try clear p2
    try clear c5
    try clear c7
    obtain ⟨kq, x15_2, rfl, HA, HJ2, HB⟩ := hcut
    cases kq with
    | zero => exact absurd HA.out (by simp [marlinelaw04_StuffTells.j0])
    | succ kj2 =>
      have H := HA.out
      clear HA
      simp only [marlinelaw04_StuffTells.j0] at H
      by_cases c8 : x15_2 = true
      · subst c8
        have H1 : ((marlinelaw04_speaks.f kj2).bind fun t180 => (some t180)) = some r := by rw [if_pos rfl] at H; exact H
        clear H
        have H := H1
        clear H1
        replace H := Option.bind_eq_some_iff.mp H
        obtain ⟨t180, A90, H⟩ := H
        replace H : (some t180) = some r := H
        have A9 := Aside0.mk A90
        clear A90
        obtain rfl := Option.some.inj H
        go_wp2_with (first | ((with_reducible refine gate_callee (f := 18) rfl ?_); refine goesL_ (some 16) rfl rfl Try.func18 (by kernel_rfl) rfl #[] rfl (by (try simp only [List.map_toArray, List.map_cons, List.map_nil]); first | done | rfl | (simp only [List.length_drop, List.length_take]; rfl)) ?_; (with_reducible refine (marlinelaw04_speaks.calls kj2  t180 _ A9.out).mono ?_); rintro e w10 ⟨rfl, hb⟩; refine ⟨_, rfl, ?_⟩; have n0_ := Aside0.mk (below_step (by repeat (first | (with_reducible first | exact HB.out | apply below_alloc | apply pw_below_drewN | apply below_drew1) | exact HB.out)) hb); clear HB; have HB := n0_; clear n0_; (try clear hb); (try clear hb2); (try clear hk); (try clear hi)))
        go_ret
        exact ⟨by first | rfl | (simp [errW_none, errW_some] <;> rfl) | (simp [*, errW_none, errW_some] <;> rfl), by repeat (first | (with_reducible first | exact HB.out | apply below_alloc | apply pw_below_drewN | apply below_drew1) | exact HB.out)⟩
      · replace c8 := Bool.eq_false_iff.mpr c8
        subst c8
        have H1 : ((stuff_Unstuff.f kj2 a0 l1).bind fun bt181 => ((marlineref04_Unstuff.f kj2 a0 l1).bind fun bt185 => ((stuff_Stuff.f kj2 a0 l1).bind fun t189 => ((marlineref04_Stuff.f kj2 a0 l1).bind fun t192 => ((marlineref01_Equal.f kj2 t189 t192).bind fun t195 => (if t195 = true then ((stuff_Size.f kj2 a0 l1).bind fun t196 => ((marlineref04_Stuff.f kj2 a0 l1).bind fun t197 => (if t196 = (t197.length : Int) then (if bt181.2 = bt185.2 then ((marlineref01_Equal.f kj2 bt181.1 bt185.1).bind fun t200 => (some t200)) else (none)) else (none)))) else (none))))))) = some r := by rw [if_neg (show ¬ (false = true) by decide)] at H; exact H
        clear H
        have H := H1
        clear H1
        replace H := Option.bind_eq_some_iff.mp H
        obtain ⟨⟨t181, t182⟩, A110, H⟩ := H
        replace H : ((marlineref04_Unstuff.f kj2 a0 l1).bind fun bt185 => ((stuff_Stuff.f kj2 a0 l1).bind fun t189 => ((marlineref04_Stuff.f kj2 a0 l1).bind fun t192 => ((marlineref01_Equal.f kj2 t189 t192).bind fun t195 => (if t195 = true then ((stuff_Size.f kj2 a0 l1).bind fun t196 => ((marlineref04_Stuff.f kj2 a0 l1).bind fun t197 => (if t196 = (t197.length : Int) then (if t182 = bt185.2 then ((marlineref01_Equal.f kj2 t181 bt185.1).bind fun t200 => (some t200)) else (none)) else (none)))) else (none)))))) = some r := H
        have A11 := Aside0.mk A110
        clear A110
        replace H := Option.bind_eq_some_iff.mp H
        obtain ⟨⟨t185, t186⟩, A120, H⟩ := H
        replace H : ((stuff_Stuff.f kj2 a0 l1).bind fun t189 => ((marlineref04_Stuff.f kj2 a0 l1).bind fun t192 => ((marlineref01_Equal.f kj2 t189 t192).bind fun t195 => (if t195 = true then ((stuff_Size.f kj2 a0 l1).bind fun t196 => ((marlineref04_Stuff.f kj2 a0 l1).bind fun t197 => (if t196 = (t197.length : Int) then (if t182 = t186 then ((marlineref01_Equal.f kj2 t181 t185).bind fun t200 => (some t200)) else (none)) else (none)))) else (none))))) = some r := H
        have A12 := Aside0.mk A120
        clear A120
        replace H := Option.bind_eq_some_iff.mp H
        obtain ⟨t189, A130, H⟩ := H
        replace H : ((marlineref04_Stuff.f kj2 a0 l1).bind fun t192 => ((marlineref01_Equal.f kj2 t189 t192).bind fun t195 => (if t195 = true then ((stuff_Size.f kj2 a0 l1).bind fun t196 => ((marlineref04_Stuff.f kj2 a0 l1).bind fun t197 => (if t196 = (t197.length : Int) then (if t182 = t186 then ((marlineref01_Equal.f kj2 t181 t185).bind fun t200 => (some t200)) else (none)) else (none)))) else (none)))) = some r := H
        have A13 := Aside0.mk A130
        clear A130
        replace H := Option.bind_eq_some_iff.mp H
        obtain ⟨t192, A140, H⟩ := H
        replace H : ((marlineref01_Equal.f kj2 t189 t192).bind fun t195 => (if t195 = true then ((stuff_Size.f kj2 a0 l1).bind fun t196 => ((marlineref04_Stuff.f kj2 a0 l1).bind fun t197 => (if t196 = (t197.length : Int) then (if t182 = t186 then ((marlineref01_Equal.f kj2 t181 t185).bind fun t200 => (some t200)) else (none)) else (none)))) else (none))) = some r := H
        have A14 := Aside0.mk A140
        clear A140
        replace H := Option.bind_eq_some_iff.mp H
        obtain ⟨t195, A150, H⟩ := H
        replace H : (if t195 = true then ((stuff_Size.f kj2 a0 l1).bind fun t196 => ((marlineref04_Stuff.f kj2 a0 l1).bind fun t197 => (if t196 = (t197.length : Int) then (if t182 = t186 then ((marlineref01_Equal.f kj2 t181 t185).bind fun t200 => (some t200)) else (none)) else (none)))) else (none)) = some r := H
        have A15 := Aside0.mk A150
        clear A150
        by_cases c16 : t195 = true
        · subst c16
          have H1 : ((stuff_Size.f kj2 a0 l1).bind fun t196 => ((marlineref04_Stuff.f kj2 a0 l1).bind fun t197 => (if t196 = (t197.length : Int) then (if t182 = t186 then ((marlineref01_Equal.f kj2 t181 t185).bind fun t200 => (some t200)) else (none)) else (none)))) = some r := by rw [if_pos rfl] at H; exact H
          clear H
          have H := H1
          clear H1
          replace H := Option.bind_eq_some_iff.mp H
          obtain ⟨t196, A170, H⟩ := H
          replace H : ((marlineref04_Stuff.f kj2 a0 l1).bind fun t197 => (if t196 = (t197.length : Int) then (if t182 = t186 then ((marlineref01_Equal.f kj2 t181 t185).bind fun t200 => (some t200)) else (none)) else (none))) = some r := H
          have A17 := Aside0.mk A170
          clear A170
          replace H := Option.bind_eq_some_iff.mp H
          obtain ⟨t197, A180, H⟩ := H
          replace H : (if t196 = (t197.length : Int) then (if t182 = t186 then ((marlineref01_Equal.f kj2 t181 t185).bind fun t200 => (some t200)) else (none)) else (none)) = some r := H
          have A18 := Aside0.mk A180
          clear A180
          by_cases c19 : t196 = (t197.length : Int)
          · rw [if_pos c19] at H
            have c19b0 : (t196 == (t197.length : Int)) = true := beq_iff_eq.mpr c19
            have c19b1 : (t196 != (t197.length : Int)) = false := bne_eq_false_iff_eq.mpr c19
            clear c19
            by_cases c20 : t182 = t186
            · rw [if_pos c20] at H
              have c20b0 : (t182 == t186) = true := beq_iff_eq.mpr c20
              have c20b1 : (t182 != t186) = false := bne_eq_false_iff_eq.mpr c20
              clear c20
              replace H := Option.bind_eq_some_iff.mp H
              obtain ⟨t200, A210, H⟩ := H
              replace H : (some t200) = some r := H
              have A21 := Aside0.mk A210
              clear A210
              obtain rfl := Option.some.inj H
              go_wp2_with (first | ((with_reducible refine gate_callee (f := 19) rfl ?_); refine goesL_ (some 20) rfl rfl Try.func19 (by kernel_rfl) rfl #[.int .u32 a0, .slice A1 l1.length c1] rfl (by (try simp only [List.map_toArray, List.map_cons, List.map_nil]); first | done | rfl | (simp only [List.length_drop, List.length_take]; rfl)) ?_; (with_reducible refine (stuff_Unstuff.calls kj2 a0 _ _ l1 t181 t182 _ ?side1 ?side2 A11.out).mono ?_); (case side1 => repeat (first | exact (Kd.C_below HR1.out HB.out) | (with_reducible refine Kd.C_alloc ?_ _) | (with_reducible refine Kd.C_drewN ?_ _) | (with_reducible refine Kd.C_drew ?_))); (case side2 => exact HC1.out); rintro e w22 ⟨v183, rfl, ho0, hb⟩; refine ⟨_, rfl, ?_⟩; have n0_ := Aside0.mk (Kd.R_lower ho0 (below_size (by repeat (first | (with_reducible first | exact HB.out | apply below_alloc | apply pw_below_drewN | apply below_drew1) | exact HB.out)))); have n1_ := Aside0.mk (below_step (by repeat (first | (with_reducible first | exact HB.out | apply below_alloc | apply pw_below_drewN | apply below_drew1) | exact HB.out)) hb); clear HB; have HO184 := n0_; have HB := n1_; clear n0_ n1_; (try clear hb); (try clear hb2); (try clear hk); (try clear hi); (try clear ho0)) | ((with_reducible refine gate_callee (f := 20) rfl ?_); refine goesL_ (some 26) rfl rfl Try.func20 (by kernel_rfl) rfl #[.int .u32 a0, .slice A1 l1.length c1] rfl (by (try simp only [List.map_toArray, List.map_cons, List.map_nil]); first | done | rfl | (simp only [List.length_drop, List.length_take]; rfl)) ?_; (with_reducible refine (marlineref04_Unstuff.calls kj2 a0 _ _ l1 t185 t186 _ ?side1 ?side2 A12.out).mono ?_); (case side1 => repeat (first | exact (Kd.C_below HR1.out HB.out) | (with_reducible refine Kd.C_alloc ?_ _) | (with_reducible refine Kd.C_drewN ?_ _) | (with_reducible refine Kd.C_drew ?_))); (case side2 => exact HC1.out); rintro e w23 ⟨v187, rfl, ho0, hb⟩; refine ⟨_, rfl, ?_⟩; have n0_ := Aside0.mk (Kd.R_below (by (with_reducible repeat (first | apply Kd.R_alloc | apply Kd.R_drewN | apply Kd.R_drew)); exact HO184.out) hb); have n1_ := Aside0.mk (Kd.R_lower ho0 (below_size (by repeat (first | (with_reducible first | exact HB.out | apply below_alloc | apply pw_below_drewN | apply below_drew1) | exact HB.out)))); have n2_ := Aside0.mk (below_step (by repeat (first | (with_reducible first | exact HB.out | apply below_alloc | apply pw_below_drewN | apply below_drew1) | exact HB.out)) hb); clear HO184; clear HB; have HO184 := n0_; have HO188 := n1_; have HB := n2_; clear n0_ n1_ n2_; (try clear hb); (try clear hb2); (try clear hk); (try clear hi); (try clear ho0)) | ((with_reducible refine gate_callee (f := 21) rfl ?_); refine goesL_ (some 31) rfl rfl Try.func21 (by kernel_rfl) rfl #[.int .u32 a0, .slice A1 l1.length c1] rfl (by (try simp only [List.map_toArray, List.map_cons, List.map_nil]); first | done | rfl | (simp only [List.length_drop, List.length_take]; rfl)) ?_; (with_reducible refine (stuff_Stuff.calls kj2 a0 _ _ l1 t189 _ ?side1 ?side2 A13.out).mono ?_); (case side1 => repeat (first | exact (Kd.C_below HR1.out HB.out) | (with_reducible refine Kd.C_alloc ?_ _) | (with_reducible refine Kd.C_drewN ?_ _) | (with_reducible refine Kd.C_drew ?_))); (case side2 => exact HC1.out); rintro e w24 ⟨v190, rfl, ho0, hb⟩; refine ⟨_, rfl, ?_⟩; have n0_ := Aside0.mk (Kd.R_below (by (with_reducible repeat (first | apply Kd.R_alloc | apply Kd.R_drewN | apply Kd.R_drew)); exact HO184.out) hb); have n1_ := Aside0.mk (Kd.R_below (by (with_reducible repeat (first | apply Kd.R_alloc | apply Kd.R_drewN | apply Kd.R_drew)); exact HO188.out) hb); have n2_ := Aside0.mk (Kd.R_lower ho0 (below_size (by repeat (first | (with_reducible first | exact HB.out | apply below_alloc | apply pw_below_drewN | apply below_drew1) | exact HB.out)))); have n3_ := Aside0.mk (below_step (by repeat (first | (with_reducible first | exact HB.out | apply below_alloc | apply pw_below_drewN | apply below_drew1) | exact HB.out)) hb); clear HO184; clear HO188; clear HB; have HO184 := n0_; have HO188 := n1_; have HO191 := n2_; have HB := n3_; clear n0_ n1_ n2_ n3_; (try clear hb); (try clear hb2); (try clear hk); (try clear hi); (try clear ho0)) | ((with_reducible refine gate_callee (f := 22) rfl ?_); refine goesL_ (some 34) rfl rfl Try.func22 (by kernel_rfl) rfl #[.int .u32 a0, .slice A1 l1.length c1] rfl (by (try simp only [List.map_toArray, List.map_cons, List.map_nil]); first | done | rfl | (simp only [List.length_drop, List.length_take]; rfl)) ?_; (with_reducible refine (marlineref04_Stuff.calls kj2 a0 _ _ l1 t192 _ ?side1 ?side2 A14.out).mono ?_); (case side1 => repeat (first | exact (Kd.C_below HR1.out HB.out) | (with_reducible refine Kd.C_alloc ?_ _) | (with_reducible refine Kd.C_drewN ?_ _) | (with_reducible refine Kd.C_drew ?_))); (case side2 => exact HC1.out); rintro e w25 ⟨v193, rfl, ho0, hb⟩; refine ⟨_, rfl, ?_⟩; have n0_ := Aside0.mk (Kd.R_below (by (with_reducible repeat (first | apply Kd.R_alloc | apply Kd.R_drewN | apply Kd.R_drew)); exact HO184.out) hb); have n1_ := Aside0.mk (Kd.R_below (by (with_reducible repeat (first | apply Kd.R_alloc | apply Kd.R_drewN | apply Kd.R_drew)); exact HO188.out) hb); have n2_ := Aside0.mk (Kd.R_below (by (with_reducible repeat (first | apply Kd.R_alloc | apply Kd.R_drewN | apply Kd.R_drew)); exact HO191.out) hb); have n3_ := Aside0.mk (Kd.R_lower ho0 (below_size (by repeat (first | (with_reducible first | exact HB.out | apply below_alloc | apply pw_below_drewN | apply below_drew1) | exact HB.out)))); have n4_ := Aside0.mk (below_step (by repeat (first | (with_reducible first | exact HB.out | apply below_alloc | apply pw_below_drewN | apply below_drew1) | exact HB.out)) hb); clear HO184; clear HO188; clear HO191; clear HB; have HO184 := n0_; have HO188 := n1_; have HO191 := n2_; have HO194 := n3_; have HB := n4_; clear n0_ n1_ n2_ n3_ n4_; (try clear hb); (try clear hb2); (try clear hk); (try clear hi); (try clear ho0); obtain ⟨Ao26, co26, eo26⟩ := Kd.R_slice HO191.out; subst eo26; obtain ⟨Ao27, co27, eo27⟩ := Kd.R_slice HO194.out; subst eo27) | ((with_reducible refine gate_callee (f := 16) rfl ?_); refine goesL_ (some 35) rfl rfl Try.func16 (by kernel_rfl) rfl #[.slice Ao26 t189.length co26, .slice Ao27 t192.length co27] rfl (by (try simp only [List.map_toArray, List.map_cons, List.map_nil]); first | done | rfl | (simp only [List.length_drop, List.length_take]; rfl)) ?_; (with_reducible refine (marlineref01_Equal.calls kj2 _ _ t189 _ _ t192 true _ ?side1 ?side2 ?side3 ?side4 A15.out).mono ?_); (case side1 => repeat (first | exact (Kd.R_reads' HO191.out).2.2 | (with_reducible refine Kd.C_alloc ?_ _) | (with_reducible refine Kd.C_drewN ?_ _) | (with_reducible refine Kd.C_drew ?_))); (case side2 => exact (Kd.R_reads' HO191.out).2.1); (case side3 => repeat (first | exact (Kd.R_reads' HO194.out).2.2 | (with_reducible refine Kd.C_alloc ?_ _) | (with_reducible refine Kd.C_drewN ?_ _) | (with_reducible refine Kd.C_drew ?_))); (case side4 => exact (Kd.R_reads' HO194.out).2.1); rintro e w' ⟨rfl, ⟨nd, rfl⟩⟩; refine ⟨_, rfl, ?_⟩) | (go_at_call 23; (with_reducible refine (stuff_Size.calls kj2 a0 _ _ l1 t196 _ ?side1 ?side2 A17.out).mono ?_); (case side1 => repeat (first | exact (Kd.C_below HR1.out (by repeat (first | (with_reducible first | exact HB.out | apply below_alloc | apply pw_below_drewN | apply below_drew1) | exact HB.out))) | (with_reducible refine Kd.C_alloc ?_ _) | (with_reducible refine Kd.C_drewN ?_ _) | (with_reducible refine Kd.C_drew ?_))); (case side2 => exact HC1.out); rintro e w' ⟨rfl, ⟨nd, rfl⟩⟩) | (go_at_call 22; (with_reducible refine (marlineref04_Stuff.calls kj2 a0 _ _ l1 t197 _ ?side1 ?side2 A18.out).mono ?_); (case side1 => repeat (first | exact (Kd.C_below HR1.out (by repeat (first | (with_reducible first | exact HB.out | apply below_alloc | apply pw_below_drewN | apply below_drew1) | exact HB.out))) | (with_reducible refine Kd.C_alloc ?_ _) | (with_reducible refine Kd.C_drewN ?_ _) | (with_reducible refine Kd.C_drew ?_))); (case side2 => exact HC1.out); rintro e w28 ⟨v198, rfl, ho0, hb⟩; have n0_ := Aside0.mk (Kd.R_below (by (with_reducible repeat (first | apply Kd.R_alloc | apply Kd.R_drewN | apply Kd.R_drew)); exact HO184.out) hb); have n1_ := Aside0.mk (Kd.R_below (by (with_reducible repeat (first | apply Kd.R_alloc | apply Kd.R_drewN | apply Kd.R_drew)); exact HO188.out) hb); have n2_ := Aside0.mk (Kd.R_lower ho0 (below_size (by repeat (first | (with_reducible first | exact HB.out | apply below_alloc | apply pw_below_drewN | apply below_drew1) | exact HB.out)))); have n3_ := Aside0.mk (below_step (by repeat (first | (with_reducible first | exact HB.out | apply below_alloc | apply pw_below_drewN | apply below_drew1) | exact HB.out)) hb); clear HO184; clear HO188; clear HB; have HO184 := n0_; have HO188 := n1_; have HO199 := n2_; have HB := n3_; clear n0_ n1_ n2_ n3_; (try clear hb); (try clear hb2); (try clear hk); (try clear hi); (try clear ho0); obtain ⟨Ao29, co29, eo29⟩ := Kd.R_slice HO199.out; subst eo29; obtain ⟨Ao30, co30, eo30⟩ := Kd.R_slice HO184.out; subst eo30; obtain ⟨Ao31, co31, eo31⟩ := Kd.R_slice HO188.out; subst eo31) | (go_at_call 16; (with_reducible refine (marlineref01_Equal.calls kj2 _ _ t181 _ _ t185 t200 _ ?side1 ?side2 ?side3 ?side4 A21.out).mono ?_); (case side1 => repeat (first | exact (Kd.R_reads' HO184.out).2.2 | (with_reducible refine Kd.C_alloc ?_ _) | (with_reducible refine Kd.C_drewN ?_ _) | (with_reducible refine Kd.C_drew ?_))); (case side2 => exact (Kd.R_reads' HO184.out).2.1); (case side3 => repeat (first | exact (Kd.R_reads' HO188.out).2.2 | (with_reducible refine Kd.C_alloc ?_ _) | (with_reducible refine Kd.C_drewN ?_ _) | (with_reducible refine Kd.C_drew ?_))); (case side4 => exact (Kd.R_reads' HO188.out).2.1); rintro e w' ⟨rfl, ⟨nd, rfl⟩⟩))
              go_ret
              exact ⟨by first | rfl | (simp [errW_none, errW_some] <;> rfl) | (simp [*, errW_none, errW_some] <;> rfl), by repeat (first | (with_reducible first | exact HB.out | apply below_alloc | apply pw_below_drewN | apply below_drew1) | exact HB.out)⟩
            · rw [if_neg c20] at H
              exact absurd H (by simp)
          · rw [if_neg c19] at H
            exact absurd H (by simp)
        · replace c16 := Bool.eq_false_iff.mpr c16
          subst c16
          have H1 : (none) = some r := by rw [if_neg (show ¬ (false = true) by decide)] at H; exact H
          clear H
          have H := H1
          clear H1
          exact absurd H (by simp)

/-- THE ONE PURE STATEMENT of marlinelaw04_StuffTells: yours. -/
def marlinelaw04_StuffTells.Pure : Prop := ∀ (a0 : Int) (l1 : List Int), (Lit.int .u32 a0).wf = true → l1.length ≤ maxLen → l1.length * 1 ≤ 140737488351232 → (∀ x ∈ l1, (Lit.int .u8 x).wf = true) → ∃ k, marlinelaw04_StuffTells.f k a0 l1 = some true
theorem marlinelaw04_StuffTells.walk (P : marlinelaw04_StuffTells.Pure) (a0 : Int) (a1 : Option Addr) (len1 cap1 : Nat) (z1 : List Int) (w : World) (w0 : (Lit.int .u32 a0).wf = true) (w1 : (a1 = none ∧ len1 = 0 ∧ cap1 = 0 ∧ z1 = []) ∨ ∃ x, a1 = some x ∧ len1 ≤ cap1 ∧ cap1 ≤ maxLen ∧ z1.length = cap1 ∧ (∀ i, i < z1.length → w.cell? (x.add i) = some (.int .u8 (z1.getD i 0))) ∧ ∀ n ∈ z1, (Lit.int .u8 n).wf = true) (y1 : len1 * 1 ≤ 140737488351232) :
    Calls Try.prog 7 #[.int .u32 a0, .slice a1 len1 cap1] w fun e w' => e = .returned (.bool true) ∧ Below w.heap.size w w' := by
  obtain ⟨l1, rfl, hr1, hm1, hw1, hc1⟩ := ReadsInt.ofRowC w1
  obtain ⟨k, h⟩ := P a0 l1 w0 hm1 y1 hw1
  refine (marlinelaw04_StuffTells.calls k a0 _ _ l1 true w (Kd.C_of_reads (d := (0 : Int)) (h1 := fun _ => rfl) hr1) hc1 h).mono ?_
  rintro e w' ⟨rfl, hd⟩
  exact ⟨rfl, hd⟩

end Go.Proofs.Ytppfoopecdmblaa.Print
