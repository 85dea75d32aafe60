/- A text that a program of this claim (wip/x) laid out of the translation: what Go functions come to, and that they come to it. Lean checks it. -/
import Derived.Test.YtgjeahgagciagaaPrint0
import Derived.Test.YtgjeahgagciagaaPrintMarlinelaw12Speaks
import Derived.Test.YtgjeahgagciagaaPrintTlvFind
import Derived.Test.YtgjeahgagciagaaPrintTlvGet
import Derived.Test.YtgjeahgagciagaaPrintTlvSame
namespace Go.Proofs.Ytgjeahgagciagaa.Print
open Go.RowKit Go.Proofs.YtgjeahgagciagaaW.PrintWords Go.Proofs.YtgjeahgagciagaaW.PrintLast Go.Proofs.YtgjeahgagciagaaW.PrintMore
attribute [local go_sem] max2_int min2_int max_two min_two max_three min_three max_four min_four   -- for this text's walks alone
set_option linter.unusedVariables false
set_option linter.unusedSimpArgs false

/-! ### marlinelaw12_TlvKeeps: function 7 -/
mutual
def marlinelaw12_TlvKeeps.j0 : Nat → List Int → Int → Bool → Option (Bool)
  | 0, _, _, _ => none
  | k + 1, x0, x1, x20 => if x20 = true then ((marlinelaw12_speaks.f k).bind fun t457 => (some t457)) else ((some (([] : List Int) : List Int)).bind fun y458 => (if y458.length + x0.length < 140737488355328 then ((some (y458 ++ x0 : List Int)).bind fun y461 => ((tlv_Get.f k y461).bind fun bt464 => (if bt464.2 = 0 then ((tlv_Get.f k x0).bind fun bt468 => (marlinelaw12_TlvKeeps.l0 k x1 y461 bt464.1 bt468.1 (y461.length : Int) 0)) else (some true)))) else (none)))
def marlinelaw12_TlvKeeps.l0 : Nat → Int → List Int → List (S57) → List (S57) → Int → Int → Option (Bool)
  | 0, _, _, _, _, _, _ => none
  | k + 1, x1, x5, x6, x8, x38, x39 => if x39 < x38 then (if 0 ≤ x39 then (if x39 < (x5.length : Int) then (marlinelaw12_TlvKeeps.l0 k x1 (x5.set (x39 : Int).toNat (((rd x5 x39) + 1) % 256)) x6 x8 x38 (wrap64 (x39 + 1))) else (none)) else (none)) else ((tlv_Find.f x6 x1).bind fun bt474 => (if bt474.2.2 = true then (marlinelaw12_TlvKeeps.l1 k x6 x8 (bt474.2.1.length : Int) 0 bt474.1 bt474.2.1) else (marlinelaw12_TlvKeeps.j3 k x6 x8)))
def marlinelaw12_TlvKeeps.j3 : Nat → List (S57) → List (S57) → Option (Bool)
  | 0, _, _ => none
  | k + 1, x6, x8 => (tlv_Same.f x6 x8).bind fun t482 => (some t482)
def marlinelaw12_TlvKeeps.l1 : Nat → List (S57) → List (S57) → Int → Int → Int → List Int → Option (Bool)
  | 0, _, _, _, _, _, _ => none
  | k + 1, x6, x8, x58, x59, x480000, x480001 => if x59 < x58 then (if 0 ≤ x59 then (if x59 < (x480001.length : Int) then (marlinelaw12_TlvKeeps.l1 k x6 x8 x58 (wrap64 (x59 + 1)) x480000 (x480001.set (x59 : Int).toNat (((rd x480001 x59) + 1) % 256))) else (none)) else (none)) else (marlinelaw12_TlvKeeps.j3 k x6 x8)
end
def marlinelaw12_TlvKeeps.f (k : Nat) (l0 : List Int) (a1 : Int) : Option (Bool) := (marlinelaw12_speaks.f k).bind fun t456 => (if t456 = true then (marlinelaw12_TlvKeeps.j0 k l0 a1 (decide ((l0.length : Int) > 1000))) else (marlinelaw12_TlvKeeps.j0 k l0 a1 true))
theorem marlinelaw12_TlvKeeps.mono_l : ∀ k, (∀ y0 y1 y2, LeO (marlinelaw12_TlvKeeps.j0 k y0 y1 y2) (marlinelaw12_TlvKeeps.j0 (k + 1) y0 y1 y2)) ∧ (∀ y0 y1 y2 y3 y4 y5, LeO (marlinelaw12_TlvKeeps.l0 k y0 y1 y2 y3 y4 y5) (marlinelaw12_TlvKeeps.l0 (k + 1) y0 y1 y2 y3 y4 y5)) ∧ (∀ y0 y1, LeO (marlinelaw12_TlvKeeps.j3 k y0 y1) (marlinelaw12_TlvKeeps.j3 (k + 1) y0 y1)) ∧ (∀ y0 y1 y2 y3 y4 y5, LeO (marlinelaw12_TlvKeeps.l1 k y0 y1 y2 y3 y4 y5) (marlinelaw12_TlvKeeps.l1 (k + 1) y0 y1 y2 y3 y4 y5))
  | 0 => ⟨fun _ _ _ r h => by simp [marlinelaw12_TlvKeeps.j0] at h, fun _ _ _ _ _ _ r h => by simp [marlinelaw12_TlvKeeps.l0] at h, fun _ _ r h => by simp [marlinelaw12_TlvKeeps.j3] at h, fun _ _ _ _ _ _ r h => by simp [marlinelaw12_TlvKeeps.l1] at h⟩
  | k + 1 => by
    obtain ⟨ih0, ih1, ih2, ih3⟩ := marlinelaw12_TlvKeeps.mono_l k
    refine ⟨?_, ?_, ?_, ?_⟩
    · intro y0 y1 y2
      unfold marlinelaw12_TlvKeeps.j0
      repeat' first
      | (with_reducible exact ih0 _ _ _)
      | (with_reducible exact ih1 _ _ _ _ _ _)
      | (with_reducible exact ih2 _ _)
      | (with_reducible exact ih3 _ _ _ _ _ _)
      | (with_reducible exact marlinelaw12_speaks.mono _)
      | (with_reducible exact tlv_Get.mono _ _)
      | (with_reducible exact LeO.refl _)
      | (with_reducible exact LeO.none _)
      | (with_reducible refine LeO.ite ?_ ?_)
      | (with_reducible refine LeO.bind ?_ (fun _ => ?_))
      | exact ih0 _ _ _
      | exact ih1 _ _ _ _ _ _
      | exact ih2 _ _
      | exact ih3 _ _ _ _ _ _
      | exact marlinelaw12_speaks.mono _
      | exact tlv_Get.mono _ _
      | exact LeO.none _
      | refine LeO.ite ?_ ?_
      | refine LeO.bind ?_ (fun _ => ?_)
    · intro y0 y1 y2 y3 y4 y5
      unfold marlinelaw12_TlvKeeps.l0
      repeat' first
      | (with_reducible exact ih0 _ _ _)
      | (with_reducible exact ih1 _ _ _ _ _ _)
      | (with_reducible exact ih2 _ _)
      | (with_reducible exact ih3 _ _ _ _ _ _)
      | (with_reducible exact marlinelaw12_speaks.mono _)
      | (with_reducible exact tlv_Get.mono _ _)
      | (with_reducible exact LeO.refl _)
      | (with_reducible exact LeO.none _)
      | (with_reducible refine LeO.ite ?_ ?_)
      | (with_reducible refine LeO.bind ?_ (fun _ => ?_))
      | exact ih0 _ _ _
      | exact ih1 _ _ _ _ _ _
      | exact ih2 _ _
      | exact ih3 _ _ _ _ _ _
      | exact marlinelaw12_speaks.mono _
      | exact tlv_Get.mono _ _
      | exact LeO.none _
      | refine LeO.ite ?_ ?_
      | refine LeO.bind ?_ (fun _ => ?_)
    · intro y0 y1
      unfold marlinelaw12_TlvKeeps.j3
      repeat' first
      | (with_reducible exact ih0 _ _ _)
      | (with_reducible exact ih1 _ _ _ _ _ _)
      | (with_reducible exact ih2 _ _)
      | (with_reducible exact ih3 _ _ _ _ _ _)
      | (with_reducible exact marlinelaw12_speaks.mono _)
      | (with_reducible exact tlv_Get.mono _ _)
      | (with_reducible exact LeO.refl _)
      | (with_reducible exact LeO.none _)
      | (with_reducible refine LeO.ite ?_ ?_)
      | (with_reducible refine LeO.bind ?_ (fun _ => ?_))
      | exact ih0 _ _ _
      | exact ih1 _ _ _ _ _ _
      | exact ih2 _ _
      | exact ih3 _ _ _ _ _ _
      | exact marlinelaw12_speaks.mono _
      | exact tlv_Get.mono _ _
      | exact LeO.none _
      | refine LeO.ite ?_ ?_
      | refine LeO.bind ?_ (fun _ => ?_)
    · intro y0 y1 y2 y3 y4 y5
      unfold marlinelaw12_TlvKeeps.l1
      repeat' first
      | (with_reducible exact ih0 _ _ _)
      | (with_reducible exact ih1 _ _ _ _ _ _)
      | (with_reducible exact ih2 _ _)
      | (with_reducible exact ih3 _ _ _ _ _ _)
      | (with_reducible exact marlinelaw12_speaks.mono _)
      | (with_reducible exact tlv_Get.mono _ _)
      | (with_reducible exact LeO.refl _)
      | (with_reducible exact LeO.none _)
      | (with_reducible refine LeO.ite ?_ ?_)
      | (with_reducible refine LeO.bind ?_ (fun _ => ?_))
      | exact ih0 _ _ _
      | exact ih1 _ _ _ _ _ _
      | exact ih2 _ _
      | exact ih3 _ _ _ _ _ _
      | exact marlinelaw12_speaks.mono _
      | exact tlv_Get.mono _ _
      | exact LeO.none _
      | refine LeO.ite ?_ ?_
      | refine LeO.bind ?_ (fun _ => ?_)
theorem marlinelaw12_TlvKeeps.mono : ∀ a0 a1 k, LeO (marlinelaw12_TlvKeeps.f k a0 a1) (marlinelaw12_TlvKeeps.f (k + 1) a0 a1) := by
  intro a0 a1 k
  obtain ⟨ih0, ih1, ih2, ih3⟩ := marlinelaw12_TlvKeeps.mono_l k
  unfold marlinelaw12_TlvKeeps.f
  repeat' first
      | (with_reducible exact ih0 _ _ _)
      | (with_reducible exact ih1 _ _ _ _ _ _)
      | (with_reducible exact ih2 _ _)
      | (with_reducible exact ih3 _ _ _ _ _ _)
      | (with_reducible exact marlinelaw12_speaks.mono _)
      | (with_reducible exact tlv_Get.mono _ _)
      | (with_reducible exact LeO.refl _)
      | (with_reducible exact LeO.none _)
      | (with_reducible refine LeO.ite ?_ ?_)
      | (with_reducible refine LeO.bind ?_ (fun _ => ?_))
      | exact ih0 _ _ _
      | exact ih1 _ _ _ _ _ _
      | exact ih2 _ _
      | exact ih3 _ _ _ _ _ _
      | exact marlinelaw12_speaks.mono _
      | exact tlv_Get.mono _ _
      | exact LeO.none _
      | refine LeO.ite ?_ ?_
      | refine LeO.bind ?_ (fun _ => ?_)
set_option maxHeartbeats 8000000 in
set_option maxRecDepth 100000 in
theorem marlinelaw12_TlvKeeps.calls (k : Nat) (A0 : Option Addr) (c0 : Nat) (l0 : List Int) (a1 : Int) (r : Bool) (w : World) (hr0 : Kd.C (Kd.int .u8) w A0 l0.length l0) (hc0 : l0.length ≤ c0) (h : marlinelaw12_TlvKeeps.f k l0 a1 = some r) :
    Calls Try.prog 7 #[.slice A0 l0.length c0, .int .u8 a1] w fun e w' => e = .returned (.bool r) ∧ Below w.heap.size w w' := by
  have hu57 := Try.underlying57
  have HR0 := Aside0.mk hr0
  have HC0 := Aside0.mk hc0
  clear hr0 hc0
  have HB := Aside0.mk (Below.refl w.heap.size w)
  have H : ((marlinelaw12_speaks.f k).bind fun t456 => (if t456 = true then (marlinelaw12_TlvKeeps.j0 k l0 a1 (decide ((l0.length : Int) > 1000))) else (marlinelaw12_TlvKeeps.j0 k l0 a1 true))) = some r := h
  clear h
  have HC3 := Aside0.mk H
  clear H
  go_enter Try.func7, Try.ntmps7
  go_upto_region 1 with (fail)
  go_cut [20] (fun v20 wc => ∃ (kq : Nat) (x20_2 : Bool), v20 = .bool x20_2 ∧ Aside0 (marlinelaw12_TlvKeeps.j0 kq l0 a1 x20_2 = some r) ∧ Aside0 (kq ≤ k) ∧ Aside0 (Below w.heap.size w wc))
  case first =>
    have H := HC3.out
    clear HC3
    replace H := Option.bind_eq_some_iff.mp H
    obtain ⟨t456, A40, H⟩ := H
    replace H : (if t456 = true then (marlinelaw12_TlvKeeps.j0 k l0 a1 (decide ((l0.length : Int) > 1000))) else (marlinelaw12_TlvKeeps.j0 k l0 a1 true)) = some r := H
    have A4 := Aside0.mk A40
    clear A40
    by_cases c5 : t456 = true
    · subst c5
      have H1 : (marlinelaw12_TlvKeeps.j0 k l0 a1 (decide ((l0.length : Int) > 1000))) = some r := by rw [if_pos rfl] at H; exact H
      clear H
      have H := H1
      clear H1
      have H' := Aside0.mk H
      clear H
      go_wp2_with (first | ((with_reducible refine gate_callee (f := 13) rfl ?_); refine goesL_ (some 14) rfl rfl Try.func13 (by kernel_rfl) rfl #[] rfl (by (try simp only [List.map_toArray, List.map_cons, List.map_nil]); first | done | rfl | (simp only [List.length_drop, List.length_take]; rfl)) ?_; (with_reducible refine (marlinelaw12_speaks.calls k  true _ A4.out).mono ?_); rintro e w6 ⟨rfl, hb⟩; refine ⟨_, rfl, ?_⟩; have n0_ := Aside0.mk (below_step (by repeat (first | (with_reducible first | exact HB.out | apply below_alloc | apply pw_below_drewN | apply below_drew1) | exact HB.out)) hb); clear HB; have HB := n0_; clear n0_; (try clear hb); (try clear hb2); (try clear hk); (try clear hi)))
      go_meet
      case rel => exact ⟨_, (decide ((l0.length : Int) > 1000)), (by first | rfl | (simp; done) | (simp [*]; done)), H', ⟨by first | omega | exact Nat.le_refl _⟩, ⟨by repeat (first | (with_reducible first | exact HB.out | apply below_alloc | apply pw_below_drewN | apply below_drew1) | exact HB.out)⟩⟩
    · replace c5 := Bool.eq_false_iff.mpr c5
      subst c5
      have H1 : (marlinelaw12_TlvKeeps.j0 k l0 a1 true) = some r := by rw [if_neg (show ¬ (false = true) by decide)] at H; exact H
      clear H
      have H := H1
      clear H1
      have H' := Aside0.mk H
      clear H
      go_wp2_with (first | ((with_reducible refine gate_callee (f := 13) rfl ?_); refine goesL_ (some 14) rfl rfl Try.func13 (by kernel_rfl) rfl #[] rfl (by (try simp only [List.map_toArray, List.map_cons, List.map_nil]); first | done | rfl | (simp only [List.length_drop, List.length_take]; rfl)) ?_; (with_reducible refine (marlinelaw12_speaks.calls k  false _ A4.out).mono ?_); rintro e w7 ⟨rfl, hb⟩; refine ⟨_, rfl, ?_⟩; have n0_ := Aside0.mk (below_step (by repeat (first | (with_reducible first | exact HB.out | apply below_alloc | apply pw_below_drewN | apply below_drew1) | exact HB.out)) hb); clear HB; have HB := n0_; clear n0_; (try clear hb); (try clear hb2); (try clear hk); (try clear hi)))
      go_meet
      case rel => exact ⟨_, (true), (by first | rfl | (simp; done) | (simp [*]; done)), H', ⟨by first | omega | exact Nat.le_refl _⟩, ⟨by repeat (first | (with_reducible first | exact HB.out | apply below_alloc | apply pw_below_drewN | apply below_drew1) | exact HB.out)⟩⟩
  case rest =>
    clear HC3
    try clear c1
    try clear p2
    try clear c5
    try clear c7
    obtain ⟨kq, x20_2, rfl, HA, HJ2, HB⟩ := hcut
    cases kq with
    | zero => exact absurd HA.out (by simp [marlinelaw12_TlvKeeps.j0])
    | succ kj2 =>
      have H := HA.out
      clear HA
      simp only [marlinelaw12_TlvKeeps.j0] at H
      by_cases c8 : x20_2 = true
      · subst c8
        have H1 : ((marlinelaw12_speaks.f kj2).bind fun t457 => (some t457)) = some r := by rw [if_pos rfl] at H; exact H
        clear H
        have H := H1
        clear H1
        replace H := Option.bind_eq_some_iff.mp H
        obtain ⟨t457, A90, H⟩ := H
        replace H : (some t457) = some r := H
        have A9 := Aside0.mk A90
        clear A90
        obtain rfl := Option.some.inj H
        go_wp2_with (first | ((with_reducible refine gate_callee (f := 13) rfl ?_); refine goesL_ (some 21) rfl rfl Try.func13 (by kernel_rfl) rfl #[] rfl (by (try simp only [List.map_toArray, List.map_cons, List.map_nil]); first | done | rfl | (simp only [List.length_drop, List.length_take]; rfl)) ?_; (with_reducible refine (marlinelaw12_speaks.calls kj2  t457 _ A9.out).mono ?_); rintro e w10 ⟨rfl, hb⟩; refine ⟨_, rfl, ?_⟩; have n0_ := Aside0.mk (below_step (by repeat (first | (with_reducible first | exact HB.out | apply below_alloc | apply pw_below_drewN | apply below_drew1) | exact HB.out)) hb); clear HB; have HB := n0_; clear n0_; (try clear hb); (try clear hb2); (try clear hk); (try clear hi)))
        go_ret
        exact ⟨by first | rfl | (simp [errW_none, errW_some] <;> rfl) | (simp [*, errW_none, errW_some] <;> rfl), by repeat (first | (with_reducible first | exact HB.out | apply below_alloc | apply pw_below_drewN | apply below_drew1) | exact HB.out)⟩
      · replace c8 := Bool.eq_false_iff.mpr c8
        subst c8
        have H1 : ((some (([] : List Int) : List Int)).bind fun y458 => (if y458.length + l0.length < 140737488355328 then ((some (y458 ++ l0 : List Int)).bind fun y461 => ((tlv_Get.f kj2 y461).bind fun bt464 => (if bt464.2 = 0 then ((tlv_Get.f kj2 l0).bind fun bt468 => (marlinelaw12_TlvKeeps.l0 kj2 a1 y461 bt464.1 bt468.1 (y461.length : Int) 0)) else (some true)))) else (none))) = some r := by rw [if_neg (show ¬ (false = true) by decide)] at H; exact H
        clear H
        have H := H1
        clear H1
        obtain ⟨y458, hy458⟩ : ∃ y_ : List Int, y_ = (([] : List Int)) := ⟨_, rfl⟩
        replace H : (if y458.length + l0.length < 140737488355328 then ((some (y458 ++ l0 : List Int)).bind fun y461 => ((tlv_Get.f kj2 y461).bind fun bt464 => (if bt464.2 = 0 then ((tlv_Get.f kj2 l0).bind fun bt468 => (marlinelaw12_TlvKeeps.l0 kj2 a1 y461 bt464.1 bt468.1 (y461.length : Int) 0)) else (some true)))) else (none)) = some r := by first | (rw [hy458]; with_reducible exact H) | (have H2_ := (Option.bind_some _ _).symm.trans H; rw [hy458]; with_reducible exact H2_) | (have H2_ := (Option.bind_some _ _).symm.trans H; with_reducible exact H2_) | with_reducible exact H | (rw [hy458]; exact H) | exact H
        have Ny458 := Aside0.mk hy458
        clear hy458
        by_cases c11 : y458.length + l0.length < 140737488355328
        · rw [if_pos c11] at H
          have LMc11 := Aside0.mk c11
          clear c11
          obtain ⟨y461, hy461⟩ : ∃ y_ : List Int, y_ = (y458 ++ l0) := ⟨_, rfl⟩
          replace H : ((tlv_Get.f kj2 y461).bind fun bt464 => (if bt464.2 = 0 then ((tlv_Get.f kj2 l0).bind fun bt468 => (marlinelaw12_TlvKeeps.l0 kj2 a1 y461 bt464.1 bt468.1 (y461.length : Int) 0)) else (some true))) = some r := by first | (rw [hy461]; with_reducible exact H) | (have H2_ := (Option.bind_some _ _).symm.trans H; rw [hy461]; with_reducible exact H2_) | (have H2_ := (Option.bind_some _ _).symm.trans H; with_reducible exact H2_) | with_reducible exact H | (rw [hy461]; exact H) | exact H
          have Ny461 := Aside0.mk hy461
          clear hy461
          replace H := Option.bind_eq_some_iff.mp H
          obtain ⟨⟨t464, t467⟩, A120, H⟩ := H
          replace H : (if t467 = 0 then ((tlv_Get.f kj2 l0).bind fun bt468 => (marlinelaw12_TlvKeeps.l0 kj2 a1 y461 t464 bt468.1 (y461.length : Int) 0)) else (some true)) = some r := H
          have A12 := Aside0.mk A120
          clear A120
          by_cases c13 : t467 = 0
          · rw [if_pos c13] at H
            have c13b0 : (t467 == 0) = true := beq_iff_eq.mpr c13
            have c13b1 : (t467 != 0) = false := bne_eq_false_iff_eq.mpr c13
            clear c13
            replace H := Option.bind_eq_some_iff.mp H
            obtain ⟨⟨t468, t471⟩, A140, H⟩ := H
            replace H : (marlinelaw12_TlvKeeps.l0 kj2 a1 y461 t464 t468 (y461.length : Int) 0) = some r := H
            have A14 := Aside0.mk A140
            clear A140
            have H' := Aside0.mk H
            clear H
            go_wp2_with (first | ((with_reducible refine gate_dst (N := 22) rfl ?_); (try (refine gate_guard (by rfl) ?_; dsimp only)); refine Kd.R_lit (Kd.int .u8) _ 5 ?hg (N := 22) ?hd (xs := ([] : List Int)) (inner := []) (ok := fun _ => True) (okp := fun _ => True) ?hr ?hp (fun _ hk => hk) trivial (Below.refl _ _) (Nat.le_refl _) (by simp) ?_; (case hd => rfl); (case hg => rfl); (case hr => first | (go_simp; done) | (go_simp; simp only [IntKind.wrap_u8, IntKind.wrap_u16, IntKind.wrap_u32, IntKind.wrap_u64]; done) | (go_simp; rfl)); (case hp => exact (Reps.none _ _)); intro v459 w15 ho16 hb hg_ hnew_; clear hg_ hnew_; (first | rw [← Ny458.out] at ho16 | (simp only [Int.reduceToNat] at ho16; rw [← Ny458.out] at ho16)); have n0_ := Aside0.mk (Kd.R_lower ho16 (below_size (by repeat (first | (with_reducible first | exact HB.out | apply below_alloc | apply pw_below_drewN | apply below_drew1) | exact HB.out)))); have n1_ := Aside0.mk (below_step (by repeat (first | (with_reducible first | exact HB.out | apply below_alloc | apply pw_below_drewN | apply below_drew1) | exact HB.out)) hb); clear HB; have HO460 := n0_; have HB := n1_; clear n0_ n1_; clear hb ho16) | ((with_reducible refine gate_builtin (b := .append) (xs := #[.tmp 22, .tmp 23]) rfl ?_); (try (refine gate_guard (by rfl) ?_; dsimp only)); at_builtin; refine Kd.R_append_rows (Kd.int .u8) (w0 := w) w.heap.size rfl (.tmp 22) (.tmp 23) 23 5 (.int .u8 0) 1 rfl Try.underlying23 info5 rfl (by decide) (by omega) v459 y458 l0 _ _ _ (fun _ => True) (fun _ => False) rfl rfl ?aO ?aR (fun _ _ h => h) (fun _ h => h.elim) ?aF ?aB ?aS ?aL ?_; (case aR => repeat (first | exact (Kd.C_below HR0.out HB.out) | (with_reducible refine Kd.C_alloc ?_ _) | (with_reducible refine Kd.C_drewN ?_ _) | (with_reducible refine Kd.C_drew ?_))); (case aB => exact (by repeat (first | (with_reducible first | exact HB.out | apply below_alloc | apply pw_below_drewN | apply below_drew1) | exact HB.out))); (case aF => exact (fun _ _ => trivial)); (case aO => exact (by (with_reducible repeat (first | apply Kd.R_alloc | apply Kd.R_drewN | apply Kd.R_drew)); exact HO460.out)); (case aS => exact (below_size (by repeat (first | (with_reducible first | exact HB.out | apply below_alloc | apply pw_below_drewN | apply below_drew1) | exact HB.out)))); (case aL => have := LMc11.out; omega); intro v462 w17 ho hb hg hat; rw [← Ny461.out] at ho; have n0_ := Aside0.mk (hb); have n1_ := Aside0.mk (ho); clear HB; clear HO460; have HB := n0_; have HO463 := n1_; clear n0_ n1_; clear ho hb hg hat; obtain ⟨Ao18, co18, eo18⟩ := Kd.R_slice HO463.out; subst eo18) | ((with_reducible refine gate_callee (f := 17) rfl ?_); refine goesL_ (some 27) rfl rfl Try.func17 (by kernel_rfl) rfl #[.slice Ao18 y461.length co18] rfl (by (try simp only [List.map_toArray, List.map_cons, List.map_nil]); first | done | rfl | (simp only [List.length_drop, List.length_take]; rfl)) ?_; (with_reducible refine (tlv_Get.calls kj2 (fun k_ => some k_ = (.slice Ao18 y461.length co18 : Value).ownBlock) _ _ y461 t464 t467 _ ?side1 A12.out).mono ?_); (case side1 => exact Kd.R_V (Kd.R_tight rfl (HO463.out))); rintro e w19 ⟨v465, rfl, ho0, hb⟩; refine ⟨_, rfl, ?_⟩; have n0_ := Aside0.mk (Kd.R_below (by (with_reducible repeat (first | apply Kd.R_alloc | apply Kd.R_drewN | apply Kd.R_drew)); exact HO463.out) hb); have n1_ := Aside0.mk (Kd.S_lower (Kd.S_new' (Kd.S_mono (ok' := fun k_ => True) ho0 (fun _ hk_ => trivial)) (Kd.R_lt (by (with_reducible repeat (first | apply Kd.R_alloc | apply Kd.R_drewN | apply Kd.R_drew)); exact HO463.out))) (below_size (by repeat (first | (with_reducible first | exact HB.out | apply below_alloc | apply pw_below_drewN | apply below_drew1) | exact HB.out)))); have n2_ := Aside0.mk (below_step (by repeat (first | (with_reducible first | exact HB.out | apply below_alloc | apply pw_below_drewN | apply below_drew1) | exact HB.out)) hb); clear HO463; clear HB; have HO463 := n0_; have HO466 := n1_; have HB := n2_; clear n0_ n1_ n2_; (try clear hb); (try clear hb2); (try clear hk); (try clear hi); (try clear ho0)) | ((with_reducible refine gate_callee (f := 17) rfl ?_); refine goesL_ (some 34) rfl rfl Try.func17 (by kernel_rfl) rfl #[.slice A0 l0.length c0] rfl (by (try simp only [List.map_toArray, List.map_cons, List.map_nil]); first | done | rfl | (simp only [List.length_drop, List.length_take]; rfl)) ?_; (with_reducible refine (tlv_Get.calls kj2 (fun k_ => k_ < w.heap.size) _ _ l0 t468 t471 _ ?side1 A14.out).mono ?_); (case side1 => exact Kd.V_mk HC0.out (Kd.F_below (Kd.C_F (Kd.heap_int .u8) HR0.out) (by repeat (first | (with_reducible first | exact HB.out | apply below_alloc | apply pw_below_drewN | apply below_drew1) | exact HB.out)))); rintro e w20 ⟨v469, rfl, ho0, hb⟩; refine ⟨_, rfl, ?_⟩; have n0_ := Aside0.mk (Kd.R_below (by (with_reducible repeat (first | apply Kd.R_alloc | apply Kd.R_drewN | apply Kd.R_drew)); exact HO463.out) hb); have n1_ := Aside0.mk (Kd.S_elder' (by (with_reducible repeat (first | apply Kd.S_alloc | apply Kd.S_drewN | apply Kd.S_drew)); exact HO466.out) (Kd.S_base ho0) hb); have n2_ := Aside0.mk (Kd.S_lower (Kd.S_new' (Kd.S_new' (Kd.S_mono (ok' := fun k_ => True) ho0 (fun _ hk_ => trivial)) (Kd.R_lt (by (with_reducible repeat (first | apply Kd.R_alloc | apply Kd.R_drewN | apply Kd.R_drew)); exact HO463.out))) (Kd.S_lt (by (with_reducible repeat (first | apply Kd.S_alloc | apply Kd.S_drewN | apply Kd.S_drew)); exact HO466.out))) (below_size (by repeat (first | (with_reducible first | exact HB.out | apply below_alloc | apply pw_below_drewN | apply below_drew1) | exact HB.out)))); have n3_ := Aside0.mk (below_step (by repeat (first | (with_reducible first | exact HB.out | apply below_alloc | apply pw_below_drewN | apply below_drew1) | exact HB.out)) hb); clear HO463; clear HO466; clear HB; have HO463 := n0_; have HO466 := n1_; have HO470 := n2_; have HB := n3_; clear n0_ n1_ n2_ n3_; (try clear hb); (try clear hb2); (try clear hk); (try clear hi); (try clear ho0)))
            go_loopg [39] kj2 (fun kq v39 w' => ∃ (x5_2 : List Int) (x39_2 : Int), v39 = .int .i64 x39_2 ∧ Aside0 (marlinelaw12_TlvKeeps.l0 kq a1 x5_2 t464 t468 (y461.length : Int) x39_2 = some r) ∧ Aside0 (kq ≤ kj2) ∧ Aside0 (Kd.R (Kd.int .u8) 5 w' w.heap.size (fun _ => True) (.slice Ao18 y461.length co18) x5_2) ∧ Aside0 (Kd.S k57 57 w' w.heap.size (fun k_ => some k_ ≠ ((.slice Ao18 y461.length co18) : Value).ownBlock ∧ some k_ ≠ (v469 : Value).ownBlock) v465 t464) ∧ Aside0 (Kd.S k57 57 w' w.heap.size (fun k_ => some k_ ≠ ((.slice Ao18 y461.length co18) : Value).ownBlock ∧ some k_ ≠ (v465 : Value).ownBlock) v469 t468) ∧ Aside0 (Below w.heap.size w w'))
            case atStart => exact ⟨(y461), (0), (by first | rfl | (simp; done) | (simp [*]; done)), H', ⟨Nat.le_refl _⟩, ⟨by (with_reducible repeat (first | apply Kd.R_alloc | apply Kd.R_drewN | apply Kd.R_drew)); exact HO463.out⟩, ⟨by (with_reducible repeat (first | apply Kd.S_alloc | apply Kd.S_drewN | apply Kd.S_drew)); exact Kd.S_mono HO466.out (fun _ hk => ⟨hk.1.2, hk.2⟩)⟩, ⟨by (with_reducible repeat (first | apply Kd.S_alloc | apply Kd.S_drewN | apply Kd.S_drew)); exact Kd.S_mono HO470.out (fun _ hk => ⟨hk.1.2, hk.2⟩)⟩, ⟨by repeat (first | (with_reducible first | exact HB.out | apply below_alloc | apply pw_below_drewN | apply below_drew1) | exact HB.out)⟩⟩
            case round =>
              clear H'
              try clear c1
              try clear p2
              try clear c5
              try clear c7
              try clear c8
              try clear c11
              try clear c13
              try clear c13b0
              try clear c13b1
              try clear c17
              try clear p2
              obtain ⟨x5_2, x39_2, rfl, HA, HK2, HO_5, HO_6, HO_8, HB⟩ := hrel
              have hl5_2 := (Kd.R_reads' HO_5.out).1
              rw [hl5_2] at HO_5
              (try simp only [hl5_2])
              (try simp only [hl5_2] at HO_6)
              (try simp only [hl5_2] at HO_8)
              cases gk with
              | zero => exact absurd HA.out (by simp [marlinelaw12_TlvKeeps.l0])
              | succ k2 =>
                have H := HA.out
                clear HA
                simp only [marlinelaw12_TlvKeeps.l0] at H
                by_cases c21 : x39_2 < (y461.length : Int)
                · rw [if_pos c21] at H
                  have c21b0 : decide (x39_2 < (y461.length : Int)) = true := decide_eq_true c21
                  clear c21
                  by_cases c22 : 0 ≤ x39_2
                  · rw [if_pos c22] at H
                    have c22b0 : decide (0 ≤ x39_2) = true := decide_eq_true c22
                    clear c22
                    by_cases c23 : x39_2 < (x5_2.length : Int)
                    · rw [if_pos c23] at H
                      have c23b0 : decide (x39_2 < (x5_2.length : Int)) = true := decide_eq_true c23
                      clear c23
                      obtain ⟨y473, hy473⟩ : ∃ y_ : List Int, y_ = (x5_2.set (x39_2 : Int).toNat (((rd x5_2 x39_2) + 1) % 256)) := ⟨_, rfl⟩
                      replace H : (marlinelaw12_TlvKeeps.l0 k2 a1 y473 t464 t468 (y461.length : Int) (wrap64 (x39_2 + 1))) = some r := by first | (rw [hy473]; with_reducible exact H) | (have H2_ := (Option.bind_some _ _).symm.trans H; rw [hy473]; with_reducible exact H2_) | (have H2_ := (Option.bind_some _ _).symm.trans H; with_reducible exact H2_) | with_reducible exact H | (rw [hy473]; exact H) | exact H
                      have Ny473 := Aside0.mk hy473
                      clear hy473
                      have H' := Aside0.mk H
                      clear H
                      have p472 : 0 ≤ (x39_2 : Int) := of_decide_eq_true (by first | (with_reducible assumption) | assumption)
                      have q472 : x39_2 < (x5_2.length : Int) := of_decide_eq_true (by first | (with_reducible assumption) | assumption)
                      obtain ⟨ad472, e472, hx472_0⟩ := Kd.at_int (Kd.R_reads' HO_5.out).2.2 x39_2 p472 q472
                      cases e472
                      replace p472 := eq_true p472
                      replace q472 := eq_true q472
                      have p24 : 0 ≤ (x39_2 : Int) := of_decide_eq_true (by first | (with_reducible assumption) | assumption)
                      have q24 : (x39_2 : Int) < ((x5_2.length : Int) : Int) := of_decide_eq_true (by first | (with_reducible assumption) | assumption)
                      obtain ⟨go24, co24, eo24, gb24, gl24, cl24, HG24⟩ := Kd.R_form HO_5.out (by omega)
                      (first | cases eo24 | (injection eo24 with ea_ en_ ec_; (first | subst ea_ | (injection ea_ with ea_; subst ea_)); subst ec_; clear en_))
                      have GB24 := Aside0.mk gb24
                      have GG24 := Aside0.mk HG24
                      clear gb24 gl24 HG24
                      (first | simp only [add_plain] at hx472_0 | skip)
                      obtain ⟨hx24_0, hf24_0⟩ := Kd.R_celln 0 HO_5.out (x39_2 : Int) p24 q24
                      replace p24 := eq_true p24
                      replace q24 := eq_true q24
                      have HP25 := Kd.R_putg HO_5.out (x39_2 : Int) (((rd x5_2 x39_2) + 1) % 256)
                      go_wp2_with (first | ((with_reducible refine gate_store (t := 5) (p := 47) rfl ?_); refine store_event (t := 5) (p := 47) (v := ?vo_w26) (w1 := (wr.setCell ⟨go24, (x39_2 : Int).toNat, none⟩ (.int .u8 (((rd x5_2 x39_2) + 1) % 256)))) ?hg ?ho ?hn ?hr ?_; (case ho => rfl); (case hg => rfl); (case hn => rfl); (case hr => first | (go_simp; done) | (go_simp; simp only [IntKind.wrap_u8, IntKind.wrap_u16, IntKind.wrap_u32, IntKind.wrap_u64]; done) | (go_simp; rfl)); intro w26 hw; have hg : wr.grownBy w26 (some go24) := (by rw [hw]; exact HP25.2); have hp_ : Kd.R (Kd.int .u8) 5 w26 w.heap.size (fun _ => True) (.slice (some ⟨go24, 0, none⟩) x5_2.length co18) y473 := (by rw [hw, Ny473.out]; exact HP25.1); clear HP25; have n0_ := Aside0.mk (hp_); have n1_ := Aside0.mk (Kd.S_after (v := (.slice (some ⟨go24, 0, none⟩) x5_2.length co18)) (v1 := (.slice (some ⟨go24, 0, none⟩) x5_2.length co18)) (ok := (fun k_ => some k_ ≠ (v469 : Value).ownBlock)) (by (with_reducible repeat (first | apply Kd.S_alloc | apply Kd.S_drewN | apply Kd.S_drew)); exact Kd.S_mono HO_6.out (fun _ hk => ⟨hk.2, hk.1⟩)) hg (.inl rfl)); have n2_ := Aside0.mk (Kd.S_after (v := (.slice (some ⟨go24, 0, none⟩) x5_2.length co18)) (v1 := (.slice (some ⟨go24, 0, none⟩) x5_2.length co18)) (ok := (fun k_ => some k_ ≠ (v465 : Value).ownBlock)) (by (with_reducible repeat (first | apply Kd.S_alloc | apply Kd.S_drewN | apply Kd.S_drew)); exact Kd.S_mono HO_8.out (fun _ hk => ⟨hk.2, hk.1⟩)) hg (.inl rfl)); have n3_ := Aside0.mk ((by rw [hw]; exact below_set (HB.out) GB24.out : Below w.heap.size w w26)); clear HO_5; clear HO_6; clear HO_8; clear HB; have HO_5 := n0_; have HO_6 := n1_; have HO_8 := n2_; have HB := n3_; clear n0_ n1_ n2_ n3_; clear hg hw hp_))
                      (try simp only [← hl5_2])
                      go_roundg k2
                      case measure => have := HJ2.out; have := HK2.out; omega
                      case rel => exact ⟨(y473), (wrap64 (x39_2 + 1)), (by first | rfl | (simp; done) | (simp [*]; done)), H', ⟨by have := HJ2.out; have := HK2.out; omega⟩, ⟨by (try simp only [hl5_2]); (with_reducible repeat (first | apply Kd.R_alloc | apply Kd.R_drewN | apply Kd.R_drew)); exact HO_5.out⟩, ⟨by (try simp only [hl5_2]); (with_reducible repeat (first | apply Kd.S_alloc | apply Kd.S_drewN | apply Kd.S_drew)); exact Kd.S_mono HO_6.out (fun _ hk => ⟨hk.2, hk.1⟩)⟩, ⟨by (try simp only [hl5_2]); (with_reducible repeat (first | apply Kd.S_alloc | apply Kd.S_drewN | apply Kd.S_drew)); exact Kd.S_mono HO_8.out (fun _ hk => ⟨hk.2, hk.1⟩)⟩, ⟨by repeat (first | (with_reducible first | exact HB.out | apply below_alloc | apply pw_below_drewN | apply below_drew1) | exact HB.out)⟩⟩
                    · rw [if_neg c23] at H
                      exact absurd H (by simp)
                  · rw [if_neg c22] at H
                    exact absurd H (by simp)
                · rw [if_neg c21] at H
                  have c21b0 : decide (x39_2 < (y461.length : Int)) = false := decide_eq_false c21
                  (try simp only [hl5_2] at c21b0)
                  clear c21
                  replace H := Option.bind_eq_some_iff.mp H
                  obtain ⟨⟨t474, t475, t478⟩, A270, H⟩ := H
                  replace H : (if t478 = true then (marlinelaw12_TlvKeeps.l1 k2 t464 t468 (t475.length : Int) 0 t474 t475) else (marlinelaw12_TlvKeeps.j3 k2 t464 t468)) = some r := H
                  have A27 := Aside0.mk A270
                  clear A270
                  have HC28 := Aside0.mk H
                  clear H
                  obtain ⟨Ao29, co29, eo29⟩ := Kd.S_slice HO_6.out
                  subst eo29
                  go_upto_if 55 with (first | ((with_reducible refine gate_callee (f := 29) rfl ?_); refine goesL_ (some 52) rfl rfl Try.func29 (by kernel_rfl) rfl #[.slice Ao29 t464.length co29, .int .u8 a1] rfl (by (try simp only [List.map_toArray, List.map_cons, List.map_nil]); first | done | rfl | (simp only [List.length_drop, List.length_take]; rfl)) ?_; (with_reducible refine (tlv_Find.calls _ _ t464 a1 t474 t475 t478 _ ?side1 ?side2 A27.out).mono ?_); (case side1 => repeat (first | exact (Kd.S_reads' HO_6.out).2.2 | (with_reducible refine Kd.C_alloc ?_ _) | (with_reducible refine Kd.C_drewN ?_ _) | (with_reducible refine Kd.C_drew ?_))); (case side2 => exact (Kd.S_reads' HO_6.out).2.1); rintro e w30 ⟨v476, rfl, ho0, hb⟩; refine ⟨_, rfl, ?_⟩; have n0_ := Aside0.mk (Kd.R_elder' (by (with_reducible repeat (first | apply Kd.R_alloc | apply Kd.R_drewN | apply Kd.R_drew)); exact HO_5.out) (Kd.R_base ho0) hb); have n1_ := Aside0.mk (Kd.S_elder' (by (with_reducible repeat (first | apply Kd.S_alloc | apply Kd.S_drewN | apply Kd.S_drew)); exact HO_6.out) (Kd.R_base ho0) hb); have n2_ := Aside0.mk (Kd.S_elder' (by (with_reducible repeat (first | apply Kd.S_alloc | apply Kd.S_drewN | apply Kd.S_drew)); exact HO_8.out) (Kd.R_base ho0) hb); have n3_ := Aside0.mk (Kd.R_lower (Kd.R_new' ho0 (Kd.R_lt (by (with_reducible repeat (first | apply Kd.R_alloc | apply Kd.R_drewN | apply Kd.R_drew)); exact HO_5.out))) (below_size (by repeat (first | (with_reducible first | exact HB.out | apply below_alloc | apply pw_below_drewN | apply below_drew1) | exact HB.out)))); have n4_ := Aside0.mk (below_step (by repeat (first | (with_reducible first | exact HB.out | apply below_alloc | apply pw_below_drewN | apply below_drew1) | exact HB.out)) hb); clear HO_5; clear HO_6; clear HO_8; clear HB; have HO_5 := n0_; have HO_6 := n1_; have HO_8 := n2_; have HO477 := n3_; have HB := n4_; clear n0_ n1_ n2_ n3_ n4_; (try clear hb); (try clear hb2); (try clear hk); (try clear hi); (try clear ho0)) | ((with_reducible refine gate_dst (N := 11) rfl ?_); (try (refine gate_guard (by rfl) ?_; dsimp only)); refine box_event ?hg (N := 11) ?hd (cs := #[.int .u8 0, .slice none 0 0]) (t := 57) ?hr ?_; (case hd => rfl); (case hg => rfl); (case hr => first | (go_simp; done) | (go_simp; simp only [IntKind.wrap_u8, IntKind.wrap_u16, IntKind.wrap_u32, IntKind.wrap_u64]; done) | (go_simp; rfl)); intro gb479 hg w31 hbox hb; have n0_ := Aside0.mk (Kd.R_below (by (with_reducible repeat (first | apply Kd.R_alloc | apply Kd.R_drewN | apply Kd.R_drew)); exact HO_5.out) hb); have n1_ := Aside0.mk (Kd.S_below (Kd.S_elderB (by (with_reducible repeat (first | apply Kd.S_alloc | apply Kd.S_drewN | apply Kd.S_drew)); exact HO_6.out) gb479 (Nat.le_of_eq hg.symm)) hb); have n2_ := Aside0.mk (Kd.S_below (Kd.S_elderB (by (with_reducible repeat (first | apply Kd.S_alloc | apply Kd.S_drewN | apply Kd.S_drew)); exact HO_8.out) gb479 (Nat.le_of_eq hg.symm)) hb); have n3_ := Aside0.mk (Kd.R_below (by (with_reducible repeat (first | apply Kd.R_alloc | apply Kd.R_drewN | apply Kd.R_drew)); exact HO477.out) hb); have n4_ := Aside0.mk (below_step (by repeat (first | (with_reducible first | exact HB.out | apply below_alloc | apply pw_below_drewN | apply below_drew1) | exact HB.out)) hb); have n5_ := Aside0.mk (hbox); have n6_ := Aside0.mk ((by rw [hg]; exact (below_size (by repeat (first | (with_reducible first | exact HB.out | apply below_alloc | apply pw_below_drewN | apply below_drew1) | exact HB.out))) : w.heap.size ≤ gb479)); have n7_ := Aside0.mk ((by rw [hg]; exact (below_size (by repeat (first | (with_reducible first | exact HB.out | apply below_alloc | apply pw_below_drewN | apply below_drew1) | exact HB.out))) : w.heap.size ≤ gb479)); clear HO_5; clear HO_6; clear HO_8; clear HO477; clear HB; have HO_5 := n0_; have HO_6 := n1_; have HO_8 := n2_; have HO477 := n3_; have HB := n4_; have BK479 := n5_; have GW479 := n6_; have GE479 := n7_; clear n0_ n1_ n2_ n3_ n4_ n5_ n6_ n7_; clear hb hbox hg; have hcz32_0 : w31.cell? ⟨gb479, 0, none⟩ = some (.int .u8 0) := (blk_cell BK479.out 0).trans rfl; have hcz32_1 : w31.cell? ⟨gb479, 1, none⟩ = some (.slice none 0 0) := (blk_cell BK479.out 1).trans rfl; have hfz32_0 := blk_frozen BK479.out 0; have hfz32_1 := blk_frozen BK479.out 1; obtain ⟨Ao33, co33, eo33⟩ := Kd.R_slice HO477.out; subst eo33))
                  (try simp only [Act.put, List.setIfInBounds_toArray, List.set_cons_zero, List.set_cons_succ])
                  go_cut [] (fun wc => ∃ (kq : Nat) (x480001_27 : List Int) (u480001 : Value), Aside0 (marlinelaw12_TlvKeeps.j3 kq t464 t468 = some r) ∧ Aside0 (kq ≤ k2) ∧ Aside0 (Kd.S k57 57 wc w.heap.size (fun k_ => some k_ ≠ (v469 : Value).ownBlock ∧ some k_ ≠ (u480001 : Value).ownBlock ∧ k_ ≠ gb479) (.slice Ao29 t464.length co29) t464) ∧ Aside0 (Kd.S k57 57 wc w.heap.size (fun k_ => some k_ ≠ ((.slice Ao29 t464.length co29) : Value).ownBlock ∧ some k_ ≠ (u480001 : Value).ownBlock ∧ k_ ≠ gb479) v469 t468) ∧ Aside0 (Kd.R (Kd.int .u8) 5 wc w.heap.size (fun _ => True) u480001 x480001_27) ∧ Aside0 (wc.heap[gb479]? = some (.cells #[.int .u8 t474, u480001] 57 (0, 0))) ∧ Aside0 (Below w.heap.size w wc))
                  case first =>
                    have H := HC28.out
                    clear HC28
                    by_cases c34 : t478 = true
                    · subst c34
                      have H1 : (marlinelaw12_TlvKeeps.l1 k2 t464 t468 (t475.length : Int) 0 t474 t475) = some r := by rw [if_pos rfl] at H; exact H
                      clear H
                      have H := H1
                      clear H1
                      have H' := Aside0.mk H
                      clear H
                      have hcz35_0 : w31.cell? ⟨gb479, 0, none⟩ = some (.int .u8 0) := (blk_cell BK479.out 0).trans rfl
                      have hcz35_1 : w31.cell? ⟨gb479, 1, none⟩ = some (.slice none 0 0) := (blk_cell BK479.out 1).trans rfl
                      have hfz35_0 := blk_frozen BK479.out 0
                      have hfz35_1 := blk_frozen BK479.out 1
                      go_wp2
                      go_loopg [59] k2 (fun kq v59 w' => ∃ (x59_3 : Int) (x480001_3 : List Int) (u480001 : Value), v59 = .int .i64 x59_3 ∧ Aside0 (marlinelaw12_TlvKeeps.l1 kq t464 t468 (t475.length : Int) x59_3 t474 x480001_3 = some r) ∧ Aside0 (kq ≤ k2) ∧ Aside0 (Kd.S k57 57 w' w.heap.size (fun k_ => some k_ ≠ (v469 : Value).ownBlock ∧ some k_ ≠ (u480001 : Value).ownBlock ∧ k_ ≠ gb479) (.slice Ao29 t464.length co29) t464) ∧ Aside0 (Kd.S k57 57 w' w.heap.size (fun k_ => some k_ ≠ ((.slice Ao29 t464.length co29) : Value).ownBlock ∧ some k_ ≠ (u480001 : Value).ownBlock ∧ k_ ≠ gb479) v469 t468) ∧ Aside0 (Kd.R (Kd.int .u8) 5 w' w.heap.size (fun _ => True) u480001 x480001_3) ∧ Aside0 (w'.heap[gb479]? = some (.cells #[.int .u8 t474, u480001] 57 (0, 0))) ∧ Aside0 (Below w.heap.size w w'))
                      case atStart => exact ⟨(0), (t475), (.slice Ao33 t475.length co33), (by first | rfl | (simp; done) | (simp [*]; done)), H', ⟨Nat.le_refl _⟩, ⟨by (try simp only [hl5_2]); (with_reducible repeat (first | apply Kd.S_alloc | apply Kd.S_drewN | apply Kd.S_drew)); exact Kd.S_mono (Kd.S_far (p := ⟨gb479, 1, none⟩) (Kd.S_far (p := ⟨gb479, 0, none⟩) (Kd.S_mono HO_6.out (fun k_ hk => (⟨hk, hk.2⟩ : _ ∧ k_ ≠ gb479))) (fun _ hk => hk.2) (.int .u8 t474)) (fun _ hk => hk.2) (.slice Ao33 t475.length co33)) (fun _ hk => ⟨hk.1.1.1.2, ⟨hk.1.1.2, hk.1.2⟩⟩)⟩, ⟨by (try simp only [hl5_2]); (with_reducible repeat (first | apply Kd.S_alloc | apply Kd.S_drewN | apply Kd.S_drew)); exact Kd.S_mono (Kd.S_far (p := ⟨gb479, 1, none⟩) (Kd.S_far (p := ⟨gb479, 0, none⟩) (Kd.S_mono HO_8.out (fun k_ hk => (⟨hk, hk.2⟩ : _ ∧ k_ ≠ gb479))) (fun _ hk => hk.2) (.int .u8 t474)) (fun _ hk => hk.2) (.slice Ao33 t475.length co33)) (fun _ hk => ⟨hk.1.1.1.2, ⟨hk.1.1.2, hk.1.2⟩⟩)⟩, ⟨by (try simp only [hl5_2]); (with_reducible repeat (first | apply Kd.R_alloc | apply Kd.R_drewN | apply Kd.R_drew)); exact Kd.R_mono (Kd.R_far (p := ⟨gb479, 1, none⟩) (Kd.R_far (p := ⟨gb479, 0, none⟩) (Kd.R_types HO477.out BK479.out (by decide)) (fun _ hk => hk.2) (.int .u8 t474)) (fun _ hk => hk.2) (.slice Ao33 t475.length co33)) (fun _ hk => trivial)⟩, ⟨by (try simp only [hl5_2]); (with_reducible repeat (first | refine blk_drewN ?_ _ | refine blk_drew ?_ | refine blk_alloc ?_ _)); refine blk_put (cs := #[.int .u8 t474, .slice none 0 0]) ?_ 1 _ rfl; (with_reducible repeat (first | refine blk_drewN ?_ _ | refine blk_drew ?_ | refine blk_alloc ?_ _)); refine blk_put (cs := #[.int .u8 0, .slice none 0 0]) ?_ 0 _ rfl; (with_reducible repeat (first | refine blk_drewN ?_ _ | refine blk_drew ?_ | refine blk_alloc ?_ _)); exact BK479.out⟩, ⟨by repeat (first | (with_reducible first | exact HB.out | apply below_alloc | apply pw_below_drewN | apply below_drew1 | refine below_set ?_ GE479.out) | exact HB.out)⟩⟩
                      case round =>
                        clear H'
                        try clear c1
                        try clear c2
                        try clear p2
                        try clear q2
                        try clear hx2
                        try clear hf2
                        try clear c3
                        try clear p4
                        try clear q4
                        try clear hx4
                        try clear c5
                        try clear p6
                        try clear c7
                        try clear c8
                        try clear c11
                        try clear c13
                        try clear c13b0
                        try clear c13b1
                        try clear c17
                        try clear c21
                        try clear c21b0
                        try clear c22
                        try clear c22b0
                        try clear c23
                        try clear c23b0
                        try clear p24
                        try clear q24
                        try clear hx24
                        try clear hf24
                        try clear c29
                        try clear c34
                        try clear hcz32_0
                        try clear hcz32_1
                        try clear hcz35_0
                        try clear hcz35_1
                        try clear hfz32_0
                        try clear hfz32_1
                        try clear hfz35_0
                        try clear hfz35_1
                        try clear hx24_0
                        try clear hx472_0
                        try clear p2
                        try clear p24
                        try clear p472
                        try clear q24
                        try clear q472
                        obtain ⟨x59_3, x480001_3, u480001, rfl, HA, HK3, HO_6, HO_8, HO_480001, BK479, HB⟩ := hrel
                        cases gk with
                        | zero => exact absurd HA.out (by simp [marlinelaw12_TlvKeeps.l1])
                        | succ k3 =>
                          have H := HA.out
                          clear HA
                          simp only [marlinelaw12_TlvKeeps.l1] at H
                          by_cases c36 : x59_3 < (t475.length : Int)
                          · rw [if_pos c36] at H
                            have c36b0 : decide (x59_3 < (t475.length : Int)) = true := decide_eq_true c36
                            clear c36
                            (first | rw [c36b0] | (simp only [i64_w, i32_w]; rw [c36b0]) | skip)
                            by_cases c37 : 0 ≤ x59_3
                            · rw [if_pos c37] at H
                              have c37b0 : decide (0 ≤ x59_3) = true := decide_eq_true c37
                              clear c37
                              by_cases c38 : x59_3 < (x480001_3.length : Int)
                              · rw [if_pos c38] at H
                                have c38b0 : decide (x59_3 < (x480001_3.length : Int)) = true := decide_eq_true c38
                                clear c38
                                obtain ⟨y481, hy481⟩ : ∃ y_ : List Int, y_ = (x480001_3.set (x59_3 : Int).toNat (((rd x480001_3 x59_3) + 1) % 256)) := ⟨_, rfl⟩
                                replace H : (marlinelaw12_TlvKeeps.l1 k3 t464 t468 (t475.length : Int) (wrap64 (x59_3 + 1)) t474 y481) = some r := by first | (rw [hy481]; with_reducible exact H) | (have H2_ := (Option.bind_some _ _).symm.trans H; rw [hy481]; with_reducible exact H2_) | (have H2_ := (Option.bind_some _ _).symm.trans H; with_reducible exact H2_) | with_reducible exact H | (rw [hy481]; exact H) | exact H
                                have Ny481 := Aside0.mk hy481
                                clear hy481
                                have H' := Aside0.mk H
                                clear H
                                have hcz40_0 : wr.cell? ⟨gb479, 0, none⟩ = some (.int .u8 t474) := (blk_cell BK479.out 0).trans rfl
                                have hcz40_1 : wr.cell? ⟨gb479, 1, none⟩ = some (u480001) := (blk_cell BK479.out 1).trans rfl
                                have hfz40_0 := blk_frozen BK479.out 0
                                have hfz40_1 := blk_frozen BK479.out 1
                                obtain ⟨Ao41, co41, eo41⟩ := Kd.R_slice HO_480001.out
                                subst eo41
                                have p480 : 0 ≤ (x59_3 : Int) := of_decide_eq_true (by first | (with_reducible assumption) | assumption)
                                have q480 : x59_3 < (x480001_3.length : Int) := of_decide_eq_true (by first | (with_reducible assumption) | assumption)
                                obtain ⟨ad480, e480, hx480_0⟩ := Kd.at_int (Kd.R_reads' HO_480001.out).2.2 x59_3 p480 q480
                                cases e480
                                replace p480 := eq_true p480
                                replace q480 := eq_true q480
                                have p39 : 0 ≤ (x59_3 : Int) := of_decide_eq_true (by first | (with_reducible assumption) | assumption)
                                have q39 : (x59_3 : Int) < ((x480001_3.length : Int) : Int) := of_decide_eq_true (by first | (with_reducible assumption) | assumption)
                                obtain ⟨go39, co39, eo39, gb39, gl39, cl39, HG39⟩ := Kd.R_form HO_480001.out (by omega)
                                (first | cases eo39 | (injection eo39 with ea_ en_ ec_; (first | subst ea_ | (injection ea_ with ea_; subst ea_)); subst ec_; clear en_))
                                have GB39 := Aside0.mk gb39
                                have GG39 := Aside0.mk HG39
                                clear gb39 gl39 HG39
                                (first | simp only [add_plain] at hx480_0 | skip)
                                obtain ⟨hx39_0, hf39_0⟩ := Kd.R_celln 0 HO_480001.out (x59_3 : Int) p39 q39
                                replace p39 := eq_true p39
                                replace q39 := eq_true q39
                                have HP42 := Kd.R_putg HO_480001.out (x59_3 : Int) (((rd x480001_3 x59_3) + 1) % 256)
                                go_wp2_with (first | ((with_reducible refine gate_store (t := 5) (p := 68) rfl ?_); refine store_event (t := 5) (p := 68) (v := ?vo_w43) (w1 := (wr.setCell ⟨go39, (x59_3 : Int).toNat, none⟩ (.int .u8 (((rd x480001_3 x59_3) + 1) % 256)))) ?hg ?ho ?hn ?hr ?_; (case ho => rfl); (case hg => rfl); (case hn => rfl); (case hr => first | (go_simp; done) | (go_simp; simp only [IntKind.wrap_u8, IntKind.wrap_u16, IntKind.wrap_u32, IntKind.wrap_u64]; done) | (go_simp; rfl)); intro w43 hw; have hg : wr.grownBy w43 (some go39) := (by rw [hw]; exact HP42.2); have hp_ : Kd.R (Kd.int .u8) 5 w43 w.heap.size (fun _ => True) (.slice (some ⟨go39, 0, none⟩) x480001_3.length co41) y481 := (by rw [hw, Ny481.out]; exact HP42.1); clear HP42; have n0_ := Aside0.mk (Kd.S_after (v := (.slice (some ⟨go39, 0, none⟩) x480001_3.length co41)) (v1 := (.slice (some ⟨go39, 0, none⟩) x480001_3.length co41)) (ok := (fun k_ => some k_ ≠ (v469 : Value).ownBlock ∧ k_ ≠ gb479)) (by (with_reducible repeat (first | apply Kd.S_alloc | apply Kd.S_drewN | apply Kd.S_drew)); exact Kd.S_mono HO_6.out (fun _ hk => ⟨⟨hk.1, hk.2.2⟩, hk.2.1⟩)) hg (.inl rfl)); have n1_ := Aside0.mk (Kd.S_after (v := (.slice (some ⟨go39, 0, none⟩) x480001_3.length co41)) (v1 := (.slice (some ⟨go39, 0, none⟩) x480001_3.length co41)) (ok := (fun k_ => some k_ ≠ (.slice Ao29 t464.length co29 : Value).ownBlock ∧ k_ ≠ gb479)) (by (with_reducible repeat (first | apply Kd.S_alloc | apply Kd.S_drewN | apply Kd.S_drew)); exact Kd.S_mono HO_8.out (fun _ hk => ⟨⟨hk.1, hk.2.2⟩, hk.2.1⟩)) hg (.inl rfl)); have n2_ := Aside0.mk (hp_); have n3_ := Aside0.mk (blk_grown (g := gb479) (o := .cells #[.int .u8 t474, .slice (some ⟨go39, 0, none⟩) x480001_3.length co41] 57 (0, 0)) (by (with_reducible repeat (first | refine blk_drewN ?_ _ | refine blk_drew ?_ | refine blk_alloc ?_ _)); exact BK479.out) hg (Kd.R_ne HO_480001.out BK479.out (by decide))); have n4_ := Aside0.mk ((by rw [hw]; exact below_set (HB.out) GB39.out : Below w.heap.size w w43)); clear HO_6; clear HO_8; clear HO_480001; clear BK479; clear HB; have HO_6 := n0_; have HO_8 := n1_; have HO_480001 := n2_; have BK479 := n3_; have HB := n4_; clear n0_ n1_ n2_ n3_ n4_; clear hg hw hp_))
                                go_roundg k3
                                case measure => have := HJ2.out; have := HK2.out; have := HK3.out; omega
                                case rel => exact ⟨(wrap64 (x59_3 + 1)), (y481), (.slice (some ⟨go39, 0, none⟩) x480001_3.length co41), (by first | rfl | (simp; done) | (simp [*]; done)), H', ⟨by have := HJ2.out; have := HK2.out; have := HK3.out; omega⟩, ⟨by (try simp only [hl5_2]); (with_reducible repeat (first | apply Kd.S_alloc | apply Kd.S_drewN | apply Kd.S_drew)); exact Kd.S_mono HO_6.out (fun _ hk => ⟨hk.1.1, ⟨hk.2, hk.1.2⟩⟩)⟩, ⟨by (try simp only [hl5_2]); (with_reducible repeat (first | apply Kd.S_alloc | apply Kd.S_drewN | apply Kd.S_drew)); exact Kd.S_mono HO_8.out (fun _ hk => ⟨hk.1.1, ⟨hk.2, hk.1.2⟩⟩)⟩, ⟨by (try simp only [hl5_2]); (with_reducible repeat (first | apply Kd.R_alloc | apply Kd.R_drewN | apply Kd.R_drew)); exact HO_480001.out⟩, ⟨by (try simp only [hl5_2]); (with_reducible repeat (first | refine blk_drewN ?_ _ | refine blk_drew ?_ | refine blk_alloc ?_ _)); exact BK479.out⟩, ⟨by repeat (first | (with_reducible first | exact HB.out | apply below_alloc | apply pw_below_drewN | apply below_drew1 | refine below_set ?_ GE479.out) | exact HB.out)⟩⟩
                              · rw [if_neg c38] at H
                                exact absurd H (by simp)
                            · rw [if_neg c37] at H
                              exact absurd H (by simp)
                          · rw [if_neg c36] at H
                            have c36b0 : decide (x59_3 < (t475.length : Int)) = false := decide_eq_false c36
                            (try simp only [hl5_2] at c36b0)
                            clear c36
                            (first | rw [c36b0] | (simp only [i64_w, i32_w]; rw [c36b0]) | skip)
                            have H' := Aside0.mk H
                            clear H
                            go_wp2
                            go_meet
                            case rel => exact ⟨_, (x480001_3), (u480001), H', ⟨by have := HJ2.out; have := HK2.out; have := HK3.out; first | omega | exact Nat.le_refl _⟩, ⟨by (try simp only [hl5_2]); (with_reducible repeat (first | apply Kd.S_alloc | apply Kd.S_drewN | apply Kd.S_drew)); exact HO_6.out⟩, ⟨by (try simp only [hl5_2]); (with_reducible repeat (first | apply Kd.S_alloc | apply Kd.S_drewN | apply Kd.S_drew)); exact HO_8.out⟩, ⟨by (try simp only [hl5_2]); (with_reducible repeat (first | apply Kd.R_alloc | apply Kd.R_drewN | apply Kd.R_drew)); exact HO_480001.out⟩, ⟨by (try simp only [hl5_2]); (with_reducible repeat (first | refine blk_drewN ?_ _ | refine blk_drew ?_ | refine blk_alloc ?_ _)); exact BK479.out⟩, ⟨by repeat (first | (with_reducible first | exact HB.out | apply below_alloc | apply pw_below_drewN | apply below_drew1 | refine below_set ?_ GE479.out) | exact HB.out)⟩⟩
                    · replace c34 := Bool.eq_false_iff.mpr c34
                      subst c34
                      have H1 : (marlinelaw12_TlvKeeps.j3 k2 t464 t468) = some r := by rw [if_neg (show ¬ (false = true) by decide)] at H; exact H
                      clear H
                      have H := H1
                      clear H1
                      have H' := Aside0.mk H
                      clear H
                      go_wp2
                      go_meet
                      case rel => exact ⟨_, (t475), (.slice Ao33 t475.length co33), H', ⟨by have := HJ2.out; have := HK2.out; first | omega | exact Nat.le_refl _⟩, ⟨by (try simp only [hl5_2]); (with_reducible repeat (first | apply Kd.S_alloc | apply Kd.S_drewN | apply Kd.S_drew)); exact Kd.S_mono (Kd.S_far (p := ⟨gb479, 1, none⟩) (Kd.S_far (p := ⟨gb479, 0, none⟩) (Kd.S_mono HO_6.out (fun k_ hk => (⟨hk, hk.2⟩ : _ ∧ k_ ≠ gb479))) (fun _ hk => hk.2) (.int .u8 t474)) (fun _ hk => hk.2) (.slice Ao33 t475.length co33)) (fun _ hk => ⟨hk.1.1.1.2, ⟨hk.1.1.2, hk.1.2⟩⟩)⟩, ⟨by (try simp only [hl5_2]); (with_reducible repeat (first | apply Kd.S_alloc | apply Kd.S_drewN | apply Kd.S_drew)); exact Kd.S_mono (Kd.S_far (p := ⟨gb479, 1, none⟩) (Kd.S_far (p := ⟨gb479, 0, none⟩) (Kd.S_mono HO_8.out (fun k_ hk => (⟨hk, hk.2⟩ : _ ∧ k_ ≠ gb479))) (fun _ hk => hk.2) (.int .u8 t474)) (fun _ hk => hk.2) (.slice Ao33 t475.length co33)) (fun _ hk => ⟨hk.1.1.1.2, ⟨hk.1.1.2, hk.1.2⟩⟩)⟩, ⟨by (try simp only [hl5_2]); (with_reducible repeat (first | apply Kd.R_alloc | apply Kd.R_drewN | apply Kd.R_drew)); exact Kd.R_mono (Kd.R_far (p := ⟨gb479, 1, none⟩) (Kd.R_far (p := ⟨gb479, 0, none⟩) (Kd.R_types HO477.out BK479.out (by decide)) (fun _ hk => hk.2) (.int .u8 t474)) (fun _ hk => hk.2) (.slice Ao33 t475.length co33)) (fun _ hk => trivial)⟩, ⟨by (try simp only [hl5_2]); (with_reducible repeat (first | refine blk_drewN ?_ _ | refine blk_drew ?_ | refine blk_alloc ?_ _)); refine blk_put (cs := #[.int .u8 t474, .slice none 0 0]) ?_ 1 _ rfl; (with_reducible repeat (first | refine blk_drewN ?_ _ | refine blk_drew ?_ | refine blk_alloc ?_ _)); refine blk_put (cs := #[.int .u8 0, .slice none 0 0]) ?_ 0 _ rfl; (with_reducible repeat (first | refine blk_drewN ?_ _ | refine blk_drew ?_ | refine blk_alloc ?_ _)); exact BK479.out⟩, ⟨by repeat (first | (with_reducible first | exact HB.out | apply below_alloc | apply pw_below_drewN | apply below_drew1 | refine below_set ?_ GE479.out) | exact HB.out)⟩⟩
                  case rest =>
                    clear HC28
                    try clear c1
                    try clear c2
                    try clear p2
                    try clear q2
                    try clear hx2
                    try clear hf2
                    try clear c3
                    try clear p3
                    try clear q3
                    try clear hx3
                    try clear hf3
                    try clear p4
                    try clear q4
                    try clear hx4
                    try clear c5
                    try clear p6
                    try clear c7
                    try clear c8
                    try clear c11
                    try clear c13
                    try clear c13b0
                    try clear c13b1
                    try clear c17
                    try clear c21
                    try clear c21b0
                    try clear c22
                    try clear c22b0
                    try clear c23
                    try clear c23b0
                    try clear p24
                    try clear q24
                    try clear hx24
                    try clear hf24
                    try clear c29
                    try clear c34
                    try clear c36
                    try clear c36b0
                    try clear c37
                    try clear c37b0
                    try clear c38
                    try clear c38b0
                    try clear p39
                    try clear q39
                    try clear hx39
                    try clear hf39
                    try clear hcz32_0
                    try clear hcz32_1
                    try clear hcz35_0
                    try clear hcz35_1
                    try clear hcz40_0
                    try clear hcz40_1
                    try clear hfz32_0
                    try clear hfz32_1
                    try clear hfz35_0
                    try clear hfz35_1
                    try clear hfz40_0
                    try clear hfz40_1
                    try clear hx24_0
                    try clear hx39_0
                    try clear hx472_0
                    try clear hx480_0
                    try clear p2
                    try clear p24
                    try clear p39
                    try clear p4
                    try clear p472
                    try clear p480
                    try clear p6
                    try clear q2
                    try clear q24
                    try clear q39
                    try clear q4
                    try clear q472
                    try clear q480
                    obtain ⟨kq, x480001_27, u480001, HA, HJ27, HO_6, HO_8, HO_480001, BK479, HB⟩ := hcut
                    cases kq with
                    | zero => exact absurd HA.out (by simp [marlinelaw12_TlvKeeps.j3])
                    | succ kj27 =>
                      have H := HA.out
                      clear HA
                      simp only [marlinelaw12_TlvKeeps.j3] at H
                      replace H := Option.bind_eq_some_iff.mp H
                      obtain ⟨t482, A440, H⟩ := H
                      replace H : (some t482) = some r := H
                      have A44 := Aside0.mk A440
                      clear A440
                      obtain rfl := Option.some.inj H
                      obtain ⟨Ao45, co45, eo45⟩ := Kd.S_slice HO_8.out
                      subst eo45
                      go_wp2_with (first | ((with_reducible refine gate_callee (f := 18) rfl ?_); refine goesL_ (some 72) rfl rfl Try.func18 (by kernel_rfl) rfl #[.slice Ao29 t464.length co29, .slice Ao45 t468.length co45] rfl (by (try simp only [List.map_toArray, List.map_cons, List.map_nil]); first | done | rfl | (simp only [List.length_drop, List.length_take]; rfl)) ?_; (with_reducible refine (tlv_Same.calls _ _ t464 _ _ t468 t482 _ ?side1 ?side2 ?side3 ?side4 A44.out).mono ?_); (case side1 => repeat (first | exact (Kd.S_reads' HO_6.out).2.2 | (with_reducible refine Kd.C_alloc ?_ _) | (with_reducible refine Kd.C_drewN ?_ _) | (with_reducible refine Kd.C_drew ?_))); (case side2 => exact (Kd.S_reads' HO_6.out).2.1); (case side3 => repeat (first | exact (Kd.S_reads' HO_8.out).2.2 | (with_reducible refine Kd.C_alloc ?_ _) | (with_reducible refine Kd.C_drewN ?_ _) | (with_reducible refine Kd.C_drew ?_))); (case side4 => exact (Kd.S_reads' HO_8.out).2.1); rintro e w46 ⟨rfl, hb⟩; refine ⟨_, rfl, ?_⟩; have n0_ := Aside0.mk (Kd.S_below (by (with_reducible repeat (first | apply Kd.S_alloc | apply Kd.S_drewN | apply Kd.S_drew)); exact HO_6.out) hb); have n1_ := Aside0.mk (Kd.S_below (by (with_reducible repeat (first | apply Kd.S_alloc | apply Kd.S_drewN | apply Kd.S_drew)); exact HO_8.out) hb); have n2_ := Aside0.mk (blk_below (g := gb479) (o := .cells #[.int .u8 t474, u480001] 57 (0, 0)) (by (with_reducible repeat (first | refine blk_drewN ?_ _ | refine blk_drew ?_ | refine blk_alloc ?_ _)); exact BK479.out) hb); have n3_ := Aside0.mk (below_step (by repeat (first | (with_reducible first | exact HB.out | apply below_alloc | apply pw_below_drewN | apply below_drew1 | refine below_set ?_ GE479.out) | exact HB.out)) hb); clear HO_6; clear HO_8; clear BK479; clear HB; have HO_6 := n0_; have HO_8 := n1_; have BK479 := n2_; have HB := n3_; clear n0_ n1_ n2_ n3_; (try clear hb); (try clear hb2); (try clear hk); (try clear hi)))
                      go_ret
                      exact ⟨by first | rfl | (simp [errW_none, errW_some] <;> rfl) | (simp [*, errW_none, errW_some] <;> rfl), by repeat (first | (with_reducible first | exact HB.out | apply below_alloc | apply pw_below_drewN | apply below_drew1 | refine below_set ?_ GE479.out) | exact HB.out)⟩
          · rw [if_neg c13] at H
            have c13b0 : (t467 == 0) = false := beq_eq_false_iff_ne.mpr c13
            have c13b1 : (t467 != 0) = true := bne_iff_ne.mpr c13
            obtain rfl := Option.some.inj H
            go_wp2_with (first | ((with_reducible refine gate_dst (N := 22) rfl ?_); (try (refine gate_guard (by rfl) ?_; dsimp only)); refine Kd.R_lit (Kd.int .u8) _ 5 ?hg (N := 22) ?hd (xs := ([] : List Int)) (inner := []) (ok := fun _ => True) (okp := fun _ => True) ?hr ?hp (fun _ hk => hk) trivial (Below.refl _ _) (Nat.le_refl _) (by simp) ?_; (case hd => rfl); (case hg => rfl); (case hr => first | (go_simp; done) | (go_simp; simp only [IntKind.wrap_u8, IntKind.wrap_u16, IntKind.wrap_u32, IntKind.wrap_u64]; done) | (go_simp; rfl)); (case hp => exact (Reps.none _ _)); intro v459 w47 ho48 hb hg_ hnew_; clear hg_ hnew_; (first | rw [← Ny458.out] at ho48 | (simp only [Int.reduceToNat] at ho48; rw [← Ny458.out] at ho48)); have n0_ := Aside0.mk (Kd.R_lower ho48 (below_size (by repeat (first | (with_reducible first | exact HB.out | apply below_alloc | apply pw_below_drewN | apply below_drew1) | exact HB.out)))); have n1_ := Aside0.mk (below_step (by repeat (first | (with_reducible first | exact HB.out | apply below_alloc | apply pw_below_drewN | apply below_drew1) | exact HB.out)) hb); clear HB; have HO460 := n0_; have HB := n1_; clear n0_ n1_; clear hb ho48) | ((with_reducible refine gate_builtin (b := .append) (xs := #[.tmp 22, .tmp 23]) rfl ?_); (try (refine gate_guard (by rfl) ?_; dsimp only)); at_builtin; refine Kd.R_append_rows (Kd.int .u8) (w0 := w) w.heap.size rfl (.tmp 22) (.tmp 23) 23 5 (.int .u8 0) 1 rfl Try.underlying23 info5 rfl (by decide) (by omega) v459 y458 l0 _ _ _ (fun _ => True) (fun _ => False) rfl rfl ?aO ?aR (fun _ _ h => h) (fun _ h => h.elim) ?aF ?aB ?aS ?aL ?_; (case aR => repeat (first | exact (Kd.C_below HR0.out HB.out) | (with_reducible refine Kd.C_alloc ?_ _) | (with_reducible refine Kd.C_drewN ?_ _) | (with_reducible refine Kd.C_drew ?_))); (case aB => exact (by repeat (first | (with_reducible first | exact HB.out | apply below_alloc | apply pw_below_drewN | apply below_drew1) | exact HB.out))); (case aF => exact (fun _ _ => trivial)); (case aO => exact (by (with_reducible repeat (first | apply Kd.R_alloc | apply Kd.R_drewN | apply Kd.R_drew)); exact HO460.out)); (case aS => exact (below_size (by repeat (first | (with_reducible first | exact HB.out | apply below_alloc | apply pw_below_drewN | apply below_drew1) | exact HB.out)))); (case aL => have := LMc11.out; omega); intro v462 w49 ho hb hg hat; rw [← Ny461.out] at ho; have n0_ := Aside0.mk (hb); have n1_ := Aside0.mk (ho); clear HB; clear HO460; have HB := n0_; have HO463 := n1_; clear n0_ n1_; clear ho hb hg hat; obtain ⟨Ao50, co50, eo50⟩ := Kd.R_slice HO463.out; subst eo50) | ((with_reducible refine gate_callee (f := 17) rfl ?_); refine goesL_ (some 27) rfl rfl Try.func17 (by kernel_rfl) rfl #[.slice Ao50 y461.length co50] rfl (by (try simp only [List.map_toArray, List.map_cons, List.map_nil]); first | done | rfl | (simp only [List.length_drop, List.length_take]; rfl)) ?_; (with_reducible refine (tlv_Get.calls kj2 (fun k_ => some k_ = (.slice Ao50 y461.length co50 : Value).ownBlock) _ _ y461 t464 t467 _ ?side1 A12.out).mono ?_); (case side1 => exact Kd.R_V (Kd.R_tight rfl (HO463.out))); rintro e w51 ⟨v465, rfl, ho0, hb⟩; refine ⟨_, rfl, ?_⟩; have n0_ := Aside0.mk (Kd.R_below (by (with_reducible repeat (first | apply Kd.R_alloc | apply Kd.R_drewN | apply Kd.R_drew)); exact HO463.out) hb); have n1_ := Aside0.mk (Kd.S_lower (Kd.S_new' (Kd.S_mono (ok' := fun k_ => True) ho0 (fun _ hk_ => trivial)) (Kd.R_lt (by (with_reducible repeat (first | apply Kd.R_alloc | apply Kd.R_drewN | apply Kd.R_drew)); exact HO463.out))) (below_size (by repeat (first | (with_reducible first | exact HB.out | apply below_alloc | apply pw_below_drewN | apply below_drew1) | exact HB.out)))); have n2_ := Aside0.mk (below_step (by repeat (first | (with_reducible first | exact HB.out | apply below_alloc | apply pw_below_drewN | apply below_drew1) | exact HB.out)) hb); clear HO463; clear HB; have HO463 := n0_; have HO466 := n1_; have HB := n2_; clear n0_ n1_ n2_; (try clear hb); (try clear hb2); (try clear hk); (try clear hi); (try clear ho0)))
            go_ret
            exact ⟨by first | rfl | (simp [errW_none, errW_some] <;> rfl) | (simp [*, errW_none, errW_some] <;> rfl), by repeat (first | (with_reducible first | exact HB.out | apply below_alloc | apply pw_below_drewN | apply below_drew1) | exact HB.out)⟩
        · rw [if_neg c11] at H
          exact absurd H (by simp)

/-- THE ONE PURE STATEMENT of marlinelaw12_TlvKeeps: yours. -/
def marlinelaw12_TlvKeeps.Pure : Prop := ∀ (l0 : List Int) (a1 : Int), l0.length ≤ maxLen → l0.length * 1 ≤ 140737488351232 → (∀ x ∈ l0, (Lit.int .u8 x).wf = true) → (Lit.int .u8 a1).wf = true → ∃ k, marlinelaw12_TlvKeeps.f k l0 a1 = some true
theorem marlinelaw12_TlvKeeps.walk (P : marlinelaw12_TlvKeeps.Pure) (a0 : Option Addr) (len0 cap0 : Nat) (z0 : List Int) (a1 : Int) (w : World) (w0 : (a0 = none ∧ len0 = 0 ∧ cap0 = 0 ∧ z0 = []) ∨ ∃ x, a0 = some x ∧ len0 ≤ cap0 ∧ cap0 ≤ maxLen ∧ z0.length = cap0 ∧ (∀ i, i < z0.length → w.cell? (x.add i) = some (.int .u8 (z0.getD i 0))) ∧ ∀ n ∈ z0, (Lit.int .u8 n).wf = true) (y0 : len0 * 1 ≤ 140737488351232) (w1 : (Lit.int .u8 a1).wf = true) :
    Calls Try.prog 7 #[.slice a0 len0 cap0, .int .u8 a1] w fun e w' => e = .returned (.bool true) ∧ Below w.heap.size w w' := by
  obtain ⟨l0, rfl, hr0, hm0, hw0, hc0⟩ := ReadsInt.ofRowC w0
  obtain ⟨k, h⟩ := P l0 a1 hm0 y0 hw0 w1
  refine (marlinelaw12_TlvKeeps.calls k _ _ l0 a1 true w (Kd.C_of_reads (d := (0 : Int)) (h1 := fun _ => rfl) hr0) hc0 h).mono ?_
  rintro e w' ⟨rfl, hd⟩
  exact ⟨rfl, hd⟩

end Go.Proofs.Ytgjeahgagciagaa.Print
