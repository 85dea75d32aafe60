/- A text that a program of this claim (wip/x) laid out of the translation: what Go functions come to, and that they come to it. Lean checks it. -/
import Derived.Test.YtgjeahgagciagaaPrint0
import Derived.Test.YtgjeahgagciagaaPrintMarlinelaw12Few
import Derived.Test.YtgjeahgagciagaaPrintMarlinelaw12Of
import Derived.Test.YtgjeahgagciagaaPrintMarlinelaw12Speaks
import Derived.Test.YtgjeahgagciagaaPrintMarlinelaw12To
import Derived.Test.YtgjeahgagciagaaPrintMarlineref01Equal
import Derived.Test.YtgjeahgagciagaaPrintMarlineref12Get
import Derived.Test.YtgjeahgagciagaaPrintMarlineref12Put
import Derived.Test.YtgjeahgagciagaaPrintMarlineref12Same
import Derived.Test.YtgjeahgagciagaaPrintTlvFind
import Derived.Test.YtgjeahgagciagaaPrintTlvGet
import Derived.Test.YtgjeahgagciagaaPrintTlvPut
import Derived.Test.YtgjeahgagciagaaPrintTlvSame
import Derived.Test.YtgjeahgagciagaaPrintTlvSize
namespace Go.Proofs.Ytgjeahgagciagaa.Print
open Go.RowKit Go.Proofs.YtgjeahgagciagaaW.PrintWords Go.Proofs.YtgjeahgagciagaaW.PrintLast Go.Proofs.YtgjeahgagciagaaW.PrintMore
attribute [local go_sem] max2_int min2_int max_two min_two max_three min_three max_four min_four   -- for this text's walks alone
set_option linter.unusedVariables false
set_option linter.unusedSimpArgs false

/-! ### marlinelaw12_TlvTells: function 6 -/
mutual
def marlinelaw12_TlvTells.j0 : Nat → List (S56) → List (S56) → List Int → Int → Bool → Option (Bool)
  | 0, _, _, _, _, _ => none
  | k + 1, x0, x1, x2, x3, x40 => if x40 = true then ((marlinelaw12_speaks.f k).bind fun t409 => (some t409)) else ((marlinelaw12_Of.f k x0).bind fun t410 => ((tlv_Put.f k t410).bind fun bt413 => ((marlineref12_Put.f k x0).bind fun bt417 => ((tlv_Get.f k x2).bind fun bt421 => ((marlineref12_Get.f k x2).bind fun bt425 => (if bt413.2 = bt417.2 then ((marlineref01_Equal.f k bt413.1 bt417.1).bind fun t429 => (if t429 = true then (if bt421.2 = bt425.2 then ((marlinelaw12_To.f k bt421.1).bind fun t430 => ((marlineref12_Same.f k t430 bt425.1).bind fun t433 => (if t433 = true then ((marlinelaw12_Of.f k x1).bind fun t434 => ((tlv_Same.f t410 t434).bind fun t437 => ((marlineref12_Same.f k x0 x1).bind fun t438 => (marlinelaw12_TlvTells.j1 k x0 x3 t410 (t437 != t438))))) else (marlinelaw12_TlvTells.j1 k x0 x3 t410 true)))) else (marlinelaw12_TlvTells.j1 k x0 x3 t410 true)) else (marlinelaw12_TlvTells.j1 k x0 x3 t410 true))) else (marlinelaw12_TlvTells.j1 k x0 x3 t410 true)))))))
def marlinelaw12_TlvTells.j1 : Nat → List (S56) → Int → List (S57) → Bool → Option (Bool)
  | 0, _, _, _, _ => none
  | k + 1, x0, x3, x9, x94 => if x94 = true then (none) else (marlinelaw12_TlvTells.l0 k x3 x9 0 ([] : List (S56)) x0 (x0.length : Int) 0)
def marlinelaw12_TlvTells.l0 : Nat → Int → List (S57) → Int → List (S56) → List (S56) → Int → Int → Option (Bool)
  | 0, _, _, _, _, _, _, _ => none
  | k + 1, x3, x9, x18, x19, x95, x96, x97 => if x97 < x96 then (if 0 ≤ x97 then (if x97 < (x95.length : Int) then (if ((rd_T56 x95 x97).f0) = x3 then (if (x19.length : Int) = 0 then (if x19.length < 4398046511104 then (marlinelaw12_TlvTells.l0 k x3 x9 (wrap64 (x18 + (wrap64 (2 + (((rd_T56 x95 x97).f1).length : Int))))) (x19 ++ [(⟨(rd_T56 x95 x97).f0, (rd_T56 x95 x97).f1⟩ : S56)]) x95 x96 (wrap64 (x97 + 1))) else (none)) else (marlinelaw12_TlvTells.l0 k x3 x9 (wrap64 (x18 + (wrap64 (2 + (((rd_T56 x95 x97).f1).length : Int))))) x19 x95 x96 (wrap64 (x97 + 1)))) else (marlinelaw12_TlvTells.l0 k x3 x9 (wrap64 (x18 + (wrap64 (2 + (((rd_T56 x95 x97).f1).length : Int))))) x19 x95 x96 (wrap64 (x97 + 1)))) else (none)) else (none)) else ((tlv_Find.f x9 x3).bind fun bt444 => (if bt444.2.2 = true then ((marlineref12_Same.f k (([(⟨bt444.1, bt444.2.1⟩ : S56)] : List (S56))) x19).bind fun t454 => (if t454 = true then ((tlv_Size.f k x9).bind fun t455 => (some (t455 == x18))) else (none))) else (if (x19.length : Int) = 0 then (if bt444.1 = 0 then (if (bt444.2.1.length : Int) = 0 then ((tlv_Size.f k x9).bind fun t450 => (some (t450 == x18))) else (none)) else (none)) else (none))))
end
def marlinelaw12_TlvTells.f (k : Nat) (l0 : List (S56)) (l1 : List (S56)) (l2 : List Int) (a3 : Int) : Option (Bool) := (marlinelaw12_speaks.f k).bind fun t406 => (if t406 = true then ((marlinelaw12_Few.f k l0).bind fun t407 => (if t407 = true then ((marlinelaw12_Few.f k l1).bind fun t408 => (if t408 = true then (marlinelaw12_TlvTells.j0 k l0 l1 l2 a3 (decide ((l2.length : Int) > 1000))) else (marlinelaw12_TlvTells.j0 k l0 l1 l2 a3 true))) else (marlinelaw12_TlvTells.j0 k l0 l1 l2 a3 true))) else (marlinelaw12_TlvTells.j0 k l0 l1 l2 a3 true))
theorem marlinelaw12_TlvTells.mono_l : ∀ k, (∀ y0 y1 y2 y3 y4, LeO (marlinelaw12_TlvTells.j0 k y0 y1 y2 y3 y4) (marlinelaw12_TlvTells.j0 (k + 1) y0 y1 y2 y3 y4)) ∧ (∀ y0 y1 y2 y3, LeO (marlinelaw12_TlvTells.j1 k y0 y1 y2 y3) (marlinelaw12_TlvTells.j1 (k + 1) y0 y1 y2 y3)) ∧ (∀ y0 y1 y2 y3 y4 y5 y6, LeO (marlinelaw12_TlvTells.l0 k y0 y1 y2 y3 y4 y5 y6) (marlinelaw12_TlvTells.l0 (k + 1) y0 y1 y2 y3 y4 y5 y6))
  | 0 => ⟨fun _ _ _ _ _ r h => by simp [marlinelaw12_TlvTells.j0] at h, fun _ _ _ _ r h => by simp [marlinelaw12_TlvTells.j1] at h, fun _ _ _ _ _ _ _ r h => by simp [marlinelaw12_TlvTells.l0] at h⟩
  | k + 1 => by
    obtain ⟨ih0, ih1, ih2⟩ := marlinelaw12_TlvTells.mono_l k
    refine ⟨?_, ?_, ?_⟩
    · intro y0 y1 y2 y3 y4
      unfold marlinelaw12_TlvTells.j0
      repeat' first
      | (with_reducible exact ih0 _ _ _ _ _)
      | (with_reducible exact ih1 _ _ _ _)
      | (with_reducible exact ih2 _ _ _ _ _ _ _)
      | (with_reducible exact marlinelaw12_Few.mono _ _)
      | (with_reducible exact marlinelaw12_Of.mono _ _)
      | (with_reducible exact marlinelaw12_To.mono _ _)
      | (with_reducible exact marlinelaw12_speaks.mono _)
      | (with_reducible exact marlineref01_Equal.mono _ _ _)
      | (with_reducible exact marlineref12_Get.mono _ _)
      | (with_reducible exact marlineref12_Put.mono _ _)
      | (with_reducible exact marlineref12_Same.mono _ _ _)
      | (with_reducible exact tlv_Get.mono _ _)
      | (with_reducible exact tlv_Put.mono _ _)
      | (with_reducible exact tlv_Size.mono _ _)
      | (with_reducible exact LeO.refl _)
      | (with_reducible exact LeO.none _)
      | (with_reducible refine LeO.ite ?_ ?_)
      | (with_reducible refine LeO.bind ?_ (fun _ => ?_))
      | exact ih0 _ _ _ _ _
      | exact ih1 _ _ _ _
      | exact ih2 _ _ _ _ _ _ _
      | exact marlinelaw12_Few.mono _ _
      | exact marlinelaw12_Of.mono _ _
      | exact marlinelaw12_To.mono _ _
      | exact marlinelaw12_speaks.mono _
      | exact marlineref01_Equal.mono _ _ _
      | exact marlineref12_Get.mono _ _
      | exact marlineref12_Put.mono _ _
      | exact marlineref12_Same.mono _ _ _
      | exact tlv_Get.mono _ _
      | exact tlv_Put.mono _ _
      | exact tlv_Size.mono _ _
      | exact LeO.none _
      | refine LeO.ite ?_ ?_
      | refine LeO.bind ?_ (fun _ => ?_)
    · intro y0 y1 y2 y3
      unfold marlinelaw12_TlvTells.j1
      repeat' first
      | (with_reducible exact ih0 _ _ _ _ _)
      | (with_reducible exact ih1 _ _ _ _)
      | (with_reducible exact ih2 _ _ _ _ _ _ _)
      | (with_reducible exact marlinelaw12_Few.mono _ _)
      | (with_reducible exact marlinelaw12_Of.mono _ _)
      | (with_reducible exact marlinelaw12_To.mono _ _)
      | (with_reducible exact marlinelaw12_speaks.mono _)
      | (with_reducible exact marlineref01_Equal.mono _ _ _)
      | (with_reducible exact marlineref12_Get.mono _ _)
      | (with_reducible exact marlineref12_Put.mono _ _)
      | (with_reducible exact marlineref12_Same.mono _ _ _)
      | (with_reducible exact tlv_Get.mono _ _)
      | (with_reducible exact tlv_Put.mono _ _)
      | (with_reducible exact tlv_Size.mono _ _)
      | (with_reducible exact LeO.refl _)
      | (with_reducible exact LeO.none _)
      | (with_reducible refine LeO.ite ?_ ?_)
      | (with_reducible refine LeO.bind ?_ (fun _ => ?_))
      | exact ih0 _ _ _ _ _
      | exact ih1 _ _ _ _
      | exact ih2 _ _ _ _ _ _ _
      | exact marlinelaw12_Few.mono _ _
      | exact marlinelaw12_Of.mono _ _
      | exact marlinelaw12_To.mono _ _
      | exact marlinelaw12_speaks.mono _
      | exact marlineref01_Equal.mono _ _ _
      | exact marlineref12_Get.mono _ _
      | exact marlineref12_Put.mono _ _
      | exact marlineref12_Same.mono _ _ _
      | exact tlv_Get.mono _ _
      | exact tlv_Put.mono _ _
      | exact tlv_Size.mono _ _
      | exact LeO.none _
      | refine LeO.ite ?_ ?_
      | refine LeO.bind ?_ (fun _ => ?_)
    · intro y0 y1 y2 y3 y4 y5 y6
      unfold marlinelaw12_TlvTells.l0
      repeat' first
      | (with_reducible exact ih0 _ _ _ _ _)
      | (with_reducible exact ih1 _ _ _ _)
      | (with_reducible exact ih2 _ _ _ _ _ _ _)
      | (with_reducible exact marlinelaw12_Few.mono _ _)
      | (with_reducible exact marlinelaw12_Of.mono _ _)
      | (with_reducible exact marlinelaw12_To.mono _ _)
      | (with_reducible exact marlinelaw12_speaks.mono _)
      | (with_reducible exact marlineref01_Equal.mono _ _ _)
      | (with_reducible exact marlineref12_Get.mono _ _)
      | (with_reducible exact marlineref12_Put.mono _ _)
      | (with_reducible exact marlineref12_Same.mono _ _ _)
      | (with_reducible exact tlv_Get.mono _ _)
      | (with_reducible exact tlv_Put.mono _ _)
      | (with_reducible exact tlv_Size.mono _ _)
      | (with_reducible exact LeO.refl _)
      | (with_reducible exact LeO.none _)
      | (with_reducible refine LeO.ite ?_ ?_)
      | (with_reducible refine LeO.bind ?_ (fun _ => ?_))
      | exact ih0 _ _ _ _ _
      | exact ih1 _ _ _ _
      | exact ih2 _ _ _ _ _ _ _
      | exact marlinelaw12_Few.mono _ _
      | exact marlinelaw12_Of.mono _ _
      | exact marlinelaw12_To.mono _ _
      | exact marlinelaw12_speaks.mono _
      | exact marlineref01_Equal.mono _ _ _
      | exact marlineref12_Get.mono _ _
      | exact marlineref12_Put.mono _ _
      | exact marlineref12_Same.mono _ _ _
      | exact tlv_Get.mono _ _
      | exact tlv_Put.mono _ _
      | exact tlv_Size.mono _ _
      | exact LeO.none _
      | refine LeO.ite ?_ ?_
      | refine LeO.bind ?_ (fun _ => ?_)
theorem marlinelaw12_TlvTells.mono : ∀ a0 a1 a2 a3 k, LeO (marlinelaw12_TlvTells.f k a0 a1 a2 a3) (marlinelaw12_TlvTells.f (k + 1) a0 a1 a2 a3) := by
  intro a0 a1 a2 a3 k
  obtain ⟨ih0, ih1, ih2⟩ := marlinelaw12_TlvTells.mono_l k
  unfold marlinelaw12_TlvTells.f
  repeat' first
      | (with_reducible exact ih0 _ _ _ _ _)
      | (with_reducible exact ih1 _ _ _ _)
      | (with_reducible exact ih2 _ _ _ _ _ _ _)
      | (with_reducible exact marlinelaw12_Few.mono _ _)
      | (with_reducible exact marlinelaw12_Of.mono _ _)
      | (with_reducible exact marlinelaw12_To.mono _ _)
      | (with_reducible exact marlinelaw12_speaks.mono _)
      | (with_reducible exact marlineref01_Equal.mono _ _ _)
      | (with_reducible exact marlineref12_Get.mono _ _)
      | (with_reducible exact marlineref12_Put.mono _ _)
      | (with_reducible exact marlineref12_Same.mono _ _ _)
      | (with_reducible exact tlv_Get.mono _ _)
      | (with_reducible exact tlv_Put.mono _ _)
      | (with_reducible exact tlv_Size.mono _ _)
      | (with_reducible exact LeO.refl _)
      | (with_reducible exact LeO.none _)
      | (with_reducible refine LeO.ite ?_ ?_)
      | (with_reducible refine LeO.bind ?_ (fun _ => ?_))
      | exact ih0 _ _ _ _ _
      | exact ih1 _ _ _ _
      | exact ih2 _ _ _ _ _ _ _
      | exact marlinelaw12_Few.mono _ _
      | exact marlinelaw12_Of.mono _ _
      | exact marlinelaw12_To.mono _ _
      | exact marlinelaw12_speaks.mono _
      | exact marlineref01_Equal.mono _ _ _
      | exact marlineref12_Get.mono _ _
      | exact marlineref12_Put.mono _ _
      | exact marlineref12_Same.mono _ _ _
      | exact tlv_Get.mono _ _
      | exact tlv_Put.mono _ _
      | exact tlv_Size.mono _ _
      | exact LeO.none _
      | refine LeO.ite ?_ ?_
      | refine LeO.bind ?_ (fun _ => ?_)
set_option maxHeartbeats 8000000 in
set_option maxRecDepth 100000 in
theorem marlinelaw12_TlvTells.calls (k : Nat) (P0_ : Nat → Prop) (A0 : Option Addr) (c0 : Nat) (l0 : List (S56)) (P1_ : Nat → Prop) (A1 : Option Addr) (c1 : Nat) (l1 : List (S56)) (P2_ : Nat → Prop) (A2 : Option Addr) (c2 : Nat) (l2 : List Int) (a3 : Int) (r : Bool) (w : World) (hs0 : Kd.V k56 56 w w.heap.size (fun k_ => P0_ k_) (.slice A0 l0.length c0) l0) (hs1 : Kd.V k56 56 w w.heap.size (fun k_ => P1_ k_) (.slice A1 l1.length c1) l1) (hs2 : Kd.V (Kd.int .u8) 5 w w.heap.size (fun k_ => P2_ k_) (.slice A2 l2.length c2) l2) (h : marlinelaw12_TlvTells.f k l0 l1 l2 a3 = some r) :
    Calls Try.prog 6 #[.slice A0 l0.length c0, .slice A1 l1.length c1, .slice A2 l2.length c2, .int .u8 a3] w fun e w' => e = .returned (.bool r) ∧ Below w.heap.size w w' := by
  have hu56 := Try.underlying56
  have hu57 := Try.underlying57
  have HO0 := Aside0.mk (show Kd.V k56 56 w w.heap.size (fun k_ => ((P0_ k_ ∨ P1_ k_ ∨ P2_ k_) ∨ w.heap.size ≤ k_)) (.slice A0 l0.length c0) l0 from Kd.V_mono hs0 (fun k_ hk => .inl (.inl hk)))
  have HO1 := Aside0.mk (show Kd.V k56 56 w w.heap.size (fun k_ => ((P0_ k_ ∨ P1_ k_ ∨ P2_ k_) ∨ w.heap.size ≤ k_)) (.slice A1 l1.length c1) l1 from Kd.V_mono hs1 (fun k_ hk => .inl (.inr (.inl hk))))
  have HO2 := Aside0.mk (show Kd.V (Kd.int .u8) 5 w w.heap.size (fun k_ => ((P0_ k_ ∨ P1_ k_ ∨ P2_ k_) ∨ w.heap.size ≤ k_)) (.slice A2 l2.length c2) l2 from Kd.V_mono hs2 (fun k_ hk => .inl (.inr (.inr hk))))
  have HB := Aside0.mk (Below.refl w.heap.size w)
  have H : ((marlinelaw12_speaks.f k).bind fun t406 => (if t406 = true then ((marlinelaw12_Few.f k l0).bind fun t407 => (if t407 = true then ((marlinelaw12_Few.f k l1).bind fun t408 => (if t408 = true then (marlinelaw12_TlvTells.j0 k l0 l1 l2 a3 (decide ((l2.length : Int) > 1000))) else (marlinelaw12_TlvTells.j0 k l0 l1 l2 a3 true))) else (marlinelaw12_TlvTells.j0 k l0 l1 l2 a3 true))) else (marlinelaw12_TlvTells.j0 k l0 l1 l2 a3 true))) = some r := h
  clear h
  have HC5 := Aside0.mk H
  clear H
  go_enter Try.func6, Try.ntmps6
  go_upto_region 1 with (fail)
  go_cut [40] (fun v40 wc => ∃ (kq : Nat) (x40_4 : Bool), v40 = .bool x40_4 ∧ Aside0 (marlinelaw12_TlvTells.j0 kq l0 l1 l2 a3 x40_4 = some r) ∧ Aside0 (kq ≤ k) ∧ Aside0 (Kd.V k56 56 wc w.heap.size (fun k_ => ((P0_ k_ ∨ P1_ k_ ∨ P2_ k_) ∨ w.heap.size ≤ k_)) (.slice A0 l0.length c0) l0) ∧ Aside0 (Kd.V k56 56 wc w.heap.size (fun k_ => ((P0_ k_ ∨ P1_ k_ ∨ P2_ k_) ∨ w.heap.size ≤ k_)) (.slice A1 l1.length c1) l1) ∧ Aside0 (Kd.V (Kd.int .u8) 5 wc w.heap.size (fun k_ => ((P0_ k_ ∨ P1_ k_ ∨ P2_ k_) ∨ w.heap.size ≤ k_)) (.slice A2 l2.length c2) l2) ∧ Aside0 (Below w.heap.size w wc))
  case first =>
    have H := HC5.out
    clear HC5
    replace H := Option.bind_eq_some_iff.mp H
    obtain ⟨t406, A60, H⟩ := H
    replace H : (if t406 = true then ((marlinelaw12_Few.f k l0).bind fun t407 => (if t407 = true then ((marlinelaw12_Few.f k l1).bind fun t408 => (if t408 = true then (marlinelaw12_TlvTells.j0 k l0 l1 l2 a3 (decide ((l2.length : Int) > 1000))) else (marlinelaw12_TlvTells.j0 k l0 l1 l2 a3 true))) else (marlinelaw12_TlvTells.j0 k l0 l1 l2 a3 true))) else (marlinelaw12_TlvTells.j0 k l0 l1 l2 a3 true)) = some r := H
    have A6 := Aside0.mk A60
    clear A60
    by_cases c7 : t406 = true
    · subst c7
      have H1 : ((marlinelaw12_Few.f k l0).bind fun t407 => (if t407 = true then ((marlinelaw12_Few.f k l1).bind fun t408 => (if t408 = true then (marlinelaw12_TlvTells.j0 k l0 l1 l2 a3 (decide ((l2.length : Int) > 1000))) else (marlinelaw12_TlvTells.j0 k l0 l1 l2 a3 true))) else (marlinelaw12_TlvTells.j0 k l0 l1 l2 a3 true))) = some r := by rw [if_pos rfl] at H; exact H
      clear H
      have H := H1
      clear H1
      replace H := Option.bind_eq_some_iff.mp H
      obtain ⟨t407, A80, H⟩ := H
      replace H : (if t407 = true then ((marlinelaw12_Few.f k l1).bind fun t408 => (if t408 = true then (marlinelaw12_TlvTells.j0 k l0 l1 l2 a3 (decide ((l2.length : Int) > 1000))) else (marlinelaw12_TlvTells.j0 k l0 l1 l2 a3 true))) else (marlinelaw12_TlvTells.j0 k l0 l1 l2 a3 true)) = some r := H
      have A8 := Aside0.mk A80
      clear A80
      by_cases c9 : t407 = true
      · subst c9
        have H1 : ((marlinelaw12_Few.f k l1).bind fun t408 => (if t408 = true then (marlinelaw12_TlvTells.j0 k l0 l1 l2 a3 (decide ((l2.length : Int) > 1000))) else (marlinelaw12_TlvTells.j0 k l0 l1 l2 a3 true))) = some r := by rw [if_pos rfl] at H; exact H
        clear H
        have H := H1
        clear H1
        replace H := Option.bind_eq_some_iff.mp H
        obtain ⟨t408, A100, H⟩ := H
        replace H : (if t408 = true then (marlinelaw12_TlvTells.j0 k l0 l1 l2 a3 (decide ((l2.length : Int) > 1000))) else (marlinelaw12_TlvTells.j0 k l0 l1 l2 a3 true)) = some r := H
        have A10 := Aside0.mk A100
        clear A100
        by_cases c11 : t408 = true
        · subst c11
          have H1 : (marlinelaw12_TlvTells.j0 k l0 l1 l2 a3 (decide ((l2.length : Int) > 1000))) = some r := by rw [if_pos rfl] at H; exact H
          clear H
          have H := H1
          clear H1
          have H' := Aside0.mk H
          clear H
          go_wp2_with (first | ((with_reducible refine gate_callee (f := 13) rfl ?_); refine goesL_ (some 24) rfl rfl Try.func13 (by kernel_rfl) rfl #[] rfl (by (try simp only [List.map_toArray, List.map_cons, List.map_nil]); first | done | rfl | (simp only [List.length_drop, List.length_take]; rfl)) ?_; (with_reducible refine (marlinelaw12_speaks.calls k  true _ A6.out).mono ?_); rintro e w12 ⟨rfl, hb⟩; refine ⟨_, rfl, ?_⟩; have n0_ := Aside0.mk (Kd.V_below (by (with_reducible repeat (first | apply Kd.V_alloc | apply Kd.V_drewN | apply Kd.V_drew)); exact HO0.out) hb); have n1_ := Aside0.mk (Kd.V_below (by (with_reducible repeat (first | apply Kd.V_alloc | apply Kd.V_drewN | apply Kd.V_drew)); exact HO1.out) hb); have n2_ := Aside0.mk (Kd.V_below (by (with_reducible repeat (first | apply Kd.V_alloc | apply Kd.V_drewN | apply Kd.V_drew)); exact HO2.out) hb); have n3_ := Aside0.mk (below_step (by repeat (first | (with_reducible first | exact HB.out | apply below_alloc | apply pw_below_drewN | apply below_drew1) | exact HB.out)) hb); clear HO0; clear HO1; clear HO2; clear HB; have HO0 := n0_; have HO1 := n1_; have HO2 := n2_; have HB := n3_; clear n0_ n1_ n2_ n3_; (try clear hb); (try clear hb2); (try clear hk); (try clear hi)) | (go_at_call 14; (with_reducible refine (marlinelaw12_Few.calls k _ _ l0 true _ ?side1 ?side2 A8.out).mono ?_); (case side1 => repeat (first | exact (Kd.V_reads' HO0.out).2.2 | (with_reducible refine Kd.C_alloc ?_ _) | (with_reducible refine Kd.C_drewN ?_ _) | (with_reducible refine Kd.C_drew ?_))); (case side2 => exact (Kd.V_reads' HO0.out).2.1); rintro e w13 ⟨rfl, hb⟩; have n0_ := Aside0.mk (Kd.V_below (by (with_reducible repeat (first | apply Kd.V_alloc | apply Kd.V_drewN | apply Kd.V_drew)); exact HO0.out) hb); have n1_ := Aside0.mk (Kd.V_below (by (with_reducible repeat (first | apply Kd.V_alloc | apply Kd.V_drewN | apply Kd.V_drew)); exact HO1.out) hb); have n2_ := Aside0.mk (Kd.V_below (by (with_reducible repeat (first | apply Kd.V_alloc | apply Kd.V_drewN | apply Kd.V_drew)); exact HO2.out) hb); have n3_ := Aside0.mk (below_step (by repeat (first | (with_reducible first | exact HB.out | apply below_alloc | apply pw_below_drewN | apply below_drew1) | exact HB.out)) hb); clear HO0; clear HO1; clear HO2; clear HB; have HO0 := n0_; have HO1 := n1_; have HO2 := n2_; have HB := n3_; clear n0_ n1_ n2_ n3_; (try clear hb); (try clear hb2); (try clear hk); (try clear hi)) | (go_at_call 14; (with_reducible refine (marlinelaw12_Few.calls k _ _ l1 true _ ?side1 ?side2 A10.out).mono ?_); (case side1 => repeat (first | exact (Kd.V_reads' HO1.out).2.2 | (with_reducible refine Kd.C_alloc ?_ _) | (with_reducible refine Kd.C_drewN ?_ _) | (with_reducible refine Kd.C_drew ?_))); (case side2 => exact (Kd.V_reads' HO1.out).2.1); rintro e w14 ⟨rfl, hb⟩; have n0_ := Aside0.mk (Kd.V_below (by (with_reducible repeat (first | apply Kd.V_alloc | apply Kd.V_drewN | apply Kd.V_drew)); exact HO0.out) hb); have n1_ := Aside0.mk (Kd.V_below (by (with_reducible repeat (first | apply Kd.V_alloc | apply Kd.V_drewN | apply Kd.V_drew)); exact HO1.out) hb); have n2_ := Aside0.mk (Kd.V_below (by (with_reducible repeat (first | apply Kd.V_alloc | apply Kd.V_drewN | apply Kd.V_drew)); exact HO2.out) hb); have n3_ := Aside0.mk (below_step (by repeat (first | (with_reducible first | exact HB.out | apply below_alloc | apply pw_below_drewN | apply below_drew1) | exact HB.out)) hb); clear HO0; clear HO1; clear HO2; clear HB; have HO0 := n0_; have HO1 := n1_; have HO2 := n2_; have HB := n3_; clear n0_ n1_ n2_ n3_; (try clear hb); (try clear hb2); (try clear hk); (try clear hi)))
          go_meet
          case rel => exact ⟨_, (decide ((l2.length : Int) > 1000)), (by first | rfl | (simp; done) | (simp [*]; done)), H', ⟨by first | omega | exact Nat.le_refl _⟩, ⟨by (with_reducible repeat (first | apply Kd.V_alloc | apply Kd.V_drewN | apply Kd.V_drew)); exact HO0.out⟩, ⟨by (with_reducible repeat (first | apply Kd.V_alloc | apply Kd.V_drewN | apply Kd.V_drew)); exact HO1.out⟩, ⟨by (with_reducible repeat (first | apply Kd.V_alloc | apply Kd.V_drewN | apply Kd.V_drew)); exact HO2.out⟩, ⟨by repeat (first | (with_reducible first | exact HB.out | apply below_alloc | apply pw_below_drewN | apply below_drew1) | exact HB.out)⟩⟩
        · replace c11 := Bool.eq_false_iff.mpr c11
          subst c11
          have H1 : (marlinelaw12_TlvTells.j0 k l0 l1 l2 a3 true) = some r := by rw [if_neg (show ¬ (false = true) by decide)] at H; exact H
          clear H
          have H := H1
          clear H1
          have H' := Aside0.mk H
          clear H
          go_wp2_with (first | ((with_reducible refine gate_callee (f := 13) rfl ?_); refine goesL_ (some 24) rfl rfl Try.func13 (by kernel_rfl) rfl #[] rfl (by (try simp only [List.map_toArray, List.map_cons, List.map_nil]); first | done | rfl | (simp only [List.length_drop, List.length_take]; rfl)) ?_; (with_reducible refine (marlinelaw12_speaks.calls k  true _ A6.out).mono ?_); rintro e w15 ⟨rfl, hb⟩; refine ⟨_, rfl, ?_⟩; have n0_ := Aside0.mk (Kd.V_below (by (with_reducible repeat (first | apply Kd.V_alloc | apply Kd.V_drewN | apply Kd.V_drew)); exact HO0.out) hb); have n1_ := Aside0.mk (Kd.V_below (by (with_reducible repeat (first | apply Kd.V_alloc | apply Kd.V_drewN | apply Kd.V_drew)); exact HO1.out) hb); have n2_ := Aside0.mk (Kd.V_below (by (with_reducible repeat (first | apply Kd.V_alloc | apply Kd.V_drewN | apply Kd.V_drew)); exact HO2.out) hb); have n3_ := Aside0.mk (below_step (by repeat (first | (with_reducible first | exact HB.out | apply below_alloc | apply pw_below_drewN | apply below_drew1) | exact HB.out)) hb); clear HO0; clear HO1; clear HO2; clear HB; have HO0 := n0_; have HO1 := n1_; have HO2 := n2_; have HB := n3_; clear n0_ n1_ n2_ n3_; (try clear hb); (try clear hb2); (try clear hk); (try clear hi)) | (go_at_call 14; (with_reducible refine (marlinelaw12_Few.calls k _ _ l0 true _ ?side1 ?side2 A8.out).mono ?_); (case side1 => repeat (first | exact (Kd.V_reads' HO0.out).2.2 | (with_reducible refine Kd.C_alloc ?_ _) | (with_reducible refine Kd.C_drewN ?_ _) | (with_reducible refine Kd.C_drew ?_))); (case side2 => exact (Kd.V_reads' HO0.out).2.1); rintro e w16 ⟨rfl, hb⟩; have n0_ := Aside0.mk (Kd.V_below (by (with_reducible repeat (first | apply Kd.V_alloc | apply Kd.V_drewN | apply Kd.V_drew)); exact HO0.out) hb); have n1_ := Aside0.mk (Kd.V_below (by (with_reducible repeat (first | apply Kd.V_alloc | apply Kd.V_drewN | apply Kd.V_drew)); exact HO1.out) hb); have n2_ := Aside0.mk (Kd.V_below (by (with_reducible repeat (first | apply Kd.V_alloc | apply Kd.V_drewN | apply Kd.V_drew)); exact HO2.out) hb); have n3_ := Aside0.mk (below_step (by repeat (first | (with_reducible first | exact HB.out | apply below_alloc | apply pw_below_drewN | apply below_drew1) | exact HB.out)) hb); clear HO0; clear HO1; clear HO2; clear HB; have HO0 := n0_; have HO1 := n1_; have HO2 := n2_; have HB := n3_; clear n0_ n1_ n2_ n3_; (try clear hb); (try clear hb2); (try clear hk); (try clear hi)) | (go_at_call 14; (with_reducible refine (marlinelaw12_Few.calls k _ _ l1 false _ ?side1 ?side2 A10.out).mono ?_); (case side1 => repeat (first | exact (Kd.V_reads' HO1.out).2.2 | (with_reducible refine Kd.C_alloc ?_ _) | (with_reducible refine Kd.C_drewN ?_ _) | (with_reducible refine Kd.C_drew ?_))); (case side2 => exact (Kd.V_reads' HO1.out).2.1); rintro e w17 ⟨rfl, hb⟩; have n0_ := Aside0.mk (Kd.V_below (by (with_reducible repeat (first | apply Kd.V_alloc | apply Kd.V_drewN | apply Kd.V_drew)); exact HO0.out) hb); have n1_ := Aside0.mk (Kd.V_below (by (with_reducible repeat (first | apply Kd.V_alloc | apply Kd.V_drewN | apply Kd.V_drew)); exact HO1.out) hb); have n2_ := Aside0.mk (Kd.V_below (by (with_reducible repeat (first | apply Kd.V_alloc | apply Kd.V_drewN | apply Kd.V_drew)); exact HO2.out) hb); have n3_ := Aside0.mk (below_step (by repeat (first | (with_reducible first | exact HB.out | apply below_alloc | apply pw_below_drewN | apply below_drew1) | exact HB.out)) hb); clear HO0; clear HO1; clear HO2; clear HB; have HO0 := n0_; have HO1 := n1_; have HO2 := n2_; have HB := n3_; clear n0_ n1_ n2_ n3_; (try clear hb); (try clear hb2); (try clear hk); (try clear hi)))
          go_meet
          case rel => exact ⟨_, (true), (by first | rfl | (simp; done) | (simp [*]; done)), H', ⟨by first | omega | exact Nat.le_refl _⟩, ⟨by (with_reducible repeat (first | apply Kd.V_alloc | apply Kd.V_drewN | apply Kd.V_drew)); exact HO0.out⟩, ⟨by (with_reducible repeat (first | apply Kd.V_alloc | apply Kd.V_drewN | apply Kd.V_drew)); exact HO1.out⟩, ⟨by (with_reducible repeat (first | apply Kd.V_alloc | apply Kd.V_drewN | apply Kd.V_drew)); exact HO2.out⟩, ⟨by repeat (first | (with_reducible first | exact HB.out | apply below_alloc | apply pw_below_drewN | apply below_drew1) | exact HB.out)⟩⟩
      · replace c9 := Bool.eq_false_iff.mpr c9
        subst c9
        have H1 : (marlinelaw12_TlvTells.j0 k l0 l1 l2 a3 true) = some r := by rw [if_neg (show ¬ (false = true) by decide)] at H; exact H
        clear H
        have H := H1
        clear H1
        have H' := Aside0.mk H
        clear H
        go_wp2_with (first | ((with_reducible refine gate_callee (f := 13) rfl ?_); refine goesL_ (some 24) rfl rfl Try.func13 (by kernel_rfl) rfl #[] rfl (by (try simp only [List.map_toArray, List.map_cons, List.map_nil]); first | done | rfl | (simp only [List.length_drop, List.length_take]; rfl)) ?_; (with_reducible refine (marlinelaw12_speaks.calls k  true _ A6.out).mono ?_); rintro e w18 ⟨rfl, hb⟩; refine ⟨_, rfl, ?_⟩; have n0_ := Aside0.mk (Kd.V_below (by (with_reducible repeat (first | apply Kd.V_alloc | apply Kd.V_drewN | apply Kd.V_drew)); exact HO0.out) hb); have n1_ := Aside0.mk (Kd.V_below (by (with_reducible repeat (first | apply Kd.V_alloc | apply Kd.V_drewN | apply Kd.V_drew)); exact HO1.out) hb); have n2_ := Aside0.mk (Kd.V_below (by (with_reducible repeat (first | apply Kd.V_alloc | apply Kd.V_drewN | apply Kd.V_drew)); exact HO2.out) hb); have n3_ := Aside0.mk (below_step (by repeat (first | (with_reducible first | exact HB.out | apply below_alloc | apply pw_below_drewN | apply below_drew1) | exact HB.out)) hb); clear HO0; clear HO1; clear HO2; clear HB; have HO0 := n0_; have HO1 := n1_; have HO2 := n2_; have HB := n3_; clear n0_ n1_ n2_ n3_; (try clear hb); (try clear hb2); (try clear hk); (try clear hi)) | (go_at_call 14; (with_reducible refine (marlinelaw12_Few.calls k _ _ l0 false _ ?side1 ?side2 A8.out).mono ?_); (case side1 => repeat (first | exact (Kd.V_reads' HO0.out).2.2 | (with_reducible refine Kd.C_alloc ?_ _) | (with_reducible refine Kd.C_drewN ?_ _) | (with_reducible refine Kd.C_drew ?_))); (case side2 => exact (Kd.V_reads' HO0.out).2.1); rintro e w19 ⟨rfl, hb⟩; have n0_ := Aside0.mk (Kd.V_below (by (with_reducible repeat (first | apply Kd.V_alloc | apply Kd.V_drewN | apply Kd.V_drew)); exact HO0.out) hb); have n1_ := Aside0.mk (Kd.V_below (by (with_reducible repeat (first | apply Kd.V_alloc | apply Kd.V_drewN | apply Kd.V_drew)); exact HO1.out) hb); have n2_ := Aside0.mk (Kd.V_below (by (with_reducible repeat (first | apply Kd.V_alloc | apply Kd.V_drewN | apply Kd.V_drew)); exact HO2.out) hb); have n3_ := Aside0.mk (below_step (by repeat (first | (with_reducible first | exact HB.out | apply below_alloc | apply pw_below_drewN | apply below_drew1) | exact HB.out)) hb); clear HO0; clear HO1; clear HO2; clear HB; have HO0 := n0_; have HO1 := n1_; have HO2 := n2_; have HB := n3_; clear n0_ n1_ n2_ n3_; (try clear hb); (try clear hb2); (try clear hk); (try clear hi)))
        go_meet
        case rel => exact ⟨_, (true), (by first | rfl | (simp; done) | (simp [*]; done)), H', ⟨by first | omega | exact Nat.le_refl _⟩, ⟨by (with_reducible repeat (first | apply Kd.V_alloc | apply Kd.V_drewN | apply Kd.V_drew)); exact HO0.out⟩, ⟨by (with_reducible repeat (first | apply Kd.V_alloc | apply Kd.V_drewN | apply Kd.V_drew)); exact HO1.out⟩, ⟨by (with_reducible repeat (first | apply Kd.V_alloc | apply Kd.V_drewN | apply Kd.V_drew)); exact HO2.out⟩, ⟨by repeat (first | (with_reducible first | exact HB.out | apply below_alloc | apply pw_below_drewN | apply below_drew1) | exact HB.out)⟩⟩
    · replace c7 := Bool.eq_false_iff.mpr c7
      subst c7
      have H1 : (marlinelaw12_TlvTells.j0 k l0 l1 l2 a3 true) = some r := by rw [if_neg (show ¬ (false = true) by decide)] at H; exact H
      clear H
      have H := H1
      clear H1
      have H' := Aside0.mk H
      clear H
      go_wp2_with (first | ((with_reducible refine gate_callee (f := 13) rfl ?_); refine goesL_ (some 24) rfl rfl Try.func13 (by kernel_rfl) rfl #[] rfl (by (try simp only [List.map_toArray, List.map_cons, List.map_nil]); first | done | rfl | (simp only [List.length_drop, List.length_take]; rfl)) ?_; (with_reducible refine (marlinelaw12_speaks.calls k  false _ A6.out).mono ?_); rintro e w20 ⟨rfl, hb⟩; refine ⟨_, rfl, ?_⟩; have n0_ := Aside0.mk (Kd.V_below (by (with_reducible repeat (first | apply Kd.V_alloc | apply Kd.V_drewN | apply Kd.V_drew)); exact HO0.out) hb); have n1_ := Aside0.mk (Kd.V_below (by (with_reducible repeat (first | apply Kd.V_alloc | apply Kd.V_drewN | apply Kd.V_drew)); exact HO1.out) hb); have n2_ := Aside0.mk (Kd.V_below (by (with_reducible repeat (first | apply Kd.V_alloc | apply Kd.V_drewN | apply Kd.V_drew)); exact HO2.out) hb); have n3_ := Aside0.mk (below_step (by repeat (first | (with_reducible first | exact HB.out | apply below_alloc | apply pw_below_drewN | apply below_drew1) | exact HB.out)) hb); clear HO0; clear HO1; clear HO2; clear HB; have HO0 := n0_; have HO1 := n1_; have HO2 := n2_; have HB := n3_; clear n0_ n1_ n2_ n3_; (try clear hb); (try clear hb2); (try clear hk); (try clear hi)))
      go_meet
      case rel => exact ⟨_, (true), (by first | rfl | (simp; done) | (simp [*]; done)), H', ⟨by first | omega | exact Nat.le_refl _⟩, ⟨by (with_reducible repeat (first | apply Kd.V_alloc | apply Kd.V_drewN | apply Kd.V_drew)); exact HO0.out⟩, ⟨by (with_reducible repeat (first | apply Kd.V_alloc | apply Kd.V_drewN | apply Kd.V_drew)); exact HO1.out⟩, ⟨by (with_reducible repeat (first | apply Kd.V_alloc | apply Kd.V_drewN | apply Kd.V_drew)); exact HO2.out⟩, ⟨by repeat (first | (with_reducible first | exact HB.out | apply below_alloc | apply pw_below_drewN | apply below_drew1) | exact HB.out)⟩⟩
  case rest =>
    clear HC5
    try clear c1
    try clear c2
    try clear p2
    try clear c6
    try clear c7
    try clear c9
    try clear c11
    try clear c13
    obtain ⟨kq, x40_4, rfl, HA, HJ4, HO_0, HO_1, HO_2, HB⟩ := hcut
    cases kq with
    | zero => exact absurd HA.out (by simp [marlinelaw12_TlvTells.j0])
    | succ kj4 =>
      have H := HA.out
      clear HA
      simp only [marlinelaw12_TlvTells.j0] at H
      by_cases c21 : x40_4 = true
      · subst c21
        have H1 : ((marlinelaw12_speaks.f kj4).bind fun t409 => (some t409)) = some r := by rw [if_pos rfl] at H; exact H
        clear H
        have H := H1
        clear H1
        replace H := Option.bind_eq_some_iff.mp H
        obtain ⟨t409, A220, H⟩ := H
        replace H : (some t409) = some r := H
        have A22 := Aside0.mk A220
        clear A220
        obtain rfl := Option.some.inj H
        go_wp2_with (first | ((with_reducible refine gate_callee (f := 13) rfl ?_); refine goesL_ (some 41) rfl rfl Try.func13 (by kernel_rfl) rfl #[] rfl (by (try simp only [List.map_toArray, List.map_cons, List.map_nil]); first | done | rfl | (simp only [List.length_drop, List.length_take]; rfl)) ?_; (with_reducible refine (marlinelaw12_speaks.calls kj4  t409 _ A22.out).mono ?_); rintro e w23 ⟨rfl, hb⟩; refine ⟨_, rfl, ?_⟩; have n0_ := Aside0.mk (below_step (by repeat (first | (with_reducible first | exact HB.out | apply below_alloc | apply pw_below_drewN | apply below_drew1) | exact HB.out)) hb); clear HB; have HB := n0_; clear n0_; (try clear hb); (try clear hb2); (try clear hk); (try clear hi)))
        go_ret
        exact ⟨by first | rfl | (simp [errW_none, errW_some] <;> rfl) | (simp [*, errW_none, errW_some] <;> rfl), by repeat (first | (with_reducible first | exact HB.out | apply below_alloc | apply pw_below_drewN | apply below_drew1) | exact HB.out)⟩
      · replace c21 := Bool.eq_false_iff.mpr c21
        subst c21
        have H1 : ((marlinelaw12_Of.f kj4 l0).bind fun t410 => ((tlv_Put.f kj4 t410).bind fun bt413 => ((marlineref12_Put.f kj4 l0).bind fun bt417 => ((tlv_Get.f kj4 l2).bind fun bt421 => ((marlineref12_Get.f kj4 l2).bind fun bt425 => (if bt413.2 = bt417.2 then ((marlineref01_Equal.f kj4 bt413.1 bt417.1).bind fun t429 => (if t429 = true then (if bt421.2 = bt425.2 then ((marlinelaw12_To.f kj4 bt421.1).bind fun t430 => ((marlineref12_Same.f kj4 t430 bt425.1).bind fun t433 => (if t433 = true then ((marlinelaw12_Of.f kj4 l1).bind fun t434 => ((tlv_Same.f t410 t434).bind fun t437 => ((marlineref12_Same.f kj4 l0 l1).bind fun t438 => (marlinelaw12_TlvTells.j1 kj4 l0 a3 t410 (t437 != t438))))) else (marlinelaw12_TlvTells.j1 kj4 l0 a3 t410 true)))) else (marlinelaw12_TlvTells.j1 kj4 l0 a3 t410 true)) else (marlinelaw12_TlvTells.j1 kj4 l0 a3 t410 true))) else (marlinelaw12_TlvTells.j1 kj4 l0 a3 t410 true))))))) = some r := by rw [if_neg (show ¬ (false = true) by decide)] at H; exact H
        clear H
        have H := H1
        clear H1
        replace H := Option.bind_eq_some_iff.mp H
        obtain ⟨t410, A240, H⟩ := H
        replace H : ((tlv_Put.f kj4 t410).bind fun bt413 => ((marlineref12_Put.f kj4 l0).bind fun bt417 => ((tlv_Get.f kj4 l2).bind fun bt421 => ((marlineref12_Get.f kj4 l2).bind fun bt425 => (if bt413.2 = bt417.2 then ((marlineref01_Equal.f kj4 bt413.1 bt417.1).bind fun t429 => (if t429 = true then (if bt421.2 = bt425.2 then ((marlinelaw12_To.f kj4 bt421.1).bind fun t430 => ((marlineref12_Same.f kj4 t430 bt425.1).bind fun t433 => (if t433 = true then ((marlinelaw12_Of.f kj4 l1).bind fun t434 => ((tlv_Same.f t410 t434).bind fun t437 => ((marlineref12_Same.f kj4 l0 l1).bind fun t438 => (marlinelaw12_TlvTells.j1 kj4 l0 a3 t410 (t437 != t438))))) else (marlinelaw12_TlvTells.j1 kj4 l0 a3 t410 true)))) else (marlinelaw12_TlvTells.j1 kj4 l0 a3 t410 true)) else (marlinelaw12_TlvTells.j1 kj4 l0 a3 t410 true))) else (marlinelaw12_TlvTells.j1 kj4 l0 a3 t410 true)))))) = some r := H
        have A24 := Aside0.mk A240
        clear A240
        replace H := Option.bind_eq_some_iff.mp H
        obtain ⟨⟨t413, t414⟩, A250, H⟩ := H
        replace H : ((marlineref12_Put.f kj4 l0).bind fun bt417 => ((tlv_Get.f kj4 l2).bind fun bt421 => ((marlineref12_Get.f kj4 l2).bind fun bt425 => (if t414 = bt417.2 then ((marlineref01_Equal.f kj4 t413 bt417.1).bind fun t429 => (if t429 = true then (if bt421.2 = bt425.2 then ((marlinelaw12_To.f kj4 bt421.1).bind fun t430 => ((marlineref12_Same.f kj4 t430 bt425.1).bind fun t433 => (if t433 = true then ((marlinelaw12_Of.f kj4 l1).bind fun t434 => ((tlv_Same.f t410 t434).bind fun t437 => ((marlineref12_Same.f kj4 l0 l1).bind fun t438 => (marlinelaw12_TlvTells.j1 kj4 l0 a3 t410 (t437 != t438))))) else (marlinelaw12_TlvTells.j1 kj4 l0 a3 t410 true)))) else (marlinelaw12_TlvTells.j1 kj4 l0 a3 t410 true)) else (marlinelaw12_TlvTells.j1 kj4 l0 a3 t410 true))) else (marlinelaw12_TlvTells.j1 kj4 l0 a3 t410 true))))) = some r := H
        have A25 := Aside0.mk A250
        clear A250
        replace H := Option.bind_eq_some_iff.mp H
        obtain ⟨⟨t417, t418⟩, A260, H⟩ := H
        replace H : ((tlv_Get.f kj4 l2).bind fun bt421 => ((marlineref12_Get.f kj4 l2).bind fun bt425 => (if t414 = t418 then ((marlineref01_Equal.f kj4 t413 t417).bind fun t429 => (if t429 = true then (if bt421.2 = bt425.2 then ((marlinelaw12_To.f kj4 bt421.1).bind fun t430 => ((marlineref12_Same.f kj4 t430 bt425.1).bind fun t433 => (if t433 = true then ((marlinelaw12_Of.f kj4 l1).bind fun t434 => ((tlv_Same.f t410 t434).bind fun t437 => ((marlineref12_Same.f kj4 l0 l1).bind fun t438 => (marlinelaw12_TlvTells.j1 kj4 l0 a3 t410 (t437 != t438))))) else (marlinelaw12_TlvTells.j1 kj4 l0 a3 t410 true)))) else (marlinelaw12_TlvTells.j1 kj4 l0 a3 t410 true)) else (marlinelaw12_TlvTells.j1 kj4 l0 a3 t410 true))) else (marlinelaw12_TlvTells.j1 kj4 l0 a3 t410 true)))) = some r := H
        have A26 := Aside0.mk A260
        clear A260
        replace H := Option.bind_eq_some_iff.mp H
        obtain ⟨⟨t421, t424⟩, A270, H⟩ := H
        replace H : ((marlineref12_Get.f kj4 l2).bind fun bt425 => (if t414 = t418 then ((marlineref01_Equal.f kj4 t413 t417).bind fun t429 => (if t429 = true then (if t424 = bt425.2 then ((marlinelaw12_To.f kj4 t421).bind fun t430 => ((marlineref12_Same.f kj4 t430 bt425.1).bind fun t433 => (if t433 = true then ((marlinelaw12_Of.f kj4 l1).bind fun t434 => ((tlv_Same.f t410 t434).bind fun t437 => ((marlineref12_Same.f kj4 l0 l1).bind fun t438 => (marlinelaw12_TlvTells.j1 kj4 l0 a3 t410 (t437 != t438))))) else (marlinelaw12_TlvTells.j1 kj4 l0 a3 t410 true)))) else (marlinelaw12_TlvTells.j1 kj4 l0 a3 t410 true)) else (marlinelaw12_TlvTells.j1 kj4 l0 a3 t410 true))) else (marlinelaw12_TlvTells.j1 kj4 l0 a3 t410 true))) = some r := H
        have A27 := Aside0.mk A270
        clear A270
        replace H := Option.bind_eq_some_iff.mp H
        obtain ⟨⟨t425, t428⟩, A280, H⟩ := H
        replace H : (if t414 = t418 then ((marlineref01_Equal.f kj4 t413 t417).bind fun t429 => (if t429 = true then (if t424 = t428 then ((marlinelaw12_To.f kj4 t421).bind fun t430 => ((marlineref12_Same.f kj4 t430 t425).bind fun t433 => (if t433 = true then ((marlinelaw12_Of.f kj4 l1).bind fun t434 => ((tlv_Same.f t410 t434).bind fun t437 => ((marlineref12_Same.f kj4 l0 l1).bind fun t438 => (marlinelaw12_TlvTells.j1 kj4 l0 a3 t410 (t437 != t438))))) else (marlinelaw12_TlvTells.j1 kj4 l0 a3 t410 true)))) else (marlinelaw12_TlvTells.j1 kj4 l0 a3 t410 true)) else (marlinelaw12_TlvTells.j1 kj4 l0 a3 t410 true))) else (marlinelaw12_TlvTells.j1 kj4 l0 a3 t410 true)) = some r := H
        have A28 := Aside0.mk A280
        clear A280
        have HC29 := Aside0.mk H
        clear H
        go_upto_region 8 with (first | ((with_reducible refine gate_callee (f := 15) rfl ?_); refine goesL_ (some 43) rfl rfl Try.func15 (by kernel_rfl) rfl #[.slice A0 l0.length c0] rfl (by (try simp only [List.map_toArray, List.map_cons, List.map_nil]); first | done | rfl | (simp only [List.length_drop, List.length_take]; rfl)) ?_; (with_reducible refine (marlinelaw12_Of.calls kj4 (fun k_ => ((P0_ k_ ∨ P1_ k_ ∨ P2_ k_) ∨ w.heap.size ≤ k_)) _ _ l0 t410 _ ?side1 A24.out).mono ?_); (case side1 => exact HO_0.out); rintro e w30 ⟨v411, rfl, ho0, hb⟩; refine ⟨_, rfl, ?_⟩; have n0_ := Aside0.mk (Kd.V_elder' (by (with_reducible repeat (first | apply Kd.V_alloc | apply Kd.V_drewN | apply Kd.V_drew)); exact HO_0.out) (Kd.N_base ho0) hb); have n1_ := Aside0.mk (Kd.V_elder' (by (with_reducible repeat (first | apply Kd.V_alloc | apply Kd.V_drewN | apply Kd.V_drew)); exact HO_1.out) (Kd.N_base ho0) hb); have n2_ := Aside0.mk (Kd.V_elder' (by (with_reducible repeat (first | apply Kd.V_alloc | apply Kd.V_drewN | apply Kd.V_drew)); exact HO_2.out) (Kd.N_base ho0) hb); have n3_ := Aside0.mk (Kd.N_lower (Kd.N_mono (ok' := fun k_ => ((P0_ k_ ∨ P1_ k_ ∨ P2_ k_) ∨ w.heap.size ≤ k_)) ho0 (fun k_ hk_ => Or.elim hk_ (fun hs_ => hs_) (fun hn_ => (.inr (Nat.le_trans (below_size (by repeat (first | (with_reducible first | exact HB.out | apply below_alloc | apply pw_below_drewN | apply below_drew1) | exact HB.out))) hn_))))) (below_size (by repeat (first | (with_reducible first | exact HB.out | apply below_alloc | apply pw_below_drewN | apply below_drew1) | exact HB.out)))); have n4_ := Aside0.mk (below_step (by repeat (first | (with_reducible first | exact HB.out | apply below_alloc | apply pw_below_drewN | apply below_drew1) | exact HB.out)) hb); clear HO_0; clear HO_1; clear HO_2; clear HB; have HO_0 := n0_; have HO_1 := n1_; have HO_2 := n2_; have HO412 := n3_; have HB := n4_; clear n0_ n1_ n2_ n3_ n4_; (try clear hb); (try clear hb2); (try clear hk); (try clear hi); (try clear ho0); obtain ⟨Ao31, co31, eo31⟩ := Kd.N_slice HO412.out; subst eo31) | ((with_reducible refine gate_callee (f := 16) rfl ?_); refine goesL_ (some 46) rfl rfl Try.func16 (by kernel_rfl) rfl #[.slice Ao31 t410.length co31] rfl (by (try simp only [List.map_toArray, List.map_cons, List.map_nil]); first | done | rfl | (simp only [List.length_drop, List.length_take]; rfl)) ?_; (with_reducible refine (tlv_Put.calls kj4 _ _ t410 t413 t414 _ ?side1 ?side2 A25.out).mono ?_); (case side1 => repeat (first | exact (Kd.N_reads' HO412.out).2.2 | (with_reducible refine Kd.C_alloc ?_ _) | (with_reducible refine Kd.C_drewN ?_ _) | (with_reducible refine Kd.C_drew ?_))); (case side2 => exact (Kd.N_reads' HO412.out).2.1); rintro e w32 ⟨v415, rfl, ho0, hb⟩; refine ⟨_, rfl, ?_⟩; have n0_ := Aside0.mk (Kd.V_elder' (by (with_reducible repeat (first | apply Kd.V_alloc | apply Kd.V_drewN | apply Kd.V_drew)); exact HO_0.out) (Kd.R_base ho0) hb); have n1_ := Aside0.mk (Kd.V_elder' (by (with_reducible repeat (first | apply Kd.V_alloc | apply Kd.V_drewN | apply Kd.V_drew)); exact HO_1.out) (Kd.R_base ho0) hb); have n2_ := Aside0.mk (Kd.V_elder' (by (with_reducible repeat (first | apply Kd.V_alloc | apply Kd.V_drewN | apply Kd.V_drew)); exact HO_2.out) (Kd.R_base ho0) hb); have n3_ := Aside0.mk (Kd.N_elder' (by (with_reducible repeat (first | apply Kd.N_alloc | apply Kd.N_drewN | apply Kd.N_drew)); exact HO412.out) (Kd.R_base ho0) hb); have n4_ := Aside0.mk (Kd.R_lower (Kd.R_newM (M := fun k_ => (w.heap.size ≤ k_)) ho0 (below_size (by repeat (first | (with_reducible first | exact HB.out | apply below_alloc | apply pw_below_drewN | apply below_drew1) | exact HB.out))) (fun k_ h_ => h_)) (below_size (by repeat (first | (with_reducible first | exact HB.out | apply below_alloc | apply pw_below_drewN | apply below_drew1) | exact HB.out)))); have n5_ := Aside0.mk (below_step (by repeat (first | (with_reducible first | exact HB.out | apply below_alloc | apply pw_below_drewN | apply below_drew1) | exact HB.out)) hb); clear HO_0; clear HO_1; clear HO_2; clear HO412; clear HB; have HO_0 := n0_; have HO_1 := n1_; have HO_2 := n2_; have HO412 := n3_; have HO416 := n4_; have HB := n5_; clear n0_ n1_ n2_ n3_ n4_ n5_; (try clear hb); (try clear hb2); (try clear hk); (try clear hi); (try clear ho0)) | ((with_reducible refine gate_callee (f := 27) rfl ?_); refine goesL_ (some 51) rfl rfl Try.func27 (by kernel_rfl) rfl #[.slice A0 l0.length c0] rfl (by (try simp only [List.map_toArray, List.map_cons, List.map_nil]); first | done | rfl | (simp only [List.length_drop, List.length_take]; rfl)) ?_; (with_reducible refine (marlineref12_Put.calls kj4 _ _ l0 t417 t418 _ ?side1 ?side2 A26.out).mono ?_); (case side1 => repeat (first | exact (Kd.V_reads' HO_0.out).2.2 | (with_reducible refine Kd.C_alloc ?_ _) | (with_reducible refine Kd.C_drewN ?_ _) | (with_reducible refine Kd.C_drew ?_))); (case side2 => exact (Kd.V_reads' HO_0.out).2.1); rintro e w33 ⟨v419, rfl, ho0, hb⟩; refine ⟨_, rfl, ?_⟩; have n0_ := Aside0.mk (Kd.V_elder' (by (with_reducible repeat (first | apply Kd.V_alloc | apply Kd.V_drewN | apply Kd.V_drew)); exact HO_0.out) (Kd.R_base ho0) hb); have n1_ := Aside0.mk (Kd.V_elder' (by (with_reducible repeat (first | apply Kd.V_alloc | apply Kd.V_drewN | apply Kd.V_drew)); exact HO_1.out) (Kd.R_base ho0) hb); have n2_ := Aside0.mk (Kd.V_elder' (by (with_reducible repeat (first | apply Kd.V_alloc | apply Kd.V_drewN | apply Kd.V_drew)); exact HO_2.out) (Kd.R_base ho0) hb); have n3_ := Aside0.mk (Kd.N_elder' (by (with_reducible repeat (first | apply Kd.N_alloc | apply Kd.N_drewN | apply Kd.N_drew)); exact HO412.out) (Kd.R_base ho0) hb); have n4_ := Aside0.mk (Kd.R_elder' (by (with_reducible repeat (first | apply Kd.R_alloc | apply Kd.R_drewN | apply Kd.R_drew)); exact HO416.out) (Kd.R_base ho0) hb); have n5_ := Aside0.mk (Kd.R_lower (Kd.R_new' (Kd.R_newM (M := fun k_ => (w.heap.size ≤ k_)) ho0 (below_size (by repeat (first | (with_reducible first | exact HB.out | apply below_alloc | apply pw_below_drewN | apply below_drew1) | exact HB.out))) (fun k_ h_ => h_)) (Kd.R_lt (by (with_reducible repeat (first | apply Kd.R_alloc | apply Kd.R_drewN | apply Kd.R_drew)); exact HO416.out))) (below_size (by repeat (first | (with_reducible first | exact HB.out | apply below_alloc | apply pw_below_drewN | apply below_drew1) | exact HB.out)))); have n6_ := Aside0.mk (below_step (by repeat (first | (with_reducible first | exact HB.out | apply below_alloc | apply pw_below_drewN | apply below_drew1) | exact HB.out)) hb); clear HO_0; clear HO_1; clear HO_2; clear HO412; clear HO416; clear HB; have HO_0 := n0_; have HO_1 := n1_; have HO_2 := n2_; have HO412 := n3_; have HO416 := n4_; have HO420 := n5_; have HB := n6_; clear n0_ n1_ n2_ n3_ n4_ n5_ n6_; (try clear hb); (try clear hb2); (try clear hk); (try clear hi); (try clear ho0)) | ((with_reducible refine gate_callee (f := 17) rfl ?_); refine goesL_ (some 56) rfl rfl Try.func17 (by kernel_rfl) rfl #[.slice A2 l2.length c2] rfl (by (try simp only [List.map_toArray, List.map_cons, List.map_nil]); first | done | rfl | (simp only [List.length_drop, List.length_take]; rfl)) ?_; (with_reducible refine (tlv_Get.calls kj4 (fun k_ => (((((P0_ k_ ∨ P1_ k_ ∨ P2_ k_) ∨ w.heap.size ≤ k_) ∧ some k_ ≠ (.slice Ao31 t410.length co31 : Value).ownBlock) ∧ some k_ ≠ (v415 : Value).ownBlock) ∧ some k_ ≠ (v419 : Value).ownBlock)) _ _ l2 t421 t424 _ ?side1 A27.out).mono ?_); (case side1 => exact HO_2.out); rintro e w34 ⟨v422, rfl, ho0, hb⟩; refine ⟨_, rfl, ?_⟩; have n0_ := Aside0.mk (Kd.V_elder' (by (with_reducible repeat (first | apply Kd.V_alloc | apply Kd.V_drewN | apply Kd.V_drew)); exact HO_0.out) (Kd.S_base ho0) hb); have n1_ := Aside0.mk (Kd.V_elder' (by (with_reducible repeat (first | apply Kd.V_alloc | apply Kd.V_drewN | apply Kd.V_drew)); exact HO_1.out) (Kd.S_base ho0) hb); have n2_ := Aside0.mk (Kd.V_elder' (by (with_reducible repeat (first | apply Kd.V_alloc | apply Kd.V_drewN | apply Kd.V_drew)); exact HO_2.out) (Kd.S_base ho0) hb); have n3_ := Aside0.mk (Kd.N_elder' (by (with_reducible repeat (first | apply Kd.N_alloc | apply Kd.N_drewN | apply Kd.N_drew)); exact HO412.out) (Kd.S_base ho0) hb); have n4_ := Aside0.mk (Kd.R_below (by (with_reducible repeat (first | apply Kd.R_alloc | apply Kd.R_drewN | apply Kd.R_drew)); exact HO416.out) hb); have n5_ := Aside0.mk (Kd.R_below (by (with_reducible repeat (first | apply Kd.R_alloc | apply Kd.R_drewN | apply Kd.R_drew)); exact HO420.out) hb); have n6_ := Aside0.mk (Kd.N_lower (Kd.N_mono (ok' := fun k_ => ((P0_ k_ ∨ P1_ k_ ∨ P2_ k_) ∨ w.heap.size ≤ k_) ∧ some k_ ≠ (.slice Ao31 t410.length co31 : Value).ownBlock ∧ some k_ ≠ (v415 : Value).ownBlock ∧ some k_ ≠ (v419 : Value).ownBlock) (Kd.S_N (Kd.S_bound ho0)) (fun k_ hk_ => ⟨(.inr (Nat.le_trans (below_size (by repeat (first | (with_reducible first | exact HB.out | apply below_alloc | apply pw_below_drewN | apply below_drew1) | exact HB.out))) hk_.2.1)), (Kd.fresh' (Kd.N_lt (by (with_reducible repeat (first | apply Kd.N_alloc | apply Kd.N_drewN | apply Kd.N_drew)); exact HO412.out)) k_ hk_.2.1), (Kd.fresh' (Kd.R_lt (by (with_reducible repeat (first | apply Kd.R_alloc | apply Kd.R_drewN | apply Kd.R_drew)); exact HO416.out)) k_ hk_.2.1), (Kd.fresh' (Kd.R_lt (by (with_reducible repeat (first | apply Kd.R_alloc | apply Kd.R_drewN | apply Kd.R_drew)); exact HO420.out)) k_ hk_.2.1)⟩)) (below_size (by repeat (first | (with_reducible first | exact HB.out | apply below_alloc | apply pw_below_drewN | apply below_drew1) | exact HB.out)))); have n7_ := Aside0.mk (below_step (by repeat (first | (with_reducible first | exact HB.out | apply below_alloc | apply pw_below_drewN | apply below_drew1) | exact HB.out)) hb); clear HO_0; clear HO_1; clear HO_2; clear HO412; clear HO416; clear HO420; clear HB; have HO_0 := n0_; have HO_1 := n1_; have HO_2 := n2_; have HO412 := n3_; have HO416 := n4_; have HO420 := n5_; have HO423 := n6_; have HB := n7_; clear n0_ n1_ n2_ n3_ n4_ n5_ n6_ n7_; (try clear hb); (try clear hb2); (try clear hk); (try clear hi); (try clear ho0)) | ((with_reducible refine gate_callee (f := 28) rfl ?_); refine goesL_ (some 61) rfl rfl Try.func28 (by kernel_rfl) rfl #[.slice A2 l2.length c2] rfl (by (try simp only [List.map_toArray, List.map_cons, List.map_nil]); first | done | rfl | (simp only [List.length_drop, List.length_take]; rfl)) ?_; (with_reducible refine (marlineref12_Get.calls kj4 (fun k_ => ((((((P0_ k_ ∨ P1_ k_ ∨ P2_ k_) ∨ w.heap.size ≤ k_) ∧ some k_ ≠ (.slice Ao31 t410.length co31 : Value).ownBlock) ∧ some k_ ≠ (v415 : Value).ownBlock) ∧ some k_ ≠ (v419 : Value).ownBlock) ∧ some k_ ≠ (v422 : Value).ownBlock)) _ _ l2 t425 t428 _ ?side1 A28.out).mono ?_); (case side1 => exact HO_2.out); rintro e w35 ⟨v426, rfl, ho0, hb⟩; refine ⟨_, rfl, ?_⟩; have n0_ := Aside0.mk (Kd.V_elder' (by (with_reducible repeat (first | apply Kd.V_alloc | apply Kd.V_drewN | apply Kd.V_drew)); exact HO_0.out) (Kd.N_base ho0) hb); have n1_ := Aside0.mk (Kd.V_elder' (by (with_reducible repeat (first | apply Kd.V_alloc | apply Kd.V_drewN | apply Kd.V_drew)); exact HO_1.out) (Kd.N_base ho0) hb); have n2_ := Aside0.mk (Kd.V_elder' (by (with_reducible repeat (first | apply Kd.V_alloc | apply Kd.V_drewN | apply Kd.V_drew)); exact HO_2.out) (Kd.N_base ho0) hb); have n3_ := Aside0.mk (Kd.N_elder' (by (with_reducible repeat (first | apply Kd.N_alloc | apply Kd.N_drewN | apply Kd.N_drew)); exact HO412.out) (Kd.N_base ho0) hb); have n4_ := Aside0.mk (Kd.R_below (by (with_reducible repeat (first | apply Kd.R_alloc | apply Kd.R_drewN | apply Kd.R_drew)); exact HO416.out) hb); have n5_ := Aside0.mk (Kd.R_below (by (with_reducible repeat (first | apply Kd.R_alloc | apply Kd.R_drewN | apply Kd.R_drew)); exact HO420.out) hb); have n6_ := Aside0.mk (Kd.N_elder' (by (with_reducible repeat (first | apply Kd.N_alloc | apply Kd.N_drewN | apply Kd.N_drew)); exact HO423.out) (Kd.N_base ho0) hb); have n7_ := Aside0.mk (Kd.N_lower (Kd.N_mono (ok' := fun k_ => ((P0_ k_ ∨ P1_ k_ ∨ P2_ k_) ∨ w.heap.size ≤ k_) ∧ some k_ ≠ (.slice Ao31 t410.length co31 : Value).ownBlock ∧ some k_ ≠ (v415 : Value).ownBlock ∧ some k_ ≠ (v419 : Value).ownBlock ∧ some k_ ≠ (v422 : Value).ownBlock) ho0 (fun k_ hk_ => ⟨Or.elim hk_ (fun hs_ => hs_.1.1.1.1) (fun hn_ => (.inr (Nat.le_trans (below_size (by repeat (first | (with_reducible first | exact HB.out | apply below_alloc | apply pw_below_drewN | apply below_drew1) | exact HB.out))) hn_))), Or.elim hk_ (fun hs_ => hs_.1.1.1.2) (fun hn_ => (Kd.fresh' (Kd.N_lt (by (with_reducible repeat (first | apply Kd.N_alloc | apply Kd.N_drewN | apply Kd.N_drew)); exact HO412.out)) k_ hn_)), Or.elim hk_ (fun hs_ => hs_.1.1.2) (fun hn_ => (Kd.fresh' (Kd.R_lt (by (with_reducible repeat (first | apply Kd.R_alloc | apply Kd.R_drewN | apply Kd.R_drew)); exact HO416.out)) k_ hn_)), Or.elim hk_ (fun hs_ => hs_.1.2) (fun hn_ => (Kd.fresh' (Kd.R_lt (by (with_reducible repeat (first | apply Kd.R_alloc | apply Kd.R_drewN | apply Kd.R_drew)); exact HO420.out)) k_ hn_)), Or.elim hk_ (fun hs_ => hs_.2) (fun hn_ => (Kd.fresh' (Kd.N_lt (by (with_reducible repeat (first | apply Kd.N_alloc | apply Kd.N_drewN | apply Kd.N_drew)); exact HO423.out)) k_ hn_))⟩)) (below_size (by repeat (first | (with_reducible first | exact HB.out | apply below_alloc | apply pw_below_drewN | apply below_drew1) | exact HB.out)))); have n8_ := Aside0.mk (below_step (by repeat (first | (with_reducible first | exact HB.out | apply below_alloc | apply pw_below_drewN | apply below_drew1) | exact HB.out)) hb); clear HO_0; clear HO_1; clear HO_2; clear HO412; clear HO416; clear HO420; clear HO423; clear HB; have HO_0 := n0_; have HO_1 := n1_; have HO_2 := n2_; have HO412 := n3_; have HO416 := n4_; have HO420 := n5_; have HO423 := n6_; have HO427 := n7_; have HB := n8_; clear n0_ n1_ n2_ n3_ n4_ n5_ n6_ n7_ n8_; (try clear hb); (try clear hb2); (try clear hk); (try clear hi); (try clear ho0)))
        (try simp only [Act.put, List.setIfInBounds_toArray, List.set_cons_zero, List.set_cons_succ])
        go_cut [94] (fun v94 wc => ∃ (kq : Nat) (x94_28 : Bool), v94 = .bool x94_28 ∧ Aside0 (marlinelaw12_TlvTells.j1 kq l0 a3 t410 x94_28 = some r) ∧ Aside0 (kq ≤ kj4) ∧ Aside0 (Kd.V k56 56 wc w.heap.size (fun k_ => ((P0_ k_ ∨ P1_ k_ ∨ P2_ k_) ∨ w.heap.size ≤ k_) ∧ some k_ ≠ ((.slice Ao31 t410.length co31) : Value).ownBlock) (.slice A0 l0.length c0) l0) ∧ Aside0 (Kd.N k57 57 wc w.heap.size (fun k_ => ((P0_ k_ ∨ P1_ k_ ∨ P2_ k_) ∨ w.heap.size ≤ k_)) (.slice Ao31 t410.length co31) t410) ∧ Aside0 (Below w.heap.size w wc))
        case first =>
          have H := HC29.out
          clear HC29
          by_cases c36 : t414 = t418
          · rw [if_pos c36] at H
            have c36b0 : (t414 == t418) = true := beq_iff_eq.mpr c36
            have c36b1 : (t414 != t418) = false := bne_eq_false_iff_eq.mpr c36
            clear c36
            (first | rw [c36b0] | (simp only [i64_w, i32_w]; rw [c36b0]) | skip)
            replace H := Option.bind_eq_some_iff.mp H
            obtain ⟨t429, A370, H⟩ := H
            replace H : (if t429 = true then (if t424 = t428 then ((marlinelaw12_To.f kj4 t421).bind fun t430 => ((marlineref12_Same.f kj4 t430 t425).bind fun t433 => (if t433 = true then ((marlinelaw12_Of.f kj4 l1).bind fun t434 => ((tlv_Same.f t410 t434).bind fun t437 => ((marlineref12_Same.f kj4 l0 l1).bind fun t438 => (marlinelaw12_TlvTells.j1 kj4 l0 a3 t410 (t437 != t438))))) else (marlinelaw12_TlvTells.j1 kj4 l0 a3 t410 true)))) else (marlinelaw12_TlvTells.j1 kj4 l0 a3 t410 true)) else (marlinelaw12_TlvTells.j1 kj4 l0 a3 t410 true)) = some r := H
            have A37 := Aside0.mk A370
            clear A370
            by_cases c38 : t429 = true
            · subst c38
              have H1 : (if t424 = t428 then ((marlinelaw12_To.f kj4 t421).bind fun t430 => ((marlineref12_Same.f kj4 t430 t425).bind fun t433 => (if t433 = true then ((marlinelaw12_Of.f kj4 l1).bind fun t434 => ((tlv_Same.f t410 t434).bind fun t437 => ((marlineref12_Same.f kj4 l0 l1).bind fun t438 => (marlinelaw12_TlvTells.j1 kj4 l0 a3 t410 (t437 != t438))))) else (marlinelaw12_TlvTells.j1 kj4 l0 a3 t410 true)))) else (marlinelaw12_TlvTells.j1 kj4 l0 a3 t410 true)) = some r := by rw [if_pos rfl] at H; exact H
              clear H
              have H := H1
              clear H1
              by_cases c39 : t424 = t428
              · rw [if_pos c39] at H
                have c39b0 : (t424 == t428) = true := beq_iff_eq.mpr c39
                have c39b1 : (t424 != t428) = false := bne_eq_false_iff_eq.mpr c39
                clear c39
                replace H := Option.bind_eq_some_iff.mp H
                obtain ⟨t430, A400, H⟩ := H
                replace H : ((marlineref12_Same.f kj4 t430 t425).bind fun t433 => (if t433 = true then ((marlinelaw12_Of.f kj4 l1).bind fun t434 => ((tlv_Same.f t410 t434).bind fun t437 => ((marlineref12_Same.f kj4 l0 l1).bind fun t438 => (marlinelaw12_TlvTells.j1 kj4 l0 a3 t410 (t437 != t438))))) else (marlinelaw12_TlvTells.j1 kj4 l0 a3 t410 true))) = some r := H
                have A40 := Aside0.mk A400
                clear A400
                replace H := Option.bind_eq_some_iff.mp H
                obtain ⟨t433, A410, H⟩ := H
                replace H : (if t433 = true then ((marlinelaw12_Of.f kj4 l1).bind fun t434 => ((tlv_Same.f t410 t434).bind fun t437 => ((marlineref12_Same.f kj4 l0 l1).bind fun t438 => (marlinelaw12_TlvTells.j1 kj4 l0 a3 t410 (t437 != t438))))) else (marlinelaw12_TlvTells.j1 kj4 l0 a3 t410 true)) = some r := H
                have A41 := Aside0.mk A410
                clear A410
                by_cases c42 : t433 = true
                · subst c42
                  have H1 : ((marlinelaw12_Of.f kj4 l1).bind fun t434 => ((tlv_Same.f t410 t434).bind fun t437 => ((marlineref12_Same.f kj4 l0 l1).bind fun t438 => (marlinelaw12_TlvTells.j1 kj4 l0 a3 t410 (t437 != t438))))) = some r := by rw [if_pos rfl] at H; exact H
                  clear H
                  have H := H1
                  clear H1
                  replace H := Option.bind_eq_some_iff.mp H
                  obtain ⟨t434, A430, H⟩ := H
                  replace H : ((tlv_Same.f t410 t434).bind fun t437 => ((marlineref12_Same.f kj4 l0 l1).bind fun t438 => (marlinelaw12_TlvTells.j1 kj4 l0 a3 t410 (t437 != t438)))) = some r := H
                  have A43 := Aside0.mk A430
                  clear A430
                  replace H := Option.bind_eq_some_iff.mp H
                  obtain ⟨t437, A440, H⟩ := H
                  replace H : ((marlineref12_Same.f kj4 l0 l1).bind fun t438 => (marlinelaw12_TlvTells.j1 kj4 l0 a3 t410 (t437 != t438))) = some r := H
                  have A44 := Aside0.mk A440
                  clear A440
                  replace H := Option.bind_eq_some_iff.mp H
                  obtain ⟨t438, A450, H⟩ := H
                  replace H : (marlinelaw12_TlvTells.j1 kj4 l0 a3 t410 (t437 != t438)) = some r := H
                  have A45 := Aside0.mk A450
                  clear A450
                  have H' := Aside0.mk H
                  clear H
                  obtain ⟨Ao46, co46, eo46⟩ := Kd.R_slice HO416.out
                  subst eo46
                  obtain ⟨Ao47, co47, eo47⟩ := Kd.R_slice HO420.out
                  subst eo47
                  go_wp2_with (first | (go_at_call 22; (with_reducible refine (marlineref01_Equal.calls kj4 _ _ t413 _ _ t417 true _ ?side1 ?side2 ?side3 ?side4 A37.out).mono ?_); (case side1 => repeat (first | exact (Kd.R_reads' HO416.out).2.2 | (with_reducible refine Kd.C_alloc ?_ _) | (with_reducible refine Kd.C_drewN ?_ _) | (with_reducible refine Kd.C_drew ?_))); (case side2 => exact (Kd.R_reads' HO416.out).2.1); (case side3 => repeat (first | exact (Kd.R_reads' HO420.out).2.2 | (with_reducible refine Kd.C_alloc ?_ _) | (with_reducible refine Kd.C_drewN ?_ _) | (with_reducible refine Kd.C_drew ?_))); (case side4 => exact (Kd.R_reads' HO420.out).2.1); rintro e w' ⟨rfl, ⟨nd, rfl⟩⟩; obtain ⟨Ao48, co48, eo48⟩ := Kd.N_slice HO423.out; subst eo48) | (go_at_call 20; (with_reducible refine (marlinelaw12_To.calls kj4 (fun k_ => ((((P0_ k_ ∨ P1_ k_ ∨ P2_ k_) ∨ w.heap.size ≤ k_) ∧ (some k_ ≠ (.slice Ao31 t410.length co31 : Value).ownBlock ∧ (some k_ ≠ (.slice Ao46 t413.length co46 : Value).ownBlock ∧ some k_ ≠ (.slice Ao47 t417.length co47 : Value).ownBlock))) ∧ some k_ ≠ (v426 : Value).ownBlock)) _ _ t421 t430 _ ?side1 A40.out).mono ?_); (case side1 => exact Kd.N_V (HO423.out)); rintro e w49 ⟨v431, rfl, ho0, hb⟩; have n0_ := Aside0.mk (Kd.V_elder' (by (with_reducible repeat (first | apply Kd.V_alloc | apply Kd.V_drewN | apply Kd.V_drew)); exact HO_0.out) (Kd.N_base ho0) hb); have n1_ := Aside0.mk (Kd.V_elder' (by (with_reducible repeat (first | apply Kd.V_alloc | apply Kd.V_drewN | apply Kd.V_drew)); exact HO_1.out) (Kd.N_base ho0) hb); have n2_ := Aside0.mk (Kd.V_elder' (by (with_reducible repeat (first | apply Kd.V_alloc | apply Kd.V_drewN | apply Kd.V_drew)); exact HO_2.out) (Kd.N_base ho0) hb); have n3_ := Aside0.mk (Kd.N_elder' (by (with_reducible repeat (first | apply Kd.N_alloc | apply Kd.N_drewN | apply Kd.N_drew)); exact HO412.out) (Kd.N_base ho0) hb); have n4_ := Aside0.mk (Kd.R_below (by (with_reducible repeat (first | apply Kd.R_alloc | apply Kd.R_drewN | apply Kd.R_drew)); exact HO416.out) hb); have n5_ := Aside0.mk (Kd.R_below (by (with_reducible repeat (first | apply Kd.R_alloc | apply Kd.R_drewN | apply Kd.R_drew)); exact HO420.out) hb); have n6_ := Aside0.mk (Kd.N_elder' (by (with_reducible repeat (first | apply Kd.N_alloc | apply Kd.N_drewN | apply Kd.N_drew)); exact HO423.out) (Kd.N_base ho0) hb); have n7_ := Aside0.mk (Kd.N_elder' (by (with_reducible repeat (first | apply Kd.N_alloc | apply Kd.N_drewN | apply Kd.N_drew)); exact HO427.out) (Kd.N_base ho0) hb); have n8_ := Aside0.mk (Kd.N_lower (Kd.N_mono (ok' := fun k_ => ((P0_ k_ ∨ P1_ k_ ∨ P2_ k_) ∨ w.heap.size ≤ k_) ∧ some k_ ≠ (.slice Ao31 t410.length co31 : Value).ownBlock ∧ some k_ ≠ (.slice Ao46 t413.length co46 : Value).ownBlock ∧ some k_ ≠ (.slice Ao47 t417.length co47 : Value).ownBlock ∧ some k_ ≠ (v426 : Value).ownBlock) ho0 (fun k_ hk_ => ⟨Or.elim hk_ (fun hs_ => hs_.1.1) (fun hn_ => (.inr (Nat.le_trans (below_size (by repeat (first | (with_reducible first | exact HB.out | apply below_alloc | apply pw_below_drewN | apply below_drew1) | exact HB.out))) hn_))), Or.elim hk_ (fun hs_ => hs_.1.2.1) (fun hn_ => (Kd.fresh' (Kd.N_lt (by (with_reducible repeat (first | apply Kd.N_alloc | apply Kd.N_drewN | apply Kd.N_drew)); exact HO412.out)) k_ hn_)), Or.elim hk_ (fun hs_ => hs_.1.2.2.1) (fun hn_ => (Kd.fresh' (Kd.R_lt (by (with_reducible repeat (first | apply Kd.R_alloc | apply Kd.R_drewN | apply Kd.R_drew)); exact HO416.out)) k_ hn_)), Or.elim hk_ (fun hs_ => hs_.1.2.2.2) (fun hn_ => (Kd.fresh' (Kd.R_lt (by (with_reducible repeat (first | apply Kd.R_alloc | apply Kd.R_drewN | apply Kd.R_drew)); exact HO420.out)) k_ hn_)), Or.elim hk_ (fun hs_ => hs_.2) (fun hn_ => (Kd.fresh' (Kd.N_lt (by (with_reducible repeat (first | apply Kd.N_alloc | apply Kd.N_drewN | apply Kd.N_drew)); exact HO427.out)) k_ hn_))⟩)) (below_size (by repeat (first | (with_reducible first | exact HB.out | apply below_alloc | apply pw_below_drewN | apply below_drew1) | exact HB.out)))); have n9_ := Aside0.mk (below_step (by repeat (first | (with_reducible first | exact HB.out | apply below_alloc | apply pw_below_drewN | apply below_drew1) | exact HB.out)) hb); clear HO_0; clear HO_1; clear HO_2; clear HO412; clear HO416; clear HO420; clear HO423; clear HO427; clear HB; have HO_0 := n0_; have HO_1 := n1_; have HO_2 := n2_; have HO412 := n3_; have HO416 := n4_; have HO420 := n5_; have HO423 := n6_; have HO427 := n7_; have HO432 := n8_; have HB := n9_; clear n0_ n1_ n2_ n3_ n4_ n5_ n6_ n7_ n8_ n9_; (try clear hb); (try clear hb2); (try clear hk); (try clear hi); (try clear ho0); obtain ⟨Ao50, co50, eo50⟩ := Kd.N_slice HO432.out; subst eo50; obtain ⟨Ao51, co51, eo51⟩ := Kd.N_slice HO427.out; subst eo51) | (go_at_call 19; (with_reducible refine (marlineref12_Same.calls kj4 _ _ t430 _ _ t425 true _ ?side1 ?side2 ?side3 ?side4 A41.out).mono ?_); (case side1 => repeat (first | exact (Kd.N_reads' HO432.out).2.2 | (with_reducible refine Kd.C_alloc ?_ _) | (with_reducible refine Kd.C_drewN ?_ _) | (with_reducible refine Kd.C_drew ?_))); (case side2 => exact (Kd.N_reads' HO432.out).2.1); (case side3 => repeat (first | exact (Kd.N_reads' HO427.out).2.2 | (with_reducible refine Kd.C_alloc ?_ _) | (with_reducible refine Kd.C_drewN ?_ _) | (with_reducible refine Kd.C_drew ?_))); (case side4 => exact (Kd.N_reads' HO427.out).2.1); rintro e w' ⟨rfl, ⟨nd, rfl⟩⟩) | (go_at_call 15; (with_reducible refine (marlinelaw12_Of.calls kj4 (fun k_ => ((((((((P0_ k_ ∨ P1_ k_ ∨ P2_ k_) ∨ w.heap.size ≤ k_) ∧ some k_ ≠ (.slice Ao31 t410.length co31 : Value).ownBlock) ∧ some k_ ≠ (.slice Ao46 t413.length co46 : Value).ownBlock) ∧ some k_ ≠ (.slice Ao47 t417.length co47 : Value).ownBlock) ∧ some k_ ≠ (.slice Ao48 t421.length co48 : Value).ownBlock) ∧ some k_ ≠ (.slice Ao51 t425.length co51 : Value).ownBlock) ∧ some k_ ≠ (.slice Ao50 t430.length co50 : Value).ownBlock)) _ _ l1 t434 _ ?side1 A43.out).mono ?_); (case side1 => exact HO_1.out); rintro e w52 ⟨v435, rfl, ho0, hb⟩; have n0_ := Aside0.mk (Kd.V_elder' (by (with_reducible repeat (first | apply Kd.V_alloc | apply Kd.V_drewN | apply Kd.V_drew)); exact HO_0.out) (Kd.N_base ho0) hb); have n1_ := Aside0.mk (Kd.V_elder' (by (with_reducible repeat (first | apply Kd.V_alloc | apply Kd.V_drewN | apply Kd.V_drew)); exact HO_1.out) (Kd.N_base ho0) hb); have n2_ := Aside0.mk (Kd.V_elder' (by (with_reducible repeat (first | apply Kd.V_alloc | apply Kd.V_drewN | apply Kd.V_drew)); exact HO_2.out) (Kd.N_base ho0) hb); have n3_ := Aside0.mk (Kd.N_elder' (by (with_reducible repeat (first | apply Kd.N_alloc | apply Kd.N_drewN | apply Kd.N_drew)); exact HO412.out) (Kd.N_base ho0) hb); have n4_ := Aside0.mk (Kd.R_below (by (with_reducible repeat (first | apply Kd.R_alloc | apply Kd.R_drewN | apply Kd.R_drew)); exact HO416.out) hb); have n5_ := Aside0.mk (Kd.R_below (by (with_reducible repeat (first | apply Kd.R_alloc | apply Kd.R_drewN | apply Kd.R_drew)); exact HO420.out) hb); have n6_ := Aside0.mk (Kd.N_elder' (by (with_reducible repeat (first | apply Kd.N_alloc | apply Kd.N_drewN | apply Kd.N_drew)); exact HO423.out) (Kd.N_base ho0) hb); have n7_ := Aside0.mk (Kd.N_elder' (by (with_reducible repeat (first | apply Kd.N_alloc | apply Kd.N_drewN | apply Kd.N_drew)); exact HO427.out) (Kd.N_base ho0) hb); have n8_ := Aside0.mk (Kd.N_elder' (by (with_reducible repeat (first | apply Kd.N_alloc | apply Kd.N_drewN | apply Kd.N_drew)); exact HO432.out) (Kd.N_base ho0) hb); have n9_ := Aside0.mk (Kd.N_lower (Kd.N_mono (ok' := fun k_ => ((P0_ k_ ∨ P1_ k_ ∨ P2_ k_) ∨ w.heap.size ≤ k_) ∧ some k_ ≠ (.slice Ao31 t410.length co31 : Value).ownBlock ∧ some k_ ≠ (.slice Ao46 t413.length co46 : Value).ownBlock ∧ some k_ ≠ (.slice Ao47 t417.length co47 : Value).ownBlock ∧ some k_ ≠ (.slice Ao48 t421.length co48 : Value).ownBlock ∧ some k_ ≠ (.slice Ao51 t425.length co51 : Value).ownBlock ∧ some k_ ≠ (.slice Ao50 t430.length co50 : Value).ownBlock) ho0 (fun k_ hk_ => ⟨Or.elim hk_ (fun hs_ => hs_.1.1.1.1.1.1) (fun hn_ => (.inr (Nat.le_trans (below_size (by repeat (first | (with_reducible first | exact HB.out | apply below_alloc | apply pw_below_drewN | apply below_drew1) | exact HB.out))) hn_))), Or.elim hk_ (fun hs_ => hs_.1.1.1.1.1.2) (fun hn_ => (Kd.fresh' (Kd.N_lt (by (with_reducible repeat (first | apply Kd.N_alloc | apply Kd.N_drewN | apply Kd.N_drew)); exact HO412.out)) k_ hn_)), Or.elim hk_ (fun hs_ => hs_.1.1.1.1.2) (fun hn_ => (Kd.fresh' (Kd.R_lt (by (with_reducible repeat (first | apply Kd.R_alloc | apply Kd.R_drewN | apply Kd.R_drew)); exact HO416.out)) k_ hn_)), Or.elim hk_ (fun hs_ => hs_.1.1.1.2) (fun hn_ => (Kd.fresh' (Kd.R_lt (by (with_reducible repeat (first | apply Kd.R_alloc | apply Kd.R_drewN | apply Kd.R_drew)); exact HO420.out)) k_ hn_)), Or.elim hk_ (fun hs_ => hs_.1.1.2) (fun hn_ => (Kd.fresh' (Kd.N_lt (by (with_reducible repeat (first | apply Kd.N_alloc | apply Kd.N_drewN | apply Kd.N_drew)); exact HO423.out)) k_ hn_)), Or.elim hk_ (fun hs_ => hs_.1.2) (fun hn_ => (Kd.fresh' (Kd.N_lt (by (with_reducible repeat (first | apply Kd.N_alloc | apply Kd.N_drewN | apply Kd.N_drew)); exact HO427.out)) k_ hn_)), Or.elim hk_ (fun hs_ => hs_.2) (fun hn_ => (Kd.fresh' (Kd.N_lt (by (with_reducible repeat (first | apply Kd.N_alloc | apply Kd.N_drewN | apply Kd.N_drew)); exact HO432.out)) k_ hn_))⟩)) (below_size (by repeat (first | (with_reducible first | exact HB.out | apply below_alloc | apply pw_below_drewN | apply below_drew1) | exact HB.out)))); have n10_ := Aside0.mk (below_step (by repeat (first | (with_reducible first | exact HB.out | apply below_alloc | apply pw_below_drewN | apply below_drew1) | exact HB.out)) hb); clear HO_0; clear HO_1; clear HO_2; clear HO412; clear HO416; clear HO420; clear HO423; clear HO427; clear HO432; clear HB; have HO_0 := n0_; have HO_1 := n1_; have HO_2 := n2_; have HO412 := n3_; have HO416 := n4_; have HO420 := n5_; have HO423 := n6_; have HO427 := n7_; have HO432 := n8_; have HO436 := n9_; have HB := n10_; clear n0_ n1_ n2_ n3_ n4_ n5_ n6_ n7_ n8_ n9_ n10_; (try clear hb); (try clear hb2); (try clear hk); (try clear hi); (try clear ho0); obtain ⟨Ao53, co53, eo53⟩ := Kd.N_slice HO436.out; subst eo53) | (go_at_call 18; (with_reducible refine (tlv_Same.calls _ _ t410 _ _ t434 t437 _ ?side1 ?side2 ?side3 ?side4 A44.out).mono ?_); (case side1 => repeat (first | exact (Kd.N_reads' HO412.out).2.2 | (with_reducible refine Kd.C_alloc ?_ _) | (with_reducible refine Kd.C_drewN ?_ _) | (with_reducible refine Kd.C_drew ?_))); (case side2 => exact (Kd.N_reads' HO412.out).2.1); (case side3 => repeat (first | exact (Kd.N_reads' HO436.out).2.2 | (with_reducible refine Kd.C_alloc ?_ _) | (with_reducible refine Kd.C_drewN ?_ _) | (with_reducible refine Kd.C_drew ?_))); (case side4 => exact (Kd.N_reads' HO436.out).2.1); rintro e w54 ⟨rfl, hb⟩; have n0_ := Aside0.mk (Kd.V_below (by (with_reducible repeat (first | apply Kd.V_alloc | apply Kd.V_drewN | apply Kd.V_drew)); exact HO_0.out) hb); have n1_ := Aside0.mk (Kd.V_below (by (with_reducible repeat (first | apply Kd.V_alloc | apply Kd.V_drewN | apply Kd.V_drew)); exact HO_1.out) hb); have n2_ := Aside0.mk (Kd.V_below (by (with_reducible repeat (first | apply Kd.V_alloc | apply Kd.V_drewN | apply Kd.V_drew)); exact HO_2.out) hb); have n3_ := Aside0.mk (Kd.N_below (by (with_reducible repeat (first | apply Kd.N_alloc | apply Kd.N_drewN | apply Kd.N_drew)); exact HO412.out) hb); have n4_ := Aside0.mk (Kd.R_below (by (with_reducible repeat (first | apply Kd.R_alloc | apply Kd.R_drewN | apply Kd.R_drew)); exact HO416.out) hb); have n5_ := Aside0.mk (Kd.R_below (by (with_reducible repeat (first | apply Kd.R_alloc | apply Kd.R_drewN | apply Kd.R_drew)); exact HO420.out) hb); have n6_ := Aside0.mk (Kd.N_below (by (with_reducible repeat (first | apply Kd.N_alloc | apply Kd.N_drewN | apply Kd.N_drew)); exact HO423.out) hb); have n7_ := Aside0.mk (Kd.N_below (by (with_reducible repeat (first | apply Kd.N_alloc | apply Kd.N_drewN | apply Kd.N_drew)); exact HO427.out) hb); have n8_ := Aside0.mk (Kd.N_below (by (with_reducible repeat (first | apply Kd.N_alloc | apply Kd.N_drewN | apply Kd.N_drew)); exact HO432.out) hb); have n9_ := Aside0.mk (Kd.N_below (by (with_reducible repeat (first | apply Kd.N_alloc | apply Kd.N_drewN | apply Kd.N_drew)); exact HO436.out) hb); have n10_ := Aside0.mk (below_step (by repeat (first | (with_reducible first | exact HB.out | apply below_alloc | apply pw_below_drewN | apply below_drew1) | exact HB.out)) hb); clear HO_0; clear HO_1; clear HO_2; clear HO412; clear HO416; clear HO420; clear HO423; clear HO427; clear HO432; clear HO436; clear HB; have HO_0 := n0_; have HO_1 := n1_; have HO_2 := n2_; have HO412 := n3_; have HO416 := n4_; have HO420 := n5_; have HO423 := n6_; have HO427 := n7_; have HO432 := n8_; have HO436 := n9_; have HB := n10_; clear n0_ n1_ n2_ n3_ n4_ n5_ n6_ n7_ n8_ n9_ n10_; (try clear hb); (try clear hb2); (try clear hk); (try clear hi)) | (go_at_call 19; (with_reducible refine (marlineref12_Same.calls kj4 _ _ l0 _ _ l1 t438 _ ?side1 ?side2 ?side3 ?side4 A45.out).mono ?_); (case side1 => repeat (first | exact (Kd.V_reads' HO_0.out).2.2 | (with_reducible refine Kd.C_alloc ?_ _) | (with_reducible refine Kd.C_drewN ?_ _) | (with_reducible refine Kd.C_drew ?_))); (case side2 => exact (Kd.V_reads' HO_0.out).2.1); (case side3 => repeat (first | exact (Kd.V_reads' HO_1.out).2.2 | (with_reducible refine Kd.C_alloc ?_ _) | (with_reducible refine Kd.C_drewN ?_ _) | (with_reducible refine Kd.C_drew ?_))); (case side4 => exact (Kd.V_reads' HO_1.out).2.1); rintro e w' ⟨rfl, ⟨nd, rfl⟩⟩))
                  go_meet
                  case rel => exact ⟨_, ((t437 != t438)), (by first | rfl | (simp; done) | (simp [*]; done)), H', ⟨by have := HJ4.out; first | omega | exact Nat.le_refl _⟩, ⟨by (with_reducible repeat (first | apply Kd.V_alloc | apply Kd.V_drewN | apply Kd.V_drew)); exact Kd.V_mono HO_0.out (fun _ hk => ⟨hk.1.1.1.1.1.1.1, hk.1.1.1.1.1.1.2⟩)⟩, ⟨by (with_reducible repeat (first | apply Kd.N_alloc | apply Kd.N_drewN | apply Kd.N_drew)); exact Kd.N_mono HO412.out (fun _ hk => hk.1.1.1.1.1.1)⟩, ⟨by repeat (first | (with_reducible first | exact HB.out | apply below_alloc | apply pw_below_drewN | apply below_drew1) | exact HB.out)⟩⟩
                · replace c42 := Bool.eq_false_iff.mpr c42
                  subst c42
                  have H1 : (marlinelaw12_TlvTells.j1 kj4 l0 a3 t410 true) = some r := by rw [if_neg (show ¬ (false = true) by decide)] at H; exact H
                  clear H
                  have H := H1
                  clear H1
                  have H' := Aside0.mk H
                  clear H
                  obtain ⟨Ao55, co55, eo55⟩ := Kd.R_slice HO416.out
                  subst eo55
                  obtain ⟨Ao56, co56, eo56⟩ := Kd.R_slice HO420.out
                  subst eo56
                  go_wp2_with (first | (go_at_call 22; (with_reducible refine (marlineref01_Equal.calls kj4 _ _ t413 _ _ t417 true _ ?side1 ?side2 ?side3 ?side4 A37.out).mono ?_); (case side1 => repeat (first | exact (Kd.R_reads' HO416.out).2.2 | (with_reducible refine Kd.C_alloc ?_ _) | (with_reducible refine Kd.C_drewN ?_ _) | (with_reducible refine Kd.C_drew ?_))); (case side2 => exact (Kd.R_reads' HO416.out).2.1); (case side3 => repeat (first | exact (Kd.R_reads' HO420.out).2.2 | (with_reducible refine Kd.C_alloc ?_ _) | (with_reducible refine Kd.C_drewN ?_ _) | (with_reducible refine Kd.C_drew ?_))); (case side4 => exact (Kd.R_reads' HO420.out).2.1); rintro e w' ⟨rfl, ⟨nd, rfl⟩⟩; obtain ⟨Ao57, co57, eo57⟩ := Kd.N_slice HO423.out; subst eo57) | (go_at_call 20; (with_reducible refine (marlinelaw12_To.calls kj4 (fun k_ => ((((P0_ k_ ∨ P1_ k_ ∨ P2_ k_) ∨ w.heap.size ≤ k_) ∧ (some k_ ≠ (.slice Ao31 t410.length co31 : Value).ownBlock ∧ (some k_ ≠ (.slice Ao55 t413.length co55 : Value).ownBlock ∧ some k_ ≠ (.slice Ao56 t417.length co56 : Value).ownBlock))) ∧ some k_ ≠ (v426 : Value).ownBlock)) _ _ t421 t430 _ ?side1 A40.out).mono ?_); (case side1 => exact Kd.N_V (HO423.out)); rintro e w58 ⟨v431, rfl, ho0, hb⟩; have n0_ := Aside0.mk (Kd.V_elder' (by (with_reducible repeat (first | apply Kd.V_alloc | apply Kd.V_drewN | apply Kd.V_drew)); exact HO_0.out) (Kd.N_base ho0) hb); have n1_ := Aside0.mk (Kd.V_elder' (by (with_reducible repeat (first | apply Kd.V_alloc | apply Kd.V_drewN | apply Kd.V_drew)); exact HO_1.out) (Kd.N_base ho0) hb); have n2_ := Aside0.mk (Kd.V_elder' (by (with_reducible repeat (first | apply Kd.V_alloc | apply Kd.V_drewN | apply Kd.V_drew)); exact HO_2.out) (Kd.N_base ho0) hb); have n3_ := Aside0.mk (Kd.N_elder' (by (with_reducible repeat (first | apply Kd.N_alloc | apply Kd.N_drewN | apply Kd.N_drew)); exact HO412.out) (Kd.N_base ho0) hb); have n4_ := Aside0.mk (Kd.R_below (by (with_reducible repeat (first | apply Kd.R_alloc | apply Kd.R_drewN | apply Kd.R_drew)); exact HO416.out) hb); have n5_ := Aside0.mk (Kd.R_below (by (with_reducible repeat (first | apply Kd.R_alloc | apply Kd.R_drewN | apply Kd.R_drew)); exact HO420.out) hb); have n6_ := Aside0.mk (Kd.N_elder' (by (with_reducible repeat (first | apply Kd.N_alloc | apply Kd.N_drewN | apply Kd.N_drew)); exact HO423.out) (Kd.N_base ho0) hb); have n7_ := Aside0.mk (Kd.N_elder' (by (with_reducible repeat (first | apply Kd.N_alloc | apply Kd.N_drewN | apply Kd.N_drew)); exact HO427.out) (Kd.N_base ho0) hb); have n8_ := Aside0.mk (Kd.N_lower (Kd.N_mono (ok' := fun k_ => ((P0_ k_ ∨ P1_ k_ ∨ P2_ k_) ∨ w.heap.size ≤ k_) ∧ some k_ ≠ (.slice Ao31 t410.length co31 : Value).ownBlock ∧ some k_ ≠ (.slice Ao55 t413.length co55 : Value).ownBlock ∧ some k_ ≠ (.slice Ao56 t417.length co56 : Value).ownBlock ∧ some k_ ≠ (v426 : Value).ownBlock) ho0 (fun k_ hk_ => ⟨Or.elim hk_ (fun hs_ => hs_.1.1) (fun hn_ => (.inr (Nat.le_trans (below_size (by repeat (first | (with_reducible first | exact HB.out | apply below_alloc | apply pw_below_drewN | apply below_drew1) | exact HB.out))) hn_))), Or.elim hk_ (fun hs_ => hs_.1.2.1) (fun hn_ => (Kd.fresh' (Kd.N_lt (by (with_reducible repeat (first | apply Kd.N_alloc | apply Kd.N_drewN | apply Kd.N_drew)); exact HO412.out)) k_ hn_)), Or.elim hk_ (fun hs_ => hs_.1.2.2.1) (fun hn_ => (Kd.fresh' (Kd.R_lt (by (with_reducible repeat (first | apply Kd.R_alloc | apply Kd.R_drewN | apply Kd.R_drew)); exact HO416.out)) k_ hn_)), Or.elim hk_ (fun hs_ => hs_.1.2.2.2) (fun hn_ => (Kd.fresh' (Kd.R_lt (by (with_reducible repeat (first | apply Kd.R_alloc | apply Kd.R_drewN | apply Kd.R_drew)); exact HO420.out)) k_ hn_)), Or.elim hk_ (fun hs_ => hs_.2) (fun hn_ => (Kd.fresh' (Kd.N_lt (by (with_reducible repeat (first | apply Kd.N_alloc | apply Kd.N_drewN | apply Kd.N_drew)); exact HO427.out)) k_ hn_))⟩)) (below_size (by repeat (first | (with_reducible first | exact HB.out | apply below_alloc | apply pw_below_drewN | apply below_drew1) | exact HB.out)))); have n9_ := Aside0.mk (below_step (by repeat (first | (with_reducible first | exact HB.out | apply below_alloc | apply pw_below_drewN | apply below_drew1) | exact HB.out)) hb); clear HO_0; clear HO_1; clear HO_2; clear HO412; clear HO416; clear HO420; clear HO423; clear HO427; clear HB; have HO_0 := n0_; have HO_1 := n1_; have HO_2 := n2_; have HO412 := n3_; have HO416 := n4_; have HO420 := n5_; have HO423 := n6_; have HO427 := n7_; have HO432 := n8_; have HB := n9_; clear n0_ n1_ n2_ n3_ n4_ n5_ n6_ n7_ n8_ n9_; (try clear hb); (try clear hb2); (try clear hk); (try clear hi); (try clear ho0); obtain ⟨Ao59, co59, eo59⟩ := Kd.N_slice HO432.out; subst eo59; obtain ⟨Ao60, co60, eo60⟩ := Kd.N_slice HO427.out; subst eo60) | (go_at_call 19; (with_reducible refine (marlineref12_Same.calls kj4 _ _ t430 _ _ t425 false _ ?side1 ?side2 ?side3 ?side4 A41.out).mono ?_); (case side1 => repeat (first | exact (Kd.N_reads' HO432.out).2.2 | (with_reducible refine Kd.C_alloc ?_ _) | (with_reducible refine Kd.C_drewN ?_ _) | (with_reducible refine Kd.C_drew ?_))); (case side2 => exact (Kd.N_reads' HO432.out).2.1); (case side3 => repeat (first | exact (Kd.N_reads' HO427.out).2.2 | (with_reducible refine Kd.C_alloc ?_ _) | (with_reducible refine Kd.C_drewN ?_ _) | (with_reducible refine Kd.C_drew ?_))); (case side4 => exact (Kd.N_reads' HO427.out).2.1); rintro e w' ⟨rfl, ⟨nd, rfl⟩⟩))
                  go_meet
                  case rel => exact ⟨_, (true), (by first | rfl | (simp; done) | (simp [*]; done)), H', ⟨by have := HJ4.out; first | omega | exact Nat.le_refl _⟩, ⟨by (with_reducible repeat (first | apply Kd.V_alloc | apply Kd.V_drewN | apply Kd.V_drew)); exact Kd.V_mono HO_0.out (fun _ hk => ⟨hk.1.1.1.1.1.1, hk.1.1.1.1.1.2⟩)⟩, ⟨by (with_reducible repeat (first | apply Kd.N_alloc | apply Kd.N_drewN | apply Kd.N_drew)); exact Kd.N_mono HO412.out (fun _ hk => hk.1.1.1.1.1)⟩, ⟨by repeat (first | (with_reducible first | exact HB.out | apply below_alloc | apply pw_below_drewN | apply below_drew1) | exact HB.out)⟩⟩
              · rw [if_neg c39] at H
                have c39b0 : (t424 == t428) = false := beq_eq_false_iff_ne.mpr c39
                have c39b1 : (t424 != t428) = true := bne_iff_ne.mpr c39
                have H' := Aside0.mk H
                clear H
                obtain ⟨Ao61, co61, eo61⟩ := Kd.R_slice HO416.out
                subst eo61
                obtain ⟨Ao62, co62, eo62⟩ := Kd.R_slice HO420.out
                subst eo62
                go_wp2_with (first | (go_at_call 22; (with_reducible refine (marlineref01_Equal.calls kj4 _ _ t413 _ _ t417 true _ ?side1 ?side2 ?side3 ?side4 A37.out).mono ?_); (case side1 => repeat (first | exact (Kd.R_reads' HO416.out).2.2 | (with_reducible refine Kd.C_alloc ?_ _) | (with_reducible refine Kd.C_drewN ?_ _) | (with_reducible refine Kd.C_drew ?_))); (case side2 => exact (Kd.R_reads' HO416.out).2.1); (case side3 => repeat (first | exact (Kd.R_reads' HO420.out).2.2 | (with_reducible refine Kd.C_alloc ?_ _) | (with_reducible refine Kd.C_drewN ?_ _) | (with_reducible refine Kd.C_drew ?_))); (case side4 => exact (Kd.R_reads' HO420.out).2.1); rintro e w' ⟨rfl, ⟨nd, rfl⟩⟩))
                go_meet
                case rel => exact ⟨_, (true), (by first | rfl | (simp; done) | (simp [*]; done)), H', ⟨by have := HJ4.out; first | omega | exact Nat.le_refl _⟩, ⟨by (with_reducible repeat (first | apply Kd.V_alloc | apply Kd.V_drewN | apply Kd.V_drew)); exact Kd.V_mono HO_0.out (fun _ hk => ⟨hk.1.1.1.1.1, hk.1.1.1.1.2⟩)⟩, ⟨by (with_reducible repeat (first | apply Kd.N_alloc | apply Kd.N_drewN | apply Kd.N_drew)); exact Kd.N_mono HO412.out (fun _ hk => hk.1.1.1.1)⟩, ⟨by repeat (first | (with_reducible first | exact HB.out | apply below_alloc | apply pw_below_drewN | apply below_drew1) | exact HB.out)⟩⟩
            · replace c38 := Bool.eq_false_iff.mpr c38
              subst c38
              have H1 : (marlinelaw12_TlvTells.j1 kj4 l0 a3 t410 true) = some r := by rw [if_neg (show ¬ (false = true) by decide)] at H; exact H
              clear H
              have H := H1
              clear H1
              have H' := Aside0.mk H
              clear H
              obtain ⟨Ao63, co63, eo63⟩ := Kd.R_slice HO416.out
              subst eo63
              obtain ⟨Ao64, co64, eo64⟩ := Kd.R_slice HO420.out
              subst eo64
              go_wp2_with (first | (go_at_call 22; (with_reducible refine (marlineref01_Equal.calls kj4 _ _ t413 _ _ t417 false _ ?side1 ?side2 ?side3 ?side4 A37.out).mono ?_); (case side1 => repeat (first | exact (Kd.R_reads' HO416.out).2.2 | (with_reducible refine Kd.C_alloc ?_ _) | (with_reducible refine Kd.C_drewN ?_ _) | (with_reducible refine Kd.C_drew ?_))); (case side2 => exact (Kd.R_reads' HO416.out).2.1); (case side3 => repeat (first | exact (Kd.R_reads' HO420.out).2.2 | (with_reducible refine Kd.C_alloc ?_ _) | (with_reducible refine Kd.C_drewN ?_ _) | (with_reducible refine Kd.C_drew ?_))); (case side4 => exact (Kd.R_reads' HO420.out).2.1); rintro e w' ⟨rfl, ⟨nd, rfl⟩⟩))
              go_meet
              case rel => exact ⟨_, (true), (by first | rfl | (simp; done) | (simp [*]; done)), H', ⟨by have := HJ4.out; first | omega | exact Nat.le_refl _⟩, ⟨by (with_reducible repeat (first | apply Kd.V_alloc | apply Kd.V_drewN | apply Kd.V_drew)); exact Kd.V_mono HO_0.out (fun _ hk => ⟨hk.1.1.1.1.1, hk.1.1.1.1.2⟩)⟩, ⟨by (with_reducible repeat (first | apply Kd.N_alloc | apply Kd.N_drewN | apply Kd.N_drew)); exact Kd.N_mono HO412.out (fun _ hk => hk.1.1.1.1)⟩, ⟨by repeat (first | (with_reducible first | exact HB.out | apply below_alloc | apply pw_below_drewN | apply below_drew1) | exact HB.out)⟩⟩
          · rw [if_neg c36] at H
            have c36b0 : (t414 == t418) = false := beq_eq_false_iff_ne.mpr c36
            have c36b1 : (t414 != t418) = true := bne_iff_ne.mpr c36
            (first | rw [c36b0] | (simp only [i64_w, i32_w]; rw [c36b0]) | skip)
            have H' := Aside0.mk H
            clear H
            go_wp2
            go_meet
            case rel => exact ⟨_, (true), (by first | rfl | (simp; done) | (simp [*]; done)), H', ⟨by have := HJ4.out; first | omega | exact Nat.le_refl _⟩, ⟨by (with_reducible repeat (first | apply Kd.V_alloc | apply Kd.V_drewN | apply Kd.V_drew)); exact Kd.V_mono HO_0.out (fun _ hk => ⟨hk.1.1.1.1.1, hk.1.1.1.1.2⟩)⟩, ⟨by (with_reducible repeat (first | apply Kd.N_alloc | apply Kd.N_drewN | apply Kd.N_drew)); exact Kd.N_mono HO412.out (fun _ hk => hk.1.1.1.1)⟩, ⟨by repeat (first | (with_reducible first | exact HB.out | apply below_alloc | apply pw_below_drewN | apply below_drew1) | exact HB.out)⟩⟩
        case rest =>
          clear HC29
          try clear c1
          try clear c2
          try clear p2
          try clear c3
          try clear c4
          try clear c6
          try clear c7
          try clear c9
          try clear c11
          try clear c13
          try clear c15
          try clear c16
          try clear c17
          try clear c21
          try clear c27
          try clear c28
          try clear c36
          try clear c36b0
          try clear c36b1
          try clear c38
          try clear c39
          try clear c39b0
          try clear c39b1
          try clear c42
          try clear p2
          obtain ⟨kq, x94_28, rfl, HA, HJ28, HO_0, HO_9, HB⟩ := hcut
          cases kq with
          | zero => exact absurd HA.out (by simp [marlinelaw12_TlvTells.j1])
          | succ kj28 =>
            have H := HA.out
            clear HA
            simp only [marlinelaw12_TlvTells.j1] at H
            by_cases c65 : x94_28 = true
            · subst c65
              have H1 : (none) = some r := by rw [if_pos rfl] at H; exact H
              clear H
              have H := H1
              clear H1
              exact absurd H (by simp)
            · replace c65 := Bool.eq_false_iff.mpr c65
              subst c65
              have H1 : (marlinelaw12_TlvTells.l0 kj28 a3 t410 0 ([] : List (S56)) l0 (l0.length : Int) 0) = some r := by rw [if_neg (show ¬ (false = true) by decide)] at H; exact H
              clear H
              have H := H1
              clear H1
              have H' := Aside0.mk H
              clear H
              go_wp2
              go_loopg [18, 19, 97] kj28 (fun kq v18 v19 v97 w' => ∃ (x18_3 : Int) (x19_3 : List (S56)) (x97_3 : Int), v18 = .int .i64 x18_3 ∧ v97 = .int .i64 x97_3 ∧ Aside0 (marlinelaw12_TlvTells.l0 kq a3 t410 x18_3 x19_3 l0 (l0.length : Int) x97_3 = some r) ∧ Aside0 (kq ≤ kj28) ∧ Aside0 (Kd.N k57 57 w' w.heap.size (fun k_ => ((P0_ k_ ∨ P1_ k_ ∨ P2_ k_) ∨ w.heap.size ≤ k_) ∧ some k_ ≠ (v19 : Value).ownBlock) (.slice Ao31 t410.length co31) t410) ∧ Aside0 (Kd.N k56 56 w' w.heap.size (fun k_ => ((P0_ k_ ∨ P1_ k_ ∨ P2_ k_) ∨ w.heap.size ≤ k_) ∧ some k_ ≠ ((.slice Ao31 t410.length co31) : Value).ownBlock) v19 x19_3) ∧ Aside0 (Kd.V k56 56 w' w.heap.size (fun k_ => ((P0_ k_ ∨ P1_ k_ ∨ P2_ k_) ∨ w.heap.size ≤ k_) ∧ some k_ ≠ ((.slice Ao31 t410.length co31) : Value).ownBlock ∧ some k_ ≠ (v19 : Value).ownBlock) (.slice A0 l0.length c0) l0) ∧ Aside0 (Below w.heap.size w w'))
              case atStart => exact ⟨(0), (([] : List (S56))), (0), (by first | rfl | (simp; done) | (simp [*]; done)), (by first | rfl | (simp; done) | (simp [*]; done)), H', ⟨Nat.le_refl _⟩, ⟨by (with_reducible repeat (first | apply Kd.N_alloc | apply Kd.N_drewN | apply Kd.N_drew)); exact Kd.N_mono HO_9.out (fun _ hk => ⟨hk, (by simp [Value.ownBlock])⟩)⟩, ⟨by first | exact Kd.S_nil _ _ _ _ _ | exact Kd.N_nil _ _ _ _ _ | exact Kd.V_nil _ _ _ _ _ | exact Kd.Q_nil _ _ _ _ _ | exact Kd.R_nil _ _ _ _ _⟩, ⟨by (with_reducible repeat (first | apply Kd.V_alloc | apply Kd.V_drewN | apply Kd.V_drew)); exact Kd.V_mono HO_0.out (fun _ hk => ⟨hk.1, ⟨hk.2, (by simp [Value.ownBlock])⟩⟩)⟩, ⟨by repeat (first | (with_reducible first | exact HB.out | apply below_alloc | apply pw_below_drewN | apply below_drew1) | exact HB.out)⟩⟩
              case round =>
                clear H'
                try clear c1
                try clear c2
                try clear p2
                try clear c3
                try clear c4
                try clear c6
                try clear c7
                try clear c9
                try clear c11
                try clear c13
                try clear c15
                try clear c16
                try clear c17
                try clear c21
                try clear c27
                try clear c28
                try clear c36
                try clear c36b0
                try clear c36b1
                try clear c38
                try clear c39
                try clear c39b0
                try clear c39b1
                try clear c42
                try clear c65
                try clear p2
                obtain ⟨x18_3, x19_3, x97_3, rfl, rfl, HA, HK3, HO_9, HO_19, HO_95, HB⟩ := hrel
                cases gk with
                | zero => exact absurd HA.out (by simp [marlinelaw12_TlvTells.l0])
                | succ k3 =>
                  have H := HA.out
                  clear HA
                  simp only [marlinelaw12_TlvTells.l0] at H
                  by_cases c66 : x97_3 < (l0.length : Int)
                  · rw [if_pos c66] at H
                    have c66b0 : decide (x97_3 < (l0.length : Int)) = true := decide_eq_true c66
                    clear c66
                    by_cases c67 : 0 ≤ x97_3
                    · rw [if_pos c67] at H
                      have c67b0 : decide (0 ≤ x97_3) = true := decide_eq_true c67
                      clear c67
                      by_cases c68 : x97_3 < (l0.length : Int)
                      · rw [if_pos c68] at H
                        have c68b0 : decide (x97_3 < (l0.length : Int)) = true := decide_eq_true c68
                        clear c68
                        by_cases c69 : ((rd_T56 l0 x97_3).f0) = a3
                        · rw [if_pos c69] at H
                          have c69b0 : (((rd_T56 l0 x97_3).f0) == a3) = true := beq_iff_eq.mpr c69
                          have c69b1 : (((rd_T56 l0 x97_3).f0) != a3) = false := bne_eq_false_iff_eq.mpr c69
                          clear c69
                          by_cases c70 : (x19_3.length : Int) = 0
                          · rw [if_pos c70] at H
                            have c70b0 : ((x19_3.length : Int) == 0) = true := beq_iff_eq.mpr c70
                            have c70b1 : ((x19_3.length : Int) != 0) = false := bne_eq_false_iff_eq.mpr c70
                            clear c70
                            by_cases c71 : x19_3.length < 4398046511104
                            · rw [if_pos c71] at H
                              have LMc71 := Aside0.mk c71
                              clear c71
                              obtain ⟨y441, hy441⟩ : ∃ y_ : List (S56), y_ = (x19_3 ++ [(⟨(rd_T56 l0 x97_3).f0, (rd_T56 l0 x97_3).f1⟩ : S56)]) := ⟨_, rfl⟩
                              replace H : (marlinelaw12_TlvTells.l0 k3 a3 t410 (wrap64 (x18_3 + (wrap64 (2 + (((rd_T56 l0 x97_3).f1).length : Int))))) y441 l0 (l0.length : Int) (wrap64 (x97_3 + 1))) = some r := by first | (rw [hy441]; with_reducible exact H) | (have H2_ := (Option.bind_some _ _).symm.trans H; rw [hy441]; with_reducible exact H2_) | (have H2_ := (Option.bind_some _ _).symm.trans H; with_reducible exact H2_) | with_reducible exact H | (rw [hy441]; exact H) | exact H
                              have Ny441 := Aside0.mk hy441
                              clear hy441
                              have H' := Aside0.mk H
                              clear H
                              have p439 : 0 ≤ (x97_3 : Int) := of_decide_eq_true (by first | (with_reducible assumption) | assumption)
                              have q439 : x97_3 < (l0.length : Int) := of_decide_eq_true (by first | (with_reducible assumption) | assumption)
                              (try clear hHeld)
                              obtain ⟨ad439, A439_1, c439_1, e439, hx439_0, hx439_1, hl439_1, hi439_1⟩ := at_T56 (Kd.V_reads' HO_95.out).2.2 x97_3 p439 q439
                              cases e439
                              obtain ⟨ce439, hce439, hMe439, hcc439⟩ := Kd.V_get HO_95.out z56 x97_3 p439 (by first | exact q439 | exact of_decide_eq_true (by first | (with_reducible assumption) | assumption) | (have e_ := (Kd.V_reads' HO_95.out).1; omega))
                              obtain ⟨ua439_1, uc439_1, rfl, ul439_1, ge439_1⟩ := k56_openF hMe439
                              have hv439_1 := hcc439 1 _ rfl
                              rw [add_field _ _ 1 (by omega)] at hv439_1
                              replace hv439_1 := Option.some.inj (hv439_1.symm.trans hx439_1)
                              injection hv439_1 with hva_ hvn_ hvc_
                              rw [hva_] at ge439_1
                              rw [hvc_] at ul439_1
                              have HL439_1 := Aside0.mk (show Kd.V (Kd.int .u8) 5 _ w.heap.size _ _ ((rd_T56 l0 x97_3).f1) from Kd.V_mk ul439_1 ge439_1)
                              clear hva_ hvn_ hvc_ ge439_1 ul439_1
                              clear hcc439 hce439
                              have HR439_1 := Aside0.mk hi439_1
                              have HC439_1 := Aside0.mk hl439_1
                              clear hi439_1 hl439_1
                              replace p439 := eq_true p439
                              replace q439 := eq_true q439
                              go_wp2_with (first | ((with_reducible refine gate_dst (N := 21) rfl ?_); (try (refine gate_guard (by rfl) ?_; dsimp only)); refine box_event ?hg (N := 21) ?hd (cs := #[.int .u8 0, .slice none 0 0]) (t := 56) ?hr ?_; (case hd => rfl); (case hg => rfl); (case hr => first | (go_simp; done) | (go_simp; simp only [IntKind.wrap_u8, IntKind.wrap_u16, IntKind.wrap_u32, IntKind.wrap_u64]; done) | (go_simp; rfl)); intro gb440 hg w72 hbox hb; have n0_ := Aside0.mk (Kd.N_below (Kd.N_elderB (by (with_reducible repeat (first | apply Kd.N_alloc | apply Kd.N_drewN | apply Kd.N_drew)); exact HO_9.out) gb440 (Nat.le_of_eq hg.symm)) hb); have n1_ := Aside0.mk (Kd.N_below (Kd.N_elderB (by (with_reducible repeat (first | apply Kd.N_alloc | apply Kd.N_drewN | apply Kd.N_drew)); exact HO_19.out) gb440 (Nat.le_of_eq hg.symm)) hb); have n2_ := Aside0.mk (Kd.V_below (Kd.V_elderB (by (with_reducible repeat (first | apply Kd.V_alloc | apply Kd.V_drewN | apply Kd.V_drew)); exact HO_95.out) gb440 (Nat.le_of_eq hg.symm)) hb); have n3_ := Aside0.mk (Kd.V_below (Kd.V_elderB (by (with_reducible repeat (first | apply Kd.V_alloc | apply Kd.V_drewN | apply Kd.V_drew)); exact HL439_1.out) gb440 (Nat.le_of_eq hg.symm)) hb); have n4_ := Aside0.mk (Kd.C_below (by repeat (first | (with_reducible exact HR439_1.out) | (with_reducible refine Kd.C_alloc ?_ _) | (with_reducible refine Kd.C_drewN ?_ _) | (with_reducible refine Kd.C_drew ?_) | exact HR439_1.out)) hb); have n5_ := Aside0.mk (below_step (by repeat (first | (with_reducible first | exact HB.out | apply below_alloc | apply pw_below_drewN | apply below_drew1) | exact HB.out)) hb); have n6_ := Aside0.mk (hbox); have n7_ := Aside0.mk ((by rw [hg]; exact (below_size (by repeat (first | (with_reducible first | exact HB.out | apply below_alloc | apply pw_below_drewN | apply below_drew1) | exact HB.out))) : w.heap.size ≤ gb440)); have n8_ := Aside0.mk ((by rw [hg]; exact (below_size (by repeat (first | (with_reducible first | exact HB.out | apply below_alloc | apply pw_below_drewN | apply below_drew1) | exact HB.out))) : w.heap.size ≤ gb440)); clear HO_9; clear HO_19; clear HO_95; clear HL439_1; clear HR439_1; clear HB; have HO_9 := n0_; have HO_19 := n1_; have HO_95 := n2_; have HL439_1 := n3_; have HR439_1 := n4_; have HB := n5_; have BK440 := n6_; have GW440 := n7_; have GE440 := n8_; clear n0_ n1_ n2_ n3_ n4_ n5_ n6_ n7_ n8_; clear hb hbox hg; have hcz73_0 : w72.cell? ⟨gb440, 0, none⟩ = some (.int .u8 0) := (blk_cell BK440.out 0).trans rfl; have hcz73_1 : w72.cell? ⟨gb440, 1, none⟩ = some (.slice none 0 0) := (blk_cell BK440.out 1).trans rfl; have hfz73_0 := blk_frozen BK440.out 0; have hfz73_1 := blk_frozen BK440.out 1) | ((with_reducible refine gate_store (t := 56) (p := 21) rfl ?_); refine store_event (t := 56) (p := 21) (v := ?vo_w74) (w1 := ((w72.setCell ⟨gb440, 0, none⟩ (.int .u8 ((rd_T56 l0 x97_3).f0))).setCell ⟨gb440, 1, none⟩ (.slice A439_1 ((rd_T56 l0 x97_3).f1).length c439_1))) ?hg ?ho ?hn ?hr ?_; (case ho => rfl); (case hg => rfl); (case hn => rfl); (case hr => first | (go_simp; done) | (go_simp; simp only [IntKind.wrap_u8, IntKind.wrap_u16, IntKind.wrap_u32, IntKind.wrap_u64]; done) | (go_simp; rfl)); intro w74 hw; have n0_ : Aside0 (Kd.N k57 57 w74 w.heap.size (fun k_ => ((P0_ k_ ∨ P1_ k_ ∨ P2_ k_) ∨ w.heap.size ≤ k_) ∧ some k_ ≠ (u19 : Value).ownBlock ∧ k_ ≠ gb440) (.slice Ao31 t410.length co31) t410) := ⟨(by rw [hw]; exact (by (with_reducible repeat (first | apply Kd.N_alloc | apply Kd.N_drewN | apply Kd.N_drew)); exact Kd.N_mono (Kd.N_far (p := ⟨gb440, 1, none⟩) (Kd.N_far (p := ⟨gb440, 0, none⟩) (Kd.N_mono HO_9.out (fun k_ hk => (⟨hk, hk.2⟩ : _ ∧ k_ ≠ gb440))) (fun _ hk => hk.2) (.int .u8 ((rd_T56 l0 x97_3).f0))) (fun _ hk => hk.2) (.slice A439_1 ((rd_T56 l0 x97_3).f1).length c439_1)) (fun _ hk => ⟨hk.1.1.1, ⟨hk.1.1.2, hk.1.2⟩⟩)))⟩; have n1_ : Aside0 (Kd.N k56 56 w74 w.heap.size (fun k_ => ((P0_ k_ ∨ P1_ k_ ∨ P2_ k_) ∨ w.heap.size ≤ k_) ∧ some k_ ≠ (.slice Ao31 t410.length co31 : Value).ownBlock ∧ k_ ≠ gb440) u19 x19_3) := ⟨(by rw [hw]; exact (by (with_reducible repeat (first | apply Kd.N_alloc | apply Kd.N_drewN | apply Kd.N_drew)); exact Kd.N_mono (Kd.N_far (p := ⟨gb440, 1, none⟩) (Kd.N_far (p := ⟨gb440, 0, none⟩) (Kd.N_mono HO_19.out (fun k_ hk => (⟨hk, hk.2⟩ : _ ∧ k_ ≠ gb440))) (fun _ hk => hk.2) (.int .u8 ((rd_T56 l0 x97_3).f0))) (fun _ hk => hk.2) (.slice A439_1 ((rd_T56 l0 x97_3).f1).length c439_1)) (fun _ hk => ⟨hk.1.1.1, ⟨hk.1.1.2, hk.1.2⟩⟩)))⟩; have n2_ : Aside0 (Kd.V k56 56 w74 w.heap.size (fun k_ => ((P0_ k_ ∨ P1_ k_ ∨ P2_ k_) ∨ w.heap.size ≤ k_) ∧ some k_ ≠ (.slice Ao31 t410.length co31 : Value).ownBlock ∧ some k_ ≠ (u19 : Value).ownBlock ∧ k_ ≠ gb440) (.slice (some ad439) l0.length c0) l0) := ⟨(by rw [hw]; exact (by (with_reducible repeat (first | apply Kd.V_alloc | apply Kd.V_drewN | apply Kd.V_drew)); exact Kd.V_mono (Kd.V_far (p := ⟨gb440, 1, none⟩) (Kd.V_far (p := ⟨gb440, 0, none⟩) (Kd.V_mono HO_95.out (fun k_ hk => (⟨hk, hk.2⟩ : _ ∧ k_ ≠ gb440))) (fun _ hk => hk.2) (.int .u8 ((rd_T56 l0 x97_3).f0))) (fun _ hk => hk.2) (.slice A439_1 ((rd_T56 l0 x97_3).f1).length c439_1)) (fun _ hk => ⟨hk.1.1.1, ⟨hk.1.1.2.1, ⟨hk.1.1.2.2, hk.1.2⟩⟩⟩)))⟩; have n3_ : Aside0 (Kd.V (Kd.int .u8) 5 w74 w.heap.size (fun k_ => ((P0_ k_ ∨ P1_ k_ ∨ P2_ k_) ∨ w.heap.size ≤ k_) ∧ some k_ ≠ (.slice Ao31 t410.length co31 : Value).ownBlock ∧ some k_ ≠ (u19 : Value).ownBlock ∧ k_ ≠ gb440) (.slice A439_1 ((rd_T56 l0 x97_3).f1).length c439_1) ((rd_T56 l0 x97_3).f1)) := ⟨(by rw [hw]; exact (by (with_reducible repeat (first | apply Kd.V_alloc | apply Kd.V_drewN | apply Kd.V_drew)); exact Kd.V_mono (Kd.V_far (p := ⟨gb440, 1, none⟩) (Kd.V_far (p := ⟨gb440, 0, none⟩) (Kd.V_mono HL439_1.out (fun k_ hk => (⟨hk, hk.2⟩ : _ ∧ k_ ≠ gb440))) (fun _ hk => hk.2) (.int .u8 ((rd_T56 l0 x97_3).f0))) (fun _ hk => hk.2) (.slice A439_1 ((rd_T56 l0 x97_3).f1).length c439_1)) (fun _ hk => ⟨hk.1.1.1, ⟨hk.1.1.2.1, ⟨hk.1.1.2.2, hk.1.2⟩⟩⟩)))⟩; have n4_ : Aside0 (w74.heap[gb440]? = some (.cells #[.int .u8 ((rd_T56 l0 x97_3).f0), .slice A439_1 ((rd_T56 l0 x97_3).f1).length c439_1] 56 (0, 0))) := ⟨(by rw [hw]; exact (by (with_reducible repeat (first | refine blk_drewN ?_ _ | refine blk_drew ?_ | refine blk_alloc ?_ _)); refine blk_put (cs := #[.int .u8 ((rd_T56 l0 x97_3).f0), .slice none 0 0]) ?_ 1 _ rfl; (with_reducible repeat (first | refine blk_drewN ?_ _ | refine blk_drew ?_ | refine blk_alloc ?_ _)); refine blk_put (cs := #[.int .u8 0, .slice none 0 0]) ?_ 0 _ rfl; (with_reducible repeat (first | refine blk_drewN ?_ _ | refine blk_drew ?_ | refine blk_alloc ?_ _)); exact BK440.out))⟩; have n5_ : Aside0 (Below w.heap.size w w74) := ⟨(by rw [hw]; exact (by repeat (first | (with_reducible first | exact HB.out | apply below_alloc | apply pw_below_drewN | apply below_drew1 | refine below_set ?_ GE440.out) | exact HB.out)))⟩; clear hw; clear HO_9; clear HO_19; clear HO_95; clear HL439_1; clear BK440; clear HB; have HO_9 := n0_; have HO_19 := n1_; have HO_95 := n2_; have HL439_1 := n3_; have BK440 := n4_; have HB := n5_; clear n0_ n1_ n2_ n3_ n4_ n5_; have hcz75_0 : w74.cell? ⟨gb440, 0, none⟩ = some (.int .u8 ((rd_T56 l0 x97_3).f0)) := (blk_cell BK440.out 0).trans rfl; have hcz75_1 : w74.cell? ⟨gb440, 1, none⟩ = some (.slice A439_1 ((rd_T56 l0 x97_3).f1).length c439_1) := (blk_cell BK440.out 1).trans rfl; have hfz75_0 := blk_frozen BK440.out 0; have hfz75_1 := blk_frozen BK440.out 1; obtain ⟨Ao76, co76, eo76⟩ := Kd.N_slice HO_19.out; subst eo76) | ((with_reducible refine gate_builtin (b := .append) (xs := #[.tmp 116, .tmp 118]) rfl ?_); (try (refine gate_guard (by rfl) ?_; dsimp only)); at_builtin; refine Kd.N_append k56 (w0 := w) w.heap.size rfl (.tmp 116) (.tmp 118) 22 56 (.agg #[(.int .u8 0), (.slice none 0 0)]) 32 rfl Try.underlying22 info56 rfl (by decide) (by omega) (.slice Ao76 x19_3.length co76) x19_3 (⟨(rd_T56 l0 x97_3).f0, (rd_T56 l0 x97_3).f1⟩ : S56) [.int .u8 ((rd_T56 l0 x97_3).f0), .slice A439_1 ((rd_T56 l0 x97_3).f1).length c439_1] (fun k_ => ((P0_ k_ ∨ P1_ k_ ∨ P2_ k_) ∨ w.heap.size ≤ k_) ∧ some k_ ≠ (.slice Ao31 t410.length co31 : Value).ownBlock ∧ k_ ≠ gb440) (fun k_ => ((fun k_ => ((P0_ k_ ∨ P1_ k_ ∨ P2_ k_) ∨ w.heap.size ≤ k_) ∧ some k_ ≠ (.slice Ao31 t410.length co31 : Value).ownBlock ∧ k_ ≠ gb440)) k_ ∧ some k_ ≠ (.slice Ao76 x19_3.length co76 : Value).ownBlock) rfl rfl ?aP (fun _ hk => hk) ?aF ?aO ?aB ?aS ?aL ?_; (case aP => exact (k56_mkF _ _ (⟨(rd_T56 l0 x97_3).f0, (rd_T56 l0 x97_3).f1⟩ : S56) (Kd.V_reads' (Kd.V_mono (ok' := (fun k_ => ((fun k_ => ((P0_ k_ ∨ P1_ k_ ∨ P2_ k_) ∨ w.heap.size ≤ k_) ∧ some k_ ≠ (.slice Ao31 t410.length co31 : Value).ownBlock ∧ k_ ≠ gb440)) k_ ∧ some k_ ≠ (.slice Ao76 x19_3.length co76 : Value).ownBlock)) (HL439_1.out) (fun k_ hk => ⟨⟨hk.1, ⟨hk.2.1, hk.2.2.2⟩⟩, hk.2.2.1⟩))).2.1 (Kd.V_F (Kd.V_mono (ok' := (fun k_ => ((fun k_ => ((P0_ k_ ∨ P1_ k_ ∨ P2_ k_) ∨ w.heap.size ≤ k_) ∧ some k_ ≠ (.slice Ao31 t410.length co31 : Value).ownBlock ∧ k_ ≠ gb440)) k_ ∧ some k_ ≠ (.slice Ao76 x19_3.length co76 : Value).ownBlock)) (HL439_1.out) (fun k_ hk => ⟨⟨hk.1, ⟨hk.2.1, hk.2.2.2⟩⟩, hk.2.2.1⟩))))); (case aB => exact (by repeat (first | (with_reducible first | exact HB.out | apply below_alloc | apply pw_below_drewN | apply below_drew1 | refine below_set ?_ GE440.out) | exact HB.out))); (case aF => exact (fun k_ hk => ⟨(.inr (Nat.le_trans (below_size (by repeat (first | (with_reducible first | exact HB.out | apply below_alloc | apply pw_below_drewN | apply below_drew1 | refine below_set ?_ GE440.out) | exact HB.out))) hk)), Kd.fresh' (Kd.N_lt (by (with_reducible repeat (first | apply Kd.N_alloc | apply Kd.N_drewN | apply Kd.N_drew)); exact HO_9.out)) k_ hk, Kd.freshB (g := gb440) (o := .cells #[.int .u8 ((rd_T56 l0 x97_3).f0), .slice A439_1 ((rd_T56 l0 x97_3).f1).length c439_1] 56 (0, 0)) (by (with_reducible repeat (first | refine blk_drewN ?_ _ | refine blk_drew ?_ | refine blk_alloc ?_ _)); exact BK440.out) k_ hk⟩)); (case aO => exact (by (with_reducible repeat (first | apply Kd.N_alloc | apply Kd.N_drewN | apply Kd.N_drew)); exact HO_19.out)); (case aS => exact (below_size (by repeat (first | (with_reducible first | exact HB.out | apply below_alloc | apply pw_below_drewN | apply below_drew1 | refine below_set ?_ GE440.out) | exact HB.out)))); (case aL => have := LMc71.out; omega); intro v442 w77 ho hb hg hat; rw [← Ny441.out] at ho; have n0_ := Aside0.mk (Kd.N_afterv (ok := (fun k_ => ((P0_ k_ ∨ P1_ k_ ∨ P2_ k_) ∨ w.heap.size ≤ k_) ∧ k_ ≠ gb440)) (by (with_reducible repeat (first | apply Kd.N_alloc | apply Kd.N_drewN | apply Kd.N_drew)); exact Kd.N_mono HO_9.out (fun _ hk => ⟨⟨hk.1, hk.2.2⟩, hk.2.1⟩)) hg hat); have n1_ := Aside0.mk (Kd.V_afterv (ok := (fun k_ => ((P0_ k_ ∨ P1_ k_ ∨ P2_ k_) ∨ w.heap.size ≤ k_) ∧ some k_ ≠ (.slice Ao31 t410.length co31 : Value).ownBlock ∧ k_ ≠ gb440)) (by (with_reducible repeat (first | apply Kd.V_alloc | apply Kd.V_drewN | apply Kd.V_drew)); exact Kd.V_mono HO_95.out (fun _ hk => ⟨⟨hk.1, ⟨hk.2.1, hk.2.2.2⟩⟩, hk.2.2.1⟩)) hg hat); have n2_ := Aside0.mk (Kd.V_afterv (ok := (fun k_ => ((P0_ k_ ∨ P1_ k_ ∨ P2_ k_) ∨ w.heap.size ≤ k_) ∧ some k_ ≠ (.slice Ao31 t410.length co31 : Value).ownBlock ∧ k_ ≠ gb440)) (by (with_reducible repeat (first | apply Kd.V_alloc | apply Kd.V_drewN | apply Kd.V_drew)); exact Kd.V_mono HL439_1.out (fun _ hk => ⟨⟨hk.1, ⟨hk.2.1, hk.2.2.2⟩⟩, hk.2.2.1⟩)) hg hat); have n3_ := Aside0.mk (blk_grown (g := gb440) (o := .cells #[.int .u8 ((rd_T56 l0 x97_3).f0), .slice A439_1 ((rd_T56 l0 x97_3).f1).length c439_1] 56 (0, 0)) (by (with_reducible repeat (first | refine blk_drewN ?_ _ | refine blk_drew ?_ | refine blk_alloc ?_ _)); exact BK440.out) hg (Kd.N_away HO_19.out (fun _ hk => hk.2.2))); have n4_ := Aside0.mk (hb); have n5_ := Aside0.mk (ho); clear HO_9; clear HO_95; clear HL439_1; clear BK440; clear HB; clear HO_19; have HO_9 := n0_; have HO_95 := n1_; have HL439_1 := n2_; have BK440 := n3_; have HB := n4_; have HO443 := n5_; clear n0_ n1_ n2_ n3_ n4_ n5_; clear ho hb hg hat))
                              go_roundg k3
                              case measure => have := HJ4.out; have := HJ28.out; have := HK3.out; omega
                              case rel => exact ⟨(wrap64 (x18_3 + (wrap64 (2 + (((rd_T56 l0 x97_3).f1).length : Int))))), (y441), (wrap64 (x97_3 + 1)), (by first | rfl | (simp; done) | (simp [*]; done)), (by first | rfl | (simp; done) | (simp [*]; done)), H', ⟨by have := HJ4.out; have := HJ28.out; have := HK3.out; omega⟩, ⟨by (with_reducible repeat (first | apply Kd.N_alloc | apply Kd.N_drewN | apply Kd.N_drew)); exact Kd.N_mono HO_9.out (fun _ hk => ⟨hk.1.1, hk.2⟩)⟩, ⟨by (with_reducible repeat (first | apply Kd.N_alloc | apply Kd.N_drewN | apply Kd.N_drew)); exact Kd.N_mono HO443.out (fun _ hk => ⟨hk.1, hk.2.1⟩)⟩, ⟨by (with_reducible repeat (first | apply Kd.V_alloc | apply Kd.V_drewN | apply Kd.V_drew)); exact Kd.V_mono HO_95.out (fun _ hk => ⟨hk.1.1, ⟨hk.1.2.1, hk.2⟩⟩)⟩, ⟨by repeat (first | (with_reducible first | exact HB.out | apply below_alloc | apply pw_below_drewN | apply below_drew1 | refine below_set ?_ GE440.out) | exact HB.out)⟩⟩
                            · rw [if_neg c71] at H
                              exact absurd H (by simp)
                          · rw [if_neg c70] at H
                            have c70b0 : ((x19_3.length : Int) == 0) = false := beq_eq_false_iff_ne.mpr c70
                            have c70b1 : ((x19_3.length : Int) != 0) = true := bne_iff_ne.mpr c70
                            have c70b2 : ¬ (x19_3 = []) := fun h_ => c70 (by rw [h_]; rfl)
                            have H' := Aside0.mk H
                            clear H
                            have p439 : 0 ≤ (x97_3 : Int) := of_decide_eq_true (by first | (with_reducible assumption) | assumption)
                            have q439 : x97_3 < (l0.length : Int) := of_decide_eq_true (by first | (with_reducible assumption) | assumption)
                            (try clear hHeld)
                            obtain ⟨ad439, A439_1, c439_1, e439, hx439_0, hx439_1, hl439_1, hi439_1⟩ := at_T56 (Kd.V_reads' HO_95.out).2.2 x97_3 p439 q439
                            cases e439
                            obtain ⟨ce439, hce439, hMe439, hcc439⟩ := Kd.V_get HO_95.out z56 x97_3 p439 (by first | exact q439 | exact of_decide_eq_true (by first | (with_reducible assumption) | assumption) | (have e_ := (Kd.V_reads' HO_95.out).1; omega))
                            obtain ⟨ua439_1, uc439_1, rfl, ul439_1, ge439_1⟩ := k56_openF hMe439
                            have hv439_1 := hcc439 1 _ rfl
                            rw [add_field _ _ 1 (by omega)] at hv439_1
                            replace hv439_1 := Option.some.inj (hv439_1.symm.trans hx439_1)
                            injection hv439_1 with hva_ hvn_ hvc_
                            rw [hva_] at ge439_1
                            rw [hvc_] at ul439_1
                            have HL439_1 := Aside0.mk (show Kd.V (Kd.int .u8) 5 _ w.heap.size _ _ ((rd_T56 l0 x97_3).f1) from Kd.V_mk ul439_1 ge439_1)
                            clear hva_ hvn_ hvc_ ge439_1 ul439_1
                            clear hcc439 hce439
                            have HR439_1 := Aside0.mk hi439_1
                            have HC439_1 := Aside0.mk hl439_1
                            clear hi439_1 hl439_1
                            replace p439 := eq_true p439
                            replace q439 := eq_true q439
                            go_wp2_with (first | ((with_reducible refine gate_dst (N := 21) rfl ?_); (try (refine gate_guard (by rfl) ?_; dsimp only)); refine box_event ?hg (N := 21) ?hd (cs := #[.int .u8 0, .slice none 0 0]) (t := 56) ?hr ?_; (case hd => rfl); (case hg => rfl); (case hr => first | (go_simp; done) | (go_simp; simp only [IntKind.wrap_u8, IntKind.wrap_u16, IntKind.wrap_u32, IntKind.wrap_u64]; done) | (go_simp; rfl)); intro gb440 hg w78 hbox hb; have n0_ := Aside0.mk (Kd.N_below (Kd.N_elderB (by (with_reducible repeat (first | apply Kd.N_alloc | apply Kd.N_drewN | apply Kd.N_drew)); exact HO_9.out) gb440 (Nat.le_of_eq hg.symm)) hb); have n1_ := Aside0.mk (Kd.N_below (Kd.N_elderB (by (with_reducible repeat (first | apply Kd.N_alloc | apply Kd.N_drewN | apply Kd.N_drew)); exact HO_19.out) gb440 (Nat.le_of_eq hg.symm)) hb); have n2_ := Aside0.mk (Kd.V_below (Kd.V_elderB (by (with_reducible repeat (first | apply Kd.V_alloc | apply Kd.V_drewN | apply Kd.V_drew)); exact HO_95.out) gb440 (Nat.le_of_eq hg.symm)) hb); have n3_ := Aside0.mk (Kd.V_below (Kd.V_elderB (by (with_reducible repeat (first | apply Kd.V_alloc | apply Kd.V_drewN | apply Kd.V_drew)); exact HL439_1.out) gb440 (Nat.le_of_eq hg.symm)) hb); have n4_ := Aside0.mk (Kd.C_below (by repeat (first | (with_reducible exact HR439_1.out) | (with_reducible refine Kd.C_alloc ?_ _) | (with_reducible refine Kd.C_drewN ?_ _) | (with_reducible refine Kd.C_drew ?_) | exact HR439_1.out)) hb); have n5_ := Aside0.mk (below_step (by repeat (first | (with_reducible first | exact HB.out | apply below_alloc | apply pw_below_drewN | apply below_drew1) | exact HB.out)) hb); have n6_ := Aside0.mk (hbox); have n7_ := Aside0.mk ((by rw [hg]; exact (below_size (by repeat (first | (with_reducible first | exact HB.out | apply below_alloc | apply pw_below_drewN | apply below_drew1) | exact HB.out))) : w.heap.size ≤ gb440)); have n8_ := Aside0.mk ((by rw [hg]; exact (below_size (by repeat (first | (with_reducible first | exact HB.out | apply below_alloc | apply pw_below_drewN | apply below_drew1) | exact HB.out))) : w.heap.size ≤ gb440)); clear HO_9; clear HO_19; clear HO_95; clear HL439_1; clear HR439_1; clear HB; have HO_9 := n0_; have HO_19 := n1_; have HO_95 := n2_; have HL439_1 := n3_; have HR439_1 := n4_; have HB := n5_; have BK440 := n6_; have GW440 := n7_; have GE440 := n8_; clear n0_ n1_ n2_ n3_ n4_ n5_ n6_ n7_ n8_; clear hb hbox hg; have hcz79_0 : w78.cell? ⟨gb440, 0, none⟩ = some (.int .u8 0) := (blk_cell BK440.out 0).trans rfl; have hcz79_1 : w78.cell? ⟨gb440, 1, none⟩ = some (.slice none 0 0) := (blk_cell BK440.out 1).trans rfl; have hfz79_0 := blk_frozen BK440.out 0; have hfz79_1 := blk_frozen BK440.out 1; obtain ⟨Ao80, co80, eo80⟩ := Kd.N_slice HO_19.out; subst eo80))
                            go_roundg k3
                            case measure => have := HJ4.out; have := HJ28.out; have := HK3.out; omega
                            case rel => exact ⟨(wrap64 (x18_3 + (wrap64 (2 + (((rd_T56 l0 x97_3).f1).length : Int))))), (x19_3), (wrap64 (x97_3 + 1)), (by first | rfl | (simp; done) | (simp [*]; done)), (by first | rfl | (simp; done) | (simp [*]; done)), H', ⟨by have := HJ4.out; have := HJ28.out; have := HK3.out; omega⟩, ⟨by (with_reducible repeat (first | apply Kd.N_alloc | apply Kd.N_drewN | apply Kd.N_drew)); exact Kd.N_mono (Kd.N_far (p := ⟨gb440, 1, none⟩) (Kd.N_far (p := ⟨gb440, 0, none⟩) (Kd.N_mono HO_9.out (fun k_ hk => (⟨hk, hk.2⟩ : _ ∧ k_ ≠ gb440))) (fun _ hk => hk.2) (.int .u8 ((rd_T56 l0 x97_3).f0))) (fun _ hk => hk.2) (.slice A439_1 ((rd_T56 l0 x97_3).f1).length c439_1)) (fun _ hk => ⟨hk.1.1.1, hk.1.1.2⟩)⟩, ⟨by (with_reducible repeat (first | apply Kd.N_alloc | apply Kd.N_drewN | apply Kd.N_drew)); exact Kd.N_mono (Kd.N_far (p := ⟨gb440, 1, none⟩) (Kd.N_far (p := ⟨gb440, 0, none⟩) (Kd.N_mono HO_19.out (fun k_ hk => (⟨hk, hk.2⟩ : _ ∧ k_ ≠ gb440))) (fun _ hk => hk.2) (.int .u8 ((rd_T56 l0 x97_3).f0))) (fun _ hk => hk.2) (.slice A439_1 ((rd_T56 l0 x97_3).f1).length c439_1)) (fun _ hk => ⟨hk.1.1.1, hk.1.1.2⟩)⟩, ⟨by (with_reducible repeat (first | apply Kd.V_alloc | apply Kd.V_drewN | apply Kd.V_drew)); exact Kd.V_mono (Kd.V_far (p := ⟨gb440, 1, none⟩) (Kd.V_far (p := ⟨gb440, 0, none⟩) (Kd.V_mono HO_95.out (fun k_ hk => (⟨hk, hk.2⟩ : _ ∧ k_ ≠ gb440))) (fun _ hk => hk.2) (.int .u8 ((rd_T56 l0 x97_3).f0))) (fun _ hk => hk.2) (.slice A439_1 ((rd_T56 l0 x97_3).f1).length c439_1)) (fun _ hk => ⟨hk.1.1.1, ⟨hk.1.1.2.1, hk.1.1.2.2⟩⟩)⟩, ⟨by repeat (first | (with_reducible first | exact HB.out | apply below_alloc | apply pw_below_drewN | apply below_drew1 | refine below_set ?_ GE440.out) | exact HB.out)⟩⟩
                        · rw [if_neg c69] at H
                          have c69b0 : (((rd_T56 l0 x97_3).f0) == a3) = false := beq_eq_false_iff_ne.mpr c69
                          have c69b1 : (((rd_T56 l0 x97_3).f0) != a3) = true := bne_iff_ne.mpr c69
                          have H' := Aside0.mk H
                          clear H
                          have p439 : 0 ≤ (x97_3 : Int) := of_decide_eq_true (by first | (with_reducible assumption) | assumption)
                          have q439 : x97_3 < (l0.length : Int) := of_decide_eq_true (by first | (with_reducible assumption) | assumption)
                          (try clear hHeld)
                          obtain ⟨ad439, A439_1, c439_1, e439, hx439_0, hx439_1, hl439_1, hi439_1⟩ := at_T56 (Kd.V_reads' HO_95.out).2.2 x97_3 p439 q439
                          cases e439
                          obtain ⟨ce439, hce439, hMe439, hcc439⟩ := Kd.V_get HO_95.out z56 x97_3 p439 (by first | exact q439 | exact of_decide_eq_true (by first | (with_reducible assumption) | assumption) | (have e_ := (Kd.V_reads' HO_95.out).1; omega))
                          obtain ⟨ua439_1, uc439_1, rfl, ul439_1, ge439_1⟩ := k56_openF hMe439
                          have hv439_1 := hcc439 1 _ rfl
                          rw [add_field _ _ 1 (by omega)] at hv439_1
                          replace hv439_1 := Option.some.inj (hv439_1.symm.trans hx439_1)
                          injection hv439_1 with hva_ hvn_ hvc_
                          rw [hva_] at ge439_1
                          rw [hvc_] at ul439_1
                          have HL439_1 := Aside0.mk (show Kd.V (Kd.int .u8) 5 _ w.heap.size _ _ ((rd_T56 l0 x97_3).f1) from Kd.V_mk ul439_1 ge439_1)
                          clear hva_ hvn_ hvc_ ge439_1 ul439_1
                          clear hcc439 hce439
                          have HR439_1 := Aside0.mk hi439_1
                          have HC439_1 := Aside0.mk hl439_1
                          clear hi439_1 hl439_1
                          replace p439 := eq_true p439
                          replace q439 := eq_true q439
                          go_wp2_with (first | ((with_reducible refine gate_dst (N := 21) rfl ?_); (try (refine gate_guard (by rfl) ?_; dsimp only)); refine box_event ?hg (N := 21) ?hd (cs := #[.int .u8 0, .slice none 0 0]) (t := 56) ?hr ?_; (case hd => rfl); (case hg => rfl); (case hr => first | (go_simp; done) | (go_simp; simp only [IntKind.wrap_u8, IntKind.wrap_u16, IntKind.wrap_u32, IntKind.wrap_u64]; done) | (go_simp; rfl)); intro gb440 hg w81 hbox hb; have n0_ := Aside0.mk (Kd.N_below (Kd.N_elderB (by (with_reducible repeat (first | apply Kd.N_alloc | apply Kd.N_drewN | apply Kd.N_drew)); exact HO_9.out) gb440 (Nat.le_of_eq hg.symm)) hb); have n1_ := Aside0.mk (Kd.N_below (Kd.N_elderB (by (with_reducible repeat (first | apply Kd.N_alloc | apply Kd.N_drewN | apply Kd.N_drew)); exact HO_19.out) gb440 (Nat.le_of_eq hg.symm)) hb); have n2_ := Aside0.mk (Kd.V_below (Kd.V_elderB (by (with_reducible repeat (first | apply Kd.V_alloc | apply Kd.V_drewN | apply Kd.V_drew)); exact HO_95.out) gb440 (Nat.le_of_eq hg.symm)) hb); have n3_ := Aside0.mk (Kd.V_below (Kd.V_elderB (by (with_reducible repeat (first | apply Kd.V_alloc | apply Kd.V_drewN | apply Kd.V_drew)); exact HL439_1.out) gb440 (Nat.le_of_eq hg.symm)) hb); have n4_ := Aside0.mk (Kd.C_below (by repeat (first | (with_reducible exact HR439_1.out) | (with_reducible refine Kd.C_alloc ?_ _) | (with_reducible refine Kd.C_drewN ?_ _) | (with_reducible refine Kd.C_drew ?_) | exact HR439_1.out)) hb); have n5_ := Aside0.mk (below_step (by repeat (first | (with_reducible first | exact HB.out | apply below_alloc | apply pw_below_drewN | apply below_drew1) | exact HB.out)) hb); have n6_ := Aside0.mk (hbox); have n7_ := Aside0.mk ((by rw [hg]; exact (below_size (by repeat (first | (with_reducible first | exact HB.out | apply below_alloc | apply pw_below_drewN | apply below_drew1) | exact HB.out))) : w.heap.size ≤ gb440)); have n8_ := Aside0.mk ((by rw [hg]; exact (below_size (by repeat (first | (with_reducible first | exact HB.out | apply below_alloc | apply pw_below_drewN | apply below_drew1) | exact HB.out))) : w.heap.size ≤ gb440)); clear HO_9; clear HO_19; clear HO_95; clear HL439_1; clear HR439_1; clear HB; have HO_9 := n0_; have HO_19 := n1_; have HO_95 := n2_; have HL439_1 := n3_; have HR439_1 := n4_; have HB := n5_; have BK440 := n6_; have GW440 := n7_; have GE440 := n8_; clear n0_ n1_ n2_ n3_ n4_ n5_ n6_ n7_ n8_; clear hb hbox hg; have hcz82_0 : w81.cell? ⟨gb440, 0, none⟩ = some (.int .u8 0) := (blk_cell BK440.out 0).trans rfl; have hcz82_1 : w81.cell? ⟨gb440, 1, none⟩ = some (.slice none 0 0) := (blk_cell BK440.out 1).trans rfl; have hfz82_0 := blk_frozen BK440.out 0; have hfz82_1 := blk_frozen BK440.out 1))
                          go_roundg k3
                          case measure => have := HJ4.out; have := HJ28.out; have := HK3.out; omega
                          case rel => exact ⟨(wrap64 (x18_3 + (wrap64 (2 + (((rd_T56 l0 x97_3).f1).length : Int))))), (x19_3), (wrap64 (x97_3 + 1)), (by first | rfl | (simp; done) | (simp [*]; done)), (by first | rfl | (simp; done) | (simp [*]; done)), H', ⟨by have := HJ4.out; have := HJ28.out; have := HK3.out; omega⟩, ⟨by (with_reducible repeat (first | apply Kd.N_alloc | apply Kd.N_drewN | apply Kd.N_drew)); exact Kd.N_mono (Kd.N_far (p := ⟨gb440, 1, none⟩) (Kd.N_far (p := ⟨gb440, 0, none⟩) (Kd.N_mono HO_9.out (fun k_ hk => (⟨hk, hk.2⟩ : _ ∧ k_ ≠ gb440))) (fun _ hk => hk.2) (.int .u8 ((rd_T56 l0 x97_3).f0))) (fun _ hk => hk.2) (.slice A439_1 ((rd_T56 l0 x97_3).f1).length c439_1)) (fun _ hk => ⟨hk.1.1.1, hk.1.1.2⟩)⟩, ⟨by (with_reducible repeat (first | apply Kd.N_alloc | apply Kd.N_drewN | apply Kd.N_drew)); exact Kd.N_mono (Kd.N_far (p := ⟨gb440, 1, none⟩) (Kd.N_far (p := ⟨gb440, 0, none⟩) (Kd.N_mono HO_19.out (fun k_ hk => (⟨hk, hk.2⟩ : _ ∧ k_ ≠ gb440))) (fun _ hk => hk.2) (.int .u8 ((rd_T56 l0 x97_3).f0))) (fun _ hk => hk.2) (.slice A439_1 ((rd_T56 l0 x97_3).f1).length c439_1)) (fun _ hk => ⟨hk.1.1.1, hk.1.1.2⟩)⟩, ⟨by (with_reducible repeat (first | apply Kd.V_alloc | apply Kd.V_drewN | apply Kd.V_drew)); exact Kd.V_mono (Kd.V_far (p := ⟨gb440, 1, none⟩) (Kd.V_far (p := ⟨gb440, 0, none⟩) (Kd.V_mono HO_95.out (fun k_ hk => (⟨hk, hk.2⟩ : _ ∧ k_ ≠ gb440))) (fun _ hk => hk.2) (.int .u8 ((rd_T56 l0 x97_3).f0))) (fun _ hk => hk.2) (.slice A439_1 ((rd_T56 l0 x97_3).f1).length c439_1)) (fun _ hk => ⟨hk.1.1.1, ⟨hk.1.1.2.1, hk.1.1.2.2⟩⟩)⟩, ⟨by repeat (first | (with_reducible first | exact HB.out | apply below_alloc | apply pw_below_drewN | apply below_drew1 | refine below_set ?_ GE440.out) | exact HB.out)⟩⟩
                      · rw [if_neg c68] at H
                        exact absurd H (by simp)
                    · rw [if_neg c67] at H
                      exact absurd H (by simp)
                  · rw [if_neg c66] at H
                    have c66b0 : decide (x97_3 < (l0.length : Int)) = false := decide_eq_false c66
                    clear c66
                    replace H := Option.bind_eq_some_iff.mp H
                    obtain ⟨⟨t444, t445, t448⟩, A830, H⟩ := H
                    replace H : (if t448 = true then ((marlineref12_Same.f k3 (([(⟨t444, t445⟩ : S56)] : List (S56))) x19_3).bind fun t454 => (if t454 = true then ((tlv_Size.f k3 t410).bind fun t455 => (some (t455 == x18_3))) else (none))) else (if (x19_3.length : Int) = 0 then (if t444 = 0 then (if (t445.length : Int) = 0 then ((tlv_Size.f k3 t410).bind fun t450 => (some (t450 == x18_3))) else (none)) else (none)) else (none))) = some r := H
                    have A83 := Aside0.mk A830
                    clear A830
                    by_cases c84 : t448 = true
                    · subst c84
                      have H1 : ((marlineref12_Same.f k3 (([(⟨t444, t445⟩ : S56)] : List (S56))) x19_3).bind fun t454 => (if t454 = true then ((tlv_Size.f k3 t410).bind fun t455 => (some (t455 == x18_3))) else (none))) = some r := by rw [if_pos rfl] at H; exact H
                      clear H
                      have H := H1
                      clear H1
                      obtain ⟨y451, hy451⟩ : ∃ y_ : List (S56), y_ = (([(⟨t444, t445⟩ : S56)] : List (S56))) := ⟨_, rfl⟩
                      replace H : ((marlineref12_Same.f k3 y451 x19_3).bind fun t454 => (if t454 = true then ((tlv_Size.f k3 t410).bind fun t455 => (some (t455 == x18_3))) else (none))) = some r := by first | (rw [hy451]; with_reducible exact H) | (have H2_ := (Option.bind_some _ _).symm.trans H; rw [hy451]; with_reducible exact H2_) | (have H2_ := (Option.bind_some _ _).symm.trans H; with_reducible exact H2_) | with_reducible exact H | (rw [hy451]; exact H) | exact H
                      have Ny451 := Aside0.mk hy451
                      clear hy451
                      replace H := Option.bind_eq_some_iff.mp H
                      obtain ⟨t454, A850, H⟩ := H
                      replace H : (if t454 = true then ((tlv_Size.f k3 t410).bind fun t455 => (some (t455 == x18_3))) else (none)) = some r := H
                      have A85 := Aside0.mk A850
                      clear A850
                      by_cases c86 : t454 = true
                      · subst c86
                        have H1 : ((tlv_Size.f k3 t410).bind fun t455 => (some (t455 == x18_3))) = some r := by rw [if_pos rfl] at H; exact H
                        clear H
                        have H := H1
                        clear H1
                        replace H := Option.bind_eq_some_iff.mp H
                        obtain ⟨t455, A870, H⟩ := H
                        replace H : (some (t455 == x18_3)) = some r := H
                        have A87 := Aside0.mk A870
                        clear A870
                        obtain rfl := Option.some.inj H
                        go_wp2_with (first | ((with_reducible refine gate_callee (f := 29) rfl ?_); refine goesL_ (some 124) rfl rfl Try.func29 (by kernel_rfl) rfl #[.slice Ao31 t410.length co31, .int .u8 a3] rfl (by (try simp only [List.map_toArray, List.map_cons, List.map_nil]); first | done | rfl | (simp only [List.length_drop, List.length_take]; rfl)) ?_; (with_reducible refine (tlv_Find.calls _ _ t410 a3 t444 t445 true _ ?side1 ?side2 A83.out).mono ?_); (case side1 => repeat (first | exact (Kd.N_reads' HO_9.out).2.2 | (with_reducible refine Kd.C_alloc ?_ _) | (with_reducible refine Kd.C_drewN ?_ _) | (with_reducible refine Kd.C_drew ?_))); (case side2 => exact (Kd.N_reads' HO_9.out).2.1); rintro e w88 ⟨v446, rfl, ho0, hb⟩; refine ⟨_, rfl, ?_⟩; have n0_ := Aside0.mk (Kd.N_elder' (by (with_reducible repeat (first | apply Kd.N_alloc | apply Kd.N_drewN | apply Kd.N_drew)); exact HO_9.out) (Kd.R_base ho0) hb); have n1_ := Aside0.mk (Kd.N_elder' (by (with_reducible repeat (first | apply Kd.N_alloc | apply Kd.N_drewN | apply Kd.N_drew)); exact HO_19.out) (Kd.R_base ho0) hb); have n2_ := Aside0.mk (Kd.R_lower (Kd.R_newM (M := fun k_ => (w.heap.size ≤ k_)) ho0 (below_size (by repeat (first | (with_reducible first | exact HB.out | apply below_alloc | apply pw_below_drewN | apply below_drew1) | exact HB.out))) (fun k_ h_ => h_)) (below_size (by repeat (first | (with_reducible first | exact HB.out | apply below_alloc | apply pw_below_drewN | apply below_drew1) | exact HB.out)))); have n3_ := Aside0.mk (below_step (by repeat (first | (with_reducible first | exact HB.out | apply below_alloc | apply pw_below_drewN | apply below_drew1) | exact HB.out)) hb); clear HO_9; clear HO_19; clear HB; have HO_9 := n0_; have HO_19 := n1_; have HO447 := n2_; have HB := n3_; clear n0_ n1_ n2_ n3_; (try clear hb); (try clear hb2); (try clear hk); (try clear hi); (try clear ho0)) | ((with_reducible refine gate_dst (N := 22) rfl ?_); (try (refine gate_guard (by rfl) ?_; dsimp only)); refine box_event ?hg (N := 22) ?hd (cs := #[.int .u8 0, .slice none 0 0]) (t := 57) ?hr ?_; (case hd => rfl); (case hg => rfl); (case hr => first | (go_simp; done) | (go_simp; simp only [IntKind.wrap_u8, IntKind.wrap_u16, IntKind.wrap_u32, IntKind.wrap_u64]; done) | (go_simp; rfl)); intro gb449 hg w89 hbox hb; have n0_ := Aside0.mk (Kd.N_below (Kd.N_elderB (by (with_reducible repeat (first | apply Kd.N_alloc | apply Kd.N_drewN | apply Kd.N_drew)); exact HO_9.out) gb449 (Nat.le_of_eq hg.symm)) hb); have n1_ := Aside0.mk (Kd.N_below (Kd.N_elderB (by (with_reducible repeat (first | apply Kd.N_alloc | apply Kd.N_drewN | apply Kd.N_drew)); exact HO_19.out) gb449 (Nat.le_of_eq hg.symm)) hb); have n2_ := Aside0.mk (Kd.R_below (by (with_reducible repeat (first | apply Kd.R_alloc | apply Kd.R_drewN | apply Kd.R_drew)); exact HO447.out) hb); have n3_ := Aside0.mk (below_step (by repeat (first | (with_reducible first | exact HB.out | apply below_alloc | apply pw_below_drewN | apply below_drew1) | exact HB.out)) hb); have n4_ := Aside0.mk (hbox); have n5_ := Aside0.mk ((by rw [hg]; exact (below_size (by repeat (first | (with_reducible first | exact HB.out | apply below_alloc | apply pw_below_drewN | apply below_drew1) | exact HB.out))) : w.heap.size ≤ gb449)); have n6_ := Aside0.mk ((by rw [hg]; exact (below_size (by repeat (first | (with_reducible first | exact HB.out | apply below_alloc | apply pw_below_drewN | apply below_drew1) | exact HB.out))) : w.heap.size ≤ gb449)); clear HO_9; clear HO_19; clear HO447; clear HB; have HO_9 := n0_; have HO_19 := n1_; have HO447 := n2_; have HB := n3_; have BK449 := n4_; have GW449 := n5_; have GE449 := n6_; clear n0_ n1_ n2_ n3_ n4_ n5_ n6_; clear hb hbox hg; have hcz90_0 : w89.cell? ⟨gb449, 0, none⟩ = some (.int .u8 0) := (blk_cell BK449.out 0).trans rfl; have hcz90_1 : w89.cell? ⟨gb449, 1, none⟩ = some (.slice none 0 0) := (blk_cell BK449.out 1).trans rfl; have hfz90_0 := blk_frozen BK449.out 0; have hfz90_1 := blk_frozen BK449.out 1; obtain ⟨Ao91, co91, eo91⟩ := Kd.R_slice HO447.out; subst eo91) | ((with_reducible refine gate_store (t := 57) (p := 22) rfl ?_); refine store_event (t := 57) (p := 22) (v := ?vo_w92) (w1 := ((w89.setCell ⟨gb449, 0, none⟩ (.int .u8 t444)).setCell ⟨gb449, 1, none⟩ (.slice Ao91 t445.length co91))) ?hg ?ho ?hn ?hr ?_; (case ho => rfl); (case hg => rfl); (case hn => rfl); (case hr => first | (go_simp; done) | (go_simp; simp only [IntKind.wrap_u8, IntKind.wrap_u16, IntKind.wrap_u32, IntKind.wrap_u64]; done) | (go_simp; rfl)); intro w92 hw; have n0_ : Aside0 (Kd.N k57 57 w92 w.heap.size (fun k_ => ((P0_ k_ ∨ P1_ k_ ∨ P2_ k_) ∨ w.heap.size ≤ k_) ∧ some k_ ≠ (u19 : Value).ownBlock ∧ some k_ ≠ (.slice Ao91 t445.length co91 : Value).ownBlock ∧ k_ ≠ gb449) (.slice Ao31 t410.length co31) t410) := ⟨(by rw [hw]; exact (by (with_reducible repeat (first | apply Kd.N_alloc | apply Kd.N_drewN | apply Kd.N_drew)); exact Kd.N_mono (Kd.N_far (p := ⟨gb449, 1, none⟩) (Kd.N_far (p := ⟨gb449, 0, none⟩) (Kd.N_mono HO_9.out (fun k_ hk => (⟨hk, hk.2⟩ : _ ∧ k_ ≠ gb449))) (fun _ hk => hk.2) (.int .u8 t444)) (fun _ hk => hk.2) (.slice Ao91 t445.length co91)) (fun _ hk => ⟨hk.1.1.1.1, ⟨hk.1.1.1.2, ⟨hk.1.1.2, hk.1.2⟩⟩⟩)))⟩; have n1_ : Aside0 (Kd.N k56 56 w92 w.heap.size (fun k_ => ((P0_ k_ ∨ P1_ k_ ∨ P2_ k_) ∨ w.heap.size ≤ k_) ∧ some k_ ≠ (.slice Ao31 t410.length co31 : Value).ownBlock ∧ some k_ ≠ (.slice Ao91 t445.length co91 : Value).ownBlock ∧ k_ ≠ gb449) u19 x19_3) := ⟨(by rw [hw]; exact (by (with_reducible repeat (first | apply Kd.N_alloc | apply Kd.N_drewN | apply Kd.N_drew)); exact Kd.N_mono (Kd.N_far (p := ⟨gb449, 1, none⟩) (Kd.N_far (p := ⟨gb449, 0, none⟩) (Kd.N_mono HO_19.out (fun k_ hk => (⟨hk, hk.2⟩ : _ ∧ k_ ≠ gb449))) (fun _ hk => hk.2) (.int .u8 t444)) (fun _ hk => hk.2) (.slice Ao91 t445.length co91)) (fun _ hk => ⟨hk.1.1.1.1, ⟨hk.1.1.1.2, ⟨hk.1.1.2, hk.1.2⟩⟩⟩)))⟩; have n2_ : Aside0 (Kd.R (Kd.int .u8) 5 w92 w.heap.size (fun k_ => (w.heap.size ≤ k_)) (.slice Ao91 t445.length co91) t445) := ⟨(by rw [hw]; exact (by (with_reducible repeat (first | apply Kd.R_alloc | apply Kd.R_drewN | apply Kd.R_drew)); exact Kd.R_mono (Kd.R_far (p := ⟨gb449, 1, none⟩) (Kd.R_far (p := ⟨gb449, 0, none⟩) (Kd.R_types HO447.out BK449.out (by decide)) (fun _ hk => hk.2) (.int .u8 t444)) (fun _ hk => hk.2) (.slice Ao91 t445.length co91)) (fun _ hk => hk.1.1)))⟩; have n3_ : Aside0 (w92.heap[gb449]? = some (.cells #[.int .u8 t444, .slice Ao91 t445.length co91] 57 (0, 0))) := ⟨(by rw [hw]; exact (by (with_reducible repeat (first | refine blk_drewN ?_ _ | refine blk_drew ?_ | refine blk_alloc ?_ _)); refine blk_put (cs := #[.int .u8 t444, .slice none 0 0]) ?_ 1 _ rfl; (with_reducible repeat (first | refine blk_drewN ?_ _ | refine blk_drew ?_ | refine blk_alloc ?_ _)); refine blk_put (cs := #[.int .u8 0, .slice none 0 0]) ?_ 0 _ rfl; (with_reducible repeat (first | refine blk_drewN ?_ _ | refine blk_drew ?_ | refine blk_alloc ?_ _)); exact BK449.out))⟩; have n4_ : Aside0 (Below w.heap.size w w92) := ⟨(by rw [hw]; exact (by repeat (first | (with_reducible first | exact HB.out | apply below_alloc | apply pw_below_drewN | apply below_drew1 | refine below_set ?_ GE449.out) | exact HB.out)))⟩; clear hw; clear HO_9; clear HO_19; clear HO447; clear BK449; clear HB; have HO_9 := n0_; have HO_19 := n1_; have HO447 := n2_; have BK449 := n3_; have HB := n4_; clear n0_ n1_ n2_ n3_ n4_; have hcz93_0 : w92.cell? ⟨gb449, 0, none⟩ = some (.int .u8 t444) := (blk_cell BK449.out 0).trans rfl; have hcz93_1 : w92.cell? ⟨gb449, 1, none⟩ = some (.slice Ao91 t445.length co91) := (blk_cell BK449.out 1).trans rfl; have hfz93_0 := blk_frozen BK449.out 0; have hfz93_1 := blk_frozen BK449.out 1) | ((with_reducible refine gate_dst (N := 150) rfl ?_); (try (refine gate_guard (by rfl) ?_; dsimp only)); refine Kd.N_lit k56 _ 56 ?hg (N' := 150) ?hd (xs := ([(⟨t444, t445⟩ : S56)] : List (S56))) (inner := [.int .u8 t444, .slice Ao91 t445.length co91]) (ok := (fun k_ => ((P0_ k_ ∨ P1_ k_ ∨ P2_ k_) ∨ w.heap.size ≤ k_) ∧ some k_ ≠ (.slice Ao31 t410.length co31 : Value).ownBlock ∧ some k_ ≠ (u19 : Value).ownBlock ∧ k_ ≠ gb449)) (okp := (fun k_ => ((P0_ k_ ∨ P1_ k_ ∨ P2_ k_) ∨ w.heap.size ≤ k_) ∧ some k_ ≠ (.slice Ao31 t410.length co31 : Value).ownBlock ∧ some k_ ≠ (u19 : Value).ownBlock ∧ k_ ≠ gb449)) ?hr ?hp (fun _ hk => hk) ((show ∀ k_, w92.heap.size ≤ k_ → (fun k_ => ((P0_ k_ ∨ P1_ k_ ∨ P2_ k_) ∨ w.heap.size ≤ k_) ∧ some k_ ≠ (.slice Ao31 t410.length co31 : Value).ownBlock ∧ some k_ ≠ (u19 : Value).ownBlock ∧ k_ ≠ gb449) k_ from fun k_ hk => ⟨(.inr (Nat.le_trans (below_size (by repeat (first | (with_reducible first | exact HB.out | apply below_alloc | apply pw_below_drewN | apply below_drew1 | refine below_set ?_ GE449.out) | exact HB.out))) hk)), Kd.fresh' (Kd.N_lt (by (with_reducible repeat (first | apply Kd.N_alloc | apply Kd.N_drewN | apply Kd.N_drew)); exact HO_9.out)) k_ hk, Kd.fresh' (Kd.N_lt (by (with_reducible repeat (first | apply Kd.N_alloc | apply Kd.N_drewN | apply Kd.N_drew)); exact HO_19.out)) k_ hk, Kd.freshB (g := gb449) (o := .cells #[.int .u8 t444, .slice Ao91 t445.length co91] 57 (0, 0)) (by (with_reducible repeat (first | refine blk_drewN ?_ _ | refine blk_drew ?_ | refine blk_alloc ?_ _)); exact BK449.out) k_ hk⟩) _ (Nat.le_refl _)) (Below.refl _ _) (Nat.le_refl _) (by simp) ?_; (case hd => rfl); (case hg => rfl); (case hr => first | (go_simp; done) | (go_simp; simp only [IntKind.wrap_u8, IntKind.wrap_u16, IntKind.wrap_u32, IntKind.wrap_u64]; done) | (go_simp; rfl)); (case hp => exact (Reps.c2 (show Kd.FK k56 _ _ (⟨t444, t445⟩ : S56) [.int .u8 t444, .slice Ao91 t445.length co91] from (k56_mkF _ _ (⟨t444, t445⟩ : S56) (Kd.R_reads' (Kd.R_mono (ok' := (fun k_ => ((P0_ k_ ∨ P1_ k_ ∨ P2_ k_) ∨ w.heap.size ≤ k_) ∧ some k_ ≠ (.slice Ao31 t410.length co31 : Value).ownBlock ∧ some k_ ≠ (u19 : Value).ownBlock ∧ k_ ≠ gb449)) (Kd.R_types (Kd.R_apart' (Kd.R_apart' (HO447.out) (Kd.N_typed HO_9.out) (by decide)) (Kd.N_typed HO_19.out) (by decide)) BK449.out (by decide)) (fun k_ hk => ⟨(.inr (hk.1.1.1)), ⟨hk.1.1.2, ⟨hk.1.2, hk.2⟩⟩⟩))).2.1 (Kd.R_F (Kd.R_mono (ok' := (fun k_ => ((P0_ k_ ∨ P1_ k_ ∨ P2_ k_) ∨ w.heap.size ≤ k_) ∧ some k_ ≠ (.slice Ao31 t410.length co31 : Value).ownBlock ∧ some k_ ≠ (u19 : Value).ownBlock ∧ k_ ≠ gb449)) (Kd.R_types (Kd.R_apart' (Kd.R_apart' (HO447.out) (Kd.N_typed HO_9.out) (by decide)) (Kd.N_typed HO_19.out) (by decide)) BK449.out (by decide)) (fun k_ hk => ⟨(.inr (hk.1.1.1)), ⟨hk.1.1.2, ⟨hk.1.2, hk.2⟩⟩⟩))))) (Reps.none _ _))); intro v452 w94 ho95 hb hg_ hnew_; clear hg_ hnew_; (first | rw [← Ny451.out] at ho95 | (simp only [Int.reduceToNat] at ho95; rw [← Ny451.out] at ho95)); have n0_ := Aside0.mk (Kd.N_elder' (by (with_reducible repeat (first | apply Kd.N_alloc | apply Kd.N_drewN | apply Kd.N_drew)); exact HO_9.out) (Kd.N_base ho95) hb); have n1_ := Aside0.mk (Kd.N_elder' (by (with_reducible repeat (first | apply Kd.N_alloc | apply Kd.N_drewN | apply Kd.N_drew)); exact HO_19.out) (Kd.N_base ho95) hb); have n2_ := Aside0.mk (Kd.N_lower ho95 (below_size (by repeat (first | (with_reducible first | exact HB.out | apply below_alloc | apply pw_below_drewN | apply below_drew1 | refine below_set ?_ GE449.out) | exact HB.out)))); have n3_ := Aside0.mk (blk_below (g := gb449) (o := .cells #[.int .u8 t444, .slice Ao91 t445.length co91] 57 (0, 0)) (by (with_reducible repeat (first | refine blk_drewN ?_ _ | refine blk_drew ?_ | refine blk_alloc ?_ _)); exact BK449.out) hb); have n4_ := Aside0.mk (below_step (by repeat (first | (with_reducible first | exact HB.out | apply below_alloc | apply pw_below_drewN | apply below_drew1 | refine below_set ?_ GE449.out) | exact HB.out)) hb); clear HO_9; clear HO_19; clear BK449; clear HB; clear HO447; have HO_9 := n0_; have HO_19 := n1_; have HO453 := n2_; have BK449 := n3_; have HB := n4_; clear n0_ n1_ n2_ n3_ n4_; clear hb ho95; obtain ⟨Ao96, co96, eo96⟩ := Kd.N_slice HO453.out; subst eo96; obtain ⟨Ao97, co97, eo97⟩ := Kd.N_slice HO_19.out; subst eo97) | ((with_reducible refine gate_callee (f := 19) rfl ?_); refine goesL_ (some 152) rfl rfl Try.func19 (by kernel_rfl) rfl #[.slice Ao96 y451.length co96, .slice Ao97 x19_3.length co97] rfl (by (try simp only [List.map_toArray, List.map_cons, List.map_nil]); first | done | rfl | (simp only [List.length_drop, List.length_take]; rfl)) ?_; (with_reducible refine (marlineref12_Same.calls k3 _ _ y451 _ _ x19_3 true _ ?side1 ?side2 ?side3 ?side4 A85.out).mono ?_); (case side1 => repeat (first | exact (Kd.N_reads' HO453.out).2.2 | (with_reducible refine Kd.C_alloc ?_ _) | (with_reducible refine Kd.C_drewN ?_ _) | (with_reducible refine Kd.C_drew ?_))); (case side2 => exact (Kd.N_reads' HO453.out).2.1); (case side3 => repeat (first | exact (Kd.N_reads' HO_19.out).2.2 | (with_reducible refine Kd.C_alloc ?_ _) | (with_reducible refine Kd.C_drewN ?_ _) | (with_reducible refine Kd.C_drew ?_))); (case side4 => exact (Kd.N_reads' HO_19.out).2.1); rintro e w' ⟨rfl, ⟨nd, rfl⟩⟩; refine ⟨_, rfl, ?_⟩) | (go_at_call 21; (with_reducible refine (tlv_Size.calls k3 _ _ t410 t455 _ ?side1 ?side2 A87.out).mono ?_); (case side1 => repeat (first | exact (Kd.N_reads' HO_9.out).2.2 | (with_reducible refine Kd.C_alloc ?_ _) | (with_reducible refine Kd.C_drewN ?_ _) | (with_reducible refine Kd.C_drew ?_))); (case side2 => exact (Kd.N_reads' HO_9.out).2.1); rintro e w98 ⟨rfl, hb⟩; have n0_ := Aside0.mk (Kd.N_below (by (with_reducible repeat (first | apply Kd.N_alloc | apply Kd.N_drewN | apply Kd.N_drew)); exact HO_9.out) hb); have n1_ := Aside0.mk (blk_below (g := gb449) (o := .cells #[.int .u8 t444, .slice Ao91 t445.length co91] 57 (0, 0)) (by (with_reducible repeat (first | refine blk_drewN ?_ _ | refine blk_drew ?_ | refine blk_alloc ?_ _)); exact BK449.out) hb); have n2_ := Aside0.mk (below_step (by repeat (first | (with_reducible first | exact HB.out | apply below_alloc | apply pw_below_drewN | apply below_drew1 | refine below_set ?_ GE449.out) | exact HB.out)) hb); clear HO_9; clear BK449; clear HB; have HO_9 := n0_; have BK449 := n1_; have HB := n2_; clear n0_ n1_ n2_; (try clear hb); (try clear hb2); (try clear hk); (try clear hi)))
                        go_ret
                        exact ⟨by first | rfl | (simp [errW_none, errW_some] <;> rfl) | (simp [*, errW_none, errW_some] <;> rfl), by repeat (first | (with_reducible first | exact HB.out | apply below_alloc | apply pw_below_drewN | apply below_drew1 | refine below_set ?_ GE449.out) | exact HB.out)⟩
                      · replace c86 := Bool.eq_false_iff.mpr c86
                        subst c86
                        have H1 : (none) = some r := by rw [if_neg (show ¬ (false = true) by decide)] at H; exact H
                        clear H
                        have H := H1
                        clear H1
                        exact absurd H (by simp)
                    · replace c84 := Bool.eq_false_iff.mpr c84
                      subst c84
                      have H1 : (if (x19_3.length : Int) = 0 then (if t444 = 0 then (if (t445.length : Int) = 0 then ((tlv_Size.f k3 t410).bind fun t450 => (some (t450 == x18_3))) else (none)) else (none)) else (none)) = some r := by rw [if_neg (show ¬ (false = true) by decide)] at H; exact H
                      clear H
                      have H := H1
                      clear H1
                      by_cases c99 : (x19_3.length : Int) = 0
                      · rw [if_pos c99] at H
                        have c99b0 : ((x19_3.length : Int) == 0) = true := beq_iff_eq.mpr c99
                        have c99b1 : ((x19_3.length : Int) != 0) = false := bne_eq_false_iff_eq.mpr c99
                        clear c99
                        by_cases c100 : t444 = 0
                        · rw [if_pos c100] at H
                          have c100b0 : (t444 == 0) = true := beq_iff_eq.mpr c100
                          have c100b1 : (t444 != 0) = false := bne_eq_false_iff_eq.mpr c100
                          clear c100
                          by_cases c101 : (t445.length : Int) = 0
                          · rw [if_pos c101] at H
                            have c101b0 : ((t445.length : Int) == 0) = true := beq_iff_eq.mpr c101
                            have c101b1 : ((t445.length : Int) != 0) = false := bne_eq_false_iff_eq.mpr c101
                            clear c101
                            replace H := Option.bind_eq_some_iff.mp H
                            obtain ⟨t450, A1020, H⟩ := H
                            replace H : (some (t450 == x18_3)) = some r := H
                            have A102 := Aside0.mk A1020
                            clear A1020
                            obtain rfl := Option.some.inj H
                            go_wp2_with (first | ((with_reducible refine gate_callee (f := 29) rfl ?_); refine goesL_ (some 124) rfl rfl Try.func29 (by kernel_rfl) rfl #[.slice Ao31 t410.length co31, .int .u8 a3] rfl (by (try simp only [List.map_toArray, List.map_cons, List.map_nil]); first | done | rfl | (simp only [List.length_drop, List.length_take]; rfl)) ?_; (with_reducible refine (tlv_Find.calls _ _ t410 a3 t444 t445 false _ ?side1 ?side2 A83.out).mono ?_); (case side1 => repeat (first | exact (Kd.N_reads' HO_9.out).2.2 | (with_reducible refine Kd.C_alloc ?_ _) | (with_reducible refine Kd.C_drewN ?_ _) | (with_reducible refine Kd.C_drew ?_))); (case side2 => exact (Kd.N_reads' HO_9.out).2.1); rintro e w103 ⟨v446, rfl, ho0, hb⟩; refine ⟨_, rfl, ?_⟩; have n0_ := Aside0.mk (Kd.N_elder' (by (with_reducible repeat (first | apply Kd.N_alloc | apply Kd.N_drewN | apply Kd.N_drew)); exact HO_9.out) (Kd.R_base ho0) hb); have n1_ := Aside0.mk (Kd.N_elder' (by (with_reducible repeat (first | apply Kd.N_alloc | apply Kd.N_drewN | apply Kd.N_drew)); exact HO_19.out) (Kd.R_base ho0) hb); have n2_ := Aside0.mk (Kd.R_lower (Kd.R_newM (M := fun k_ => (w.heap.size ≤ k_)) ho0 (below_size (by repeat (first | (with_reducible first | exact HB.out | apply below_alloc | apply pw_below_drewN | apply below_drew1) | exact HB.out))) (fun k_ h_ => h_)) (below_size (by repeat (first | (with_reducible first | exact HB.out | apply below_alloc | apply pw_below_drewN | apply below_drew1) | exact HB.out)))); have n3_ := Aside0.mk (below_step (by repeat (first | (with_reducible first | exact HB.out | apply below_alloc | apply pw_below_drewN | apply below_drew1) | exact HB.out)) hb); clear HO_9; clear HO_19; clear HB; have HO_9 := n0_; have HO_19 := n1_; have HO447 := n2_; have HB := n3_; clear n0_ n1_ n2_ n3_; (try clear hb); (try clear hb2); (try clear hk); (try clear hi); (try clear ho0)) | ((with_reducible refine gate_dst (N := 22) rfl ?_); (try (refine gate_guard (by rfl) ?_; dsimp only)); refine box_event ?hg (N := 22) ?hd (cs := #[.int .u8 0, .slice none 0 0]) (t := 57) ?hr ?_; (case hd => rfl); (case hg => rfl); (case hr => first | (go_simp; done) | (go_simp; simp only [IntKind.wrap_u8, IntKind.wrap_u16, IntKind.wrap_u32, IntKind.wrap_u64]; done) | (go_simp; rfl)); intro gb449 hg w104 hbox hb; have n0_ := Aside0.mk (Kd.N_below (Kd.N_elderB (by (with_reducible repeat (first | apply Kd.N_alloc | apply Kd.N_drewN | apply Kd.N_drew)); exact HO_9.out) gb449 (Nat.le_of_eq hg.symm)) hb); have n1_ := Aside0.mk (Kd.N_below (Kd.N_elderB (by (with_reducible repeat (first | apply Kd.N_alloc | apply Kd.N_drewN | apply Kd.N_drew)); exact HO_19.out) gb449 (Nat.le_of_eq hg.symm)) hb); have n2_ := Aside0.mk (Kd.R_below (by (with_reducible repeat (first | apply Kd.R_alloc | apply Kd.R_drewN | apply Kd.R_drew)); exact HO447.out) hb); have n3_ := Aside0.mk (below_step (by repeat (first | (with_reducible first | exact HB.out | apply below_alloc | apply pw_below_drewN | apply below_drew1) | exact HB.out)) hb); have n4_ := Aside0.mk (hbox); have n5_ := Aside0.mk ((by rw [hg]; exact (below_size (by repeat (first | (with_reducible first | exact HB.out | apply below_alloc | apply pw_below_drewN | apply below_drew1) | exact HB.out))) : w.heap.size ≤ gb449)); have n6_ := Aside0.mk ((by rw [hg]; exact (below_size (by repeat (first | (with_reducible first | exact HB.out | apply below_alloc | apply pw_below_drewN | apply below_drew1) | exact HB.out))) : w.heap.size ≤ gb449)); clear HO_9; clear HO_19; clear HO447; clear HB; have HO_9 := n0_; have HO_19 := n1_; have HO447 := n2_; have HB := n3_; have BK449 := n4_; have GW449 := n5_; have GE449 := n6_; clear n0_ n1_ n2_ n3_ n4_ n5_ n6_; clear hb hbox hg; have hcz105_0 : w104.cell? ⟨gb449, 0, none⟩ = some (.int .u8 0) := (blk_cell BK449.out 0).trans rfl; have hcz105_1 : w104.cell? ⟨gb449, 1, none⟩ = some (.slice none 0 0) := (blk_cell BK449.out 1).trans rfl; have hfz105_0 := blk_frozen BK449.out 0; have hfz105_1 := blk_frozen BK449.out 1; obtain ⟨Ao106, co106, eo106⟩ := Kd.R_slice HO447.out; subst eo106; obtain ⟨Ao107, co107, eo107⟩ := Kd.N_slice HO_19.out; subst eo107) | (go_at_call 21; (with_reducible refine (tlv_Size.calls k3 _ _ t410 t450 _ ?side1 ?side2 A102.out).mono ?_); (case side1 => refine (Kd.N_reads' (e := 57) (base := w.heap.size) (ok := fun k_ => (((((P0_ k_ ∨ P1_ k_ ∨ P2_ k_) ∨ w.heap.size ≤ k_) ∧ some k_ ≠ (.slice Ao107 x19_3.length co107 : Value).ownBlock) ∧ some k_ ≠ (.slice Ao106 t445.length co106 : Value).ownBlock) ∧ k_ ≠ gb449)) (n := t410.length) (c := co31) ?_).2.2; exact (by (with_reducible repeat (first | apply Kd.N_alloc | apply Kd.N_drewN | apply Kd.N_drew)); exact (Kd.N_mono (Kd.N_far (p := ⟨gb449, 1, none⟩) (Kd.N_far (p := ⟨gb449, 0, none⟩) (Kd.N_mono HO_9.out (fun k_ hk => (⟨hk, hk.2⟩ : _ ∧ k_ ≠ gb449))) (fun _ hk => hk.2) (.int .u8 t444)) (fun _ hk => hk.2) (.slice Ao106 t445.length co106)) (fun _ h_ => h_.1)))); (case side2 => exact (Kd.N_reads' HO_9.out).2.1); rintro e w108 ⟨rfl, hb⟩; have n0_ := Aside0.mk (Kd.N_below (by (with_reducible repeat (first | apply Kd.N_alloc | apply Kd.N_drewN | apply Kd.N_drew)); exact (Kd.N_mono (Kd.N_far (p := ⟨gb449, 1, none⟩) (Kd.N_far (p := ⟨gb449, 0, none⟩) (Kd.N_mono HO_9.out (fun k_ hk => (⟨hk, hk.2⟩ : _ ∧ k_ ≠ gb449))) (fun _ hk => hk.2) (.int .u8 t444)) (fun _ hk => hk.2) (.slice Ao106 t445.length co106)) (fun _ h_ => h_.1))) hb); have n1_ := Aside0.mk (Kd.N_below (by (with_reducible repeat (first | apply Kd.N_alloc | apply Kd.N_drewN | apply Kd.N_drew)); exact (Kd.N_mono (Kd.N_far (p := ⟨gb449, 1, none⟩) (Kd.N_far (p := ⟨gb449, 0, none⟩) (Kd.N_mono HO_19.out (fun k_ hk => (⟨hk, hk.2⟩ : _ ∧ k_ ≠ gb449))) (fun _ hk => hk.2) (.int .u8 t444)) (fun _ hk => hk.2) (.slice Ao106 t445.length co106)) (fun _ h_ => h_.1))) hb); have n2_ := Aside0.mk (Kd.R_below (by (with_reducible repeat (first | apply Kd.R_alloc | apply Kd.R_drewN | apply Kd.R_drew)); exact (Kd.R_mono (Kd.R_far (p := ⟨gb449, 1, none⟩) (Kd.R_far (p := ⟨gb449, 0, none⟩) (Kd.R_types HO447.out BK449.out (by decide)) (fun _ hk => hk.2) (.int .u8 t444)) (fun _ hk => hk.2) (.slice Ao106 t445.length co106)) (fun _ h_ => h_.1))) hb); have n3_ := Aside0.mk (blk_below (g := gb449) (o := .cells #[.int .u8 t444, .slice Ao106 t445.length co106] 57 (0, 0)) (by (with_reducible repeat (first | refine blk_drewN ?_ _ | refine blk_drew ?_ | refine blk_alloc ?_ _)); refine blk_put (cs := #[.int .u8 t444, .slice none 0 0]) ?_ 1 _ rfl; (with_reducible repeat (first | refine blk_drewN ?_ _ | refine blk_drew ?_ | refine blk_alloc ?_ _)); refine blk_put (cs := #[.int .u8 0, .slice none 0 0]) ?_ 0 _ rfl; (with_reducible repeat (first | refine blk_drewN ?_ _ | refine blk_drew ?_ | refine blk_alloc ?_ _)); exact BK449.out) hb); have n4_ := Aside0.mk (below_step (by repeat (first | (with_reducible first | exact HB.out | apply below_alloc | apply pw_below_drewN | apply below_drew1 | refine below_set ?_ GE449.out) | exact HB.out)) hb); clear HO_9; clear HO_19; clear HO447; clear BK449; clear HB; have HO_9 := n0_; have HO_19 := n1_; have HO447 := n2_; have BK449 := n3_; have HB := n4_; clear n0_ n1_ n2_ n3_ n4_; (try clear hb); (try clear hb2); (try clear hk); (try clear hi)))
                            go_ret
                            exact ⟨by first | rfl | (simp [errW_none, errW_some] <;> rfl) | (simp [*, errW_none, errW_some] <;> rfl), by repeat (first | (with_reducible first | exact HB.out | apply below_alloc | apply pw_below_drewN | apply below_drew1 | refine below_set ?_ GE449.out) | exact HB.out)⟩
                          · rw [if_neg c101] at H
                            exact absurd H (by simp)
                        · rw [if_neg c100] at H
                          exact absurd H (by simp)
                      · rw [if_neg c99] at H
                        exact absurd H (by simp)

/-- THE ONE PURE STATEMENT of marlinelaw12_TlvTells: yours. -/
def marlinelaw12_TlvTells.Pure : Prop := ∀ (l0 : List (S56)) (l1 : List (S56)) (l2 : List Int) (a3 : Int), ((l0.length ≤ 9223372036854775807 ∧ l0.length * 32 ≤ 140737488351232) ∧ ∀ y0_ ∈ l0, ((Lit.int .u8 y0_.f0).wf = true ∧ ((y0_.f1.length ≤ 9223372036854775807 ∧ y0_.f1.length * 1 ≤ 140737488351232) ∧ ∀ y1_ ∈ y0_.f1, (Lit.int .u8 y1_).wf = true))) → ((l1.length ≤ 9223372036854775807 ∧ l1.length * 32 ≤ 140737488351232) ∧ ∀ y0_ ∈ l1, ((Lit.int .u8 y0_.f0).wf = true ∧ ((y0_.f1.length ≤ 9223372036854775807 ∧ y0_.f1.length * 1 ≤ 140737488351232) ∧ ∀ y1_ ∈ y0_.f1, (Lit.int .u8 y1_).wf = true))) → l2.length ≤ maxLen → l2.length * 1 ≤ 140737488351232 → (∀ x ∈ l2, (Lit.int .u8 x).wf = true) → (Lit.int .u8 a3).wf = true → ∃ k, marlinelaw12_TlvTells.f k l0 l1 l2 a3 = some true
theorem marlinelaw12_TlvTells.walk (P : marlinelaw12_TlvTells.Pure) (A0 : Option Addr) (c0 : Nat) (l0 : List (S56)) (A1 : Option Addr) (c1 : Nat) (l1 : List (S56)) (A2 : Option Addr) (c2 : Nat) (l2 : List Int) (a3 : Int) (w : World) (hr0 : Kd.C k56 w A0 l0.length l0) (hc0 : l0.length ≤ c0) (hw0 : ((l0.length ≤ 9223372036854775807 ∧ l0.length * 32 ≤ 140737488351232) ∧ ∀ y0_ ∈ l0, ((Lit.int .u8 y0_.f0).wf = true ∧ ((y0_.f1.length ≤ 9223372036854775807 ∧ y0_.f1.length * 1 ≤ 140737488351232) ∧ ∀ y1_ ∈ y0_.f1, (Lit.int .u8 y1_).wf = true)))) (hr1 : Kd.C k56 w A1 l1.length l1) (hc1 : l1.length ≤ c1) (hw1 : ((l1.length ≤ 9223372036854775807 ∧ l1.length * 32 ≤ 140737488351232) ∧ ∀ y0_ ∈ l1, ((Lit.int .u8 y0_.f0).wf = true ∧ ((y0_.f1.length ≤ 9223372036854775807 ∧ y0_.f1.length * 1 ≤ 140737488351232) ∧ ∀ y1_ ∈ y0_.f1, (Lit.int .u8 y1_).wf = true)))) (hr2 : Kd.C (Kd.int .u8) w A2 l2.length l2) (hc2 : l2.length ≤ c2) (hm2 : l2.length ≤ maxLen) (y2 : l2.length * 1 ≤ 140737488351232) (hw2 : ∀ x ∈ l2, (Lit.int .u8 x).wf = true) (hw3 : (Lit.int .u8 a3).wf = true) :
    Calls Try.prog 6 #[.slice A0 l0.length c0, .slice A1 l1.length c1, .slice A2 l2.length c2, .int .u8 a3] w fun e w' => e = .returned (.bool true) ∧ Below w.heap.size w w' := by
  obtain ⟨k, h⟩ := P l0 l1 l2 a3 hw0 hw1 hm2 y2 hw2 hw3
  refine (marlinelaw12_TlvTells.calls k (fun k_ => k_ < w.heap.size) _ _ l0 (fun k_ => k_ < w.heap.size) _ _ l1 (fun k_ => k_ < w.heap.size) _ _ l2 a3 true w (Kd.V_mk hc0 (Kd.C_F k56_heap hr0)) (Kd.V_mk hc1 (Kd.C_F k56_heap hr1)) (Kd.V_mk hc2 (Kd.C_F (Kd.heap_int .u8) hr2)) h).mono ?_
  rintro e w' ⟨rfl, hd⟩
  exact ⟨rfl, hd⟩

end Go.Proofs.Ytgjeahgagciagaa.Print
