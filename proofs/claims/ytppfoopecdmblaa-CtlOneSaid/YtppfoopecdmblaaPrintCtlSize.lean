/- A text that a program of this claim (wip/x) laid out of the translation: what Go functions come to, and that they come to it. Lean checks it. -/
import Derived.Test.YtppfoopecdmblaaPrint0
import Derived.Test.YtppfoopecdmblaaPrintWireGet
namespace Go.Proofs.Ytppfoopecdmblaa.Print
open Go.RowKit Go.Proofs.YtppfoopecdmblaaW.PrintWords Go.Proofs.YtppfoopecdmblaaW.PrintLast Go.Proofs.YtppfoopecdmblaaW.PrintMore
attribute [local go_sem] max2_int min2_int max_two min_two max_three min_three max_four min_four   -- for this text's walks alone
set_option linter.unusedVariables false
set_option linter.unusedSimpArgs false

/-! ### ctl_size: function 26 -/
def ctl_size.f (k : Nat) (l0 : List Int) : Option (Int × Int) := if (l0.length : Int) < 4 then (some (0, 2)) else (if 2 ≤ (l0.length : Int) then ((wire_Get.f k (l0.drop 2) 2).bind fun t122 => (if (wrap64 (t122)) < 4 then (some (0, 4)) else (if (wrap64 (t122)) > (l0.length : Int) then (some (0, 2)) else (some (wrap64 (t122), 0))))) else (none))
theorem ctl_size.mono : ∀ a0 k, LeO (ctl_size.f k a0) (ctl_size.f (k + 1) a0) := by
  intro a0 k
  unfold ctl_size.f
  repeat' first
      | (with_reducible exact wire_Get.mono _ _ _)
      | (with_reducible exact LeO.refl _)
      | (with_reducible exact LeO.none _)
      | (with_reducible refine LeO.ite ?_ ?_)
      | (with_reducible refine LeO.bind ?_ (fun _ => ?_))
      | exact wire_Get.mono _ _ _
      | exact LeO.none _
      | refine LeO.ite ?_ ?_
      | refine LeO.bind ?_ (fun _ => ?_)
set_option maxHeartbeats 8000000 in
set_option maxRecDepth 100000 in
theorem ctl_size.calls (k : Nat) (A0 : Option Addr) (c0 : Nat) (l0 : List Int) (r1 : Int) (r2 : Int) (w : World) (hr0 : Kd.C (Kd.int .u8) w A0 l0.length l0) (hc0 : l0.length ≤ c0) (h : ctl_size.f k l0 = some (r1, r2)) :
    Calls Try.prog 26 #[.slice A0 l0.length c0] w fun e w' => e = .returned (.tuple #[.int .i64 r1, .int .i64 r2]) ∧ Drawn0 w w' := by
  have HR0 := Aside0.mk hr0
  have HC0 := Aside0.mk hc0
  clear hr0 hc0
  have H : (if (l0.length : Int) < 4 then (some (0, 2)) else (if 2 ≤ (l0.length : Int) then ((wire_Get.f k (l0.drop 2) 2).bind fun t122 => (if (wrap64 (t122)) < 4 then (some (0, 4)) else (if (wrap64 (t122)) > (l0.length : Int) then (some (0, 2)) else (some (wrap64 (t122), 0))))) else (none))) = some (r1, r2) := h
  clear h
  by_cases c2 : (l0.length : Int) < 4
  · rw [if_pos c2] at H
    have c2b0 : decide ((l0.length : Int) < 4) = true := decide_eq_true c2
    have c2b1 : decide (l0.length < 4) = true := decide_eq_true (by omega)
    clear c2
    simp only [Option.some.injEq, Prod.mk.injEq] at H
    obtain ⟨rfl, rfl⟩ := H
    go_enter Try.func26, Try.ntmps26
    go_wp2
    go_ret2
    exact ⟨by first | rfl | (simp; done) | (simp [*]; done), by repeat (first | exact Drawn0.refl _ | apply Drawn0.step)⟩
  · rw [if_neg c2] at H
    have c2b0 : decide ((l0.length : Int) < 4) = false := decide_eq_false c2
    have c2b1 : decide (l0.length < 4) = false := decide_eq_false (by omega)
    clear c2
    by_cases c3 : 2 ≤ (l0.length : Int)
    · rw [if_pos c3] at H
      have c3b0 := eq_true c3
      have c3b1 : decide (2 ≤ (l0.length : Int)) = true := decide_eq_true c3
      clear c3
      obtain ⟨y118, hy118⟩ : ∃ y_ : List Int, y_ = (l0.drop 2) := ⟨_, rfl⟩
      replace H : ((wire_Get.f k y118 2).bind fun t122 => (if (wrap64 (t122)) < 4 then (some (0, 4)) else (if (wrap64 (t122)) > (l0.length : Int) then (some (0, 2)) else (some (wrap64 (t122), 0))))) = some (r1, r2) := by first | (rw [hy118]; with_reducible exact H) | (have H2_ := (Option.bind_some _ _).symm.trans H; rw [hy118]; with_reducible exact H2_) | (have H2_ := (Option.bind_some _ _).symm.trans H; with_reducible exact H2_) | with_reducible exact H | (rw [hy118]; exact H) | exact H
      have Ny118 := Aside0.mk hy118
      clear hy118
      replace H := Option.bind_eq_some_iff.mp H
      obtain ⟨t122, A40, H⟩ := H
      replace H : (if (wrap64 (t122)) < 4 then (some (0, 4)) else (if (wrap64 (t122)) > (l0.length : Int) then (some (0, 2)) else (some (wrap64 (t122), 0)))) = some (r1, r2) := H
      have A4 := Aside0.mk A40
      clear A40
      by_cases c5 : (wrap64 (t122)) < 4
      · rw [if_pos c5] at H
        have c5b0 : decide ((wrap64 (t122)) < 4) = true := decide_eq_true c5
        clear c5
        simp only [Option.some.injEq, Prod.mk.injEq] at H
        obtain ⟨rfl, rfl⟩ := H
        have q6 : (2 : Int) ≤ ((l0.length : Int) : Int) := of_decide_eq_true (by first | (with_reducible assumption) | assumption)
        obtain ⟨i06, hi06, _, hsz6, _⟩ := info_parts info5
        have hroom6 : l0.length ≤ c0 := HC0.out
        have hC6 : Kd.C (Kd.int .u8) _ A0 l0.length l0 := HR0.out
        have hcut6 := cut_from (P := Try.prog) 22 5 .i64 Try.underlying22 hi06 1 hsz6 A0 l0.length c0 2 (by omega) q6
        have hr6 := Kd.C_drop (m := (2 : Int).toNat) (c := c0) hC6 (by omega) hroom6
        obtain ⟨A6, hA6⟩ : ∃ A1, A1 = (if c0 = (2 : Int).toNat then A0 else (A0 : Option Addr).map (·.add ((2 : Int).toNat * 1))) := ⟨_, rfl⟩
        obtain ⟨c6, hc6⟩ : ∃ c1, c1 = c0 - (2 : Int).toNat := ⟨_, rfl⟩
        have hy6 : y118.length = l0.length - (2 : Int).toNat := (by rw [Ny118.out, List.length_drop] <;> omega)
        rw [show (l0).drop (2 : Int).toNat = y118 from Ny118.out.symm] at hr6
        replace hr6 : Kd.C (Kd.int .u8) _ A6 y118.length y118 := (by rw [hA6]; exact hr6)
        rw [← hy6, ← hA6, ← hc6] at hcut6
        have HR121 := Aside0.mk hr6
        have HC121 := Aside0.mk (show y118.length ≤ c6 from by rw [hy6, hc6]; exact Nat.sub_le_sub_right hroom6 _)
        clear hr6 hC6 hroom6 hi06 hsz6 hc6
        have KY6 := Aside0.mk hy6
        have KA6 := Aside0.mk hA6
        clear hy6 hA6
        replace q6 := eq_true q6
        go_enter Try.func26, Try.ntmps26
        go_wp2_with (first | ((with_reducible refine gate_callee (f := 36) rfl ?_); refine goesL_ (some 10) rfl rfl Try.func36 (by kernel_rfl) rfl #[.slice A6 y118.length c6, .int .i64 2] rfl (by (try simp only [List.map_toArray, List.map_cons, List.map_nil]); first | done | rfl | (simp only [List.length_drop, List.length_take]; rfl)) ?_; (with_reducible refine (wire_Get.calls k _ _ y118 2 t122 _ ?side1 ?side2 A4.out).mono ?_); (case side1 => repeat (first | exact HR121.out | (with_reducible refine Kd.C_alloc ?_ _) | (with_reducible refine Kd.C_drewN ?_ _) | (with_reducible refine Kd.C_drew ?_))); (case side2 => exact HC121.out); rintro e w' ⟨rfl, ⟨nd, rfl⟩⟩; refine ⟨_, rfl, ?_⟩))
        go_ret2
        exact ⟨by first | rfl | (simp; done) | (simp [*]; done), by repeat (first | exact Drawn0.refl _ | apply Drawn0.step)⟩
      · rw [if_neg c5] at H
        have c5b0 : decide ((wrap64 (t122)) < 4) = false := decide_eq_false c5
        clear c5
        by_cases c7 : (wrap64 (t122)) > (l0.length : Int)
        · rw [if_pos c7] at H
          have c7b0 : decide ((l0.length : Int) < (wrap64 (t122))) = true := decide_eq_true c7
          clear c7
          simp only [Option.some.injEq, Prod.mk.injEq] at H
          obtain ⟨rfl, rfl⟩ := H
          have q8 : (2 : Int) ≤ ((l0.length : Int) : Int) := of_decide_eq_true (by first | (with_reducible assumption) | assumption)
          obtain ⟨i08, hi08, _, hsz8, _⟩ := info_parts info5
          have hroom8 : l0.length ≤ c0 := HC0.out
          have hC8 : Kd.C (Kd.int .u8) _ A0 l0.length l0 := HR0.out
          have hcut8 := cut_from (P := Try.prog) 22 5 .i64 Try.underlying22 hi08 1 hsz8 A0 l0.length c0 2 (by omega) q8
          have hr8 := Kd.C_drop (m := (2 : Int).toNat) (c := c0) hC8 (by omega) hroom8
          obtain ⟨A8, hA8⟩ : ∃ A1, A1 = (if c0 = (2 : Int).toNat then A0 else (A0 : Option Addr).map (·.add ((2 : Int).toNat * 1))) := ⟨_, rfl⟩
          obtain ⟨c8, hc8⟩ : ∃ c1, c1 = c0 - (2 : Int).toNat := ⟨_, rfl⟩
          have hy8 : y118.length = l0.length - (2 : Int).toNat := (by rw [Ny118.out, List.length_drop] <;> omega)
          rw [show (l0).drop (2 : Int).toNat = y118 from Ny118.out.symm] at hr8
          replace hr8 : Kd.C (Kd.int .u8) _ A8 y118.length y118 := (by rw [hA8]; exact hr8)
          rw [← hy8, ← hA8, ← hc8] at hcut8
          have HR121 := Aside0.mk hr8
          have HC121 := Aside0.mk (show y118.length ≤ c8 from by rw [hy8, hc8]; exact Nat.sub_le_sub_right hroom8 _)
          clear hr8 hC8 hroom8 hi08 hsz8 hc8
          have KY8 := Aside0.mk hy8
          have KA8 := Aside0.mk hA8
          clear hy8 hA8
          replace q8 := eq_true q8
          go_enter Try.func26, Try.ntmps26
          go_wp2_with (first | ((with_reducible refine gate_callee (f := 36) rfl ?_); refine goesL_ (some 10) rfl rfl Try.func36 (by kernel_rfl) rfl #[.slice A8 y118.length c8, .int .i64 2] rfl (by (try simp only [List.map_toArray, List.map_cons, List.map_nil]); first | done | rfl | (simp only [List.length_drop, List.length_take]; rfl)) ?_; (with_reducible refine (wire_Get.calls k _ _ y118 2 t122 _ ?side1 ?side2 A4.out).mono ?_); (case side1 => repeat (first | exact HR121.out | (with_reducible refine Kd.C_alloc ?_ _) | (with_reducible refine Kd.C_drewN ?_ _) | (with_reducible refine Kd.C_drew ?_))); (case side2 => exact HC121.out); rintro e w' ⟨rfl, ⟨nd, rfl⟩⟩; refine ⟨_, rfl, ?_⟩))
          go_ret2
          exact ⟨by first | rfl | (simp; done) | (simp [*]; done), by repeat (first | exact Drawn0.refl _ | apply Drawn0.step)⟩
        · rw [if_neg c7] at H
          have c7b0 : decide ((l0.length : Int) < (wrap64 (t122))) = false := decide_eq_false c7
          clear c7
          simp only [Option.some.injEq, Prod.mk.injEq] at H
          obtain ⟨rfl, rfl⟩ := H
          have q9 : (2 : Int) ≤ ((l0.length : Int) : Int) := of_decide_eq_true (by first | (with_reducible assumption) | assumption)
          obtain ⟨i09, hi09, _, hsz9, _⟩ := info_parts info5
          have hroom9 : l0.length ≤ c0 := HC0.out
          have hC9 : Kd.C (Kd.int .u8) _ A0 l0.length l0 := HR0.out
          have hcut9 := cut_from (P := Try.prog) 22 5 .i64 Try.underlying22 hi09 1 hsz9 A0 l0.length c0 2 (by omega) q9
          have hr9 := Kd.C_drop (m := (2 : Int).toNat) (c := c0) hC9 (by omega) hroom9
          obtain ⟨A9, hA9⟩ : ∃ A1, A1 = (if c0 = (2 : Int).toNat then A0 else (A0 : Option Addr).map (·.add ((2 : Int).toNat * 1))) := ⟨_, rfl⟩
          obtain ⟨c9, hc9⟩ : ∃ c1, c1 = c0 - (2 : Int).toNat := ⟨_, rfl⟩
          have hy9 : y118.length = l0.length - (2 : Int).toNat := (by rw [Ny118.out, List.length_drop] <;> omega)
          rw [show (l0).drop (2 : Int).toNat = y118 from Ny118.out.symm] at hr9
          replace hr9 : Kd.C (Kd.int .u8) _ A9 y118.length y118 := (by rw [hA9]; exact hr9)
          rw [← hy9, ← hA9, ← hc9] at hcut9
          have HR121 := Aside0.mk hr9
          have HC121 := Aside0.mk (show y118.length ≤ c9 from by rw [hy9, hc9]; exact Nat.sub_le_sub_right hroom9 _)
          clear hr9 hC9 hroom9 hi09 hsz9 hc9
          have KY9 := Aside0.mk hy9
          have KA9 := Aside0.mk hA9
          clear hy9 hA9
          replace q9 := eq_true q9
          go_enter Try.func26, Try.ntmps26
          go_wp2_with (first | ((with_reducible refine gate_callee (f := 36) rfl ?_); refine goesL_ (some 10) rfl rfl Try.func36 (by kernel_rfl) rfl #[.slice A9 y118.length c9, .int .i64 2] rfl (by (try simp only [List.map_toArray, List.map_cons, List.map_nil]); first | done | rfl | (simp only [List.length_drop, List.length_take]; rfl)) ?_; (with_reducible refine (wire_Get.calls k _ _ y118 2 t122 _ ?side1 ?side2 A4.out).mono ?_); (case side1 => repeat (first | exact HR121.out | (with_reducible refine Kd.C_alloc ?_ _) | (with_reducible refine Kd.C_drewN ?_ _) | (with_reducible refine Kd.C_drew ?_))); (case side2 => exact HC121.out); rintro e w' ⟨rfl, ⟨nd, rfl⟩⟩; refine ⟨_, rfl, ?_⟩))
          go_ret2
          exact ⟨by first | rfl | (simp; done) | (simp [*]; done), by repeat (first | exact Drawn0.refl _ | apply Drawn0.step)⟩
    · rw [if_neg c3] at H
      exact absurd H (by simp)

end Go.Proofs.Ytppfoopecdmblaa.Print
