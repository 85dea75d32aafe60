/- A text that a program of this claim (wip/x) laid out of the translation: what Go functions come to, and that they come to it. Lean checks it. -/
import Derived.Test.YtppfoopecdmblaaPrint0
namespace Go.Proofs.Ytppfoopecdmblaa.Print
open Go.RowKit Go.Proofs.YtppfoopecdmblaaW.PrintWords Go.Proofs.YtppfoopecdmblaaW.PrintLast Go.Proofs.YtppfoopecdmblaaW.PrintMore
attribute [local go_sem] max2_int min2_int max_two min_two max_three min_three max_four min_four   -- for this text's walks alone
set_option linter.unusedVariables false
set_option linter.unusedSimpArgs false

/-! ### marlineref13_Get: function 15 -/
def marlineref13_Get.f (l0 : List Int) : Option (Int × Int × List Int × Int × Int) := if (l0.length : Int) < 4 then (some (0, 0, ([] : List Int), 0, 2)) else (if 2 < (l0.length : Int) then (if 3 < (l0.length : Int) then (if (wrap64 ((wrap64 (256 * (wrap64 (rd l0 2)))) + (wrap64 (rd l0 3)))) < 4 then (some (0, 0, ([] : List Int), 0, 4)) else (if (wrap64 ((wrap64 (256 * (wrap64 (rd l0 2)))) + (wrap64 (rd l0 3)))) > (l0.length : Int) then (some (0, 0, ([] : List Int), 0, 2)) else (if 0 < (l0.length : Int) then (if 1 < (l0.length : Int) then (if 4 ≤ (wrap64 ((wrap64 (256 * (wrap64 (rd l0 2)))) + (wrap64 (rd l0 3)))) then (if (wrap64 ((wrap64 (256 * (wrap64 (rd l0 2)))) + (wrap64 (rd l0 3)))) ≤ (l0.length : Int) then (some (rd l0 0, rd l0 1, ((l0.take ((wrap64 ((wrap64 (256 * (wrap64 (rd l0 2)))) + (wrap64 (rd l0 3)))) : Int).toNat).drop 4), wrap64 ((l0.length : Int) - (wrap64 ((wrap64 (256 * (wrap64 (rd l0 2)))) + (wrap64 (rd l0 3))))), 0)) else (none)) else (none)) else (none)) else (none)))) else (none)) else (none))
set_option maxHeartbeats 8000000 in
set_option maxRecDepth 100000 in
theorem marlineref13_Get.calls (P0_ : Nat → Prop) (A0 : Option Addr) (c0 : Nat) (l0 : List Int) (r1 : Int) (r2 : Int) (r3 : List Int) (r4 : Int) (r5 : Int) (w : World) (hs0 : Kd.V (Kd.int .u8) 5 w w.heap.size (fun k_ => P0_ k_) (.slice A0 l0.length c0) l0) (h : marlineref13_Get.f l0 = some (r1, r2, r3, r4, r5)) :
    Calls Try.prog 15 #[.slice A0 l0.length c0] w fun e w' => ∃ v2_ : Value, e = .returned (.tuple #[.int .u8 r1, .int .u8 r2, v2_, .int .i64 r4, .int .i64 r5]) ∧ Kd.V (Kd.int .u8) 5 w' w.heap.size (fun k_ => (P0_ k_ ∨ w.heap.size ≤ k_)) v2_ r3 ∧ Below w.heap.size w w' := by
  have HO0 := Aside0.mk (show Kd.V (Kd.int .u8) 5 w w.heap.size (fun k_ => (P0_ k_ ∨ w.heap.size ≤ k_)) (.slice A0 l0.length c0) l0 from Kd.V_mono hs0 (fun k_ hk => .inl hk))
  have HB := Aside0.mk (Below.refl w.heap.size w)
  have H : (if (l0.length : Int) < 4 then (some (0, 0, ([] : List Int), 0, 2)) else (if 2 < (l0.length : Int) then (if 3 < (l0.length : Int) then (if (wrap64 ((wrap64 (256 * (wrap64 (rd l0 2)))) + (wrap64 (rd l0 3)))) < 4 then (some (0, 0, ([] : List Int), 0, 4)) else (if (wrap64 ((wrap64 (256 * (wrap64 (rd l0 2)))) + (wrap64 (rd l0 3)))) > (l0.length : Int) then (some (0, 0, ([] : List Int), 0, 2)) else (if 0 < (l0.length : Int) then (if 1 < (l0.length : Int) then (if 4 ≤ (wrap64 ((wrap64 (256 * (wrap64 (rd l0 2)))) + (wrap64 (rd l0 3)))) then (if (wrap64 ((wrap64 (256 * (wrap64 (rd l0 2)))) + (wrap64 (rd l0 3)))) ≤ (l0.length : Int) then (some (rd l0 0, rd l0 1, ((l0.take ((wrap64 ((wrap64 (256 * (wrap64 (rd l0 2)))) + (wrap64 (rd l0 3)))) : Int).toNat).drop 4), wrap64 ((l0.length : Int) - (wrap64 ((wrap64 (256 * (wrap64 (rd l0 2)))) + (wrap64 (rd l0 3))))), 0)) else (none)) else (none)) else (none)) else (none)))) else (none)) else (none))) = some (r1, r2, r3, r4, r5) := h
  clear h
  by_cases c2 : (l0.length : Int) < 4
  · rw [if_pos c2] at H
    have c2b0 : decide ((l0.length : Int) < 4) = true := decide_eq_true c2
    have c2b1 : decide (l0.length < 4) = true := decide_eq_true (by omega)
    clear c2
    simp only [Option.some.injEq, Prod.mk.injEq] at H
    obtain ⟨rfl, rfl, rfl, rfl, rfl⟩ := H
    go_enter Try.func15, Try.ntmps15
    go_wp2
    repeat (go_quiet (fail); try go_wp2)
    refine bodyPost_ret (results_list (rs := [.tmp 2, .tmp 3, .tmp 4, .tmp 5, .tmp 6]) rfl (by simp) (.tmp (.tmp (.tmp (.tmp (.tmp .nil)))))) rfl ?_
    exact ⟨_, by first | rfl | (simp [errW_none, errW_some] <;> rfl) | (simp [*, errW_none, errW_some] <;> rfl), (Kd.V_nil _ _ _ _ _), by repeat (first | (with_reducible first | exact HB.out | apply below_alloc | apply pw_below_drewN | apply below_drew1) | exact HB.out)⟩
  · rw [if_neg c2] at H
    have c2b0 : decide ((l0.length : Int) < 4) = false := decide_eq_false c2
    have c2b1 : decide (l0.length < 4) = false := decide_eq_false (by omega)
    clear c2
    by_cases c3 : 2 < (l0.length : Int)
    · rw [if_pos c3] at H
      have c3b0 : decide (2 < (l0.length : Int)) = true := decide_eq_true c3
      have c3b1 : decide (2 < l0.length) = true := decide_eq_true (by omega)
      clear c3
      by_cases c4 : 3 < (l0.length : Int)
      · rw [if_pos c4] at H
        have c4b0 : decide (3 < (l0.length : Int)) = true := decide_eq_true c4
        have c4b1 : decide (3 < l0.length) = true := decide_eq_true (by omega)
        clear c4
        by_cases c5 : (wrap64 ((wrap64 (256 * (wrap64 (rd l0 2)))) + (wrap64 (rd l0 3)))) < 4
        · rw [if_pos c5] at H
          have c5b0 : decide ((wrap64 ((wrap64 (256 * (wrap64 (rd l0 2)))) + (wrap64 (rd l0 3)))) < 4) = true := decide_eq_true c5
          clear c5
          simp only [Option.some.injEq, Prod.mk.injEq] at H
          obtain ⟨rfl, rfl, rfl, rfl, rfl⟩ := H
          have p171 : 0 ≤ (2 : Int) := (by omega)
          have q171 : 2 < (l0.length : Int) := of_decide_eq_true (by first | (with_reducible assumption) | assumption)
          obtain ⟨ad171, e171, hx171_0⟩ := Kd.at_int (Kd.V_reads' HO0.out).2.2 2 p171 q171
          cases e171
          (try simp only [show (2 : Int).toNat = 2 from rfl, Nat.reduceMul, Nat.reduceEqDiff, Go.Addr.add, ↓reduceIte] at hx171_0)
          have qi171 : (2 < l0.length) = True := eq_true (by omega)
          (try rw [show ((2 : Int)).toNat = 2 from rfl] at hx171_0)
          replace p171 := eq_true p171
          replace q171 := eq_true q171
          have p172 : 0 ≤ (3 : Int) := (by omega)
          have q172 : 3 < (l0.length : Int) := of_decide_eq_true (by first | (with_reducible assumption) | assumption)
          obtain ⟨ad172, e172, hx172_0⟩ := Kd.at_int (Kd.V_reads' HO0.out).2.2 3 p172 q172
          obtain rfl : ad171 = ad172 := (by injection e172)
          (try simp only [show (3 : Int).toNat = 3 from rfl, Nat.reduceMul, Nat.reduceEqDiff, Go.Addr.add, ↓reduceIte] at hx172_0)
          have qi172 : (3 < l0.length) = True := eq_true (by omega)
          (try rw [show ((3 : Int)).toNat = 3 from rfl] at hx172_0)
          replace p172 := eq_true p172
          replace q172 := eq_true q172
          go_enter Try.func15, Try.ntmps15
          go_wp2
          repeat (go_quiet (fail); try go_wp2)
          refine bodyPost_ret (results_list (rs := [.tmp 2, .tmp 3, .tmp 4, .tmp 5, .tmp 6]) rfl (by simp) (.tmp (.tmp (.tmp (.tmp (.tmp .nil)))))) rfl ?_
          exact ⟨_, by first | rfl | (simp [errW_none, errW_some] <;> rfl) | (simp [*, errW_none, errW_some] <;> rfl), (Kd.V_nil _ _ _ _ _), by repeat (first | (with_reducible first | exact HB.out | apply below_alloc | apply pw_below_drewN | apply below_drew1) | exact HB.out)⟩
        · rw [if_neg c5] at H
          have c5b0 : decide ((wrap64 ((wrap64 (256 * (wrap64 (rd l0 2)))) + (wrap64 (rd l0 3)))) < 4) = false := decide_eq_false c5
          clear c5
          by_cases c6 : (wrap64 ((wrap64 (256 * (wrap64 (rd l0 2)))) + (wrap64 (rd l0 3)))) > (l0.length : Int)
          · rw [if_pos c6] at H
            have c6b0 : decide ((l0.length : Int) < (wrap64 ((wrap64 (256 * (wrap64 (rd l0 2)))) + (wrap64 (rd l0 3))))) = true := decide_eq_true c6
            clear c6
            simp only [Option.some.injEq, Prod.mk.injEq] at H
            obtain ⟨rfl, rfl, rfl, rfl, rfl⟩ := H
            have p171 : 0 ≤ (2 : Int) := (by omega)
            have q171 : 2 < (l0.length : Int) := of_decide_eq_true (by first | (with_reducible assumption) | assumption)
            obtain ⟨ad171, e171, hx171_0⟩ := Kd.at_int (Kd.V_reads' HO0.out).2.2 2 p171 q171
            cases e171
            (try simp only [show (2 : Int).toNat = 2 from rfl, Nat.reduceMul, Nat.reduceEqDiff, Go.Addr.add, ↓reduceIte] at hx171_0)
            have qi171 : (2 < l0.length) = True := eq_true (by omega)
            (try rw [show ((2 : Int)).toNat = 2 from rfl] at hx171_0)
            replace p171 := eq_true p171
            replace q171 := eq_true q171
            have p172 : 0 ≤ (3 : Int) := (by omega)
            have q172 : 3 < (l0.length : Int) := of_decide_eq_true (by first | (with_reducible assumption) | assumption)
            obtain ⟨ad172, e172, hx172_0⟩ := Kd.at_int (Kd.V_reads' HO0.out).2.2 3 p172 q172
            obtain rfl : ad171 = ad172 := (by injection e172)
            (try simp only [show (3 : Int).toNat = 3 from rfl, Nat.reduceMul, Nat.reduceEqDiff, Go.Addr.add, ↓reduceIte] at hx172_0)
            have qi172 : (3 < l0.length) = True := eq_true (by omega)
            (try rw [show ((3 : Int)).toNat = 3 from rfl] at hx172_0)
            replace p172 := eq_true p172
            replace q172 := eq_true q172
            go_enter Try.func15, Try.ntmps15
            go_wp2
            repeat (go_quiet (fail); try go_wp2)
            refine bodyPost_ret (results_list (rs := [.tmp 2, .tmp 3, .tmp 4, .tmp 5, .tmp 6]) rfl (by simp) (.tmp (.tmp (.tmp (.tmp (.tmp .nil)))))) rfl ?_
            exact ⟨_, by first | rfl | (simp [errW_none, errW_some] <;> rfl) | (simp [*, errW_none, errW_some] <;> rfl), (Kd.V_nil _ _ _ _ _), by repeat (first | (with_reducible first | exact HB.out | apply below_alloc | apply pw_below_drewN | apply below_drew1) | exact HB.out)⟩
          · rw [if_neg c6] at H
            have c6b0 : decide ((l0.length : Int) < (wrap64 ((wrap64 (256 * (wrap64 (rd l0 2)))) + (wrap64 (rd l0 3))))) = false := decide_eq_false c6
            clear c6
            by_cases c7 : 0 < (l0.length : Int)
            · rw [if_pos c7] at H
              have c7b0 : decide (0 < (l0.length : Int)) = true := decide_eq_true c7
              have c7b1 : decide (0 < l0.length) = true := decide_eq_true (by omega)
              clear c7
              by_cases c8 : 1 < (l0.length : Int)
              · rw [if_pos c8] at H
                have c8b0 : decide (1 < (l0.length : Int)) = true := decide_eq_true c8
                have c8b1 : decide (1 < l0.length) = true := decide_eq_true (by omega)
                clear c8
                by_cases c9 : 4 ≤ (wrap64 ((wrap64 (256 * (wrap64 (rd l0 2)))) + (wrap64 (rd l0 3))))
                · rw [if_pos c9] at H
                  have c9b0 := eq_true c9
                  have c9b1 : decide (4 ≤ (wrap64 ((wrap64 (256 * (wrap64 (rd l0 2)))) + (wrap64 (rd l0 3))))) = true := decide_eq_true c9
                  by_cases c10 : (wrap64 ((wrap64 (256 * (wrap64 (rd l0 2)))) + (wrap64 (rd l0 3)))) ≤ (l0.length : Int)
                  · rw [if_pos c10] at H
                    have c10b0 := eq_true c10
                    have c10b1 : decide ((wrap64 ((wrap64 (256 * (wrap64 (rd l0 2)))) + (wrap64 (rd l0 3)))) ≤ (l0.length : Int)) = true := decide_eq_true c10
                    obtain ⟨y175, hy175⟩ : ∃ y_ : List Int, y_ = ((l0.take ((wrap64 ((wrap64 (256 * (wrap64 (rd l0 2)))) + (wrap64 (rd l0 3)))) : Int).toNat).drop 4) := ⟨_, rfl⟩
                    replace H : (some (rd l0 0, rd l0 1, y175, wrap64 ((l0.length : Int) - (wrap64 ((wrap64 (256 * (wrap64 (rd l0 2)))) + (wrap64 (rd l0 3))))), 0)) = some (r1, r2, r3, r4, r5) := by first | (rw [hy175]; with_reducible exact H) | (have H2_ := (Option.bind_some _ _).symm.trans H; rw [hy175]; with_reducible exact H2_) | (have H2_ := (Option.bind_some _ _).symm.trans H; with_reducible exact H2_) | with_reducible exact H | (rw [hy175]; exact H) | exact H
                    have Ny175 := Aside0.mk hy175
                    clear hy175
                    simp only [Option.some.injEq, Prod.mk.injEq] at H
                    obtain ⟨rfl, rfl, rfl, rfl, rfl⟩ := H
                    have p171 : 0 ≤ (2 : Int) := (by omega)
                    have q171 : 2 < (l0.length : Int) := of_decide_eq_true (by first | (with_reducible assumption) | assumption)
                    obtain ⟨ad171, e171, hx171_0⟩ := Kd.at_int (Kd.V_reads' HO0.out).2.2 2 p171 q171
                    cases e171
                    (try simp only [show (2 : Int).toNat = 2 from rfl, Nat.reduceMul, Nat.reduceEqDiff, Go.Addr.add, ↓reduceIte] at hx171_0)
                    have qi171 : (2 < l0.length) = True := eq_true (by omega)
                    (try rw [show ((2 : Int)).toNat = 2 from rfl] at hx171_0)
                    replace p171 := eq_true p171
                    replace q171 := eq_true q171
                    have p172 : 0 ≤ (3 : Int) := (by omega)
                    have q172 : 3 < (l0.length : Int) := of_decide_eq_true (by first | (with_reducible assumption) | assumption)
                    obtain ⟨ad172, e172, hx172_0⟩ := Kd.at_int (Kd.V_reads' HO0.out).2.2 3 p172 q172
                    obtain rfl : ad171 = ad172 := (by injection e172)
                    (try simp only [show (3 : Int).toNat = 3 from rfl, Nat.reduceMul, Nat.reduceEqDiff, Go.Addr.add, ↓reduceIte] at hx172_0)
                    have qi172 : (3 < l0.length) = True := eq_true (by omega)
                    (try rw [show ((3 : Int)).toNat = 3 from rfl] at hx172_0)
                    replace p172 := eq_true p172
                    replace q172 := eq_true q172
                    have p173 : 0 ≤ (0 : Int) := (by omega)
                    have q173 : 0 < (l0.length : Int) := of_decide_eq_true (by first | (with_reducible assumption) | assumption)
                    obtain ⟨ad173, e173, hx173_0⟩ := Kd.at_int (Kd.V_reads' HO0.out).2.2 0 p173 q173
                    obtain rfl : ad171 = ad173 := (by injection e173)
                    have qi173 : (0 < l0.length) = True := eq_true (by omega)
                    (try rw [show ((0 : Int)).toNat = 0 from rfl] at hx173_0)
                    (try rw [Addr.add_zero'] at hx173_0)
                    replace p173 := eq_true p173
                    replace q173 := eq_true q173
                    have p174 : 0 ≤ (1 : Int) := (by omega)
                    have q174 : 1 < (l0.length : Int) := of_decide_eq_true (by first | (with_reducible assumption) | assumption)
                    obtain ⟨ad174, e174, hx174_0⟩ := Kd.at_int (Kd.V_reads' HO0.out).2.2 1 p174 q174
                    obtain rfl : ad171 = ad174 := (by injection e174)
                    (try simp only [show (1 : Int).toNat = 1 from rfl, Nat.reduceMul, Nat.reduceEqDiff, Go.Addr.add, ↓reduceIte] at hx174_0)
                    have qi174 : (1 < l0.length) = True := eq_true (by omega)
                    (try rw [show ((1 : Int)).toNat = 1 from rfl] at hx174_0)
                    replace p174 := eq_true p174
                    replace q174 := eq_true q174
                    have q11 : ((wrap64 ((wrap64 (256 * (wrap64 (rd l0 2)))) + (wrap64 (rd l0 3)))) : Int) ≤ ((l0.length : Int) : Int) := of_decide_eq_true (by first | (with_reducible assumption) | assumption)
                    obtain ⟨i011, hi011, _, hsz11, _⟩ := info_parts info5
                    have hroom11 : l0.length ≤ c0 := (Kd.V_reads' HO0.out).2.1
                    have hC11 : Kd.F (Kd.int .u8) _ _ (some ad171) l0.length l0 := (Kd.V_at (base := w.heap.size) HO0.out).2.2
                    have ql11 : (4 : Int) ≤ ((wrap64 ((wrap64 (256 * (wrap64 (rd l0 2)))) + (wrap64 (rd l0 3)))) : Int) := of_decide_eq_true (by first | (with_reducible assumption) | assumption)
                    have hcut11 := cut_mid (P := Try.prog) 22 5 .i64 .i64 Try.underlying22 hi011 1 hsz11 (some ad171) l0.length c0 4 (wrap64 ((wrap64 (256 * (wrap64 (rd l0 2)))) + (wrap64 (rd l0 3)))) (by omega) ql11 q11 hroom11
                    have hr11 := Kd.F_mid (lo := (4 : Int).toNat) (hi := ((wrap64 ((wrap64 (256 * (wrap64 (rd l0 2)))) + (wrap64 (rd l0 3)))) : Int).toNat) (c := c0) hC11 (by omega) (by omega) hroom11
                    obtain ⟨A11, hA11⟩ : ∃ A1, A1 = (if c0 = (4 : Int).toNat then (some ad171) else ((some ad171) : Option Addr).map (·.add ((4 : Int).toNat * 1))) := ⟨_, rfl⟩
                    obtain ⟨c11, hc11⟩ : ∃ c1, c1 = c0 - (4 : Int).toNat := ⟨_, rfl⟩
                    have hy11 : y175.length = ((wrap64 ((wrap64 (256 * (wrap64 (rd l0 2)))) + (wrap64 (rd l0 3)))) : Int).toNat - (4 : Int).toNat := (by rw [Ny175.out, List.length_drop, List.length_take] <;> omega)
                    rw [show ((l0).take ((wrap64 ((wrap64 (256 * (wrap64 (rd l0 2)))) + (wrap64 (rd l0 3)))) : Int).toNat).drop (4 : Int).toNat = y175 from Ny175.out.symm] at hr11
                    replace hr11 : Kd.F (Kd.int .u8) _ _ A11 y175.length y175 := (by rw [hA11]; exact hr11)
                    rw [← hy11, ← hA11, ← hc11] at hcut11
                    have HO179 := Aside0.mk (show Kd.V (Kd.int .u8) 5 _ w.heap.size _ (.slice A11 y175.length c11) y175 from Kd.V_mk (by rw [hy11, hc11]; exact Nat.sub_le_sub_right (Nat.le_trans (by omega) hroom11) _) hr11)
                    have HC179 := Aside0.mk (show y175.length ≤ c11 from by rw [hy11, hc11]; exact Nat.sub_le_sub_right (Nat.le_trans (by omega) hroom11) _)
                    clear hr11 hC11 hroom11 hi011 hsz11 hc11
                    have KY11 := Aside0.mk hy11
                    have KA11 := Aside0.mk hA11
                    clear hy11 hA11
                    replace q11 := eq_true q11
                    go_enter Try.func15, Try.ntmps15
                    go_wp2
                    repeat (go_quiet (fail); try go_wp2)
                    refine bodyPost_ret (results_list (rs := [.tmp 2, .tmp 3, .tmp 4, .tmp 5, .tmp 6]) rfl (by simp) (.tmp (.tmp (.tmp (.tmp (.tmp .nil)))))) rfl ?_
                    exact ⟨_, by first | rfl | (simp [errW_none, errW_some] <;> rfl) | (simp [*, errW_none, errW_some] <;> rfl), by (with_reducible repeat (first | apply Kd.V_alloc | apply Kd.V_drewN | apply Kd.V_drew)); exact HO179.out, by repeat (first | (with_reducible first | exact HB.out | apply below_alloc | apply pw_below_drewN | apply below_drew1) | exact HB.out)⟩
                  · rw [if_neg c10] at H
                    exact absurd H (by simp)
                · rw [if_neg c9] at H
                  exact absurd H (by simp)
              · rw [if_neg c8] at H
                exact absurd H (by simp)
            · rw [if_neg c7] at H
              exact absurd H (by simp)
      · rw [if_neg c4] at H
        exact absurd H (by simp)
    · rw [if_neg c3] at H
      exact absurd H (by simp)

end Go.Proofs.Ytppfoopecdmblaa.Print
