/- Texts of this claim, several in one, told shortly by a program of this claim (wip/x/shrink.py): what Go functions come to, and plain words on it. -/
import Derived.Test.YtgjeahgagciagaaShPapKeeps3
namespace Go.Proofs.Ytgjeahgagciagaa.Print
open Go.RowKit Go.Proofs.YtgjeahgagciagaaW.PrintWords Go.Proofs.YtgjeahgagciagaaW.PrintLast Go.Proofs.YtgjeahgagciagaaW.PrintMore
attribute [local go_sem] max2_int min2_int max_two min_two max_three min_three max_four min_four
set_option linter.unusedVariables false
set_option linter.unusedSimpArgs false
def pap_text.f (l0 : List Int) : Option (List Int × List Int × Bool) := if (l0.length : Int) = 0 then (some (([] : List Int), ([] : List Int), false)) else (if 0 < (l0.length : Int) then (if (l0.length : Int) ≤ (wrap64 (rd l0 0)) then (some (([] : List Int), ([] : List Int), false)) else (if 1 ≤ (wrap64 (1 + (wrap64 (rd l0 0)))) then (if (wrap64 (1 + (wrap64 (rd l0 0)))) ≤ (l0.length : Int) then ((slices_Clone_byte_byte.f ((l0.take ((wrap64 (1 + (wrap64 (rd l0 0)))) : Int).toNat).drop 1)).bind fun t918 => (if 0 ≤ (wrap64 (1 + (wrap64 (rd l0 0)))) then (some (t918, (l0.drop ((wrap64 (1 + (wrap64 (rd l0 0)))) : Int).toNat), true)) else (none))) else (none)) else (none))) else (none))
def pap_text.T4 : Bool × List (List Nat × List Nat) := (true, [([], []), ([], []), ([0, 1], [0, 1]), ([2], [2]), ([], []), ([], []), ([4, 5], [4, 5]), ([3, 3, 0, 1, 2, 3], [3]), ([6, 7, 0, 1, 2, 3, 4, 5, 6, 7], [6]), ([8, 0, 1, 2, 3, 4, 5, 6, 7, 8], [])])
def pap_text.B4 : List Nat := [0, 0, 3, 7, 0, 0, 48, 15, 255, 511]
theorem pap_text.tab4 : rtab .any (opsOf Try.f54 4) = pap_text.T4 := by kernel_rfl
theorem pap_text.bits4 : waitsOk pap_text.T4.2 pap_text.B4 = true := by kernel_rfl
set_option maxHeartbeats 8000000 in
set_option maxRecDepth 100000 in
theorem pap_text.calls (P0_ : Nat → Prop) (A0 : Option Addr) (c0 : Nat) (l0 : List Int) (r1 : List Int) (r2 : List Int) (r3 : Bool) (w : World) (hs0 : Kd.V (Kd.int .u8) 5 w w.heap.size (fun k_ => P0_ k_) (.slice A0 l0.length c0) l0) (h : pap_text.f l0 = some (r1, r2, r3)) :
 Calls Try.prog 54 #[.slice A0 l0.length c0] w fun e w' => ∃ v0_ v1_ : Value, e = .returned (.tuple #[v0_, v1_, .bool r3]) ∧ Kd.R (Kd.int .u8) 5 w' w.heap.size (fun k_ => (w.heap.size ≤ k_)) v0_ r1 ∧ Kd.V (Kd.int .u8) 5 w' w.heap.size (fun k_ => (P0_ k_ ∨ w.heap.size ≤ k_) ∧ some k_ ≠ (v0_ : Value).ownBlock) v1_ r2 ∧ Below w.heap.size w w' := by
 have HO0 := Aside0.mk (show Kd.V (Kd.int .u8) 5 w w.heap.size (fun k_ => (P0_ k_ ∨ w.heap.size ≤ k_)) (.slice A0 l0.length c0) l0 from Kd.V_mono hs0 (fun k_ hk => .inl hk))
 have HB := Aside0.mk (Below.refl w.heap.size w)
 have H : (if (l0.length : Int) = 0 then (some (([] : List Int), ([] : List Int), false)) else (if 0 < (l0.length : Int) then (if (l0.length : Int) ≤ (wrap64 (rd l0 0)) then (some (([] : List Int), ([] : List Int), false)) else (if 1 ≤ (wrap64 (1 + (wrap64 (rd l0 0)))) then (if (wrap64 (1 + (wrap64 (rd l0 0)))) ≤ (l0.length : Int) then ((slices_Clone_byte_byte.f ((l0.take ((wrap64 (1 + (wrap64 (rd l0 0)))) : Int).toNat).drop 1)).bind fun t918 => (if 0 ≤ (wrap64 (1 + (wrap64 (rd l0 0)))) then (some (t918, (l0.drop ((wrap64 (1 + (wrap64 (rd l0 0)))) : Int).toNat), true)) else (none))) else (none)) else (none))) else (none))) = some (r1, r2, r3) := h
 clear h
 by_cases c2 : (l0.length : Int) = 0
 · rw [if_pos c2] at H
   have c2b0 : ((l0.length : Int) == 0) = true := beq_iff_eq.mpr c2
   have c2b1 : ((l0.length : Int) != 0) = false := bne_eq_false_iff_eq.mpr c2
   clear c2
   simp only [Option.some.injEq, Prod.mk.injEq] at H
   obtain ⟨rfl, rfl, rfl⟩ := H
   go_enter Try.func54, Try.ntmps54
   go_wp2
   go_ret3
   exact ⟨_, _, by first | rfl | (simp [errW_none, errW_some] <;> rfl) | (simp [*, errW_none, errW_some] <;> rfl), by first | exact Kd.R_nil _ _ _ _ _ | exact Kd.N_nil _ _ _ _ _ | exact Kd.V_nil _ _ _ _ _ | exact Kd.Q_nil _ _ _ _ _ | exact Kd.S_nil _ _ _ _ _, (Kd.V_nil _ _ _ _ _), by repeat (first | (with_reducible first | exact HB.out | apply below_alloc | apply pw_below_drewN | apply below_drew1) | exact HB.out)⟩
 · rw [if_neg c2] at H
   have c2b0 : ((l0.length : Int) == 0) = false := beq_eq_false_iff_ne.mpr c2
   have c2b1 : ((l0.length : Int) != 0) = true := bne_iff_ne.mpr c2
   have c2b2 : ¬ (l0 = []) := fun h_ => c2 (by rw [h_]; rfl)
   by_cases c3 : 0 < (l0.length : Int)
   · rw [if_pos c3] at H
     have c3b0 : decide (0 < (l0.length : Int)) = true := decide_eq_true c3
     have c3b1 : decide (0 < l0.length) = true := decide_eq_true (by omega)
     clear c3
     by_cases c4 : (l0.length : Int) ≤ (wrap64 (rd l0 0))
     · rw [if_pos c4] at H
       have c4b0 : decide ((l0.length : Int) ≤ (wrap64 (rd l0 0))) = true := decide_eq_true c4
       clear c4
       simp only [Option.some.injEq, Prod.mk.injEq] at H
       obtain ⟨rfl, rfl, rfl⟩ := H
       have p911 : 0 ≤ (0 : Int) := (by omega)
       have q911 : 0 < (l0.length : Int) := of_decide_eq_true (by first | (with_reducible assumption) | assumption)
       obtain ⟨ad911, e911, hx911_0⟩ := Kd.at_int (Kd.V_reads' HO0.out).2.2 0 p911 q911
       cases e911
       have qi911 : (0 < l0.length) = True := eq_true (by omega)
       (try rw [show ((0 : Int)).toNat = 0 from rfl] at hx911_0)
       (try rw [Addr.add_zero'] at hx911_0)
       replace p911 := eq_true p911
       replace q911 := eq_true q911
       go_enter Try.func54, Try.ntmps54
       go_wp2
       go_ret3
       exact ⟨_, _, by first | rfl | (simp [errW_none, errW_some] <;> rfl) | (simp [*, errW_none, errW_some] <;> rfl), by first | exact Kd.R_nil _ _ _ _ _ | exact Kd.N_nil _ _ _ _ _ | exact Kd.V_nil _ _ _ _ _ | exact Kd.Q_nil _ _ _ _ _ | exact Kd.S_nil _ _ _ _ _, (Kd.V_nil _ _ _ _ _), by repeat (first | (with_reducible first | exact HB.out | apply below_alloc | apply pw_below_drewN | apply below_drew1) | exact HB.out)⟩
     · rw [if_neg c4] at H
       have c4b0 : decide ((l0.length : Int) ≤ (wrap64 (rd l0 0))) = false := decide_eq_false c4
       clear c4
       by_cases c5 : 1 ≤ (wrap64 (1 + (wrap64 (rd l0 0))))
       · rw [if_pos c5] at H
         have c5b0 := eq_true c5
         have c5b1 : decide (1 ≤ (wrap64 (1 + (wrap64 (rd l0 0))))) = true := decide_eq_true c5
         by_cases c6 : (wrap64 (1 + (wrap64 (rd l0 0)))) ≤ (l0.length : Int)
         · rw [if_pos c6] at H
           have c6b0 := eq_true c6
           have c6b1 : decide ((wrap64 (1 + (wrap64 (rd l0 0)))) ≤ (l0.length : Int)) = true := decide_eq_true c6
           obtain ⟨y913, hy913⟩ : ∃ y_ : List Int, y_ = ((l0.take ((wrap64 (1 + (wrap64 (rd l0 0)))) : Int).toNat).drop 1) := ⟨_, rfl⟩
           replace H : ((slices_Clone_byte_byte.f y913).bind fun t918 => (if 0 ≤ (wrap64 (1 + (wrap64 (rd l0 0)))) then (some (t918, (l0.drop ((wrap64 (1 + (wrap64 (rd l0 0)))) : Int).toNat), true)) else (none))) = some (r1, r2, r3) := by first | (rw [hy913]; with_reducible exact H) | (have H2_ := (Option.bind_some _ _).symm.trans H; rw [hy913]; with_reducible exact H2_) | (have H2_ := (Option.bind_some _ _).symm.trans H; with_reducible exact H2_) | with_reducible exact H | (rw [hy913]; exact H) | exact H
           have Ny913 := Aside0.mk hy913
           clear hy913
           replace H := Option.bind_eq_some_iff.mp H
           obtain ⟨t918, A70, H⟩ := H
           replace H : (if 0 ≤ (wrap64 (1 + (wrap64 (rd l0 0)))) then (some (t918, (l0.drop ((wrap64 (1 + (wrap64 (rd l0 0)))) : Int).toNat), true)) else (none)) = some (r1, r2, r3) := H
           have A7 := Aside0.mk A70
           clear A70
           obtain ⟨ji8, hji8⟩ : ∃ j_ : Int, (wrap64 (1 + (wrap64 (rd l0 0)))) = j_ := ⟨_, rfl⟩
           replace H : (if 0 ≤ (ji8) then (some (t918, (l0.drop ((ji8) : Int).toNat), true)) else (none)) = some (r1, r2, r3) := by first | (rw [hji8] at H; exact H) | (simp only [hji8] at H ⊢; exact H)
           (try rw [hji8] at c5b0)
           (try rw [hji8] at c5b1)
           (try rw [hji8] at c5)
           (try rw [hji8] at c6b0)
           (try rw [hji8] at c6b1)
           (try rw [hji8] at c6)
           (try rw [hji8] at Ny913)
           (try rw [hji8] at A7)
           have hji8w : (IntKind.i64.wrap (1 + (wrap64 (rd l0 0)))) = ji8 := (i64_w _).trans hji8
           by_cases c9 : 0 ≤ (ji8)
           · rw [if_pos c9] at H
             have c9b0 := eq_true c9
             have c9b1 : decide (0 ≤ (ji8)) = true := decide_eq_true c9
             clear c9
             have c10b0 := eq_true (of_decide_eq_true (by first | (with_reducible assumption) | assumption) : (ji8) ≤ (l0.length : Int))
             obtain ⟨y921, hy921⟩ : ∃ y_ : List Int, y_ = (l0.drop ((ji8) : Int).toNat) := ⟨_, rfl⟩
             replace H : (some (t918, y921, true)) = some (r1, r2, r3) := by first | (rw [hy921]; with_reducible exact H) | (have H2_ := (Option.bind_some _ _).symm.trans H; rw [hy921]; with_reducible exact H2_) | (have H2_ := (Option.bind_some _ _).symm.trans H; with_reducible exact H2_) | with_reducible exact H | (rw [hy921]; exact H) | exact H
             have Ny921 := Aside0.mk hy921
             clear hy921
             simp only [Option.some.injEq, Prod.mk.injEq] at H
             obtain ⟨rfl, rfl, rfl⟩ := H
             have p911 : 0 ≤ (0 : Int) := (by omega)
             have q911 : 0 < (l0.length : Int) := of_decide_eq_true (by first | (with_reducible assumption) | assumption)
             obtain ⟨ad911, e911, hx911_0⟩ := Kd.at_int (Kd.V_reads' HO0.out).2.2 0 p911 q911
             cases e911
             have qi911 : (0 < l0.length) = True := eq_true (by omega)
             (try rw [show ((0 : Int)).toNat = 0 from rfl] at hx911_0)
             (try rw [Addr.add_zero'] at hx911_0)
             replace p911 := eq_true p911
             replace q911 := eq_true q911
             have p912 : 0 ≤ (0 : Int) := (by omega)
             have q912 : 0 < (l0.length : Int) := of_decide_eq_true (by first | (with_reducible assumption) | assumption)
             obtain ⟨ad912, e912, hx912_0⟩ := Kd.at_int (Kd.V_reads' HO0.out).2.2 0 p912 q912
             obtain rfl : ad911 = ad912 := (by injection e912)
             have qi912 : (0 < l0.length) = True := eq_true (by omega)
             (try rw [show ((0 : Int)).toNat = 0 from rfl] at hx912_0)
             (try rw [Addr.add_zero'] at hx912_0)
             replace p912 := eq_true p912
             replace q912 := eq_true q912
             go_enter Try.func54, Try.ntmps54
             try go_wp2
             have n0_ := Aside0.mk (Kd.V_drew HO0.out)
             have n1_ := Aside0.mk (below_drew1 HB.out)
             clear HO0
             clear HB
             have HO0 := n0_
             have HB := n1_
             clear n0_ n1_
             have q12 : ((ji8) : Int) ≤ ((l0.length : Int) : Int) := of_decide_eq_true (by first | (with_reducible assumption) | assumption)
             obtain ⟨i012, hi012, _, hsz12, _⟩ := info_parts info5
             have hroom12 : l0.length ≤ c0 := (Kd.V_reads' HO0.out).2.1
             have hC12 : Kd.F (Kd.int .u8) _ _ (some ad911) l0.length l0 := (Kd.V_at (base := w.heap.size) HO0.out).2.2
             have ql12 : (1 : Int) ≤ ((ji8) : Int) := of_decide_eq_true (by first | (with_reducible assumption) | assumption)
             have hcut12 := cut_mid (P := Try.prog) 23 5 .i64 .i64 Try.underlying23 hi012 1 hsz12 (some ad911) l0.length c0 1 (ji8) (by omega) ql12 q12 hroom12
             have hr12 := Kd.F_mid (lo := (1 : Int).toNat) (hi := ((ji8) : Int).toNat) (c := c0) hC12 (by omega) (by omega) hroom12
             obtain ⟨A12, hA12⟩ : ∃ A1_, A1_ = (if c0 = (1 : Int).toNat then (some ad911) else ((some ad911) : Option Addr).map (·.add ((1 : Int).toNat * 1))) := ⟨_, rfl⟩
             obtain ⟨c12, hc12⟩ : ∃ c1_, c1_ = c0 - (1 : Int).toNat := ⟨_, rfl⟩
             have hy12 : y913.length = ((ji8) : Int).toNat - (1 : Int).toNat := (by rw [Ny913.out, List.length_drop, List.length_take] <;> omega)
             rw [show ((l0).take ((ji8) : Int).toNat).drop (1 : Int).toNat = y913 from Ny913.out.symm] at hr12
             replace hr12 : Kd.F (Kd.int .u8) _ _ A12 y913.length y913 := (by rw [hA12]; exact hr12)
             rw [← hy12, ← hA12, ← hc12] at hcut12
             have HO917 := Aside0.mk (show Kd.V (Kd.int .u8) 5 _ w.heap.size _ (.slice A12 y913.length c12) y913 from Kd.V_mk (by rw [hy12, hc12]; exact Nat.sub_le_sub_right (Nat.le_trans (by omega) hroom12) _) hr12)
             have HC917 := Aside0.mk (show y913.length ≤ c12 from by rw [hy12, hc12]; exact Nat.sub_le_sub_right (Nat.le_trans (by omega) hroom12) _)
             clear hr12 hC12 hroom12 hi012 hsz12 hc12
             have KY12 := Aside0.mk hy12
             have KA12 := Aside0.mk hA12
             clear hy12 hA12
             replace q12 := eq_true q12
             have q13 : ((ji8) : Int) ≤ ((l0.length : Int) : Int) := of_decide_eq_true (by first | (with_reducible assumption) | assumption)
             obtain ⟨i013, hi013, _, hsz13, _⟩ := info_parts info5
             have hroom13 : l0.length ≤ c0 := (Kd.V_reads' HO0.out).2.1
             have hC13 : Kd.F (Kd.int .u8) _ _ (some ad911) l0.length l0 := (Kd.V_at (base := w.heap.size) HO0.out).2.2
             have q013 : (0 : Int) ≤ ((ji8) : Int) := of_decide_eq_true (by first | (with_reducible assumption) | assumption)
             have hcut13 := cut_from (P := Try.prog) 23 5 .i64 Try.underlying23 hi013 1 hsz13 (some ad911) l0.length c0 (ji8) q013 q13
             have hr13 := Kd.F_cut (m := ((ji8) : Int).toNat) (c := c0) hC13 (by omega) hroom13
             obtain ⟨A13, hA13⟩ : ∃ A1_, A1_ = (if c0 = ((ji8) : Int).toNat then (some ad911) else ((some ad911) : Option Addr).map (·.add (((ji8) : Int).toNat * 1))) := ⟨_, rfl⟩
             obtain ⟨c13, hc13⟩ : ∃ c1_, c1_ = c0 - ((ji8) : Int).toNat := ⟨_, rfl⟩
             have hy13 : y921.length = l0.length - ((ji8) : Int).toNat := (by rw [Ny921.out, List.length_drop] <;> omega)
             rw [show (l0).drop ((ji8) : Int).toNat = y921 from Ny921.out.symm] at hr13
             replace hr13 : Kd.F (Kd.int .u8) _ _ A13 y921.length y921 := (by rw [hA13]; exact hr13)
             rw [← hy13, ← hA13, ← hc13] at hcut13
             have HO925 := Aside0.mk (show Kd.V (Kd.int .u8) 5 _ w.heap.size _ (.slice A13 y921.length c13) y921 from Kd.V_mk (by rw [hy13, hc13]; exact Nat.sub_le_sub_right hroom13 _) hr13)
             have HC925 := Aside0.mk (show y921.length ≤ c13 from by rw [hy13, hc13]; exact Nat.sub_le_sub_right hroom13 _)
             clear hr13 hC13 hroom13 hi013 hsz13 hc13
             have KY13 := Aside0.mk hy13
             have KA13 := Aside0.mk hA13
             clear hy13 hA13
             replace q13 := eq_true q13
             refine start_ (n := 10) (S := fun w' => True) (ds := []) #[false, false, false, false, false, false, false, false, false, false] (by kernel_rfl) rfl rfl trivial (fun hHeld => ?_); refine with_tabW pap_text.tab4 pap_text.bits4 (fun HT_ HW_ => ?_)
             generalize w.drew = w11 at HO0 HB HO917 HO925 hHeld ⊢
             refine pure_ (i := 0) (N := some 23) (v := ?_) (a' := ?_) #[true, false, false, false, false, false, false, false, false, false] rfl rfl (any_of HT_.out (by kernel_rfl)) (fun _ _ _ h => h) (Or.inl ⟨by rfl, ?_⟩) ?_ ?_
             rotate_left
             · intro w'
               go_simp
               with_reducible rfl
             rotate_left
             · simp only [Act.put, List.setIfInBounds_toArray, List.set_cons_zero, List.set_cons_succ, i64_w, i32_w]
               rfl
             refine pure_ (i := 1) (N := some 24) (v := ?_) (a' := ?_) #[true, true, false, false, false, false, false, false, false, false] rfl rfl (any_of HT_.out (by kernel_rfl)) (fun _ _ _ h => h) (Or.inl ⟨by rfl, ?_⟩) ?_ ?_
             rotate_left
             · intro w'
               go_simp
               with_reducible rfl
             rotate_left
             · simp only [Act.put, List.setIfInBounds_toArray, List.set_cons_zero, List.set_cons_succ, i64_w, i32_w]
               rfl
             refine pure_ (i := 2) (N := some 25) (v := ?_) (a' := ?_) #[true, true, true, false, false, false, false, false, false, false] rfl rfl (any_of HT_.out (by kernel_rfl)) (fun _ _ _ h => h) (Or.inl ⟨by rfl, ?_⟩) ?_ ?_
             rotate_left
             · intro w'
               go_simp
               with_reducible rfl
             rotate_left
             · simp only [Act.put, List.setIfInBounds_toArray, List.set_cons_zero, List.set_cons_succ, i64_w, i32_w]
               rfl
             refine pure_ (i := 4) (N := some 27) (v := ?_) (a' := ?_) #[true, true, true, false, true, false, false, false, false, false] rfl rfl (any_of HT_.out (by kernel_rfl)) (fun _ _ _ h => h) (Or.inl ⟨by rfl, ?_⟩) ?_ ?_
             rotate_left
             · intro w'
               go_simp
               with_reducible rfl
             rotate_left
             · simp only [Act.put, List.setIfInBounds_toArray, List.set_cons_zero, List.set_cons_succ, i64_w, i32_w]
               rfl
             refine pure_ (i := 5) (N := some 28) (v := ?_) (a' := ?_) #[true, true, true, false, true, true, false, false, false, false] rfl rfl (any_of HT_.out (by kernel_rfl)) (fun _ _ _ h => h) (Or.inl ⟨by rfl, ?_⟩) ?_ ?_
             rotate_left
             · intro w'
               go_simp
               with_reducible rfl
             rotate_left
             · simp only [Act.put, List.setIfInBounds_toArray, List.set_cons_zero, List.set_cons_succ, i64_w, i32_w]
               rfl
             refine pure_ (i := 6) (N := some 29) (v := ?_) (a' := ?_) #[true, true, true, false, true, true, true, false, false, false] rfl rfl (any_of HT_.out (by kernel_rfl)) (fun _ _ _ h => h) (Or.inl ⟨by rfl, ?_⟩) ?_ ?_
             rotate_left
             · intro w'
               go_simp
               with_reducible rfl
             rotate_left
             · simp only [Act.put, List.setIfInBounds_toArray, List.set_cons_zero, List.set_cons_succ, i64_w, i32_w]
               rfl
             refine one_ (i := 3) (N := some 26) #[true, true, true, true, true, true, true, false, false, false] rfl rfl (one_of HT_.out (by kernel_rfl)) (by decide) (fun K hK => ?_)
             refine goes_ Try.func48 (by kernel_rfl) rfl #[.slice A12 y913.length c12] (by rfl) rfl rfl (by (try simp only [List.map_toArray, List.map_cons, List.map_nil]); first | done | rfl | (simp only [List.length_drop, List.length_take]; rfl)) ?_
             with_reducible refine (slices_Clone_byte_byte.calls _ _ y913 t918 _ ?side1 ?side2 A7.out).mono ?_
             (case side1 => repeat (first | exact (Kd.V_reads' HO917.out).2.2 | (with_reducible refine Kd.C_alloc ?_ _) | (with_reducible refine Kd.C_drewN ?_ _) | (with_reducible refine Kd.C_drew ?_)))
             (case side2 => exact (Kd.V_reads' HO917.out).2.1)
             rintro e w14 ⟨v919, rfl, ho0, hb⟩
             refine ⟨_, rfl, ?_⟩
             have n0_ := Aside0.mk (Kd.V_elder' (by (with_reducible repeat (first | apply Kd.V_alloc | apply Kd.V_drewN | apply Kd.V_drew)); exact HO0.out) (Kd.R_base ho0) hb)
             have n1_ := Aside0.mk (Kd.V_elder' (by (with_reducible repeat (first | apply Kd.V_alloc | apply Kd.V_drewN | apply Kd.V_drew)); exact HO917.out) (Kd.R_base ho0) hb)
             have n2_ := Aside0.mk (Kd.V_elder' (by (with_reducible repeat (first | apply Kd.V_alloc | apply Kd.V_drewN | apply Kd.V_drew)); exact HO925.out) (Kd.R_base ho0) hb)
             have n3_ := Aside0.mk (Kd.R_lower (Kd.R_newM (M := fun k_ => (w.heap.size ≤ k_)) ho0 (below_size (by repeat (first | (with_reducible first | exact HB.out | apply below_alloc | apply pw_below_drewN | apply below_drew1) | exact HB.out))) (fun k_ h_ => h_)) (below_size (by repeat (first | (with_reducible first | exact HB.out | apply below_alloc | apply pw_below_drewN | apply below_drew1) | exact HB.out))))
             have n4_ := Aside0.mk (below_step (by repeat (first | (with_reducible first | exact HB.out | apply below_alloc | apply pw_below_drewN | apply below_drew1) | exact HB.out)) hb)
             clear HO0
             clear HO917
             clear HO925
             clear HB
             have HO0 := n0_
             have HO917 := n1_
             have HO925 := n2_
             have HO920 := n3_
             have HB := n4_
             clear n0_ n1_ n2_ n3_ n4_
             (try clear hb)
             (try clear hb2)
             (try clear hk)
             (try clear hi)
             (try clear ho0)
             refine hK.out _ _ trivial (fun hHeld => ?_)
             clear hK K
             refine norm_ (a' := ?_) ?_ ?_
             rotate_left
             · show Act.put _ (some 26) _ = _
               simp only [Act.put, List.setIfInBounds_toArray, List.set_cons_zero, List.set_cons_succ, i64_w, i32_w]
               rfl
             refine pure_ (i := 7) (N := some 2) (v := ?_) (a' := ?_) #[true, true, true, true, true, true, true, true, false, false] rfl rfl (any_of HT_.out (by kernel_rfl)) (fun _ _ _ h => h) (Or.inl ⟨by rfl, ?_⟩) ?_ ?_
             rotate_left
             · intro w'
               go_simp
               with_reducible rfl
             rotate_left
             · simp only [Act.put, List.setIfInBounds_toArray, List.set_cons_zero, List.set_cons_succ, i64_w, i32_w]
               rfl
             refine pure_ (i := 8) (N := some 3) (v := ?_) (a' := ?_) #[true, true, true, true, true, true, true, true, true, false] rfl rfl (any_of HT_.out (by kernel_rfl)) (fun _ _ _ h => h) (Or.inl ⟨by rfl, ?_⟩) ?_ ?_
             rotate_left
             · intro w'
               go_simp
               with_reducible rfl
             rotate_left
             · simp only [Act.put, List.setIfInBounds_toArray, List.set_cons_zero, List.set_cons_succ, i64_w, i32_w]
               rfl
             refine pure_ (i := 9) (N := some 4) (v := ?_) (a' := ?_) #[true, true, true, true, true, true, true, true, true, true] rfl rfl (any_of HT_.out (by kernel_rfl)) (fun _ _ _ h => h) (Or.inl ⟨by rfl, ?_⟩) ?_ ?_
             rotate_left
             · intro w'
               go_simp
               with_reducible rfl
             rotate_left
             · simp only [Act.put, List.setIfInBounds_toArray, List.set_cons_zero, List.set_cons_succ, i64_w, i32_w]
               rfl
             refine done_ (done_of HT_.out (by kernel_rfl)) ?_
             try go_wp2
             go_ret3
             exact ⟨_, _, by first | rfl | (simp [errW_none, errW_some] <;> rfl) | (simp only [← hji8]; first | rfl | (simp [errW_none, errW_some] <;> rfl)) | (simp [*, errW_none, errW_some] <;> rfl), by (with_reducible repeat (first | apply Kd.R_alloc | apply Kd.R_drewN | apply Kd.R_drew)); exact Kd.R_mono HO920.out (fun _ hk => hk.1), by (with_reducible repeat (first | apply Kd.V_alloc | apply Kd.V_drewN | apply Kd.V_drew)); exact HO925.out, by repeat (first | (with_reducible first | exact HB.out | apply below_alloc | apply pw_below_drewN | apply below_drew1) | exact HB.out)⟩
           · rw [if_neg c9] at H
             exact absurd H (by simp)
         · rw [if_neg c6] at H
           exact absurd H (by simp)
       · rw [if_neg c5] at H
         exact absurd H (by simp)
   · rw [if_neg c3] at H
     exact absurd H (by simp)
end Go.Proofs.Ytgjeahgagciagaa.Print
namespace Go.Proofs.Ytgjeahgagciagaa.Print
open Go.RowKit Go.Proofs.YtgjeahgagciagaaW.PrintWords Go.Proofs.YtgjeahgagciagaaW.PrintLast Go.Proofs.YtgjeahgagciagaaW.PrintMore
attribute [local go_sem] max2_int min2_int max_two min_two max_three min_three max_four min_four
set_option linter.unusedVariables false
set_option linter.unusedSimpArgs false
theorem R_own {k : IntKind} {e base : Nat} {W : World} {ok : Nat → Prop} {v : Value} {xs : List Int} (h : Kd.R (Kd.int k) e W base ok v xs) : Kd.R (Kd.int k) e W base (fun k_ => some k_ = v.ownBlock) v xs := Kd.R_tight rfl h
def papZ (e : Int) : Option (Int × Int × Int × (List S57) × Int × Int × List Int × List Int × List Int × List Int × Int) := some (0, 0, 0, [], 0, 0, [], [], [], [], e)
def papE (code id : Int) (l1 l2 rest : List Int) : Option (Int × Int × Int × (List S57) × Int × Int × List Int × List Int × List Int × List Int × Int) := if (rest.length : Int) > 0 then papZ 4 else some (49187, code, id, [], 0, 0, l1, l2, [], [], 0)
def papG2b (code id : Int) (l1 rest : List Int) : Option (Int × Int × Int × (List S57) × Int × Int × List Int × List Int × List Int × List Int × Int) := (pap_text.f rest).bind fun a => if a.2.2 = true then papE code id l1 a.1 a.2.1 else papZ 2
def papG2 (code id : Int) (rest : List Int) : Option (Int × Int × Int × (List S57) × Int × Int × List Int × List Int × List Int × List Int × Int) := (pap_text.f rest).bind fun a => if a.2.2 = true then papG2b code id a.1 a.2.1 else papZ 2
def papG1 (code id : Int) (rest : List Int) : Option (Int × Int × Int × (List S57) × Int × Int × List Int × List Int × List Int × List Int × Int) := (pap_text.f rest).bind fun a => if a.2.2 = true then papE code id a.1 [] a.2.1 else papZ 2
def papG0 (code id : Int) (rest : List Int) : Option (Int × Int × Int × (List S57) × Int × Int × List Int × List Int × List Int × List Int × Int) := some (49187, code, id, [], 0, 0, [], [], rest, [], 0)
set_option maxHeartbeats 16000000 in
set_option maxRecDepth 100000 in
theorem pt_get2 (k : Nat) (A0 : Option Addr) (c0 : Nat) (l0 : List Int) (r1 r2 r3 : Int) (r4 : List S57) (r5 r6 : Int) (r7 r8 r9 r10 : List Int) (r11 : Int) (code id e : Int) (rest : List Int) (w : World) (hr0 : Kd.C (Kd.int .u8) w A0 l0.length l0) (hc0 : l0.length ≤ c0) (hg : ctl_Get.f k l0 = some (code, id, rest, e)) (hc : code = 1) (he : e = 0) (h : papG2 code id rest = some (r1, r2, r3, r4, r5, r6, r7, r8, r9, r10, r11)) :
 Calls Try.prog 33 #[.slice A0 l0.length c0] w fun x w' => ∃ v3_ v6_ v7_ v8_ v9_ : Value, x = .returned (.tuple #[.agg #[.int .u16 r1, .int .u8 r2, .int .u8 r3, v3_, .int .u16 r5, .int .u32 r6, v6_, v7_, v8_, v9_], .int .i64 r11]) ∧ Kd.S k57 57 w' w.heap.size (fun k_ => some k_ ≠ (v6_ : Value).ownBlock ∧ some k_ ≠ (v7_ : Value).ownBlock ∧ some k_ ≠ (v8_ : Value).ownBlock) v3_ r4 ∧ Kd.R (Kd.int .u8) 5 w' w.heap.size (fun k_ => some k_ ≠ (v7_ : Value).ownBlock ∧ some k_ ≠ (v8_ : Value).ownBlock) v6_ r7 ∧ Kd.R (Kd.int .u8) 5 w' w.heap.size (fun k_ => some k_ ≠ (v6_ : Value).ownBlock ∧ some k_ ≠ (v8_ : Value).ownBlock) v7_ r8 ∧ Kd.R (Kd.int .u8) 5 w' w.heap.size (fun k_ => some k_ ≠ (v6_ : Value).ownBlock ∧ some k_ ≠ (v7_ : Value).ownBlock) v8_ r9 ∧ Kd.R (Kd.int .u32) 41 w' w.heap.size (fun _ => True) v9_ r10 ∧ Below w.heap.size w w' := by
 have hu47 := Try.underlying47
 have HR0 := Aside0.mk hr0
 have HC0 := Aside0.mk hc0
 have HG := Aside0.mk hg
 have HF := Aside0.mk h
 have HC := Aside0.mk hc
 have he0 : (e != 0) = false := bne_eq_false_iff_eq.mpr he
 clear hr0 hc0 hg h he hc
 have hq : ∀ (ad : Addr) (w : World) (n c : Nat), (Go.binOp .eql 80 (.slice (some ad) n c) (.slice none 0 0)).run Try.prog w = .ok (.bool false) w := fun ad w n c => Lib.run_eql_slice_nil (P := Try.prog) w 80 83 (some ad) n c 0 0 Try.underlying80
 go_enter Try.func33, Try.ntmps33
 go_upto_region 2 with (first | ((with_reducible refine gate_dst (N := 2) rfl ?_); refine box_event ?hg (N := 2) ?hd (cs := #[.int .u16 0, .int .u8 0, .int .u8 0, .slice none 0 0, .int .u16 0, .int .u32 0, .slice none 0 0, .slice none 0 0, .slice none 0 0, .slice none 0 0]) (t := 47) ?hr ?_; (case hd => rfl); (case hg => rfl); (case hr => first | (go_simp; done) | (go_simp; rfl)); intro gr hgr w1 hbox hb; have BR := Aside0.mk hbox; have GR := Aside0.mk ((by rw [hgr]; exact Nat.le_refl _) : w.heap.size ≤ gr); have HB := Aside0.mk hb; clear hbox hb hgr) | ((with_reducible refine gate_dst (N := 4) rfl ?_); refine box_event ?hg (N := 4) ?hd (cs := #[.int .u16 0, .int .u8 0, .int .u8 0, .slice none 0 0, .int .u16 0, .int .u32 0, .slice none 0 0, .slice none 0 0, .slice none 0 0, .slice none 0 0]) (t := 47) ?hr ?_; (case hd => rfl); (case hg => rfl); (case hr => first | (go_simp; done) | (go_simp; rfl)); intro g hgg w2 hbox hb; have BG := Aside0.mk hbox; have NR := Aside0.mk ((by rw [hgg]; exact Nat.ne_of_lt (blk_lt BR.out)) : gr ≠ g); have GG := Aside0.mk ((by rw [hgg]; exact HB.out.size) : w.heap.size ≤ g); have n0_ := Aside0.mk (blk_below BR.out hb); have n1_ := Aside0.mk (below_step HB.out hb); clear BR HB hbox hb hgg; have BR := n0_; have HB := n1_; clear n0_ n1_; have hz0 : w2.cell? ⟨g, 0, none⟩ = some (.int .u16 0) := (blk_cell BG.out 0).trans rfl; have hz1 : w2.cell? ⟨g, 1, none⟩ = some (.int .u8 0) := (blk_cell BG.out 1).trans rfl; have hz2 : w2.cell? ⟨g, 2, none⟩ = some (.int .u8 0) := (blk_cell BG.out 2).trans rfl; have hz3 : w2.cell? ⟨g, 3, none⟩ = some (.slice none 0 0) := (blk_cell BG.out 3).trans rfl; have hz4 : w2.cell? ⟨g, 4, none⟩ = some (.int .u16 0) := (blk_cell BG.out 4).trans rfl; have hz5 : w2.cell? ⟨g, 5, none⟩ = some (.int .u32 0) := (blk_cell BG.out 5).trans rfl; have hz6 : w2.cell? ⟨g, 6, none⟩ = some (.slice none 0 0) := (blk_cell BG.out 6).trans rfl; have hz7 : w2.cell? ⟨g, 7, none⟩ = some (.slice none 0 0) := (blk_cell BG.out 7).trans rfl; have hz8 : w2.cell? ⟨g, 8, none⟩ = some (.slice none 0 0) := (blk_cell BG.out 8).trans rfl; have hz9 : w2.cell? ⟨g, 9, none⟩ = some (.slice none 0 0) := (blk_cell BG.out 9).trans rfl; have hf0 := blk_frozen BG.out 0; have hf1 := blk_frozen BG.out 1; have hf2 := blk_frozen BG.out 2; have hf3 := blk_frozen BG.out 3; have hf4 := blk_frozen BG.out 4; have hf5 := blk_frozen BG.out 5; have hf6 := blk_frozen BG.out 6; have hf7 := blk_frozen BG.out 7; have hf8 := blk_frozen BG.out 8; have hf9 := blk_frozen BG.out 9))
 clear hz0 hz1 hz2 hz3 hz4 hz5 hz6 hz7 hz8 hz9 hf0 hf1 hf2 hf3 hf4 hf5 hf6 hf7 hf8 hf9
 have q0 := blk_put BG.out 0 (.int .u16 49187) (rfl : _ = (#[.int .u16 49187, .int .u8 0, .int .u8 0, .slice none 0 0, .int .u16 0, .int .u32 0, .slice none 0 0, .slice none 0 0, .slice none 0 0, .slice none 0 0] : Array Value))
 have q1 := blk_put q0 1 (.int .u8 0) (rfl : _ = (#[.int .u16 49187, .int .u8 0, .int .u8 0, .slice none 0 0, .int .u16 0, .int .u32 0, .slice none 0 0, .slice none 0 0, .slice none 0 0, .slice none 0 0] : Array Value))
 have q2 := blk_put q1 2 (.int .u8 0) (rfl : _ = (#[.int .u16 49187, .int .u8 0, .int .u8 0, .slice none 0 0, .int .u16 0, .int .u32 0, .slice none 0 0, .slice none 0 0, .slice none 0 0, .slice none 0 0] : Array Value))
 have q3 := blk_put q2 3 (.slice none 0 0) (rfl : _ = (#[.int .u16 49187, .int .u8 0, .int .u8 0, .slice none 0 0, .int .u16 0, .int .u32 0, .slice none 0 0, .slice none 0 0, .slice none 0 0, .slice none 0 0] : Array Value))
 have q4 := blk_put q3 4 (.int .u16 0) (rfl : _ = (#[.int .u16 49187, .int .u8 0, .int .u8 0, .slice none 0 0, .int .u16 0, .int .u32 0, .slice none 0 0, .slice none 0 0, .slice none 0 0, .slice none 0 0] : Array Value))
 have q5 := blk_put q4 5 (.int .u32 0) (rfl : _ = (#[.int .u16 49187, .int .u8 0, .int .u8 0, .slice none 0 0, .int .u16 0, .int .u32 0, .slice none 0 0, .slice none 0 0, .slice none 0 0, .slice none 0 0] : Array Value))
 have q6 := blk_put q5 6 (.slice none 0 0) (rfl : _ = (#[.int .u16 49187, .int .u8 0, .int .u8 0, .slice none 0 0, .int .u16 0, .int .u32 0, .slice none 0 0, .slice none 0 0, .slice none 0 0, .slice none 0 0] : Array Value))
 have q7 := blk_put q6 7 (.slice none 0 0) (rfl : _ = (#[.int .u16 49187, .int .u8 0, .int .u8 0, .slice none 0 0, .int .u16 0, .int .u32 0, .slice none 0 0, .slice none 0 0, .slice none 0 0, .slice none 0 0] : Array Value))
 have q8 := blk_put q7 8 (.slice none 0 0) (rfl : _ = (#[.int .u16 49187, .int .u8 0, .int .u8 0, .slice none 0 0, .int .u16 0, .int .u32 0, .slice none 0 0, .slice none 0 0, .slice none 0 0, .slice none 0 0] : Array Value))
 have q9 := blk_put q8 9 (.slice none 0 0) (rfl : _ = (#[.int .u16 49187, .int .u8 0, .int .u8 0, .slice none 0 0, .int .u16 0, .int .u32 0, .slice none 0 0, .slice none 0 0, .slice none 0 0, .slice none 0 0] : Array Value))
 have n0_ := Aside0.mk q9
 have n1_ := Aside0.mk (show (((((((((((w2.setCell ⟨g, 0, none⟩ (.int .u16 49187)).setCell ⟨g, 1, none⟩ (.int .u8 0)).setCell ⟨g, 2, none⟩ (.int .u8 0)).setCell ⟨g, 3, none⟩ (.slice none 0 0)).setCell ⟨g, 4, none⟩ (.int .u16 0)).setCell ⟨g, 5, none⟩ (.int .u32 0)).setCell ⟨g, 6, none⟩ (.slice none 0 0)).setCell ⟨g, 7, none⟩ (.slice none 0 0)).setCell ⟨g, 8, none⟩ (.slice none 0 0)).setCell ⟨g, 9, none⟩ (.slice none 0 0))).heap[gr]? = some (.cells #[.int .u16 0, .int .u8 0, .int .u8 0, .slice none 0 0, .int .u16 0, .int .u32 0, .slice none 0 0, .slice none 0 0, .slice none 0 0, .slice none 0 0] 47 (0, 0)) from (blk_far (p := ⟨g, 9, none⟩) (blk_far (p := ⟨g, 8, none⟩) (blk_far (p := ⟨g, 7, none⟩) (blk_far (p := ⟨g, 6, none⟩) (blk_far (p := ⟨g, 5, none⟩) (blk_far (p := ⟨g, 4, none⟩) (blk_far (p := ⟨g, 3, none⟩) (blk_far (p := ⟨g, 2, none⟩) (blk_far (p := ⟨g, 1, none⟩) (blk_far (p := ⟨g, 0, none⟩) BR.out NR.out (.int .u16 49187)) NR.out (.int .u8 0)) NR.out (.int .u8 0)) NR.out (.slice none 0 0)) NR.out (.int .u16 0)) NR.out (.int .u32 0)) NR.out (.slice none 0 0)) NR.out (.slice none 0 0)) NR.out (.slice none 0 0)) NR.out (.slice none 0 0)))
 have n2_ := Aside0.mk (show Below w.heap.size w ((((((((((w2.setCell ⟨g, 0, none⟩ (.int .u16 49187)).setCell ⟨g, 1, none⟩ (.int .u8 0)).setCell ⟨g, 2, none⟩ (.int .u8 0)).setCell ⟨g, 3, none⟩ (.slice none 0 0)).setCell ⟨g, 4, none⟩ (.int .u16 0)).setCell ⟨g, 5, none⟩ (.int .u32 0)).setCell ⟨g, 6, none⟩ (.slice none 0 0)).setCell ⟨g, 7, none⟩ (.slice none 0 0)).setCell ⟨g, 8, none⟩ (.slice none 0 0)).setCell ⟨g, 9, none⟩ (.slice none 0 0)) from (below_set (below_set (below_set (below_set (below_set (below_set (below_set (below_set (below_set (below_set HB.out GG.out) GG.out) GG.out) GG.out) GG.out) GG.out) GG.out) GG.out) GG.out) GG.out))
 clear BG BR HB q0 q1 q2 q3 q4 q5 q6 q7 q8 q9
 generalize ((((((((((w2.setCell ⟨g, 0, none⟩ (.int .u16 49187)).setCell ⟨g, 1, none⟩ (.int .u8 0)).setCell ⟨g, 2, none⟩ (.int .u8 0)).setCell ⟨g, 3, none⟩ (.slice none 0 0)).setCell ⟨g, 4, none⟩ (.int .u16 0)).setCell ⟨g, 5, none⟩ (.int .u32 0)).setCell ⟨g, 6, none⟩ (.slice none 0 0)).setCell ⟨g, 7, none⟩ (.slice none 0 0)).setCell ⟨g, 8, none⟩ (.slice none 0 0)).setCell ⟨g, 9, none⟩ (.slice none 0 0)) = w5 at n0_ n1_ n2_ ⊢
 have BG := n0_
 have BR := n1_
 have HB := n2_
 clear n0_ n1_ n2_
 go_upto_region 4 with (first | (go_at_call 53; refine (ctl_Get.calls k A0 c0 l0 code id rest e _ ?s1 HC0.out HG.out).mono ?_; (case s1 => exact Kd.C_below HR0.out HB.out); rintro x w6 ⟨v2, rfl, hv, hb⟩; have HV := Aside0.mk (Kd.R_lower hv HB.out.size); have n0_ := Aside0.mk (blk_below BG.out hb); have n1_ := Aside0.mk (blk_below BR.out hb); have n2_ := Aside0.mk (below_step HB.out hb); clear BG BR HB hb hv; have BG := n0_; have BR := n1_; have HB := n2_; clear n0_ n1_ n2_; obtain ⟨Av, cv, ev⟩ := Kd.R_slice HV.out; subst ev; have hz1 : w6.cell? ⟨g, 1, none⟩ = some (.int .u8 0) := (blk_cell BG.out 1).trans rfl; have hz2 : w6.cell? ⟨g, 2, none⟩ = some (.int .u8 0) := (blk_cell BG.out 2).trans rfl; have hf1 := blk_frozen BG.out 1; have hf2 := blk_frozen BG.out 2))
 clear hz1 hz2 hf1 hf2
 have n0_ := Aside0.mk (show ((w6.setCell ⟨g, 1, none⟩ (.int .u8 code)).setCell ⟨g, 2, none⟩ (.int .u8 id)).heap[g]? = some (.cells #[.int .u16 49187, .int .u8 code, .int .u8 id, .slice none 0 0, .int .u16 0, .int .u32 0, .slice none 0 0, .slice none 0 0, .slice none 0 0, .slice none 0 0] 47 (0, 0)) from blk_put (blk_put BG.out 1 (.int .u8 code) rfl) 2 (.int .u8 id) rfl)
 have n1_ := Aside0.mk (show ((w6.setCell ⟨g, 1, none⟩ (.int .u8 code)).setCell ⟨g, 2, none⟩ (.int .u8 id)).heap[gr]? = some (.cells #[.int .u16 0, .int .u8 0, .int .u8 0, .slice none 0 0, .int .u16 0, .int .u32 0, .slice none 0 0, .slice none 0 0, .slice none 0 0, .slice none 0 0] 47 (0, 0)) from blk_far (p := ⟨g, 2, none⟩) (blk_far (p := ⟨g, 1, none⟩) BR.out NR.out _) NR.out _)
 have n2_ := Aside0.mk (show Below w.heap.size w ((w6.setCell ⟨g, 1, none⟩ (.int .u8 code)).setCell ⟨g, 2, none⟩ (.int .u8 id)) from below_set (below_set HB.out GG.out) GG.out)
 have n3_ := Aside0.mk (show Kd.R (Kd.int .u8) 5 ((w6.setCell ⟨g, 1, none⟩ (.int .u8 code)).setCell ⟨g, 2, none⟩ (.int .u8 id)) w.heap.size (fun k_ => True) (.slice Av rest.length cv) rest from Kd.R_mono (Kd.R_far (p := ⟨g, 2, none⟩) (Kd.R_far (p := ⟨g, 1, none⟩) (Kd.R_types HV.out BG.out (by decide)) (fun _ hk => hk.2) _) (fun _ hk => hk.2) _) (fun _ _ => trivial))
 clear BG BR HB HV
 generalize ((w6.setCell ⟨g, 1, none⟩ (.int .u8 code)).setCell ⟨g, 2, none⟩ (.int .u8 id)) = w7 at n0_ n1_ n2_ n3_ ⊢
 have BG := n0_
 have BR := n1_
 have HB := n2_
 have HV := n3_
 clear n0_ n1_ n2_ n3_
 go_wp2_with (first | (go_at_call 50; refine (pt_texts1 g code _ _ _ _ _ _ _ _ _ _ BG.out HC.out).mono ?_; rintro x w8 ⟨b, rfl, hlt, hcs, hb⟩; have NGB := Aside0.mk (show g ≠ b from by have := blk_lt BG.out; omega); have NRB := Aside0.mk (show gr ≠ b from by have := blk_lt BR.out; omega); have n4_ := Aside0.mk (show b ≠ g from NGB.out.symm); have n0_ := Aside0.mk (blk_below BG.out hb); have n1_ := Aside0.mk (blk_below BR.out hb); have n2_ := Aside0.mk (Kd.R_below HV.out hb); have n3_ := Aside0.mk (below_step HB.out hb); have BP := Aside0.mk hcs; clear BG BR HV HB hb hcs hlt; have BG := n0_; have BR := n1_; have HB := n3_; have HV := Aside0.mk (Kd.R_V (base' := 0) (Kd.R_mono (Kd.R_types (Kd.R_types (Kd.R_types n2_.out BG.out (by decide)) BR.out (by decide)) BP.out (by decide)) (ok' := fun k_ => k_ ≠ g ∧ k_ ≠ gr ∧ k_ ≠ b) (fun _ hk => ⟨hk.1.1.2, hk.1.2, hk.2⟩))); clear n0_ n1_ n2_ n3_ n4_))
 go_loopg [33, 6, 9, 10] 3 (fun kq v33 v6 v9 v10 w' => ∃ (x : Nat) (rx : List Int) (A : Option Addr) (cx : Nat) (L1 : List Int) (B1 : Option Addr) (d1 : Nat) (L2 : List Int) (B2 : Option Addr) (d2 : Nat), v33 = .int .i64 x ∧ v6 = .slice A rx.length cx ∧ Aside0 (x + kq = 3 ∧ x ≤ 2) ∧ Aside0 ((x ≤ 0 → B1 = none ∧ L1 = [] ∧ d1 = 0) ∧ (x ≤ 1 → B2 = none ∧ L2 = [] ∧ d2 = 0)) ∧ Aside0 ((if x = 0 then papG2 code id rx else if x = 1 then papG2b code id L1 rx else papE code id L1 L2 rx) = some (r1, r2, r3, r4, r5, r6, r7, r8, r9, r10, r11)) ∧ Aside0 (Kd.R (Kd.int .u8) 5 w' w.heap.size (fun k_ => some k_ ≠ (.slice B2 L2.length d2 : Value).ownBlock) (.slice B1 L1.length d1) L1) ∧ Aside0 (Kd.R (Kd.int .u8) 5 w' w.heap.size (fun k_ => some k_ ≠ (.slice B1 L1.length d1 : Value).ownBlock) (.slice B2 L2.length d2) L2) ∧ Aside0 (Kd.V (Kd.int .u8) 5 w' 0 (fun k_ => k_ ≠ g ∧ k_ ≠ gr ∧ k_ ≠ b) (.slice A rx.length cx) rx) ∧ Aside0 (w'.heap[g]? = some (.cells #[.int .u16 49187, .int .u8 code, .int .u8 id, .slice none 0 0, .int .u16 0, .int .u32 0, .slice B1 L1.length d1, .slice B2 L2.length d2, .slice none 0 0, .slice none 0 0] 47 (0, 0))) ∧ Aside0 (w'.heap[gr]? = some (.cells #[.int .u16 0, .int .u8 0, .int .u8 0, .slice none 0 0, .int .u16 0, .int .u32 0, .slice none 0 0, .slice none 0 0, .slice none 0 0, .slice none 0 0] 47 (0, 0))) ∧ Aside0 (w'.heap[b]? = some (.cells (lieAt g 2) 83 (0, 0))) ∧ Aside0 (Below w.heap.size w w'))
 case atStart => exact ⟨0, rest, Av, cv, [], none, 0, [], none, 0, rfl, rfl, ⟨by omega⟩, ⟨fun _ => ⟨rfl, rfl, rfl⟩, fun _ => ⟨rfl, rfl, rfl⟩⟩, HF, ⟨Kd.R_nil _ _ _ _ _⟩, ⟨Kd.R_nil _ _ _ _ _⟩, HV, BG, BR, BP, HB⟩
 case round =>
  clear BG BR BP HB HV HF
  obtain ⟨x, rx, A, cx, L1, B1, d1, L2, B2, d2, rfl, rfl, hk, HZ, HF, HL1, HL2, HV, BG, BR, BP, HB⟩ := hrel
  have hr_ := NR.out
  have hr2_ := NR.out.symm
  have hx : x = 0 ∨ x = 1 ∨ x = 2 := by have := hk.out.2; omega
  rcases hx with rfl | rfl | rfl
  · have HK := Aside0.mk hk.out
    clear hk
    obtain ⟨rfl, rfl, rfl⟩ := HZ.out.1 (by omega)
    obtain ⟨rfl, rfl, rfl⟩ := HZ.out.2 (by omega)
    have hf : papG2 code id rx = some (r1, r2, r3, r4, r5, r6, r7, r8, r9, r10, r11) := HF.out
    unfold papG2 at hf
    obtain ⟨⟨s1, s2, ok⟩, ht, hf⟩ := Option.bind_eq_some_iff.mp hf
    have HT := Aside0.mk ht
    clear ht HF
    have hp : wr.cell? ⟨b, 0, none⟩ = some (.pointer (some ⟨g, 6, none⟩)) := (blk_cell BP.out 0).trans rfl
    cases ok with
    | false =>
     simp only [Bool.false_eq_true, if_false] at hf
     simp only [papZ, Option.some.injEq, Prod.mk.injEq] at hf
     obtain ⟨rfl, rfl, rfl, rfl, rfl, rfl, rfl, rfl, rfl, rfl, rfl⟩ := hf
     go_wp2_with (first | (go_at_call 54; refine (pap_text.calls (fun k_ => k_ ≠ g ∧ k_ ≠ gr ∧ k_ ≠ b) A cx rx s1 s2 false _ ?s HT.out).mono ?_; (case s => exact HV.out); rintro x w8 ⟨v0, v1, rfl, ho0, ho1, hb⟩; have HN := Aside0.mk ho0; have HV2 := Aside0.mk (Kd.V_mono (ok' := fun k_ => k_ ≠ g ∧ k_ ≠ gr ∧ k_ ≠ b) ho1 (fun k_ hk => hk.1.elim (fun h => h) (fun h => ⟨fun e => by have := blk_lt BG.out; omega, fun e => by have := blk_lt BR.out; omega, fun e => by have := blk_lt BP.out; omega⟩))); have LG := Aside0.mk (Kd.R_lt HL1.out); have SZ := Aside0.mk HB.out.size; have n0_ := Aside0.mk (blk_below BG.out hb); have n1_ := Aside0.mk (blk_below BR.out hb); have n2_ := Aside0.mk (blk_below BP.out hb); have n3_ := Aside0.mk (Kd.R_below HL1.out hb); have n4_ := Aside0.mk (below_step HB.out hb); clear BG BR BP HB HL1 HL2 HV hb ho0 ho1; have BG := n0_; have BR := n1_; have BP := n2_; have HL1 := n3_; have HB := n4_; clear n0_ n1_ n2_ n3_ n4_; obtain ⟨A8, c8, e8⟩ := Kd.R_slice HN.out; subst e8; obtain ⟨A9, c9, e9⟩ := Kd.V_slice HV2.out; subst e9; have hz : w8.cell? ⟨g, 6, none⟩ = some (.slice none 0 0) := (blk_cell BG.out 6).trans rfl; have hfz := blk_frozen BG.out 6; have hr0 : w8.cell? ⟨gr, 0, none⟩ = some (.int .u16 0) := (blk_cell BR.out 0).trans rfl; have hr1 : w8.cell? ⟨gr, 1, none⟩ = some (.int .u8 0) := (blk_cell BR.out 1).trans rfl; have hr2 : w8.cell? ⟨gr, 2, none⟩ = some (.int .u8 0) := (blk_cell BR.out 2).trans rfl; have hr3 : w8.cell? ⟨gr, 3, none⟩ = some (.slice none 0 0) := (blk_cell BR.out 3).trans rfl; have hr4 : w8.cell? ⟨gr, 4, none⟩ = some (.int .u16 0) := (blk_cell BR.out 4).trans rfl; have hr5 : w8.cell? ⟨gr, 5, none⟩ = some (.int .u32 0) := (blk_cell BR.out 5).trans rfl; have hr6 : w8.cell? ⟨gr, 6, none⟩ = some (.slice none 0 0) := (blk_cell BR.out 6).trans rfl; have hr7 : w8.cell? ⟨gr, 7, none⟩ = some (.slice none 0 0) := (blk_cell BR.out 7).trans rfl; have hr8 : w8.cell? ⟨gr, 8, none⟩ = some (.slice none 0 0) := (blk_cell BR.out 8).trans rfl; have hr9 : w8.cell? ⟨gr, 9, none⟩ = some (.slice none 0 0) := (blk_cell BR.out 9).trans rfl; have hs0 := blk_frozen BR.out 0; have hs1 := blk_frozen BR.out 1; have hs2 := blk_frozen BR.out 2; have hs3 := blk_frozen BR.out 3; have hs4 := blk_frozen BR.out 4; have hs5 := blk_frozen BR.out 5; have hs6 := blk_frozen BR.out 6; have hs7 := blk_frozen BR.out 7; have hs8 := blk_frozen BR.out 8; have hs9 := blk_frozen BR.out 9))
     have q_ := blk_far (p := ⟨g, 6, none⟩) BR.out NR.out (.slice A8 s1.length c8)
     have q0 := blk_put q_ 0 (.int .u16 0) (rfl : _ = (#[.int .u16 0, .int .u8 0, .int .u8 0, .slice none 0 0, .int .u16 0, .int .u32 0, .slice none 0 0, .slice none 0 0, .slice none 0 0, .slice none 0 0] : Array Value))
     have q1 := blk_put q0 1 (.int .u8 0) (rfl : _ = (#[.int .u16 0, .int .u8 0, .int .u8 0, .slice none 0 0, .int .u16 0, .int .u32 0, .slice none 0 0, .slice none 0 0, .slice none 0 0, .slice none 0 0] : Array Value))
     have q2 := blk_put q1 2 (.int .u8 0) (rfl : _ = (#[.int .u16 0, .int .u8 0, .int .u8 0, .slice none 0 0, .int .u16 0, .int .u32 0, .slice none 0 0, .slice none 0 0, .slice none 0 0, .slice none 0 0] : Array Value))
     have q3 := blk_put q2 3 (.slice none 0 0) (rfl : _ = (#[.int .u16 0, .int .u8 0, .int .u8 0, .slice none 0 0, .int .u16 0, .int .u32 0, .slice none 0 0, .slice none 0 0, .slice none 0 0, .slice none 0 0] : Array Value))
     have q4 := blk_put q3 4 (.int .u16 0) (rfl : _ = (#[.int .u16 0, .int .u8 0, .int .u8 0, .slice none 0 0, .int .u16 0, .int .u32 0, .slice none 0 0, .slice none 0 0, .slice none 0 0, .slice none 0 0] : Array Value))
     have q5 := blk_put q4 5 (.int .u32 0) (rfl : _ = (#[.int .u16 0, .int .u8 0, .int .u8 0, .slice none 0 0, .int .u16 0, .int .u32 0, .slice none 0 0, .slice none 0 0, .slice none 0 0, .slice none 0 0] : Array Value))
     have q6 := blk_put q5 6 (.slice none 0 0) (rfl : _ = (#[.int .u16 0, .int .u8 0, .int .u8 0, .slice none 0 0, .int .u16 0, .int .u32 0, .slice none 0 0, .slice none 0 0, .slice none 0 0, .slice none 0 0] : Array Value))
     have q7 := blk_put q6 7 (.slice none 0 0) (rfl : _ = (#[.int .u16 0, .int .u8 0, .int .u8 0, .slice none 0 0, .int .u16 0, .int .u32 0, .slice none 0 0, .slice none 0 0, .slice none 0 0, .slice none 0 0] : Array Value))
     have q8 := blk_put q7 8 (.slice none 0 0) (rfl : _ = (#[.int .u16 0, .int .u8 0, .int .u8 0, .slice none 0 0, .int .u16 0, .int .u32 0, .slice none 0 0, .slice none 0 0, .slice none 0 0, .slice none 0 0] : Array Value))
     have q9 := blk_put q8 9 (.slice none 0 0) (rfl : _ = (#[.int .u16 0, .int .u8 0, .int .u8 0, .slice none 0 0, .int .u16 0, .int .u32 0, .slice none 0 0, .slice none 0 0, .slice none 0 0, .slice none 0 0] : Array Value))
     refine bodyPost_ret (results_ct rfl _ _ gr 47 #[.int .u16 0, .int .u8 0, .int .u8 0, .slice none 0 0, .int .u16 0, .int .u32 0, .slice none 0 0, .slice none 0 0, .slice none 0 0, .slice none 0 0] (0, 0) _ rfl q9 hu47 rfl (by kernel_rfl)) rfl ?_
     exact ⟨_, _, _, _, _, rfl, Kd.S_nil _ _ _ _ _, Kd.R_nil _ _ _ _ _, Kd.R_nil _ _ _ _ _, Kd.R_nil _ _ _ _ _, Kd.R_nil _ _ _ _ _, below_set (below_set (below_set (below_set (below_set (below_set (below_set (below_set (below_set (below_set (below_set HB.out GG.out) GR.out) GR.out) GR.out) GR.out) GR.out) GR.out) GR.out) GR.out) GR.out) GR.out⟩
    | true =>
     simp only [if_true] at hf
     have HF := Aside0.mk hf
     clear hf
     cases gk with
     | zero => have := HK.out; omega
     | succ k1 =>
      go_wp2_with (first | (go_at_call 54; refine (pap_text.calls (fun k_ => k_ ≠ g ∧ k_ ≠ gr ∧ k_ ≠ b) A cx rx s1 s2 true _ ?s HT.out).mono ?_; (case s => exact HV.out); rintro x w8 ⟨v0, v1, rfl, ho0, ho1, hb⟩; have HN := Aside0.mk ho0; have HV2 := Aside0.mk (Kd.V_mono (ok' := fun k_ => k_ ≠ g ∧ k_ ≠ gr ∧ k_ ≠ b) ho1 (fun k_ hk => hk.1.elim (fun h => h) (fun h => ⟨fun e => by have := blk_lt BG.out; omega, fun e => by have := blk_lt BR.out; omega, fun e => by have := blk_lt BP.out; omega⟩))); have LG := Aside0.mk (Kd.R_lt HL1.out); have SZ := Aside0.mk HB.out.size; have n0_ := Aside0.mk (blk_below BG.out hb); have n1_ := Aside0.mk (blk_below BR.out hb); have n2_ := Aside0.mk (blk_below BP.out hb); have n3_ := Aside0.mk (Kd.R_below HL1.out hb); have n4_ := Aside0.mk (below_step HB.out hb); clear BG BR BP HB HL1 HL2 HV hb ho0 ho1; have BG := n0_; have BR := n1_; have BP := n2_; have HL1 := n3_; have HB := n4_; clear n0_ n1_ n2_ n3_ n4_; obtain ⟨A8, c8, e8⟩ := Kd.R_slice HN.out; subst e8; obtain ⟨A9, c9, e9⟩ := Kd.V_slice HV2.out; subst e9; have hz : w8.cell? ⟨g, 6, none⟩ = some (.slice none 0 0) := (blk_cell BG.out 6).trans rfl; have hfz := blk_frozen BG.out 6; have hr0 : w8.cell? ⟨gr, 0, none⟩ = some (.int .u16 0) := (blk_cell BR.out 0).trans rfl; have hr1 : w8.cell? ⟨gr, 1, none⟩ = some (.int .u8 0) := (blk_cell BR.out 1).trans rfl; have hr2 : w8.cell? ⟨gr, 2, none⟩ = some (.int .u8 0) := (blk_cell BR.out 2).trans rfl; have hr3 : w8.cell? ⟨gr, 3, none⟩ = some (.slice none 0 0) := (blk_cell BR.out 3).trans rfl; have hr4 : w8.cell? ⟨gr, 4, none⟩ = some (.int .u16 0) := (blk_cell BR.out 4).trans rfl; have hr5 : w8.cell? ⟨gr, 5, none⟩ = some (.int .u32 0) := (blk_cell BR.out 5).trans rfl; have hr6 : w8.cell? ⟨gr, 6, none⟩ = some (.slice none 0 0) := (blk_cell BR.out 6).trans rfl; have hr7 : w8.cell? ⟨gr, 7, none⟩ = some (.slice none 0 0) := (blk_cell BR.out 7).trans rfl; have hr8 : w8.cell? ⟨gr, 8, none⟩ = some (.slice none 0 0) := (blk_cell BR.out 8).trans rfl; have hr9 : w8.cell? ⟨gr, 9, none⟩ = some (.slice none 0 0) := (blk_cell BR.out 9).trans rfl; have hs0 := blk_frozen BR.out 0; have hs1 := blk_frozen BR.out 1; have hs2 := blk_frozen BR.out 2; have hs3 := blk_frozen BR.out 3; have hs4 := blk_frozen BR.out 4; have hs5 := blk_frozen BR.out 5; have hs6 := blk_frozen BR.out 6; have hs7 := blk_frozen BR.out 7; have hs8 := blk_frozen BR.out 8; have hs9 := blk_frozen BR.out 9))
      go_roundg k1
      case measure => have := HK.out; omega
      case rel => exact ⟨1, s2, A9, c9, s1, A8, c8, [], none, 0, rfl, rfl, ⟨by have := HK.out; omega⟩, ⟨fun h => absurd h (by omega), fun h => ⟨rfl, rfl, rfl⟩⟩, HF, ⟨Kd.R_mono (Kd.R_far (p := ⟨g, 6, none⟩) (Kd.R_types (Kd.R_lower HN.out SZ.out) BG.out (by decide)) (fun _ hk => hk.2) (.slice A8 s1.length c8)) (fun k_ hk => (by simp [Value.ownBlock]))⟩, ⟨Kd.R_nil _ _ _ _ _⟩, ⟨Kd.V_far HV2.out (fun _ hk => hk.1) _⟩, ⟨blk_put BG.out 6 (.slice A8 s1.length c8) rfl⟩, ⟨blk_far BR.out NR.out _⟩, ⟨blk_far BP.out NGB.out.symm _⟩, ⟨below_set HB.out GG.out⟩⟩
  · have HK := Aside0.mk hk.out
    clear hk
    obtain ⟨rfl, rfl, rfl⟩ := HZ.out.2 (by omega)
    have hf : papG2b code id L1 rx = some (r1, r2, r3, r4, r5, r6, r7, r8, r9, r10, r11) := HF.out
    unfold papG2b at hf
    obtain ⟨⟨s1, s2, ok⟩, ht, hf⟩ := Option.bind_eq_some_iff.mp hf
    have HT := Aside0.mk ht
    clear ht HF
    have hp : wr.cell? ⟨b, 1, none⟩ = some (.pointer (some ⟨g, 7, none⟩)) := (blk_cell BP.out 1).trans rfl
    cases ok with
    | false =>
     simp only [Bool.false_eq_true, if_false] at hf
     simp only [papZ, Option.some.injEq, Prod.mk.injEq] at hf
     obtain ⟨rfl, rfl, rfl, rfl, rfl, rfl, rfl, rfl, rfl, rfl, rfl⟩ := hf
     go_wp2_with (first | (go_at_call 54; refine (pap_text.calls (fun k_ => k_ ≠ g ∧ k_ ≠ gr ∧ k_ ≠ b) A cx rx s1 s2 false _ ?s HT.out).mono ?_; (case s => exact HV.out); rintro x w8 ⟨v0, v1, rfl, ho0, ho1, hb⟩; have HN := Aside0.mk ho0; have HV2 := Aside0.mk (Kd.V_mono (ok' := fun k_ => k_ ≠ g ∧ k_ ≠ gr ∧ k_ ≠ b) ho1 (fun k_ hk => hk.1.elim (fun h => h) (fun h => ⟨fun e => by have := blk_lt BG.out; omega, fun e => by have := blk_lt BR.out; omega, fun e => by have := blk_lt BP.out; omega⟩))); have LG := Aside0.mk (Kd.R_lt HL1.out); have SZ := Aside0.mk HB.out.size; have n0_ := Aside0.mk (blk_below BG.out hb); have n1_ := Aside0.mk (blk_below BR.out hb); have n2_ := Aside0.mk (blk_below BP.out hb); have n3_ := Aside0.mk (Kd.R_below HL1.out hb); have n4_ := Aside0.mk (below_step HB.out hb); clear BG BR BP HB HL1 HL2 HV hb ho0 ho1; have BG := n0_; have BR := n1_; have BP := n2_; have HL1 := n3_; have HB := n4_; clear n0_ n1_ n2_ n3_ n4_; obtain ⟨A8, c8, e8⟩ := Kd.R_slice HN.out; subst e8; obtain ⟨A9, c9, e9⟩ := Kd.V_slice HV2.out; subst e9; have hz : w8.cell? ⟨g, 7, none⟩ = some (.slice none 0 0) := (blk_cell BG.out 7).trans rfl; have hfz := blk_frozen BG.out 7; have hr0 : w8.cell? ⟨gr, 0, none⟩ = some (.int .u16 0) := (blk_cell BR.out 0).trans rfl; have hr1 : w8.cell? ⟨gr, 1, none⟩ = some (.int .u8 0) := (blk_cell BR.out 1).trans rfl; have hr2 : w8.cell? ⟨gr, 2, none⟩ = some (.int .u8 0) := (blk_cell BR.out 2).trans rfl; have hr3 : w8.cell? ⟨gr, 3, none⟩ = some (.slice none 0 0) := (blk_cell BR.out 3).trans rfl; have hr4 : w8.cell? ⟨gr, 4, none⟩ = some (.int .u16 0) := (blk_cell BR.out 4).trans rfl; have hr5 : w8.cell? ⟨gr, 5, none⟩ = some (.int .u32 0) := (blk_cell BR.out 5).trans rfl; have hr6 : w8.cell? ⟨gr, 6, none⟩ = some (.slice none 0 0) := (blk_cell BR.out 6).trans rfl; have hr7 : w8.cell? ⟨gr, 7, none⟩ = some (.slice none 0 0) := (blk_cell BR.out 7).trans rfl; have hr8 : w8.cell? ⟨gr, 8, none⟩ = some (.slice none 0 0) := (blk_cell BR.out 8).trans rfl; have hr9 : w8.cell? ⟨gr, 9, none⟩ = some (.slice none 0 0) := (blk_cell BR.out 9).trans rfl; have hs0 := blk_frozen BR.out 0; have hs1 := blk_frozen BR.out 1; have hs2 := blk_frozen BR.out 2; have hs3 := blk_frozen BR.out 3; have hs4 := blk_frozen BR.out 4; have hs5 := blk_frozen BR.out 5; have hs6 := blk_frozen BR.out 6; have hs7 := blk_frozen BR.out 7; have hs8 := blk_frozen BR.out 8; have hs9 := blk_frozen BR.out 9))
     have q_ := blk_far (p := ⟨g, 7, none⟩) BR.out NR.out (.slice A8 s1.length c8)
     have q0 := blk_put q_ 0 (.int .u16 0) (rfl : _ = (#[.int .u16 0, .int .u8 0, .int .u8 0, .slice none 0 0, .int .u16 0, .int .u32 0, .slice none 0 0, .slice none 0 0, .slice none 0 0, .slice none 0 0] : Array Value))
     have q1 := blk_put q0 1 (.int .u8 0) (rfl : _ = (#[.int .u16 0, .int .u8 0, .int .u8 0, .slice none 0 0, .int .u16 0, .int .u32 0, .slice none 0 0, .slice none 0 0, .slice none 0 0, .slice none 0 0] : Array Value))
     have q2 := blk_put q1 2 (.int .u8 0) (rfl : _ = (#[.int .u16 0, .int .u8 0, .int .u8 0, .slice none 0 0, .int .u16 0, .int .u32 0, .slice none 0 0, .slice none 0 0, .slice none 0 0, .slice none 0 0] : Array Value))
     have q3 := blk_put q2 3 (.slice none 0 0) (rfl : _ = (#[.int .u16 0, .int .u8 0, .int .u8 0, .slice none 0 0, .int .u16 0, .int .u32 0, .slice none 0 0, .slice none 0 0, .slice none 0 0, .slice none 0 0] : Array Value))
     have q4 := blk_put q3 4 (.int .u16 0) (rfl : _ = (#[.int .u16 0, .int .u8 0, .int .u8 0, .slice none 0 0, .int .u16 0, .int .u32 0, .slice none 0 0, .slice none 0 0, .slice none 0 0, .slice none 0 0] : Array Value))
     have q5 := blk_put q4 5 (.int .u32 0) (rfl : _ = (#[.int .u16 0, .int .u8 0, .int .u8 0, .slice none 0 0, .int .u16 0, .int .u32 0, .slice none 0 0, .slice none 0 0, .slice none 0 0, .slice none 0 0] : Array Value))
     have q6 := blk_put q5 6 (.slice none 0 0) (rfl : _ = (#[.int .u16 0, .int .u8 0, .int .u8 0, .slice none 0 0, .int .u16 0, .int .u32 0, .slice none 0 0, .slice none 0 0, .slice none 0 0, .slice none 0 0] : Array Value))
     have q7 := blk_put q6 7 (.slice none 0 0) (rfl : _ = (#[.int .u16 0, .int .u8 0, .int .u8 0, .slice none 0 0, .int .u16 0, .int .u32 0, .slice none 0 0, .slice none 0 0, .slice none 0 0, .slice none 0 0] : Array Value))
     have q8 := blk_put q7 8 (.slice none 0 0) (rfl : _ = (#[.int .u16 0, .int .u8 0, .int .u8 0, .slice none 0 0, .int .u16 0, .int .u32 0, .slice none 0 0, .slice none 0 0, .slice none 0 0, .slice none 0 0] : Array Value))
     have q9 := blk_put q8 9 (.slice none 0 0) (rfl : _ = (#[.int .u16 0, .int .u8 0, .int .u8 0, .slice none 0 0, .int .u16 0, .int .u32 0, .slice none 0 0, .slice none 0 0, .slice none 0 0, .slice none 0 0] : Array Value))
     refine bodyPost_ret (results_ct rfl _ _ gr 47 #[.int .u16 0, .int .u8 0, .int .u8 0, .slice none 0 0, .int .u16 0, .int .u32 0, .slice none 0 0, .slice none 0 0, .slice none 0 0, .slice none 0 0] (0, 0) _ rfl q9 hu47 rfl (by kernel_rfl)) rfl ?_
     exact ⟨_, _, _, _, _, rfl, Kd.S_nil _ _ _ _ _, Kd.R_nil _ _ _ _ _, Kd.R_nil _ _ _ _ _, Kd.R_nil _ _ _ _ _, Kd.R_nil _ _ _ _ _, below_set (below_set (below_set (below_set (below_set (below_set (below_set (below_set (below_set (below_set (below_set HB.out GG.out) GR.out) GR.out) GR.out) GR.out) GR.out) GR.out) GR.out) GR.out) GR.out) GR.out⟩
    | true =>
     simp only [if_true] at hf
     have HF := Aside0.mk hf
     clear hf
     cases gk with
     | zero => have := HK.out; omega
     | succ k1 =>
      go_wp2_with (first | (go_at_call 54; refine (pap_text.calls (fun k_ => k_ ≠ g ∧ k_ ≠ gr ∧ k_ ≠ b) A cx rx s1 s2 true _ ?s HT.out).mono ?_; (case s => exact HV.out); rintro x w8 ⟨v0, v1, rfl, ho0, ho1, hb⟩; have HN := Aside0.mk ho0; have HV2 := Aside0.mk (Kd.V_mono (ok' := fun k_ => k_ ≠ g ∧ k_ ≠ gr ∧ k_ ≠ b) ho1 (fun k_ hk => hk.1.elim (fun h => h) (fun h => ⟨fun e => by have := blk_lt BG.out; omega, fun e => by have := blk_lt BR.out; omega, fun e => by have := blk_lt BP.out; omega⟩))); have LG := Aside0.mk (Kd.R_lt HL1.out); have SZ := Aside0.mk HB.out.size; have n0_ := Aside0.mk (blk_below BG.out hb); have n1_ := Aside0.mk (blk_below BR.out hb); have n2_ := Aside0.mk (blk_below BP.out hb); have n3_ := Aside0.mk (Kd.R_below HL1.out hb); have n4_ := Aside0.mk (below_step HB.out hb); clear BG BR BP HB HL1 HL2 HV hb ho0 ho1; have BG := n0_; have BR := n1_; have BP := n2_; have HL1 := n3_; have HB := n4_; clear n0_ n1_ n2_ n3_ n4_; obtain ⟨A8, c8, e8⟩ := Kd.R_slice HN.out; subst e8; obtain ⟨A9, c9, e9⟩ := Kd.V_slice HV2.out; subst e9; have hz : w8.cell? ⟨g, 7, none⟩ = some (.slice none 0 0) := (blk_cell BG.out 7).trans rfl; have hfz := blk_frozen BG.out 7; have hr0 : w8.cell? ⟨gr, 0, none⟩ = some (.int .u16 0) := (blk_cell BR.out 0).trans rfl; have hr1 : w8.cell? ⟨gr, 1, none⟩ = some (.int .u8 0) := (blk_cell BR.out 1).trans rfl; have hr2 : w8.cell? ⟨gr, 2, none⟩ = some (.int .u8 0) := (blk_cell BR.out 2).trans rfl; have hr3 : w8.cell? ⟨gr, 3, none⟩ = some (.slice none 0 0) := (blk_cell BR.out 3).trans rfl; have hr4 : w8.cell? ⟨gr, 4, none⟩ = some (.int .u16 0) := (blk_cell BR.out 4).trans rfl; have hr5 : w8.cell? ⟨gr, 5, none⟩ = some (.int .u32 0) := (blk_cell BR.out 5).trans rfl; have hr6 : w8.cell? ⟨gr, 6, none⟩ = some (.slice none 0 0) := (blk_cell BR.out 6).trans rfl; have hr7 : w8.cell? ⟨gr, 7, none⟩ = some (.slice none 0 0) := (blk_cell BR.out 7).trans rfl; have hr8 : w8.cell? ⟨gr, 8, none⟩ = some (.slice none 0 0) := (blk_cell BR.out 8).trans rfl; have hr9 : w8.cell? ⟨gr, 9, none⟩ = some (.slice none 0 0) := (blk_cell BR.out 9).trans rfl; have hs0 := blk_frozen BR.out 0; have hs1 := blk_frozen BR.out 1; have hs2 := blk_frozen BR.out 2; have hs3 := blk_frozen BR.out 3; have hs4 := blk_frozen BR.out 4; have hs5 := blk_frozen BR.out 5; have hs6 := blk_frozen BR.out 6; have hs7 := blk_frozen BR.out 7; have hs8 := blk_frozen BR.out 8; have hs9 := blk_frozen BR.out 9))
      go_roundg k1
      case measure => have := HK.out; omega
      case rel => exact ⟨2, s2, A9, c9, L1, B1, d1, s1, A8, c8, rfl, rfl, ⟨by have := HK.out; omega⟩, ⟨fun h => absurd h (by omega), fun h => absurd h (by omega)⟩, HF, ⟨Kd.R_mono (Kd.R_far (p := ⟨g, 7, none⟩) (Kd.R_types (R_own HL1.out) BG.out (by decide)) (fun _ hk => hk.2) (.slice A8 s1.length c8)) (fun k_ hk e_ => by have := HN.out.1 k_ e_.symm; have := LG.out k_ hk.1.symm; omega)⟩, ⟨Kd.R_mono (Kd.R_far (p := ⟨g, 7, none⟩) (Kd.R_types (Kd.R_lower HN.out SZ.out) BG.out (by decide)) (fun _ hk => hk.2) (.slice A8 s1.length c8)) (fun k_ hk => fun e_ => by have := LG.out k_ e_.symm; have := hk.1; omega)⟩, ⟨Kd.V_far HV2.out (fun _ hk => hk.1) _⟩, ⟨blk_put BG.out 7 (.slice A8 s1.length c8) rfl⟩, ⟨blk_far BR.out NR.out _⟩, ⟨blk_far BP.out NGB.out.symm _⟩, ⟨below_set HB.out GG.out⟩⟩
  · clear hk
    have hf : papE code id L1 L2 rx = some (r1, r2, r3, r4, r5, r6, r7, r8, r9, r10, r11) := HF.out
    unfold papE at hf
    have hz0 : wr.cell? ⟨g, 0, none⟩ = some (.int .u16 49187) := (blk_cell BG.out 0).trans rfl
    have hz1 : wr.cell? ⟨g, 1, none⟩ = some (.int .u8 code) := (blk_cell BG.out 1).trans rfl
    have hz2 : wr.cell? ⟨g, 2, none⟩ = some (.int .u8 id) := (blk_cell BG.out 2).trans rfl
    have hz3 : wr.cell? ⟨g, 3, none⟩ = some (.slice none 0 0) := (blk_cell BG.out 3).trans rfl
    have hz4 : wr.cell? ⟨g, 4, none⟩ = some (.int .u16 0) := (blk_cell BG.out 4).trans rfl
    have hz5 : wr.cell? ⟨g, 5, none⟩ = some (.int .u32 0) := (blk_cell BG.out 5).trans rfl
    have hz6 : wr.cell? ⟨g, 6, none⟩ = some (.slice B1 L1.length d1) := (blk_cell BG.out 6).trans rfl
    have hz7 : wr.cell? ⟨g, 7, none⟩ = some (.slice B2 L2.length d2) := (blk_cell BG.out 7).trans rfl
    have hz8 : wr.cell? ⟨g, 8, none⟩ = some (.slice none 0 0) := (blk_cell BG.out 8).trans rfl
    have hz9 : wr.cell? ⟨g, 9, none⟩ = some (.slice none 0 0) := (blk_cell BG.out 9).trans rfl
    have hr0 : wr.cell? ⟨gr, 0, none⟩ = some (.int .u16 0) := (blk_cell BR.out 0).trans rfl
    have hr1 : wr.cell? ⟨gr, 1, none⟩ = some (.int .u8 0) := (blk_cell BR.out 1).trans rfl
    have hr2 : wr.cell? ⟨gr, 2, none⟩ = some (.int .u8 0) := (blk_cell BR.out 2).trans rfl
    have hr3 : wr.cell? ⟨gr, 3, none⟩ = some (.slice none 0 0) := (blk_cell BR.out 3).trans rfl
    have hr4 : wr.cell? ⟨gr, 4, none⟩ = some (.int .u16 0) := (blk_cell BR.out 4).trans rfl
    have hr5 : wr.cell? ⟨gr, 5, none⟩ = some (.int .u32 0) := (blk_cell BR.out 5).trans rfl
    have hr6 : wr.cell? ⟨gr, 6, none⟩ = some (.slice none 0 0) := (blk_cell BR.out 6).trans rfl
    have hr7 : wr.cell? ⟨gr, 7, none⟩ = some (.slice none 0 0) := (blk_cell BR.out 7).trans rfl
    have hr8 : wr.cell? ⟨gr, 8, none⟩ = some (.slice none 0 0) := (blk_cell BR.out 8).trans rfl
    have hr9 : wr.cell? ⟨gr, 9, none⟩ = some (.slice none 0 0) := (blk_cell BR.out 9).trans rfl
    have hs0 := blk_frozen BR.out 0
    have hs1 := blk_frozen BR.out 1
    have hs2 := blk_frozen BR.out 2
    have hs3 := blk_frozen BR.out 3
    have hs4 := blk_frozen BR.out 4
    have hs5 := blk_frozen BR.out 5
    have hs6 := blk_frozen BR.out 6
    have hs7 := blk_frozen BR.out 7
    have hs8 := blk_frozen BR.out 8
    have hs9 := blk_frozen BR.out 9
    by_cases hl : (rx.length : Int) > 0
    · rw [if_pos hl] at hf
      have hl0 : decide (0 < rx.length) = true := decide_eq_true (by omega)
      have hl1 : (0 < rx.length) = True := eq_true (by omega)
      clear hl
      simp only [papZ, Option.some.injEq, Prod.mk.injEq] at hf
      obtain ⟨rfl, rfl, rfl, rfl, rfl, rfl, rfl, rfl, rfl, rfl, rfl⟩ := hf
      go_wp2
      have q0 := blk_put BR.out 0 (.int .u16 0) (rfl : _ = (#[.int .u16 0, .int .u8 0, .int .u8 0, .slice none 0 0, .int .u16 0, .int .u32 0, .slice none 0 0, .slice none 0 0, .slice none 0 0, .slice none 0 0] : Array Value))
      have q1 := blk_put q0 1 (.int .u8 0) (rfl : _ = (#[.int .u16 0, .int .u8 0, .int .u8 0, .slice none 0 0, .int .u16 0, .int .u32 0, .slice none 0 0, .slice none 0 0, .slice none 0 0, .slice none 0 0] : Array Value))
      have q2 := blk_put q1 2 (.int .u8 0) (rfl : _ = (#[.int .u16 0, .int .u8 0, .int .u8 0, .slice none 0 0, .int .u16 0, .int .u32 0, .slice none 0 0, .slice none 0 0, .slice none 0 0, .slice none 0 0] : Array Value))
      have q3 := blk_put q2 3 (.slice none 0 0) (rfl : _ = (#[.int .u16 0, .int .u8 0, .int .u8 0, .slice none 0 0, .int .u16 0, .int .u32 0, .slice none 0 0, .slice none 0 0, .slice none 0 0, .slice none 0 0] : Array Value))
      have q4 := blk_put q3 4 (.int .u16 0) (rfl : _ = (#[.int .u16 0, .int .u8 0, .int .u8 0, .slice none 0 0, .int .u16 0, .int .u32 0, .slice none 0 0, .slice none 0 0, .slice none 0 0, .slice none 0 0] : Array Value))
      have q5 := blk_put q4 5 (.int .u32 0) (rfl : _ = (#[.int .u16 0, .int .u8 0, .int .u8 0, .slice none 0 0, .int .u16 0, .int .u32 0, .slice none 0 0, .slice none 0 0, .slice none 0 0, .slice none 0 0] : Array Value))
      have q6 := blk_put q5 6 (.slice none 0 0) (rfl : _ = (#[.int .u16 0, .int .u8 0, .int .u8 0, .slice none 0 0, .int .u16 0, .int .u32 0, .slice none 0 0, .slice none 0 0, .slice none 0 0, .slice none 0 0] : Array Value))
      have q7 := blk_put q6 7 (.slice none 0 0) (rfl : _ = (#[.int .u16 0, .int .u8 0, .int .u8 0, .slice none 0 0, .int .u16 0, .int .u32 0, .slice none 0 0, .slice none 0 0, .slice none 0 0, .slice none 0 0] : Array Value))
      have q8 := blk_put q7 8 (.slice none 0 0) (rfl : _ = (#[.int .u16 0, .int .u8 0, .int .u8 0, .slice none 0 0, .int .u16 0, .int .u32 0, .slice none 0 0, .slice none 0 0, .slice none 0 0, .slice none 0 0] : Array Value))
      have q9 := blk_put q8 9 (.slice none 0 0) (rfl : _ = (#[.int .u16 0, .int .u8 0, .int .u8 0, .slice none 0 0, .int .u16 0, .int .u32 0, .slice none 0 0, .slice none 0 0, .slice none 0 0, .slice none 0 0] : Array Value))
      refine bodyPost_ret (results_ct rfl _ _ gr 47 #[.int .u16 0, .int .u8 0, .int .u8 0, .slice none 0 0, .int .u16 0, .int .u32 0, .slice none 0 0, .slice none 0 0, .slice none 0 0, .slice none 0 0] (0, 0) _ rfl q9 hu47 rfl (by kernel_rfl)) rfl ?_
      exact ⟨_, _, _, _, _, rfl, Kd.S_nil _ _ _ _ _, Kd.R_nil _ _ _ _ _, Kd.R_nil _ _ _ _ _, Kd.R_nil _ _ _ _ _, Kd.R_nil _ _ _ _ _, below_set (below_set (below_set (below_set (below_set (below_set (below_set (below_set (below_set (below_set (HB.out) GR.out) GR.out) GR.out) GR.out) GR.out) GR.out) GR.out) GR.out) GR.out) GR.out⟩
    · rw [if_neg hl] at hf
      have hl0 : decide (0 < rx.length) = false := decide_eq_false (by omega)
      have hl1 : (0 < rx.length) = False := eq_false (by omega)
      clear hl
      simp only [Option.some.injEq, Prod.mk.injEq] at hf
      obtain ⟨rfl, rfl, rfl, rfl, rfl, rfl, rfl, rfl, rfl, rfl, rfl⟩ := hf
      go_wp2
      have q0 := blk_put BR.out 0 (.int .u16 49187) (rfl : _ = (#[.int .u16 49187, .int .u8 0, .int .u8 0, .slice none 0 0, .int .u16 0, .int .u32 0, .slice none 0 0, .slice none 0 0, .slice none 0 0, .slice none 0 0] : Array Value))
      have q1 := blk_put q0 1 (.int .u8 code) (rfl : _ = (#[.int .u16 49187, .int .u8 code, .int .u8 0, .slice none 0 0, .int .u16 0, .int .u32 0, .slice none 0 0, .slice none 0 0, .slice none 0 0, .slice none 0 0] : Array Value))
      have q2 := blk_put q1 2 (.int .u8 id) (rfl : _ = (#[.int .u16 49187, .int .u8 code, .int .u8 id, .slice none 0 0, .int .u16 0, .int .u32 0, .slice none 0 0, .slice none 0 0, .slice none 0 0, .slice none 0 0] : Array Value))
      have q3 := blk_put q2 3 (.slice none 0 0) (rfl : _ = (#[.int .u16 49187, .int .u8 code, .int .u8 id, .slice none 0 0, .int .u16 0, .int .u32 0, .slice none 0 0, .slice none 0 0, .slice none 0 0, .slice none 0 0] : Array Value))
      have q4 := blk_put q3 4 (.int .u16 0) (rfl : _ = (#[.int .u16 49187, .int .u8 code, .int .u8 id, .slice none 0 0, .int .u16 0, .int .u32 0, .slice none 0 0, .slice none 0 0, .slice none 0 0, .slice none 0 0] : Array Value))
      have q5 := blk_put q4 5 (.int .u32 0) (rfl : _ = (#[.int .u16 49187, .int .u8 code, .int .u8 id, .slice none 0 0, .int .u16 0, .int .u32 0, .slice none 0 0, .slice none 0 0, .slice none 0 0, .slice none 0 0] : Array Value))
      have q6 := blk_put q5 6 (.slice B1 L1.length d1) (rfl : _ = (#[.int .u16 49187, .int .u8 code, .int .u8 id, .slice none 0 0, .int .u16 0, .int .u32 0, .slice B1 L1.length d1, .slice none 0 0, .slice none 0 0, .slice none 0 0] : Array Value))
      have q7 := blk_put q6 7 (.slice B2 L2.length d2) (rfl : _ = (#[.int .u16 49187, .int .u8 code, .int .u8 id, .slice none 0 0, .int .u16 0, .int .u32 0, .slice B1 L1.length d1, .slice B2 L2.length d2, .slice none 0 0, .slice none 0 0] : Array Value))
      have q8 := blk_put q7 8 (.slice none 0 0) (rfl : _ = (#[.int .u16 49187, .int .u8 code, .int .u8 id, .slice none 0 0, .int .u16 0, .int .u32 0, .slice B1 L1.length d1, .slice B2 L2.length d2, .slice none 0 0, .slice none 0 0] : Array Value))
      have q9 := blk_put q8 9 (.slice none 0 0) (rfl : _ = (#[.int .u16 49187, .int .u8 code, .int .u8 id, .slice none 0 0, .int .u16 0, .int .u32 0, .slice B1 L1.length d1, .slice B2 L2.length d2, .slice none 0 0, .slice none 0 0] : Array Value))
      refine bodyPost_ret (results_ct rfl _ _ gr 47 #[.int .u16 49187, .int .u8 code, .int .u8 id, .slice none 0 0, .int .u16 0, .int .u32 0, .slice B1 L1.length d1, .slice B2 L2.length d2, .slice none 0 0, .slice none 0 0] (0, 0) _ rfl q9 hu47 rfl (by kernel_rfl)) rfl ?_
      exact ⟨_, _, _, _, _, rfl, Kd.S_nil _ _ _ _ _, Kd.R_mono (Kd.R_far (p := ⟨gr, 9, none⟩) (Kd.R_far (p := ⟨gr, 8, none⟩) (Kd.R_far (p := ⟨gr, 7, none⟩) (Kd.R_far (p := ⟨gr, 6, none⟩) (Kd.R_far (p := ⟨gr, 5, none⟩) (Kd.R_far (p := ⟨gr, 4, none⟩) (Kd.R_far (p := ⟨gr, 3, none⟩) (Kd.R_far (p := ⟨gr, 2, none⟩) (Kd.R_far (p := ⟨gr, 1, none⟩) (Kd.R_far (p := ⟨gr, 0, none⟩) (Kd.R_types (HL1.out) BR.out (by decide)) (fun _ hk => hk.2) _) (fun _ hk => hk.2) _) (fun _ hk => hk.2) _) (fun _ hk => hk.2) _) (fun _ hk => hk.2) _) (fun _ hk => hk.2) _) (fun _ hk => hk.2) _) (fun _ hk => hk.2) _) (fun _ hk => hk.2) _) (fun _ hk => hk.2) _) (fun _ hk => ⟨hk.1, by simp [Value.ownBlock]⟩), Kd.R_mono (Kd.R_far (p := ⟨gr, 9, none⟩) (Kd.R_far (p := ⟨gr, 8, none⟩) (Kd.R_far (p := ⟨gr, 7, none⟩) (Kd.R_far (p := ⟨gr, 6, none⟩) (Kd.R_far (p := ⟨gr, 5, none⟩) (Kd.R_far (p := ⟨gr, 4, none⟩) (Kd.R_far (p := ⟨gr, 3, none⟩) (Kd.R_far (p := ⟨gr, 2, none⟩) (Kd.R_far (p := ⟨gr, 1, none⟩) (Kd.R_far (p := ⟨gr, 0, none⟩) (Kd.R_types (HL2.out) BR.out (by decide)) (fun _ hk => hk.2) _) (fun _ hk => hk.2) _) (fun _ hk => hk.2) _) (fun _ hk => hk.2) _) (fun _ hk => hk.2) _) (fun _ hk => hk.2) _) (fun _ hk => hk.2) _) (fun _ hk => hk.2) _) (fun _ hk => hk.2) _) (fun _ hk => hk.2) _) (fun _ hk => ⟨hk.1, by simp [Value.ownBlock]⟩), Kd.R_nil _ _ _ _ _, Kd.R_nil _ _ _ _ _, below_set (below_set (below_set (below_set (below_set (below_set (below_set (below_set (below_set (below_set (HB.out) GR.out) GR.out) GR.out) GR.out) GR.out) GR.out) GR.out) GR.out) GR.out) GR.out⟩
set_option maxHeartbeats 16000000 in
set_option maxRecDepth 100000 in
theorem pt_get1 (k : Nat) (A0 : Option Addr) (c0 : Nat) (l0 : List Int) (r1 r2 r3 : Int) (r4 : List S57) (r5 r6 : Int) (r7 r8 r9 r10 : List Int) (r11 : Int) (code id e : Int) (rest : List Int) (w : World) (hr0 : Kd.C (Kd.int .u8) w A0 l0.length l0) (hc0 : l0.length ≤ c0) (hg : ctl_Get.f k l0 = some (code, id, rest, e)) (hc : code = 2 ∨ code = 3) (he : e = 0) (h : papG1 code id rest = some (r1, r2, r3, r4, r5, r6, r7, r8, r9, r10, r11)) :
 Calls Try.prog 33 #[.slice A0 l0.length c0] w fun x w' => ∃ v3_ v6_ v7_ v8_ v9_ : Value, x = .returned (.tuple #[.agg #[.int .u16 r1, .int .u8 r2, .int .u8 r3, v3_, .int .u16 r5, .int .u32 r6, v6_, v7_, v8_, v9_], .int .i64 r11]) ∧ Kd.S k57 57 w' w.heap.size (fun k_ => some k_ ≠ (v6_ : Value).ownBlock ∧ some k_ ≠ (v7_ : Value).ownBlock ∧ some k_ ≠ (v8_ : Value).ownBlock) v3_ r4 ∧ Kd.R (Kd.int .u8) 5 w' w.heap.size (fun k_ => some k_ ≠ (v7_ : Value).ownBlock ∧ some k_ ≠ (v8_ : Value).ownBlock) v6_ r7 ∧ Kd.R (Kd.int .u8) 5 w' w.heap.size (fun k_ => some k_ ≠ (v6_ : Value).ownBlock ∧ some k_ ≠ (v8_ : Value).ownBlock) v7_ r8 ∧ Kd.R (Kd.int .u8) 5 w' w.heap.size (fun k_ => some k_ ≠ (v6_ : Value).ownBlock ∧ some k_ ≠ (v7_ : Value).ownBlock) v8_ r9 ∧ Kd.R (Kd.int .u32) 41 w' w.heap.size (fun _ => True) v9_ r10 ∧ Below w.heap.size w w' := by
 have hu47 := Try.underlying47
 have HR0 := Aside0.mk hr0
 have HC0 := Aside0.mk hc0
 have HG := Aside0.mk hg
 have HF := Aside0.mk h
 have HC := Aside0.mk hc
 have he0 : (e != 0) = false := bne_eq_false_iff_eq.mpr he
 clear hr0 hc0 hg h he hc
 have hq : ∀ (ad : Addr) (w : World) (n c : Nat), (Go.binOp .eql 80 (.slice (some ad) n c) (.slice none 0 0)).run Try.prog w = .ok (.bool false) w := fun ad w n c => Lib.run_eql_slice_nil (P := Try.prog) w 80 83 (some ad) n c 0 0 Try.underlying80
 go_enter Try.func33, Try.ntmps33
 go_upto_region 2 with (first | ((with_reducible refine gate_dst (N := 2) rfl ?_); refine box_event ?hg (N := 2) ?hd (cs := #[.int .u16 0, .int .u8 0, .int .u8 0, .slice none 0 0, .int .u16 0, .int .u32 0, .slice none 0 0, .slice none 0 0, .slice none 0 0, .slice none 0 0]) (t := 47) ?hr ?_; (case hd => rfl); (case hg => rfl); (case hr => first | (go_simp; done) | (go_simp; rfl)); intro gr hgr w1 hbox hb; have BR := Aside0.mk hbox; have GR := Aside0.mk ((by rw [hgr]; exact Nat.le_refl _) : w.heap.size ≤ gr); have HB := Aside0.mk hb; clear hbox hb hgr) | ((with_reducible refine gate_dst (N := 4) rfl ?_); refine box_event ?hg (N := 4) ?hd (cs := #[.int .u16 0, .int .u8 0, .int .u8 0, .slice none 0 0, .int .u16 0, .int .u32 0, .slice none 0 0, .slice none 0 0, .slice none 0 0, .slice none 0 0]) (t := 47) ?hr ?_; (case hd => rfl); (case hg => rfl); (case hr => first | (go_simp; done) | (go_simp; rfl)); intro g hgg w2 hbox hb; have BG := Aside0.mk hbox; have NR := Aside0.mk ((by rw [hgg]; exact Nat.ne_of_lt (blk_lt BR.out)) : gr ≠ g); have GG := Aside0.mk ((by rw [hgg]; exact HB.out.size) : w.heap.size ≤ g); have n0_ := Aside0.mk (blk_below BR.out hb); have n1_ := Aside0.mk (below_step HB.out hb); clear BR HB hbox hb hgg; have BR := n0_; have HB := n1_; clear n0_ n1_; have hz0 : w2.cell? ⟨g, 0, none⟩ = some (.int .u16 0) := (blk_cell BG.out 0).trans rfl; have hz1 : w2.cell? ⟨g, 1, none⟩ = some (.int .u8 0) := (blk_cell BG.out 1).trans rfl; have hz2 : w2.cell? ⟨g, 2, none⟩ = some (.int .u8 0) := (blk_cell BG.out 2).trans rfl; have hz3 : w2.cell? ⟨g, 3, none⟩ = some (.slice none 0 0) := (blk_cell BG.out 3).trans rfl; have hz4 : w2.cell? ⟨g, 4, none⟩ = some (.int .u16 0) := (blk_cell BG.out 4).trans rfl; have hz5 : w2.cell? ⟨g, 5, none⟩ = some (.int .u32 0) := (blk_cell BG.out 5).trans rfl; have hz6 : w2.cell? ⟨g, 6, none⟩ = some (.slice none 0 0) := (blk_cell BG.out 6).trans rfl; have hz7 : w2.cell? ⟨g, 7, none⟩ = some (.slice none 0 0) := (blk_cell BG.out 7).trans rfl; have hz8 : w2.cell? ⟨g, 8, none⟩ = some (.slice none 0 0) := (blk_cell BG.out 8).trans rfl; have hz9 : w2.cell? ⟨g, 9, none⟩ = some (.slice none 0 0) := (blk_cell BG.out 9).trans rfl; have hf0 := blk_frozen BG.out 0; have hf1 := blk_frozen BG.out 1; have hf2 := blk_frozen BG.out 2; have hf3 := blk_frozen BG.out 3; have hf4 := blk_frozen BG.out 4; have hf5 := blk_frozen BG.out 5; have hf6 := blk_frozen BG.out 6; have hf7 := blk_frozen BG.out 7; have hf8 := blk_frozen BG.out 8; have hf9 := blk_frozen BG.out 9))
 clear hz0 hz1 hz2 hz3 hz4 hz5 hz6 hz7 hz8 hz9 hf0 hf1 hf2 hf3 hf4 hf5 hf6 hf7 hf8 hf9
 have q0 := blk_put BG.out 0 (.int .u16 49187) (rfl : _ = (#[.int .u16 49187, .int .u8 0, .int .u8 0, .slice none 0 0, .int .u16 0, .int .u32 0, .slice none 0 0, .slice none 0 0, .slice none 0 0, .slice none 0 0] : Array Value))
 have q1 := blk_put q0 1 (.int .u8 0) (rfl : _ = (#[.int .u16 49187, .int .u8 0, .int .u8 0, .slice none 0 0, .int .u16 0, .int .u32 0, .slice none 0 0, .slice none 0 0, .slice none 0 0, .slice none 0 0] : Array Value))
 have q2 := blk_put q1 2 (.int .u8 0) (rfl : _ = (#[.int .u16 49187, .int .u8 0, .int .u8 0, .slice none 0 0, .int .u16 0, .int .u32 0, .slice none 0 0, .slice none 0 0, .slice none 0 0, .slice none 0 0] : Array Value))
 have q3 := blk_put q2 3 (.slice none 0 0) (rfl : _ = (#[.int .u16 49187, .int .u8 0, .int .u8 0, .slice none 0 0, .int .u16 0, .int .u32 0, .slice none 0 0, .slice none 0 0, .slice none 0 0, .slice none 0 0] : Array Value))
 have q4 := blk_put q3 4 (.int .u16 0) (rfl : _ = (#[.int .u16 49187, .int .u8 0, .int .u8 0, .slice none 0 0, .int .u16 0, .int .u32 0, .slice none 0 0, .slice none 0 0, .slice none 0 0, .slice none 0 0] : Array Value))
 have q5 := blk_put q4 5 (.int .u32 0) (rfl : _ = (#[.int .u16 49187, .int .u8 0, .int .u8 0, .slice none 0 0, .int .u16 0, .int .u32 0, .slice none 0 0, .slice none 0 0, .slice none 0 0, .slice none 0 0] : Array Value))
 have q6 := blk_put q5 6 (.slice none 0 0) (rfl : _ = (#[.int .u16 49187, .int .u8 0, .int .u8 0, .slice none 0 0, .int .u16 0, .int .u32 0, .slice none 0 0, .slice none 0 0, .slice none 0 0, .slice none 0 0] : Array Value))
 have q7 := blk_put q6 7 (.slice none 0 0) (rfl : _ = (#[.int .u16 49187, .int .u8 0, .int .u8 0, .slice none 0 0, .int .u16 0, .int .u32 0, .slice none 0 0, .slice none 0 0, .slice none 0 0, .slice none 0 0] : Array Value))
 have q8 := blk_put q7 8 (.slice none 0 0) (rfl : _ = (#[.int .u16 49187, .int .u8 0, .int .u8 0, .slice none 0 0, .int .u16 0, .int .u32 0, .slice none 0 0, .slice none 0 0, .slice none 0 0, .slice none 0 0] : Array Value))
 have q9 := blk_put q8 9 (.slice none 0 0) (rfl : _ = (#[.int .u16 49187, .int .u8 0, .int .u8 0, .slice none 0 0, .int .u16 0, .int .u32 0, .slice none 0 0, .slice none 0 0, .slice none 0 0, .slice none 0 0] : Array Value))
 have n0_ := Aside0.mk q9
 have n1_ := Aside0.mk (show (((((((((((w2.setCell ⟨g, 0, none⟩ (.int .u16 49187)).setCell ⟨g, 1, none⟩ (.int .u8 0)).setCell ⟨g, 2, none⟩ (.int .u8 0)).setCell ⟨g, 3, none⟩ (.slice none 0 0)).setCell ⟨g, 4, none⟩ (.int .u16 0)).setCell ⟨g, 5, none⟩ (.int .u32 0)).setCell ⟨g, 6, none⟩ (.slice none 0 0)).setCell ⟨g, 7, none⟩ (.slice none 0 0)).setCell ⟨g, 8, none⟩ (.slice none 0 0)).setCell ⟨g, 9, none⟩ (.slice none 0 0))).heap[gr]? = some (.cells #[.int .u16 0, .int .u8 0, .int .u8 0, .slice none 0 0, .int .u16 0, .int .u32 0, .slice none 0 0, .slice none 0 0, .slice none 0 0, .slice none 0 0] 47 (0, 0)) from (blk_far (p := ⟨g, 9, none⟩) (blk_far (p := ⟨g, 8, none⟩) (blk_far (p := ⟨g, 7, none⟩) (blk_far (p := ⟨g, 6, none⟩) (blk_far (p := ⟨g, 5, none⟩) (blk_far (p := ⟨g, 4, none⟩) (blk_far (p := ⟨g, 3, none⟩) (blk_far (p := ⟨g, 2, none⟩) (blk_far (p := ⟨g, 1, none⟩) (blk_far (p := ⟨g, 0, none⟩) BR.out NR.out (.int .u16 49187)) NR.out (.int .u8 0)) NR.out (.int .u8 0)) NR.out (.slice none 0 0)) NR.out (.int .u16 0)) NR.out (.int .u32 0)) NR.out (.slice none 0 0)) NR.out (.slice none 0 0)) NR.out (.slice none 0 0)) NR.out (.slice none 0 0)))
 have n2_ := Aside0.mk (show Below w.heap.size w ((((((((((w2.setCell ⟨g, 0, none⟩ (.int .u16 49187)).setCell ⟨g, 1, none⟩ (.int .u8 0)).setCell ⟨g, 2, none⟩ (.int .u8 0)).setCell ⟨g, 3, none⟩ (.slice none 0 0)).setCell ⟨g, 4, none⟩ (.int .u16 0)).setCell ⟨g, 5, none⟩ (.int .u32 0)).setCell ⟨g, 6, none⟩ (.slice none 0 0)).setCell ⟨g, 7, none⟩ (.slice none 0 0)).setCell ⟨g, 8, none⟩ (.slice none 0 0)).setCell ⟨g, 9, none⟩ (.slice none 0 0)) from (below_set (below_set (below_set (below_set (below_set (below_set (below_set (below_set (below_set (below_set HB.out GG.out) GG.out) GG.out) GG.out) GG.out) GG.out) GG.out) GG.out) GG.out) GG.out))
 clear BG BR HB q0 q1 q2 q3 q4 q5 q6 q7 q8 q9
 generalize ((((((((((w2.setCell ⟨g, 0, none⟩ (.int .u16 49187)).setCell ⟨g, 1, none⟩ (.int .u8 0)).setCell ⟨g, 2, none⟩ (.int .u8 0)).setCell ⟨g, 3, none⟩ (.slice none 0 0)).setCell ⟨g, 4, none⟩ (.int .u16 0)).setCell ⟨g, 5, none⟩ (.int .u32 0)).setCell ⟨g, 6, none⟩ (.slice none 0 0)).setCell ⟨g, 7, none⟩ (.slice none 0 0)).setCell ⟨g, 8, none⟩ (.slice none 0 0)).setCell ⟨g, 9, none⟩ (.slice none 0 0)) = w5 at n0_ n1_ n2_ ⊢
 have BG := n0_
 have BR := n1_
 have HB := n2_
 clear n0_ n1_ n2_
 go_upto_region 4 with (first | (go_at_call 53; refine (ctl_Get.calls k A0 c0 l0 code id rest e _ ?s1 HC0.out HG.out).mono ?_; (case s1 => exact Kd.C_below HR0.out HB.out); rintro x w6 ⟨v2, rfl, hv, hb⟩; have HV := Aside0.mk (Kd.R_lower hv HB.out.size); have n0_ := Aside0.mk (blk_below BG.out hb); have n1_ := Aside0.mk (blk_below BR.out hb); have n2_ := Aside0.mk (below_step HB.out hb); clear BG BR HB hb hv; have BG := n0_; have BR := n1_; have HB := n2_; clear n0_ n1_ n2_; obtain ⟨Av, cv, ev⟩ := Kd.R_slice HV.out; subst ev; have hz1 : w6.cell? ⟨g, 1, none⟩ = some (.int .u8 0) := (blk_cell BG.out 1).trans rfl; have hz2 : w6.cell? ⟨g, 2, none⟩ = some (.int .u8 0) := (blk_cell BG.out 2).trans rfl; have hf1 := blk_frozen BG.out 1; have hf2 := blk_frozen BG.out 2))
 clear hz1 hz2 hf1 hf2
 have n0_ := Aside0.mk (show ((w6.setCell ⟨g, 1, none⟩ (.int .u8 code)).setCell ⟨g, 2, none⟩ (.int .u8 id)).heap[g]? = some (.cells #[.int .u16 49187, .int .u8 code, .int .u8 id, .slice none 0 0, .int .u16 0, .int .u32 0, .slice none 0 0, .slice none 0 0, .slice none 0 0, .slice none 0 0] 47 (0, 0)) from blk_put (blk_put BG.out 1 (.int .u8 code) rfl) 2 (.int .u8 id) rfl)
 have n1_ := Aside0.mk (show ((w6.setCell ⟨g, 1, none⟩ (.int .u8 code)).setCell ⟨g, 2, none⟩ (.int .u8 id)).heap[gr]? = some (.cells #[.int .u16 0, .int .u8 0, .int .u8 0, .slice none 0 0, .int .u16 0, .int .u32 0, .slice none 0 0, .slice none 0 0, .slice none 0 0, .slice none 0 0] 47 (0, 0)) from blk_far (p := ⟨g, 2, none⟩) (blk_far (p := ⟨g, 1, none⟩) BR.out NR.out _) NR.out _)
 have n2_ := Aside0.mk (show Below w.heap.size w ((w6.setCell ⟨g, 1, none⟩ (.int .u8 code)).setCell ⟨g, 2, none⟩ (.int .u8 id)) from below_set (below_set HB.out GG.out) GG.out)
 have n3_ := Aside0.mk (show Kd.R (Kd.int .u8) 5 ((w6.setCell ⟨g, 1, none⟩ (.int .u8 code)).setCell ⟨g, 2, none⟩ (.int .u8 id)) w.heap.size (fun k_ => True) (.slice Av rest.length cv) rest from Kd.R_mono (Kd.R_far (p := ⟨g, 2, none⟩) (Kd.R_far (p := ⟨g, 1, none⟩) (Kd.R_types HV.out BG.out (by decide)) (fun _ hk => hk.2) _) (fun _ hk => hk.2) _) (fun _ _ => trivial))
 clear BG BR HB HV
 generalize ((w6.setCell ⟨g, 1, none⟩ (.int .u8 code)).setCell ⟨g, 2, none⟩ (.int .u8 id)) = w7 at n0_ n1_ n2_ n3_ ⊢
 have BG := n0_
 have BR := n1_
 have HB := n2_
 have HV := n3_
 clear n0_ n1_ n2_ n3_
 go_wp2_with (first | (go_at_call 50; refine (pt_texts2 g code _ _ _ _ _ _ _ _ _ _ BG.out HC.out).mono ?_; rintro x w8 ⟨b, rfl, hlt, hcs, hb⟩; have NGB := Aside0.mk (show g ≠ b from by have := blk_lt BG.out; omega); have NRB := Aside0.mk (show gr ≠ b from by have := blk_lt BR.out; omega); have n4_ := Aside0.mk (show b ≠ g from NGB.out.symm); have n0_ := Aside0.mk (blk_below BG.out hb); have n1_ := Aside0.mk (blk_below BR.out hb); have n2_ := Aside0.mk (Kd.R_below HV.out hb); have n3_ := Aside0.mk (below_step HB.out hb); have BP := Aside0.mk hcs; clear BG BR HV HB hb hcs hlt; have BG := n0_; have BR := n1_; have HB := n3_; have HV := Aside0.mk (Kd.R_V (base' := 0) (Kd.R_mono (Kd.R_types (Kd.R_types (Kd.R_types n2_.out BG.out (by decide)) BR.out (by decide)) BP.out (by decide)) (ok' := fun k_ => k_ ≠ g ∧ k_ ≠ gr ∧ k_ ≠ b) (fun _ hk => ⟨hk.1.1.2, hk.1.2, hk.2⟩))); clear n0_ n1_ n2_ n3_ n4_))
 go_loopg [33, 6, 9, 10] 2 (fun kq v33 v6 v9 v10 w' => ∃ (x : Nat) (rx : List Int) (A : Option Addr) (cx : Nat) (L1 : List Int) (B1 : Option Addr) (d1 : Nat) (L2 : List Int) (B2 : Option Addr) (d2 : Nat), v33 = .int .i64 x ∧ v6 = .slice A rx.length cx ∧ Aside0 (x + kq = 2 ∧ x ≤ 1) ∧ Aside0 ((x ≤ 0 → B1 = none ∧ L1 = [] ∧ d1 = 0) ∧ (x ≤ 1 → B2 = none ∧ L2 = [] ∧ d2 = 0)) ∧ Aside0 ((if x = 0 then papG1 code id rx else papE code id L1 [] rx) = some (r1, r2, r3, r4, r5, r6, r7, r8, r9, r10, r11)) ∧ Aside0 (Kd.R (Kd.int .u8) 5 w' w.heap.size (fun k_ => some k_ ≠ (.slice B2 L2.length d2 : Value).ownBlock) (.slice B1 L1.length d1) L1) ∧ Aside0 (Kd.R (Kd.int .u8) 5 w' w.heap.size (fun k_ => some k_ ≠ (.slice B1 L1.length d1 : Value).ownBlock) (.slice B2 L2.length d2) L2) ∧ Aside0 (Kd.V (Kd.int .u8) 5 w' 0 (fun k_ => k_ ≠ g ∧ k_ ≠ gr ∧ k_ ≠ b) (.slice A rx.length cx) rx) ∧ Aside0 (w'.heap[g]? = some (.cells #[.int .u16 49187, .int .u8 code, .int .u8 id, .slice none 0 0, .int .u16 0, .int .u32 0, .slice B1 L1.length d1, .slice B2 L2.length d2, .slice none 0 0, .slice none 0 0] 47 (0, 0))) ∧ Aside0 (w'.heap[gr]? = some (.cells #[.int .u16 0, .int .u8 0, .int .u8 0, .slice none 0 0, .int .u16 0, .int .u32 0, .slice none 0 0, .slice none 0 0, .slice none 0 0, .slice none 0 0] 47 (0, 0))) ∧ Aside0 (w'.heap[b]? = some (.cells (lieAt g 1) 83 (0, 0))) ∧ Aside0 (Below w.heap.size w w'))
 case atStart => exact ⟨0, rest, Av, cv, [], none, 0, [], none, 0, rfl, rfl, ⟨by omega⟩, ⟨fun _ => ⟨rfl, rfl, rfl⟩, fun _ => ⟨rfl, rfl, rfl⟩⟩, HF, ⟨Kd.R_nil _ _ _ _ _⟩, ⟨Kd.R_nil _ _ _ _ _⟩, HV, BG, BR, BP, HB⟩
 case round =>
  clear BG BR BP HB HV HF
  obtain ⟨x, rx, A, cx, L1, B1, d1, L2, B2, d2, rfl, rfl, hk, HZ, HF, HL1, HL2, HV, BG, BR, BP, HB⟩ := hrel
  have hr_ := NR.out
  have hr2_ := NR.out.symm
  have hx : x = 0 ∨ x = 1 := by have := hk.out.2; omega
  rcases hx with rfl | rfl
  · have HK := Aside0.mk hk.out
    clear hk
    obtain ⟨rfl, rfl, rfl⟩ := HZ.out.1 (by omega)
    obtain ⟨rfl, rfl, rfl⟩ := HZ.out.2 (by omega)
    have hf : papG1 code id rx = some (r1, r2, r3, r4, r5, r6, r7, r8, r9, r10, r11) := HF.out
    unfold papG1 at hf
    obtain ⟨⟨s1, s2, ok⟩, ht, hf⟩ := Option.bind_eq_some_iff.mp hf
    have HT := Aside0.mk ht
    clear ht HF
    have hp : wr.cell? ⟨b, 0, none⟩ = some (.pointer (some ⟨g, 6, none⟩)) := (blk_cell BP.out 0).trans rfl
    cases ok with
    | false =>
     simp only [Bool.false_eq_true, if_false] at hf
     simp only [papZ, Option.some.injEq, Prod.mk.injEq] at hf
     obtain ⟨rfl, rfl, rfl, rfl, rfl, rfl, rfl, rfl, rfl, rfl, rfl⟩ := hf
     go_wp2_with (first | (go_at_call 54; refine (pap_text.calls (fun k_ => k_ ≠ g ∧ k_ ≠ gr ∧ k_ ≠ b) A cx rx s1 s2 false _ ?s HT.out).mono ?_; (case s => exact HV.out); rintro x w8 ⟨v0, v1, rfl, ho0, ho1, hb⟩; have HN := Aside0.mk ho0; have HV2 := Aside0.mk (Kd.V_mono (ok' := fun k_ => k_ ≠ g ∧ k_ ≠ gr ∧ k_ ≠ b) ho1 (fun k_ hk => hk.1.elim (fun h => h) (fun h => ⟨fun e => by have := blk_lt BG.out; omega, fun e => by have := blk_lt BR.out; omega, fun e => by have := blk_lt BP.out; omega⟩))); have LG := Aside0.mk (Kd.R_lt HL1.out); have SZ := Aside0.mk HB.out.size; have n0_ := Aside0.mk (blk_below BG.out hb); have n1_ := Aside0.mk (blk_below BR.out hb); have n2_ := Aside0.mk (blk_below BP.out hb); have n3_ := Aside0.mk (Kd.R_below HL1.out hb); have n4_ := Aside0.mk (below_step HB.out hb); clear BG BR BP HB HL1 HL2 HV hb ho0 ho1; have BG := n0_; have BR := n1_; have BP := n2_; have HL1 := n3_; have HB := n4_; clear n0_ n1_ n2_ n3_ n4_; obtain ⟨A8, c8, e8⟩ := Kd.R_slice HN.out; subst e8; obtain ⟨A9, c9, e9⟩ := Kd.V_slice HV2.out; subst e9; have hz : w8.cell? ⟨g, 6, none⟩ = some (.slice none 0 0) := (blk_cell BG.out 6).trans rfl; have hfz := blk_frozen BG.out 6; have hr0 : w8.cell? ⟨gr, 0, none⟩ = some (.int .u16 0) := (blk_cell BR.out 0).trans rfl; have hr1 : w8.cell? ⟨gr, 1, none⟩ = some (.int .u8 0) := (blk_cell BR.out 1).trans rfl; have hr2 : w8.cell? ⟨gr, 2, none⟩ = some (.int .u8 0) := (blk_cell BR.out 2).trans rfl; have hr3 : w8.cell? ⟨gr, 3, none⟩ = some (.slice none 0 0) := (blk_cell BR.out 3).trans rfl; have hr4 : w8.cell? ⟨gr, 4, none⟩ = some (.int .u16 0) := (blk_cell BR.out 4).trans rfl; have hr5 : w8.cell? ⟨gr, 5, none⟩ = some (.int .u32 0) := (blk_cell BR.out 5).trans rfl; have hr6 : w8.cell? ⟨gr, 6, none⟩ = some (.slice none 0 0) := (blk_cell BR.out 6).trans rfl; have hr7 : w8.cell? ⟨gr, 7, none⟩ = some (.slice none 0 0) := (blk_cell BR.out 7).trans rfl; have hr8 : w8.cell? ⟨gr, 8, none⟩ = some (.slice none 0 0) := (blk_cell BR.out 8).trans rfl; have hr9 : w8.cell? ⟨gr, 9, none⟩ = some (.slice none 0 0) := (blk_cell BR.out 9).trans rfl; have hs0 := blk_frozen BR.out 0; have hs1 := blk_frozen BR.out 1; have hs2 := blk_frozen BR.out 2; have hs3 := blk_frozen BR.out 3; have hs4 := blk_frozen BR.out 4; have hs5 := blk_frozen BR.out 5; have hs6 := blk_frozen BR.out 6; have hs7 := blk_frozen BR.out 7; have hs8 := blk_frozen BR.out 8; have hs9 := blk_frozen BR.out 9))
     have q_ := blk_far (p := ⟨g, 6, none⟩) BR.out NR.out (.slice A8 s1.length c8)
     have q0 := blk_put q_ 0 (.int .u16 0) (rfl : _ = (#[.int .u16 0, .int .u8 0, .int .u8 0, .slice none 0 0, .int .u16 0, .int .u32 0, .slice none 0 0, .slice none 0 0, .slice none 0 0, .slice none 0 0] : Array Value))
     have q1 := blk_put q0 1 (.int .u8 0) (rfl : _ = (#[.int .u16 0, .int .u8 0, .int .u8 0, .slice none 0 0, .int .u16 0, .int .u32 0, .slice none 0 0, .slice none 0 0, .slice none 0 0, .slice none 0 0] : Array Value))
     have q2 := blk_put q1 2 (.int .u8 0) (rfl : _ = (#[.int .u16 0, .int .u8 0, .int .u8 0, .slice none 0 0, .int .u16 0, .int .u32 0, .slice none 0 0, .slice none 0 0, .slice none 0 0, .slice none 0 0] : Array Value))
     have q3 := blk_put q2 3 (.slice none 0 0) (rfl : _ = (#[.int .u16 0, .int .u8 0, .int .u8 0, .slice none 0 0, .int .u16 0, .int .u32 0, .slice none 0 0, .slice none 0 0, .slice none 0 0, .slice none 0 0] : Array Value))
     have q4 := blk_put q3 4 (.int .u16 0) (rfl : _ = (#[.int .u16 0, .int .u8 0, .int .u8 0, .slice none 0 0, .int .u16 0, .int .u32 0, .slice none 0 0, .slice none 0 0, .slice none 0 0, .slice none 0 0] : Array Value))
     have q5 := blk_put q4 5 (.int .u32 0) (rfl : _ = (#[.int .u16 0, .int .u8 0, .int .u8 0, .slice none 0 0, .int .u16 0, .int .u32 0, .slice none 0 0, .slice none 0 0, .slice none 0 0, .slice none 0 0] : Array Value))
     have q6 := blk_put q5 6 (.slice none 0 0) (rfl : _ = (#[.int .u16 0, .int .u8 0, .int .u8 0, .slice none 0 0, .int .u16 0, .int .u32 0, .slice none 0 0, .slice none 0 0, .slice none 0 0, .slice none 0 0] : Array Value))
     have q7 := blk_put q6 7 (.slice none 0 0) (rfl : _ = (#[.int .u16 0, .int .u8 0, .int .u8 0, .slice none 0 0, .int .u16 0, .int .u32 0, .slice none 0 0, .slice none 0 0, .slice none 0 0, .slice none 0 0] : Array Value))
     have q8 := blk_put q7 8 (.slice none 0 0) (rfl : _ = (#[.int .u16 0, .int .u8 0, .int .u8 0, .slice none 0 0, .int .u16 0, .int .u32 0, .slice none 0 0, .slice none 0 0, .slice none 0 0, .slice none 0 0] : Array Value))
     have q9 := blk_put q8 9 (.slice none 0 0) (rfl : _ = (#[.int .u16 0, .int .u8 0, .int .u8 0, .slice none 0 0, .int .u16 0, .int .u32 0, .slice none 0 0, .slice none 0 0, .slice none 0 0, .slice none 0 0] : Array Value))
     refine bodyPost_ret (results_ct rfl _ _ gr 47 #[.int .u16 0, .int .u8 0, .int .u8 0, .slice none 0 0, .int .u16 0, .int .u32 0, .slice none 0 0, .slice none 0 0, .slice none 0 0, .slice none 0 0] (0, 0) _ rfl q9 hu47 rfl (by kernel_rfl)) rfl ?_
     exact ⟨_, _, _, _, _, rfl, Kd.S_nil _ _ _ _ _, Kd.R_nil _ _ _ _ _, Kd.R_nil _ _ _ _ _, Kd.R_nil _ _ _ _ _, Kd.R_nil _ _ _ _ _, below_set (below_set (below_set (below_set (below_set (below_set (below_set (below_set (below_set (below_set (below_set HB.out GG.out) GR.out) GR.out) GR.out) GR.out) GR.out) GR.out) GR.out) GR.out) GR.out) GR.out⟩
    | true =>
     simp only [if_true] at hf
     have HF := Aside0.mk hf
     clear hf
     cases gk with
     | zero => have := HK.out; omega
     | succ k1 =>
      go_wp2_with (first | (go_at_call 54; refine (pap_text.calls (fun k_ => k_ ≠ g ∧ k_ ≠ gr ∧ k_ ≠ b) A cx rx s1 s2 true _ ?s HT.out).mono ?_; (case s => exact HV.out); rintro x w8 ⟨v0, v1, rfl, ho0, ho1, hb⟩; have HN := Aside0.mk ho0; have HV2 := Aside0.mk (Kd.V_mono (ok' := fun k_ => k_ ≠ g ∧ k_ ≠ gr ∧ k_ ≠ b) ho1 (fun k_ hk => hk.1.elim (fun h => h) (fun h => ⟨fun e => by have := blk_lt BG.out; omega, fun e => by have := blk_lt BR.out; omega, fun e => by have := blk_lt BP.out; omega⟩))); have LG := Aside0.mk (Kd.R_lt HL1.out); have SZ := Aside0.mk HB.out.size; have n0_ := Aside0.mk (blk_below BG.out hb); have n1_ := Aside0.mk (blk_below BR.out hb); have n2_ := Aside0.mk (blk_below BP.out hb); have n3_ := Aside0.mk (Kd.R_below HL1.out hb); have n4_ := Aside0.mk (below_step HB.out hb); clear BG BR BP HB HL1 HL2 HV hb ho0 ho1; have BG := n0_; have BR := n1_; have BP := n2_; have HL1 := n3_; have HB := n4_; clear n0_ n1_ n2_ n3_ n4_; obtain ⟨A8, c8, e8⟩ := Kd.R_slice HN.out; subst e8; obtain ⟨A9, c9, e9⟩ := Kd.V_slice HV2.out; subst e9; have hz : w8.cell? ⟨g, 6, none⟩ = some (.slice none 0 0) := (blk_cell BG.out 6).trans rfl; have hfz := blk_frozen BG.out 6; have hr0 : w8.cell? ⟨gr, 0, none⟩ = some (.int .u16 0) := (blk_cell BR.out 0).trans rfl; have hr1 : w8.cell? ⟨gr, 1, none⟩ = some (.int .u8 0) := (blk_cell BR.out 1).trans rfl; have hr2 : w8.cell? ⟨gr, 2, none⟩ = some (.int .u8 0) := (blk_cell BR.out 2).trans rfl; have hr3 : w8.cell? ⟨gr, 3, none⟩ = some (.slice none 0 0) := (blk_cell BR.out 3).trans rfl; have hr4 : w8.cell? ⟨gr, 4, none⟩ = some (.int .u16 0) := (blk_cell BR.out 4).trans rfl; have hr5 : w8.cell? ⟨gr, 5, none⟩ = some (.int .u32 0) := (blk_cell BR.out 5).trans rfl; have hr6 : w8.cell? ⟨gr, 6, none⟩ = some (.slice none 0 0) := (blk_cell BR.out 6).trans rfl; have hr7 : w8.cell? ⟨gr, 7, none⟩ = some (.slice none 0 0) := (blk_cell BR.out 7).trans rfl; have hr8 : w8.cell? ⟨gr, 8, none⟩ = some (.slice none 0 0) := (blk_cell BR.out 8).trans rfl; have hr9 : w8.cell? ⟨gr, 9, none⟩ = some (.slice none 0 0) := (blk_cell BR.out 9).trans rfl; have hs0 := blk_frozen BR.out 0; have hs1 := blk_frozen BR.out 1; have hs2 := blk_frozen BR.out 2; have hs3 := blk_frozen BR.out 3; have hs4 := blk_frozen BR.out 4; have hs5 := blk_frozen BR.out 5; have hs6 := blk_frozen BR.out 6; have hs7 := blk_frozen BR.out 7; have hs8 := blk_frozen BR.out 8; have hs9 := blk_frozen BR.out 9))
      go_roundg k1
      case measure => have := HK.out; omega
      case rel => exact ⟨1, s2, A9, c9, s1, A8, c8, [], none, 0, rfl, rfl, ⟨by have := HK.out; omega⟩, ⟨fun h => absurd h (by omega), fun h => ⟨rfl, rfl, rfl⟩⟩, HF, ⟨Kd.R_mono (Kd.R_far (p := ⟨g, 6, none⟩) (Kd.R_types (Kd.R_lower HN.out SZ.out) BG.out (by decide)) (fun _ hk => hk.2) (.slice A8 s1.length c8)) (fun k_ hk => (by simp [Value.ownBlock]))⟩, ⟨Kd.R_nil _ _ _ _ _⟩, ⟨Kd.V_far HV2.out (fun _ hk => hk.1) _⟩, ⟨blk_put BG.out 6 (.slice A8 s1.length c8) rfl⟩, ⟨blk_far BR.out NR.out _⟩, ⟨blk_far BP.out NGB.out.symm _⟩, ⟨below_set HB.out GG.out⟩⟩
  · clear hk
    obtain ⟨rfl, rfl, rfl⟩ := HZ.out.2 (by omega)
    have hf : papE code id L1 [] rx = some (r1, r2, r3, r4, r5, r6, r7, r8, r9, r10, r11) := HF.out
    unfold papE at hf
    have hz0 : wr.cell? ⟨g, 0, none⟩ = some (.int .u16 49187) := (blk_cell BG.out 0).trans rfl
    have hz1 : wr.cell? ⟨g, 1, none⟩ = some (.int .u8 code) := (blk_cell BG.out 1).trans rfl
    have hz2 : wr.cell? ⟨g, 2, none⟩ = some (.int .u8 id) := (blk_cell BG.out 2).trans rfl
    have hz3 : wr.cell? ⟨g, 3, none⟩ = some (.slice none 0 0) := (blk_cell BG.out 3).trans rfl
    have hz4 : wr.cell? ⟨g, 4, none⟩ = some (.int .u16 0) := (blk_cell BG.out 4).trans rfl
    have hz5 : wr.cell? ⟨g, 5, none⟩ = some (.int .u32 0) := (blk_cell BG.out 5).trans rfl
    have hz6 : wr.cell? ⟨g, 6, none⟩ = some (.slice B1 L1.length d1) := (blk_cell BG.out 6).trans rfl
    have hz7 : wr.cell? ⟨g, 7, none⟩ = some (.slice none 0 0) := (blk_cell BG.out 7).trans rfl
    have hz8 : wr.cell? ⟨g, 8, none⟩ = some (.slice none 0 0) := (blk_cell BG.out 8).trans rfl
    have hz9 : wr.cell? ⟨g, 9, none⟩ = some (.slice none 0 0) := (blk_cell BG.out 9).trans rfl
    have hr0 : wr.cell? ⟨gr, 0, none⟩ = some (.int .u16 0) := (blk_cell BR.out 0).trans rfl
    have hr1 : wr.cell? ⟨gr, 1, none⟩ = some (.int .u8 0) := (blk_cell BR.out 1).trans rfl
    have hr2 : wr.cell? ⟨gr, 2, none⟩ = some (.int .u8 0) := (blk_cell BR.out 2).trans rfl
    have hr3 : wr.cell? ⟨gr, 3, none⟩ = some (.slice none 0 0) := (blk_cell BR.out 3).trans rfl
    have hr4 : wr.cell? ⟨gr, 4, none⟩ = some (.int .u16 0) := (blk_cell BR.out 4).trans rfl
    have hr5 : wr.cell? ⟨gr, 5, none⟩ = some (.int .u32 0) := (blk_cell BR.out 5).trans rfl
    have hr6 : wr.cell? ⟨gr, 6, none⟩ = some (.slice none 0 0) := (blk_cell BR.out 6).trans rfl
    have hr7 : wr.cell? ⟨gr, 7, none⟩ = some (.slice none 0 0) := (blk_cell BR.out 7).trans rfl
    have hr8 : wr.cell? ⟨gr, 8, none⟩ = some (.slice none 0 0) := (blk_cell BR.out 8).trans rfl
    have hr9 : wr.cell? ⟨gr, 9, none⟩ = some (.slice none 0 0) := (blk_cell BR.out 9).trans rfl
    have hs0 := blk_frozen BR.out 0
    have hs1 := blk_frozen BR.out 1
    have hs2 := blk_frozen BR.out 2
    have hs3 := blk_frozen BR.out 3
    have hs4 := blk_frozen BR.out 4
    have hs5 := blk_frozen BR.out 5
    have hs6 := blk_frozen BR.out 6
    have hs7 := blk_frozen BR.out 7
    have hs8 := blk_frozen BR.out 8
    have hs9 := blk_frozen BR.out 9
    by_cases hl : (rx.length : Int) > 0
    · rw [if_pos hl] at hf
      have hl0 : decide (0 < rx.length) = true := decide_eq_true (by omega)
      have hl1 : (0 < rx.length) = True := eq_true (by omega)
      clear hl
      simp only [papZ, Option.some.injEq, Prod.mk.injEq] at hf
      obtain ⟨rfl, rfl, rfl, rfl, rfl, rfl, rfl, rfl, rfl, rfl, rfl⟩ := hf
      go_wp2
      have q0 := blk_put BR.out 0 (.int .u16 0) (rfl : _ = (#[.int .u16 0, .int .u8 0, .int .u8 0, .slice none 0 0, .int .u16 0, .int .u32 0, .slice none 0 0, .slice none 0 0, .slice none 0 0, .slice none 0 0] : Array Value))
      have q1 := blk_put q0 1 (.int .u8 0) (rfl : _ = (#[.int .u16 0, .int .u8 0, .int .u8 0, .slice none 0 0, .int .u16 0, .int .u32 0, .slice none 0 0, .slice none 0 0, .slice none 0 0, .slice none 0 0] : Array Value))
      have q2 := blk_put q1 2 (.int .u8 0) (rfl : _ = (#[.int .u16 0, .int .u8 0, .int .u8 0, .slice none 0 0, .int .u16 0, .int .u32 0, .slice none 0 0, .slice none 0 0, .slice none 0 0, .slice none 0 0] : Array Value))
      have q3 := blk_put q2 3 (.slice none 0 0) (rfl : _ = (#[.int .u16 0, .int .u8 0, .int .u8 0, .slice none 0 0, .int .u16 0, .int .u32 0, .slice none 0 0, .slice none 0 0, .slice none 0 0, .slice none 0 0] : Array Value))
      have q4 := blk_put q3 4 (.int .u16 0) (rfl : _ = (#[.int .u16 0, .int .u8 0, .int .u8 0, .slice none 0 0, .int .u16 0, .int .u32 0, .slice none 0 0, .slice none 0 0, .slice none 0 0, .slice none 0 0] : Array Value))
      have q5 := blk_put q4 5 (.int .u32 0) (rfl : _ = (#[.int .u16 0, .int .u8 0, .int .u8 0, .slice none 0 0, .int .u16 0, .int .u32 0, .slice none 0 0, .slice none 0 0, .slice none 0 0, .slice none 0 0] : Array Value))
      have q6 := blk_put q5 6 (.slice none 0 0) (rfl : _ = (#[.int .u16 0, .int .u8 0, .int .u8 0, .slice none 0 0, .int .u16 0, .int .u32 0, .slice none 0 0, .slice none 0 0, .slice none 0 0, .slice none 0 0] : Array Value))
      have q7 := blk_put q6 7 (.slice none 0 0) (rfl : _ = (#[.int .u16 0, .int .u8 0, .int .u8 0, .slice none 0 0, .int .u16 0, .int .u32 0, .slice none 0 0, .slice none 0 0, .slice none 0 0, .slice none 0 0] : Array Value))
      have q8 := blk_put q7 8 (.slice none 0 0) (rfl : _ = (#[.int .u16 0, .int .u8 0, .int .u8 0, .slice none 0 0, .int .u16 0, .int .u32 0, .slice none 0 0, .slice none 0 0, .slice none 0 0, .slice none 0 0] : Array Value))
      have q9 := blk_put q8 9 (.slice none 0 0) (rfl : _ = (#[.int .u16 0, .int .u8 0, .int .u8 0, .slice none 0 0, .int .u16 0, .int .u32 0, .slice none 0 0, .slice none 0 0, .slice none 0 0, .slice none 0 0] : Array Value))
      refine bodyPost_ret (results_ct rfl _ _ gr 47 #[.int .u16 0, .int .u8 0, .int .u8 0, .slice none 0 0, .int .u16 0, .int .u32 0, .slice none 0 0, .slice none 0 0, .slice none 0 0, .slice none 0 0] (0, 0) _ rfl q9 hu47 rfl (by kernel_rfl)) rfl ?_
      exact ⟨_, _, _, _, _, rfl, Kd.S_nil _ _ _ _ _, Kd.R_nil _ _ _ _ _, Kd.R_nil _ _ _ _ _, Kd.R_nil _ _ _ _ _, Kd.R_nil _ _ _ _ _, below_set (below_set (below_set (below_set (below_set (below_set (below_set (below_set (below_set (below_set (HB.out) GR.out) GR.out) GR.out) GR.out) GR.out) GR.out) GR.out) GR.out) GR.out) GR.out⟩
    · rw [if_neg hl] at hf
      have hl0 : decide (0 < rx.length) = false := decide_eq_false (by omega)
      have hl1 : (0 < rx.length) = False := eq_false (by omega)
      clear hl
      simp only [Option.some.injEq, Prod.mk.injEq] at hf
      obtain ⟨rfl, rfl, rfl, rfl, rfl, rfl, rfl, rfl, rfl, rfl, rfl⟩ := hf
      go_wp2
      have q0 := blk_put BR.out 0 (.int .u16 49187) (rfl : _ = (#[.int .u16 49187, .int .u8 0, .int .u8 0, .slice none 0 0, .int .u16 0, .int .u32 0, .slice none 0 0, .slice none 0 0, .slice none 0 0, .slice none 0 0] : Array Value))
      have q1 := blk_put q0 1 (.int .u8 code) (rfl : _ = (#[.int .u16 49187, .int .u8 code, .int .u8 0, .slice none 0 0, .int .u16 0, .int .u32 0, .slice none 0 0, .slice none 0 0, .slice none 0 0, .slice none 0 0] : Array Value))
      have q2 := blk_put q1 2 (.int .u8 id) (rfl : _ = (#[.int .u16 49187, .int .u8 code, .int .u8 id, .slice none 0 0, .int .u16 0, .int .u32 0, .slice none 0 0, .slice none 0 0, .slice none 0 0, .slice none 0 0] : Array Value))
      have q3 := blk_put q2 3 (.slice none 0 0) (rfl : _ = (#[.int .u16 49187, .int .u8 code, .int .u8 id, .slice none 0 0, .int .u16 0, .int .u32 0, .slice none 0 0, .slice none 0 0, .slice none 0 0, .slice none 0 0] : Array Value))
      have q4 := blk_put q3 4 (.int .u16 0) (rfl : _ = (#[.int .u16 49187, .int .u8 code, .int .u8 id, .slice none 0 0, .int .u16 0, .int .u32 0, .slice none 0 0, .slice none 0 0, .slice none 0 0, .slice none 0 0] : Array Value))
      have q5 := blk_put q4 5 (.int .u32 0) (rfl : _ = (#[.int .u16 49187, .int .u8 code, .int .u8 id, .slice none 0 0, .int .u16 0, .int .u32 0, .slice none 0 0, .slice none 0 0, .slice none 0 0, .slice none 0 0] : Array Value))
      have q6 := blk_put q5 6 (.slice B1 L1.length d1) (rfl : _ = (#[.int .u16 49187, .int .u8 code, .int .u8 id, .slice none 0 0, .int .u16 0, .int .u32 0, .slice B1 L1.length d1, .slice none 0 0, .slice none 0 0, .slice none 0 0] : Array Value))
      have q7 := blk_put q6 7 (.slice none 0 0) (rfl : _ = (#[.int .u16 49187, .int .u8 code, .int .u8 id, .slice none 0 0, .int .u16 0, .int .u32 0, .slice B1 L1.length d1, .slice none 0 0, .slice none 0 0, .slice none 0 0] : Array Value))
      have q8 := blk_put q7 8 (.slice none 0 0) (rfl : _ = (#[.int .u16 49187, .int .u8 code, .int .u8 id, .slice none 0 0, .int .u16 0, .int .u32 0, .slice B1 L1.length d1, .slice none 0 0, .slice none 0 0, .slice none 0 0] : Array Value))
      have q9 := blk_put q8 9 (.slice none 0 0) (rfl : _ = (#[.int .u16 49187, .int .u8 code, .int .u8 id, .slice none 0 0, .int .u16 0, .int .u32 0, .slice B1 L1.length d1, .slice none 0 0, .slice none 0 0, .slice none 0 0] : Array Value))
      refine bodyPost_ret (results_ct rfl _ _ gr 47 #[.int .u16 49187, .int .u8 code, .int .u8 id, .slice none 0 0, .int .u16 0, .int .u32 0, .slice B1 L1.length d1, .slice none 0 0, .slice none 0 0, .slice none 0 0] (0, 0) _ rfl q9 hu47 rfl (by kernel_rfl)) rfl ?_
      exact ⟨_, _, _, _, _, rfl, Kd.S_nil _ _ _ _ _, Kd.R_mono (Kd.R_far (p := ⟨gr, 9, none⟩) (Kd.R_far (p := ⟨gr, 8, none⟩) (Kd.R_far (p := ⟨gr, 7, none⟩) (Kd.R_far (p := ⟨gr, 6, none⟩) (Kd.R_far (p := ⟨gr, 5, none⟩) (Kd.R_far (p := ⟨gr, 4, none⟩) (Kd.R_far (p := ⟨gr, 3, none⟩) (Kd.R_far (p := ⟨gr, 2, none⟩) (Kd.R_far (p := ⟨gr, 1, none⟩) (Kd.R_far (p := ⟨gr, 0, none⟩) (Kd.R_types (HL1.out) BR.out (by decide)) (fun _ hk => hk.2) _) (fun _ hk => hk.2) _) (fun _ hk => hk.2) _) (fun _ hk => hk.2) _) (fun _ hk => hk.2) _) (fun _ hk => hk.2) _) (fun _ hk => hk.2) _) (fun _ hk => hk.2) _) (fun _ hk => hk.2) _) (fun _ hk => hk.2) _) (fun _ hk => ⟨by simp [Value.ownBlock], by simp [Value.ownBlock]⟩), Kd.R_nil _ _ _ _ _, Kd.R_nil _ _ _ _ _, Kd.R_nil _ _ _ _ _, below_set (below_set (below_set (below_set (below_set (below_set (below_set (below_set (below_set (below_set (HB.out) GR.out) GR.out) GR.out) GR.out) GR.out) GR.out) GR.out) GR.out) GR.out) GR.out⟩
set_option maxHeartbeats 16000000 in
set_option maxRecDepth 100000 in
theorem pt_get0 (k : Nat) (A0 : Option Addr) (c0 : Nat) (l0 : List Int) (r1 r2 r3 : Int) (r4 : List S57) (r5 r6 : Int) (r7 r8 r9 r10 : List Int) (r11 : Int) (code id e : Int) (rest : List Int) (w : World) (hr0 : Kd.C (Kd.int .u8) w A0 l0.length l0) (hc0 : l0.length ≤ c0) (hg : ctl_Get.f k l0 = some (code, id, rest, e)) (hc : code ≠ 1 ∧ code ≠ 2 ∧ code ≠ 3) (he : e = 0) (h : papG0 code id rest = some (r1, r2, r3, r4, r5, r6, r7, r8, r9, r10, r11)) :
 Calls Try.prog 33 #[.slice A0 l0.length c0] w fun x w' => ∃ v3_ v6_ v7_ v8_ v9_ : Value, x = .returned (.tuple #[.agg #[.int .u16 r1, .int .u8 r2, .int .u8 r3, v3_, .int .u16 r5, .int .u32 r6, v6_, v7_, v8_, v9_], .int .i64 r11]) ∧ Kd.S k57 57 w' w.heap.size (fun k_ => some k_ ≠ (v6_ : Value).ownBlock ∧ some k_ ≠ (v7_ : Value).ownBlock ∧ some k_ ≠ (v8_ : Value).ownBlock) v3_ r4 ∧ Kd.R (Kd.int .u8) 5 w' w.heap.size (fun k_ => some k_ ≠ (v7_ : Value).ownBlock ∧ some k_ ≠ (v8_ : Value).ownBlock) v6_ r7 ∧ Kd.R (Kd.int .u8) 5 w' w.heap.size (fun k_ => some k_ ≠ (v6_ : Value).ownBlock ∧ some k_ ≠ (v8_ : Value).ownBlock) v7_ r8 ∧ Kd.R (Kd.int .u8) 5 w' w.heap.size (fun k_ => some k_ ≠ (v6_ : Value).ownBlock ∧ some k_ ≠ (v7_ : Value).ownBlock) v8_ r9 ∧ Kd.R (Kd.int .u32) 41 w' w.heap.size (fun _ => True) v9_ r10 ∧ Below w.heap.size w w' := by
 have hu47 := Try.underlying47
 have HR0 := Aside0.mk hr0
 have HC0 := Aside0.mk hc0
 have HG := Aside0.mk hg
 have HF := Aside0.mk h
 have HC := Aside0.mk hc
 have he0 : (e != 0) = false := bne_eq_false_iff_eq.mpr he
 clear hr0 hc0 hg h he hc
 have hq : ∀ (w : World) (n c : Nat), (Go.binOp .eql 80 (.slice none n c) (.slice none 0 0)).run Try.prog w = .ok (.bool true) w := fun w n c => Lib.run_eql_slice_nil (P := Try.prog) w 80 83 none n c 0 0 Try.underlying80
 go_enter Try.func33, Try.ntmps33
 go_upto_region 2 with (first | ((with_reducible refine gate_dst (N := 2) rfl ?_); refine box_event ?hg (N := 2) ?hd (cs := #[.int .u16 0, .int .u8 0, .int .u8 0, .slice none 0 0, .int .u16 0, .int .u32 0, .slice none 0 0, .slice none 0 0, .slice none 0 0, .slice none 0 0]) (t := 47) ?hr ?_; (case hd => rfl); (case hg => rfl); (case hr => first | (go_simp; done) | (go_simp; rfl)); intro gr hgr w1 hbox hb; have BR := Aside0.mk hbox; have GR := Aside0.mk ((by rw [hgr]; exact Nat.le_refl _) : w.heap.size ≤ gr); have HB := Aside0.mk hb; clear hbox hb hgr) | ((with_reducible refine gate_dst (N := 4) rfl ?_); refine box_event ?hg (N := 4) ?hd (cs := #[.int .u16 0, .int .u8 0, .int .u8 0, .slice none 0 0, .int .u16 0, .int .u32 0, .slice none 0 0, .slice none 0 0, .slice none 0 0, .slice none 0 0]) (t := 47) ?hr ?_; (case hd => rfl); (case hg => rfl); (case hr => first | (go_simp; done) | (go_simp; rfl)); intro g hgg w2 hbox hb; have BG := Aside0.mk hbox; have NR := Aside0.mk ((by rw [hgg]; exact Nat.ne_of_lt (blk_lt BR.out)) : gr ≠ g); have GG := Aside0.mk ((by rw [hgg]; exact HB.out.size) : w.heap.size ≤ g); have n0_ := Aside0.mk (blk_below BR.out hb); have n1_ := Aside0.mk (below_step HB.out hb); clear BR HB hbox hb hgg; have BR := n0_; have HB := n1_; clear n0_ n1_; have hz0 : w2.cell? ⟨g, 0, none⟩ = some (.int .u16 0) := (blk_cell BG.out 0).trans rfl; have hz1 : w2.cell? ⟨g, 1, none⟩ = some (.int .u8 0) := (blk_cell BG.out 1).trans rfl; have hz2 : w2.cell? ⟨g, 2, none⟩ = some (.int .u8 0) := (blk_cell BG.out 2).trans rfl; have hz3 : w2.cell? ⟨g, 3, none⟩ = some (.slice none 0 0) := (blk_cell BG.out 3).trans rfl; have hz4 : w2.cell? ⟨g, 4, none⟩ = some (.int .u16 0) := (blk_cell BG.out 4).trans rfl; have hz5 : w2.cell? ⟨g, 5, none⟩ = some (.int .u32 0) := (blk_cell BG.out 5).trans rfl; have hz6 : w2.cell? ⟨g, 6, none⟩ = some (.slice none 0 0) := (blk_cell BG.out 6).trans rfl; have hz7 : w2.cell? ⟨g, 7, none⟩ = some (.slice none 0 0) := (blk_cell BG.out 7).trans rfl; have hz8 : w2.cell? ⟨g, 8, none⟩ = some (.slice none 0 0) := (blk_cell BG.out 8).trans rfl; have hz9 : w2.cell? ⟨g, 9, none⟩ = some (.slice none 0 0) := (blk_cell BG.out 9).trans rfl; have hf0 := blk_frozen BG.out 0; have hf1 := blk_frozen BG.out 1; have hf2 := blk_frozen BG.out 2; have hf3 := blk_frozen BG.out 3; have hf4 := blk_frozen BG.out 4; have hf5 := blk_frozen BG.out 5; have hf6 := blk_frozen BG.out 6; have hf7 := blk_frozen BG.out 7; have hf8 := blk_frozen BG.out 8; have hf9 := blk_frozen BG.out 9))
 clear hz0 hz1 hz2 hz3 hz4 hz5 hz6 hz7 hz8 hz9 hf0 hf1 hf2 hf3 hf4 hf5 hf6 hf7 hf8 hf9
 have q0 := blk_put BG.out 0 (.int .u16 49187) (rfl : _ = (#[.int .u16 49187, .int .u8 0, .int .u8 0, .slice none 0 0, .int .u16 0, .int .u32 0, .slice none 0 0, .slice none 0 0, .slice none 0 0, .slice none 0 0] : Array Value))
 have q1 := blk_put q0 1 (.int .u8 0) (rfl : _ = (#[.int .u16 49187, .int .u8 0, .int .u8 0, .slice none 0 0, .int .u16 0, .int .u32 0, .slice none 0 0, .slice none 0 0, .slice none 0 0, .slice none 0 0] : Array Value))
 have q2 := blk_put q1 2 (.int .u8 0) (rfl : _ = (#[.int .u16 49187, .int .u8 0, .int .u8 0, .slice none 0 0, .int .u16 0, .int .u32 0, .slice none 0 0, .slice none 0 0, .slice none 0 0, .slice none 0 0] : Array Value))
 have q3 := blk_put q2 3 (.slice none 0 0) (rfl : _ = (#[.int .u16 49187, .int .u8 0, .int .u8 0, .slice none 0 0, .int .u16 0, .int .u32 0, .slice none 0 0, .slice none 0 0, .slice none 0 0, .slice none 0 0] : Array Value))
 have q4 := blk_put q3 4 (.int .u16 0) (rfl : _ = (#[.int .u16 49187, .int .u8 0, .int .u8 0, .slice none 0 0, .int .u16 0, .int .u32 0, .slice none 0 0, .slice none 0 0, .slice none 0 0, .slice none 0 0] : Array Value))
 have q5 := blk_put q4 5 (.int .u32 0) (rfl : _ = (#[.int .u16 49187, .int .u8 0, .int .u8 0, .slice none 0 0, .int .u16 0, .int .u32 0, .slice none 0 0, .slice none 0 0, .slice none 0 0, .slice none 0 0] : Array Value))
 have q6 := blk_put q5 6 (.slice none 0 0) (rfl : _ = (#[.int .u16 49187, .int .u8 0, .int .u8 0, .slice none 0 0, .int .u16 0, .int .u32 0, .slice none 0 0, .slice none 0 0, .slice none 0 0, .slice none 0 0] : Array Value))
 have q7 := blk_put q6 7 (.slice none 0 0) (rfl : _ = (#[.int .u16 49187, .int .u8 0, .int .u8 0, .slice none 0 0, .int .u16 0, .int .u32 0, .slice none 0 0, .slice none 0 0, .slice none 0 0, .slice none 0 0] : Array Value))
 have q8 := blk_put q7 8 (.slice none 0 0) (rfl : _ = (#[.int .u16 49187, .int .u8 0, .int .u8 0, .slice none 0 0, .int .u16 0, .int .u32 0, .slice none 0 0, .slice none 0 0, .slice none 0 0, .slice none 0 0] : Array Value))
 have q9 := blk_put q8 9 (.slice none 0 0) (rfl : _ = (#[.int .u16 49187, .int .u8 0, .int .u8 0, .slice none 0 0, .int .u16 0, .int .u32 0, .slice none 0 0, .slice none 0 0, .slice none 0 0, .slice none 0 0] : Array Value))
 have n0_ := Aside0.mk q9
 have n1_ := Aside0.mk (show (((((((((((w2.setCell ⟨g, 0, none⟩ (.int .u16 49187)).setCell ⟨g, 1, none⟩ (.int .u8 0)).setCell ⟨g, 2, none⟩ (.int .u8 0)).setCell ⟨g, 3, none⟩ (.slice none 0 0)).setCell ⟨g, 4, none⟩ (.int .u16 0)).setCell ⟨g, 5, none⟩ (.int .u32 0)).setCell ⟨g, 6, none⟩ (.slice none 0 0)).setCell ⟨g, 7, none⟩ (.slice none 0 0)).setCell ⟨g, 8, none⟩ (.slice none 0 0)).setCell ⟨g, 9, none⟩ (.slice none 0 0))).heap[gr]? = some (.cells #[.int .u16 0, .int .u8 0, .int .u8 0, .slice none 0 0, .int .u16 0, .int .u32 0, .slice none 0 0, .slice none 0 0, .slice none 0 0, .slice none 0 0] 47 (0, 0)) from (blk_far (p := ⟨g, 9, none⟩) (blk_far (p := ⟨g, 8, none⟩) (blk_far (p := ⟨g, 7, none⟩) (blk_far (p := ⟨g, 6, none⟩) (blk_far (p := ⟨g, 5, none⟩) (blk_far (p := ⟨g, 4, none⟩) (blk_far (p := ⟨g, 3, none⟩) (blk_far (p := ⟨g, 2, none⟩) (blk_far (p := ⟨g, 1, none⟩) (blk_far (p := ⟨g, 0, none⟩) BR.out NR.out (.int .u16 49187)) NR.out (.int .u8 0)) NR.out (.int .u8 0)) NR.out (.slice none 0 0)) NR.out (.int .u16 0)) NR.out (.int .u32 0)) NR.out (.slice none 0 0)) NR.out (.slice none 0 0)) NR.out (.slice none 0 0)) NR.out (.slice none 0 0)))
 have n2_ := Aside0.mk (show Below w.heap.size w ((((((((((w2.setCell ⟨g, 0, none⟩ (.int .u16 49187)).setCell ⟨g, 1, none⟩ (.int .u8 0)).setCell ⟨g, 2, none⟩ (.int .u8 0)).setCell ⟨g, 3, none⟩ (.slice none 0 0)).setCell ⟨g, 4, none⟩ (.int .u16 0)).setCell ⟨g, 5, none⟩ (.int .u32 0)).setCell ⟨g, 6, none⟩ (.slice none 0 0)).setCell ⟨g, 7, none⟩ (.slice none 0 0)).setCell ⟨g, 8, none⟩ (.slice none 0 0)).setCell ⟨g, 9, none⟩ (.slice none 0 0)) from (below_set (below_set (below_set (below_set (below_set (below_set (below_set (below_set (below_set (below_set HB.out GG.out) GG.out) GG.out) GG.out) GG.out) GG.out) GG.out) GG.out) GG.out) GG.out))
 clear BG BR HB q0 q1 q2 q3 q4 q5 q6 q7 q8 q9
 generalize ((((((((((w2.setCell ⟨g, 0, none⟩ (.int .u16 49187)).setCell ⟨g, 1, none⟩ (.int .u8 0)).setCell ⟨g, 2, none⟩ (.int .u8 0)).setCell ⟨g, 3, none⟩ (.slice none 0 0)).setCell ⟨g, 4, none⟩ (.int .u16 0)).setCell ⟨g, 5, none⟩ (.int .u32 0)).setCell ⟨g, 6, none⟩ (.slice none 0 0)).setCell ⟨g, 7, none⟩ (.slice none 0 0)).setCell ⟨g, 8, none⟩ (.slice none 0 0)).setCell ⟨g, 9, none⟩ (.slice none 0 0)) = w5 at n0_ n1_ n2_ ⊢
 have BG := n0_
 have BR := n1_
 have HB := n2_
 clear n0_ n1_ n2_
 go_upto_region 4 with (first | (go_at_call 53; refine (ctl_Get.calls k A0 c0 l0 code id rest e _ ?s1 HC0.out HG.out).mono ?_; (case s1 => exact Kd.C_below HR0.out HB.out); rintro x w6 ⟨v2, rfl, hv, hb⟩; have HV := Aside0.mk (Kd.R_lower hv HB.out.size); have n0_ := Aside0.mk (blk_below BG.out hb); have n1_ := Aside0.mk (blk_below BR.out hb); have n2_ := Aside0.mk (below_step HB.out hb); clear BG BR HB hb hv; have BG := n0_; have BR := n1_; have HB := n2_; clear n0_ n1_ n2_; obtain ⟨Av, cv, ev⟩ := Kd.R_slice HV.out; subst ev; have hz1 : w6.cell? ⟨g, 1, none⟩ = some (.int .u8 0) := (blk_cell BG.out 1).trans rfl; have hz2 : w6.cell? ⟨g, 2, none⟩ = some (.int .u8 0) := (blk_cell BG.out 2).trans rfl; have hf1 := blk_frozen BG.out 1; have hf2 := blk_frozen BG.out 2))
 clear hz1 hz2 hf1 hf2
 have n0_ := Aside0.mk (show ((w6.setCell ⟨g, 1, none⟩ (.int .u8 code)).setCell ⟨g, 2, none⟩ (.int .u8 id)).heap[g]? = some (.cells #[.int .u16 49187, .int .u8 code, .int .u8 id, .slice none 0 0, .int .u16 0, .int .u32 0, .slice none 0 0, .slice none 0 0, .slice none 0 0, .slice none 0 0] 47 (0, 0)) from blk_put (blk_put BG.out 1 (.int .u8 code) rfl) 2 (.int .u8 id) rfl)
 have n1_ := Aside0.mk (show ((w6.setCell ⟨g, 1, none⟩ (.int .u8 code)).setCell ⟨g, 2, none⟩ (.int .u8 id)).heap[gr]? = some (.cells #[.int .u16 0, .int .u8 0, .int .u8 0, .slice none 0 0, .int .u16 0, .int .u32 0, .slice none 0 0, .slice none 0 0, .slice none 0 0, .slice none 0 0] 47 (0, 0)) from blk_far (p := ⟨g, 2, none⟩) (blk_far (p := ⟨g, 1, none⟩) BR.out NR.out _) NR.out _)
 have n2_ := Aside0.mk (show Below w.heap.size w ((w6.setCell ⟨g, 1, none⟩ (.int .u8 code)).setCell ⟨g, 2, none⟩ (.int .u8 id)) from below_set (below_set HB.out GG.out) GG.out)
 have n3_ := Aside0.mk (show Kd.R (Kd.int .u8) 5 ((w6.setCell ⟨g, 1, none⟩ (.int .u8 code)).setCell ⟨g, 2, none⟩ (.int .u8 id)) w.heap.size (fun k_ => True) (.slice Av rest.length cv) rest from Kd.R_mono (Kd.R_far (p := ⟨g, 2, none⟩) (Kd.R_far (p := ⟨g, 1, none⟩) (Kd.R_types HV.out BG.out (by decide)) (fun _ hk => hk.2) _) (fun _ hk => hk.2) _) (fun _ _ => trivial))
 clear BG BR HB HV
 generalize ((w6.setCell ⟨g, 1, none⟩ (.int .u8 code)).setCell ⟨g, 2, none⟩ (.int .u8 id)) = w7 at n0_ n1_ n2_ n3_ ⊢
 have BG := n0_
 have BR := n1_
 have HB := n2_
 have HV := n3_
 clear n0_ n1_ n2_ n3_
 have hf := HF.out
 unfold papG0 at hf
 simp only [Option.some.injEq, Prod.mk.injEq] at hf
 obtain ⟨rfl, rfl, rfl, rfl, rfl, rfl, rfl, rfl, rfl, rfl, rfl⟩ := hf
 go_wp2_with (first | (go_at_call 50; refine (pt_texts0 g code _ _ _ _ _ _ _ _ _ _ BG.out HC.out.1 HC.out.2.1 HC.out.2.2).mono ?_; rintro x w8 ⟨rfl, hb⟩; have n0_ := Aside0.mk (blk_below BG.out hb); have n1_ := Aside0.mk (blk_below BR.out hb); have n2_ := Aside0.mk (Kd.R_below HV.out hb); have n3_ := Aside0.mk (below_step HB.out hb); clear BG BR HV HB hb; have BG := n0_; have BR := n1_; have HV := n2_; have HB := n3_; clear n0_ n1_ n2_ n3_; have hz0 : w8.cell? ⟨g, 0, none⟩ = some (.int .u16 49187) := (blk_cell BG.out 0).trans rfl; have hz1 : w8.cell? ⟨g, 1, none⟩ = some (.int .u8 code) := (blk_cell BG.out 1).trans rfl; have hz2 : w8.cell? ⟨g, 2, none⟩ = some (.int .u8 id) := (blk_cell BG.out 2).trans rfl; have hz3 : w8.cell? ⟨g, 3, none⟩ = some (.slice none 0 0) := (blk_cell BG.out 3).trans rfl; have hz4 : w8.cell? ⟨g, 4, none⟩ = some (.int .u16 0) := (blk_cell BG.out 4).trans rfl; have hz5 : w8.cell? ⟨g, 5, none⟩ = some (.int .u32 0) := (blk_cell BG.out 5).trans rfl; have hz6 : w8.cell? ⟨g, 6, none⟩ = some (.slice none 0 0) := (blk_cell BG.out 6).trans rfl; have hz7 : w8.cell? ⟨g, 7, none⟩ = some (.slice none 0 0) := (blk_cell BG.out 7).trans rfl; have hz8 : w8.cell? ⟨g, 8, none⟩ = some (.slice none 0 0) := (blk_cell BG.out 8).trans rfl; have hz9 : w8.cell? ⟨g, 9, none⟩ = some (.slice none 0 0) := (blk_cell BG.out 9).trans rfl; have hf0 := blk_frozen BG.out 0; have hf1 := blk_frozen BG.out 1; have hf2 := blk_frozen BG.out 2; have hf3 := blk_frozen BG.out 3; have hf4 := blk_frozen BG.out 4; have hf5 := blk_frozen BG.out 5; have hf6 := blk_frozen BG.out 6; have hf7 := blk_frozen BG.out 7; have hf8 := blk_frozen BG.out 8; have hf9 := blk_frozen BG.out 9; have hr0 : w8.cell? ⟨gr, 0, none⟩ = some (.int .u16 0) := (blk_cell BR.out 0).trans rfl; have hr1 : w8.cell? ⟨gr, 1, none⟩ = some (.int .u8 0) := (blk_cell BR.out 1).trans rfl; have hr2 : w8.cell? ⟨gr, 2, none⟩ = some (.int .u8 0) := (blk_cell BR.out 2).trans rfl; have hr3 : w8.cell? ⟨gr, 3, none⟩ = some (.slice none 0 0) := (blk_cell BR.out 3).trans rfl; have hr4 : w8.cell? ⟨gr, 4, none⟩ = some (.int .u16 0) := (blk_cell BR.out 4).trans rfl; have hr5 : w8.cell? ⟨gr, 5, none⟩ = some (.int .u32 0) := (blk_cell BR.out 5).trans rfl; have hr6 : w8.cell? ⟨gr, 6, none⟩ = some (.slice none 0 0) := (blk_cell BR.out 6).trans rfl; have hr7 : w8.cell? ⟨gr, 7, none⟩ = some (.slice none 0 0) := (blk_cell BR.out 7).trans rfl; have hr8 : w8.cell? ⟨gr, 8, none⟩ = some (.slice none 0 0) := (blk_cell BR.out 8).trans rfl; have hr9 : w8.cell? ⟨gr, 9, none⟩ = some (.slice none 0 0) := (blk_cell BR.out 9).trans rfl; have hs0 := blk_frozen BR.out 0; have hs1 := blk_frozen BR.out 1; have hs2 := blk_frozen BR.out 2; have hs3 := blk_frozen BR.out 3; have hs4 := blk_frozen BR.out 4; have hs5 := blk_frozen BR.out 5; have hs6 := blk_frozen BR.out 6; have hs7 := blk_frozen BR.out 7; have hs8 := blk_frozen BR.out 8; have hs9 := blk_frozen BR.out 9; have hr_ := NR.out; have hr2_ := NR.out.symm))
 have q_ := blk_far (p := ⟨g, 8, none⟩) BR.out NR.out (.slice Av rest.length cv)
 have q0 := blk_put q_ 0 (.int .u16 49187) (rfl : _ = (#[.int .u16 49187, .int .u8 0, .int .u8 0, .slice none 0 0, .int .u16 0, .int .u32 0, .slice none 0 0, .slice none 0 0, .slice none 0 0, .slice none 0 0] : Array Value))
 have q1 := blk_put q0 1 (.int .u8 code) (rfl : _ = (#[.int .u16 49187, .int .u8 code, .int .u8 0, .slice none 0 0, .int .u16 0, .int .u32 0, .slice none 0 0, .slice none 0 0, .slice none 0 0, .slice none 0 0] : Array Value))
 have q2 := blk_put q1 2 (.int .u8 id) (rfl : _ = (#[.int .u16 49187, .int .u8 code, .int .u8 id, .slice none 0 0, .int .u16 0, .int .u32 0, .slice none 0 0, .slice none 0 0, .slice none 0 0, .slice none 0 0] : Array Value))
 have q3 := blk_put q2 3 (.slice none 0 0) (rfl : _ = (#[.int .u16 49187, .int .u8 code, .int .u8 id, .slice none 0 0, .int .u16 0, .int .u32 0, .slice none 0 0, .slice none 0 0, .slice none 0 0, .slice none 0 0] : Array Value))
 have q4 := blk_put q3 4 (.int .u16 0) (rfl : _ = (#[.int .u16 49187, .int .u8 code, .int .u8 id, .slice none 0 0, .int .u16 0, .int .u32 0, .slice none 0 0, .slice none 0 0, .slice none 0 0, .slice none 0 0] : Array Value))
 have q5 := blk_put q4 5 (.int .u32 0) (rfl : _ = (#[.int .u16 49187, .int .u8 code, .int .u8 id, .slice none 0 0, .int .u16 0, .int .u32 0, .slice none 0 0, .slice none 0 0, .slice none 0 0, .slice none 0 0] : Array Value))
 have q6 := blk_put q5 6 (.slice none 0 0) (rfl : _ = (#[.int .u16 49187, .int .u8 code, .int .u8 id, .slice none 0 0, .int .u16 0, .int .u32 0, .slice none 0 0, .slice none 0 0, .slice none 0 0, .slice none 0 0] : Array Value))
 have q7 := blk_put q6 7 (.slice none 0 0) (rfl : _ = (#[.int .u16 49187, .int .u8 code, .int .u8 id, .slice none 0 0, .int .u16 0, .int .u32 0, .slice none 0 0, .slice none 0 0, .slice none 0 0, .slice none 0 0] : Array Value))
 have q8 := blk_put q7 8 (.slice Av rest.length cv) (rfl : _ = (#[.int .u16 49187, .int .u8 code, .int .u8 id, .slice none 0 0, .int .u16 0, .int .u32 0, .slice none 0 0, .slice none 0 0, .slice Av rest.length cv, .slice none 0 0] : Array Value))
 have q9 := blk_put q8 9 (.slice none 0 0) (rfl : _ = (#[.int .u16 49187, .int .u8 code, .int .u8 id, .slice none 0 0, .int .u16 0, .int .u32 0, .slice none 0 0, .slice none 0 0, .slice Av rest.length cv, .slice none 0 0] : Array Value))
 have HVF := Aside0.mk (Kd.R_far (p := ⟨g, 8, none⟩) (Kd.R_types (Kd.R_types HV.out BG.out (by decide)) BR.out (by decide)) (fun _ hk => hk.1.2) (.slice Av rest.length cv))
 refine bodyPost_ret (results_ct rfl _ _ gr 47 #[.int .u16 49187, .int .u8 code, .int .u8 id, .slice none 0 0, .int .u16 0, .int .u32 0, .slice none 0 0, .slice none 0 0, .slice Av rest.length cv, .slice none 0 0] (0, 0) _ rfl q9 hu47 rfl (by kernel_rfl)) rfl ?_
 exact ⟨_, _, _, _, _, rfl, Kd.S_nil _ _ _ _ _, Kd.R_nil _ _ _ _ _, Kd.R_nil _ _ _ _ _, Kd.R_mono (Kd.R_far (p := ⟨gr, 9, none⟩) (Kd.R_far (p := ⟨gr, 8, none⟩) (Kd.R_far (p := ⟨gr, 7, none⟩) (Kd.R_far (p := ⟨gr, 6, none⟩) (Kd.R_far (p := ⟨gr, 5, none⟩) (Kd.R_far (p := ⟨gr, 4, none⟩) (Kd.R_far (p := ⟨gr, 3, none⟩) (Kd.R_far (p := ⟨gr, 2, none⟩) (Kd.R_far (p := ⟨gr, 1, none⟩) (Kd.R_far (p := ⟨gr, 0, none⟩) (HVF.out) (fun _ hk => hk.2) _) (fun _ hk => hk.2) _) (fun _ hk => hk.2) _) (fun _ hk => hk.2) _) (fun _ hk => hk.2) _) (fun _ hk => hk.2) _) (fun _ hk => hk.2) _) (fun _ hk => hk.2) _) (fun _ hk => hk.2) _) (fun _ hk => hk.2) _) (fun _ _ => ⟨by simp [Value.ownBlock], by simp [Value.ownBlock]⟩), Kd.R_nil _ _ _ _ _, below_set (below_set (below_set (below_set (below_set (below_set (below_set (below_set (below_set (below_set (below_set HB.out GG.out) GR.out) GR.out) GR.out) GR.out) GR.out) GR.out) GR.out) GR.out) GR.out) GR.out⟩
set_option maxHeartbeats 16000000 in
set_option maxRecDepth 100000 in
theorem pt_gete (k : Nat) (A0 : Option Addr) (c0 : Nat) (l0 : List Int) (r1 r2 r3 : Int) (r4 : List S57) (r5 r6 : Int) (r7 r8 r9 r10 : List Int) (r11 : Int) (code id e : Int) (rest : List Int) (w : World) (hr0 : Kd.C (Kd.int .u8) w A0 l0.length l0) (hc0 : l0.length ≤ c0) (hg : ctl_Get.f k l0 = some (code, id, rest, e)) (he : e ≠ 0) (h : papZ e = some (r1, r2, r3, r4, r5, r6, r7, r8, r9, r10, r11)) :
 Calls Try.prog 33 #[.slice A0 l0.length c0] w fun x w' => ∃ v3_ v6_ v7_ v8_ v9_ : Value, x = .returned (.tuple #[.agg #[.int .u16 r1, .int .u8 r2, .int .u8 r3, v3_, .int .u16 r5, .int .u32 r6, v6_, v7_, v8_, v9_], .int .i64 r11]) ∧ Kd.S k57 57 w' w.heap.size (fun k_ => some k_ ≠ (v6_ : Value).ownBlock ∧ some k_ ≠ (v7_ : Value).ownBlock ∧ some k_ ≠ (v8_ : Value).ownBlock) v3_ r4 ∧ Kd.R (Kd.int .u8) 5 w' w.heap.size (fun k_ => some k_ ≠ (v7_ : Value).ownBlock ∧ some k_ ≠ (v8_ : Value).ownBlock) v6_ r7 ∧ Kd.R (Kd.int .u8) 5 w' w.heap.size (fun k_ => some k_ ≠ (v6_ : Value).ownBlock ∧ some k_ ≠ (v8_ : Value).ownBlock) v7_ r8 ∧ Kd.R (Kd.int .u8) 5 w' w.heap.size (fun k_ => some k_ ≠ (v6_ : Value).ownBlock ∧ some k_ ≠ (v7_ : Value).ownBlock) v8_ r9 ∧ Kd.R (Kd.int .u32) 41 w' w.heap.size (fun _ => True) v9_ r10 ∧ Below w.heap.size w w' := by
 have hu47 := Try.underlying47
 have HR0 := Aside0.mk hr0
 have HC0 := Aside0.mk hc0
 have HG := Aside0.mk hg
 have HF := Aside0.mk h
 have he0 : (e != 0) = true := bne_iff_ne.mpr he
 clear hr0 hc0 hg h he
 go_enter Try.func33, Try.ntmps33
 go_upto_region 2 with (first | ((with_reducible refine gate_dst (N := 2) rfl ?_); refine box_event ?hg (N := 2) ?hd (cs := #[.int .u16 0, .int .u8 0, .int .u8 0, .slice none 0 0, .int .u16 0, .int .u32 0, .slice none 0 0, .slice none 0 0, .slice none 0 0, .slice none 0 0]) (t := 47) ?hr ?_; (case hd => rfl); (case hg => rfl); (case hr => first | (go_simp; done) | (go_simp; rfl)); intro gr hgr w1 hbox hb; have BR := Aside0.mk hbox; have GR := Aside0.mk ((by rw [hgr]; exact Nat.le_refl _) : w.heap.size ≤ gr); have HB := Aside0.mk hb; clear hbox hb hgr) | ((with_reducible refine gate_dst (N := 4) rfl ?_); refine box_event ?hg (N := 4) ?hd (cs := #[.int .u16 0, .int .u8 0, .int .u8 0, .slice none 0 0, .int .u16 0, .int .u32 0, .slice none 0 0, .slice none 0 0, .slice none 0 0, .slice none 0 0]) (t := 47) ?hr ?_; (case hd => rfl); (case hg => rfl); (case hr => first | (go_simp; done) | (go_simp; rfl)); intro g hgg w2 hbox hb; have BG := Aside0.mk hbox; have NR := Aside0.mk ((by rw [hgg]; exact Nat.ne_of_lt (blk_lt BR.out)) : gr ≠ g); have GG := Aside0.mk ((by rw [hgg]; exact HB.out.size) : w.heap.size ≤ g); have n0_ := Aside0.mk (blk_below BR.out hb); have n1_ := Aside0.mk (below_step HB.out hb); clear BR HB hbox hb hgg; have BR := n0_; have HB := n1_; clear n0_ n1_; have hz0 : w2.cell? ⟨g, 0, none⟩ = some (.int .u16 0) := (blk_cell BG.out 0).trans rfl; have hz1 : w2.cell? ⟨g, 1, none⟩ = some (.int .u8 0) := (blk_cell BG.out 1).trans rfl; have hz2 : w2.cell? ⟨g, 2, none⟩ = some (.int .u8 0) := (blk_cell BG.out 2).trans rfl; have hz3 : w2.cell? ⟨g, 3, none⟩ = some (.slice none 0 0) := (blk_cell BG.out 3).trans rfl; have hz4 : w2.cell? ⟨g, 4, none⟩ = some (.int .u16 0) := (blk_cell BG.out 4).trans rfl; have hz5 : w2.cell? ⟨g, 5, none⟩ = some (.int .u32 0) := (blk_cell BG.out 5).trans rfl; have hz6 : w2.cell? ⟨g, 6, none⟩ = some (.slice none 0 0) := (blk_cell BG.out 6).trans rfl; have hz7 : w2.cell? ⟨g, 7, none⟩ = some (.slice none 0 0) := (blk_cell BG.out 7).trans rfl; have hz8 : w2.cell? ⟨g, 8, none⟩ = some (.slice none 0 0) := (blk_cell BG.out 8).trans rfl; have hz9 : w2.cell? ⟨g, 9, none⟩ = some (.slice none 0 0) := (blk_cell BG.out 9).trans rfl; have hf0 := blk_frozen BG.out 0; have hf1 := blk_frozen BG.out 1; have hf2 := blk_frozen BG.out 2; have hf3 := blk_frozen BG.out 3; have hf4 := blk_frozen BG.out 4; have hf5 := blk_frozen BG.out 5; have hf6 := blk_frozen BG.out 6; have hf7 := blk_frozen BG.out 7; have hf8 := blk_frozen BG.out 8; have hf9 := blk_frozen BG.out 9))
 clear hz0 hz1 hz2 hz3 hz4 hz5 hz6 hz7 hz8 hz9 hf0 hf1 hf2 hf3 hf4 hf5 hf6 hf7 hf8 hf9
 have q0 := blk_put BG.out 0 (.int .u16 49187) (rfl : _ = (#[.int .u16 49187, .int .u8 0, .int .u8 0, .slice none 0 0, .int .u16 0, .int .u32 0, .slice none 0 0, .slice none 0 0, .slice none 0 0, .slice none 0 0] : Array Value))
 have q1 := blk_put q0 1 (.int .u8 0) (rfl : _ = (#[.int .u16 49187, .int .u8 0, .int .u8 0, .slice none 0 0, .int .u16 0, .int .u32 0, .slice none 0 0, .slice none 0 0, .slice none 0 0, .slice none 0 0] : Array Value))
 have q2 := blk_put q1 2 (.int .u8 0) (rfl : _ = (#[.int .u16 49187, .int .u8 0, .int .u8 0, .slice none 0 0, .int .u16 0, .int .u32 0, .slice none 0 0, .slice none 0 0, .slice none 0 0, .slice none 0 0] : Array Value))
 have q3 := blk_put q2 3 (.slice none 0 0) (rfl : _ = (#[.int .u16 49187, .int .u8 0, .int .u8 0, .slice none 0 0, .int .u16 0, .int .u32 0, .slice none 0 0, .slice none 0 0, .slice none 0 0, .slice none 0 0] : Array Value))
 have q4 := blk_put q3 4 (.int .u16 0) (rfl : _ = (#[.int .u16 49187, .int .u8 0, .int .u8 0, .slice none 0 0, .int .u16 0, .int .u32 0, .slice none 0 0, .slice none 0 0, .slice none 0 0, .slice none 0 0] : Array Value))
 have q5 := blk_put q4 5 (.int .u32 0) (rfl : _ = (#[.int .u16 49187, .int .u8 0, .int .u8 0, .slice none 0 0, .int .u16 0, .int .u32 0, .slice none 0 0, .slice none 0 0, .slice none 0 0, .slice none 0 0] : Array Value))
 have q6 := blk_put q5 6 (.slice none 0 0) (rfl : _ = (#[.int .u16 49187, .int .u8 0, .int .u8 0, .slice none 0 0, .int .u16 0, .int .u32 0, .slice none 0 0, .slice none 0 0, .slice none 0 0, .slice none 0 0] : Array Value))
 have q7 := blk_put q6 7 (.slice none 0 0) (rfl : _ = (#[.int .u16 49187, .int .u8 0, .int .u8 0, .slice none 0 0, .int .u16 0, .int .u32 0, .slice none 0 0, .slice none 0 0, .slice none 0 0, .slice none 0 0] : Array Value))
 have q8 := blk_put q7 8 (.slice none 0 0) (rfl : _ = (#[.int .u16 49187, .int .u8 0, .int .u8 0, .slice none 0 0, .int .u16 0, .int .u32 0, .slice none 0 0, .slice none 0 0, .slice none 0 0, .slice none 0 0] : Array Value))
 have q9 := blk_put q8 9 (.slice none 0 0) (rfl : _ = (#[.int .u16 49187, .int .u8 0, .int .u8 0, .slice none 0 0, .int .u16 0, .int .u32 0, .slice none 0 0, .slice none 0 0, .slice none 0 0, .slice none 0 0] : Array Value))
 have n0_ := Aside0.mk q9
 have n1_ := Aside0.mk (show (((((((((((w2.setCell ⟨g, 0, none⟩ (.int .u16 49187)).setCell ⟨g, 1, none⟩ (.int .u8 0)).setCell ⟨g, 2, none⟩ (.int .u8 0)).setCell ⟨g, 3, none⟩ (.slice none 0 0)).setCell ⟨g, 4, none⟩ (.int .u16 0)).setCell ⟨g, 5, none⟩ (.int .u32 0)).setCell ⟨g, 6, none⟩ (.slice none 0 0)).setCell ⟨g, 7, none⟩ (.slice none 0 0)).setCell ⟨g, 8, none⟩ (.slice none 0 0)).setCell ⟨g, 9, none⟩ (.slice none 0 0))).heap[gr]? = some (.cells #[.int .u16 0, .int .u8 0, .int .u8 0, .slice none 0 0, .int .u16 0, .int .u32 0, .slice none 0 0, .slice none 0 0, .slice none 0 0, .slice none 0 0] 47 (0, 0)) from (blk_far (p := ⟨g, 9, none⟩) (blk_far (p := ⟨g, 8, none⟩) (blk_far (p := ⟨g, 7, none⟩) (blk_far (p := ⟨g, 6, none⟩) (blk_far (p := ⟨g, 5, none⟩) (blk_far (p := ⟨g, 4, none⟩) (blk_far (p := ⟨g, 3, none⟩) (blk_far (p := ⟨g, 2, none⟩) (blk_far (p := ⟨g, 1, none⟩) (blk_far (p := ⟨g, 0, none⟩) BR.out NR.out (.int .u16 49187)) NR.out (.int .u8 0)) NR.out (.int .u8 0)) NR.out (.slice none 0 0)) NR.out (.int .u16 0)) NR.out (.int .u32 0)) NR.out (.slice none 0 0)) NR.out (.slice none 0 0)) NR.out (.slice none 0 0)) NR.out (.slice none 0 0)))
 have n2_ := Aside0.mk (show Below w.heap.size w ((((((((((w2.setCell ⟨g, 0, none⟩ (.int .u16 49187)).setCell ⟨g, 1, none⟩ (.int .u8 0)).setCell ⟨g, 2, none⟩ (.int .u8 0)).setCell ⟨g, 3, none⟩ (.slice none 0 0)).setCell ⟨g, 4, none⟩ (.int .u16 0)).setCell ⟨g, 5, none⟩ (.int .u32 0)).setCell ⟨g, 6, none⟩ (.slice none 0 0)).setCell ⟨g, 7, none⟩ (.slice none 0 0)).setCell ⟨g, 8, none⟩ (.slice none 0 0)).setCell ⟨g, 9, none⟩ (.slice none 0 0)) from (below_set (below_set (below_set (below_set (below_set (below_set (below_set (below_set (below_set (below_set HB.out GG.out) GG.out) GG.out) GG.out) GG.out) GG.out) GG.out) GG.out) GG.out) GG.out))
 clear BG BR HB q0 q1 q2 q3 q4 q5 q6 q7 q8 q9
 generalize ((((((((((w2.setCell ⟨g, 0, none⟩ (.int .u16 49187)).setCell ⟨g, 1, none⟩ (.int .u8 0)).setCell ⟨g, 2, none⟩ (.int .u8 0)).setCell ⟨g, 3, none⟩ (.slice none 0 0)).setCell ⟨g, 4, none⟩ (.int .u16 0)).setCell ⟨g, 5, none⟩ (.int .u32 0)).setCell ⟨g, 6, none⟩ (.slice none 0 0)).setCell ⟨g, 7, none⟩ (.slice none 0 0)).setCell ⟨g, 8, none⟩ (.slice none 0 0)).setCell ⟨g, 9, none⟩ (.slice none 0 0)) = w5 at n0_ n1_ n2_ ⊢
 have BG := n0_
 have BR := n1_
 have HB := n2_
 clear n0_ n1_ n2_
 go_upto_region 4 with (first | (go_at_call 53; refine (ctl_Get.calls k A0 c0 l0 code id rest e _ ?s1 HC0.out HG.out).mono ?_; (case s1 => exact Kd.C_below HR0.out HB.out); rintro x w6 ⟨v2, rfl, hv, hb⟩; have HV := Aside0.mk (Kd.R_lower hv HB.out.size); have n0_ := Aside0.mk (blk_below BG.out hb); have n1_ := Aside0.mk (blk_below BR.out hb); have n2_ := Aside0.mk (below_step HB.out hb); clear BG BR HB hb hv; have BG := n0_; have BR := n1_; have HB := n2_; clear n0_ n1_ n2_; obtain ⟨Av, cv, ev⟩ := Kd.R_slice HV.out; subst ev; have hz1 : w6.cell? ⟨g, 1, none⟩ = some (.int .u8 0) := (blk_cell BG.out 1).trans rfl; have hz2 : w6.cell? ⟨g, 2, none⟩ = some (.int .u8 0) := (blk_cell BG.out 2).trans rfl; have hf1 := blk_frozen BG.out 1; have hf2 := blk_frozen BG.out 2))
 clear hz1 hz2 hf1 hf2
 have n0_ := Aside0.mk (show ((w6.setCell ⟨g, 1, none⟩ (.int .u8 code)).setCell ⟨g, 2, none⟩ (.int .u8 id)).heap[g]? = some (.cells #[.int .u16 49187, .int .u8 code, .int .u8 id, .slice none 0 0, .int .u16 0, .int .u32 0, .slice none 0 0, .slice none 0 0, .slice none 0 0, .slice none 0 0] 47 (0, 0)) from blk_put (blk_put BG.out 1 (.int .u8 code) rfl) 2 (.int .u8 id) rfl)
 have n1_ := Aside0.mk (show ((w6.setCell ⟨g, 1, none⟩ (.int .u8 code)).setCell ⟨g, 2, none⟩ (.int .u8 id)).heap[gr]? = some (.cells #[.int .u16 0, .int .u8 0, .int .u8 0, .slice none 0 0, .int .u16 0, .int .u32 0, .slice none 0 0, .slice none 0 0, .slice none 0 0, .slice none 0 0] 47 (0, 0)) from blk_far (p := ⟨g, 2, none⟩) (blk_far (p := ⟨g, 1, none⟩) BR.out NR.out _) NR.out _)
 have n2_ := Aside0.mk (show Below w.heap.size w ((w6.setCell ⟨g, 1, none⟩ (.int .u8 code)).setCell ⟨g, 2, none⟩ (.int .u8 id)) from below_set (below_set HB.out GG.out) GG.out)
 have n3_ := Aside0.mk (show Kd.R (Kd.int .u8) 5 ((w6.setCell ⟨g, 1, none⟩ (.int .u8 code)).setCell ⟨g, 2, none⟩ (.int .u8 id)) w.heap.size (fun k_ => True) (.slice Av rest.length cv) rest from Kd.R_mono (Kd.R_far (p := ⟨g, 2, none⟩) (Kd.R_far (p := ⟨g, 1, none⟩) (Kd.R_types HV.out BG.out (by decide)) (fun _ hk => hk.2) _) (fun _ hk => hk.2) _) (fun _ _ => trivial))
 clear BG BR HB HV
 generalize ((w6.setCell ⟨g, 1, none⟩ (.int .u8 code)).setCell ⟨g, 2, none⟩ (.int .u8 id)) = w7 at n0_ n1_ n2_ n3_ ⊢
 have BG := n0_
 have BR := n1_
 have HB := n2_
 have HV := n3_
 clear n0_ n1_ n2_ n3_
 have hf := HF.out
 simp only [papZ, Option.some.injEq, Prod.mk.injEq] at hf
 obtain ⟨rfl, rfl, rfl, rfl, rfl, rfl, rfl, rfl, rfl, rfl, rfl⟩ := hf
 have hr0 : w7.cell? ⟨gr, 0, none⟩ = some (.int .u16 0) := (blk_cell BR.out 0).trans rfl
 have hr1 : w7.cell? ⟨gr, 1, none⟩ = some (.int .u8 0) := (blk_cell BR.out 1).trans rfl
 have hr2 : w7.cell? ⟨gr, 2, none⟩ = some (.int .u8 0) := (blk_cell BR.out 2).trans rfl
 have hr3 : w7.cell? ⟨gr, 3, none⟩ = some (.slice none 0 0) := (blk_cell BR.out 3).trans rfl
 have hr4 : w7.cell? ⟨gr, 4, none⟩ = some (.int .u16 0) := (blk_cell BR.out 4).trans rfl
 have hr5 : w7.cell? ⟨gr, 5, none⟩ = some (.int .u32 0) := (blk_cell BR.out 5).trans rfl
 have hr6 : w7.cell? ⟨gr, 6, none⟩ = some (.slice none 0 0) := (blk_cell BR.out 6).trans rfl
 have hr7 : w7.cell? ⟨gr, 7, none⟩ = some (.slice none 0 0) := (blk_cell BR.out 7).trans rfl
 have hr8 : w7.cell? ⟨gr, 8, none⟩ = some (.slice none 0 0) := (blk_cell BR.out 8).trans rfl
 have hr9 : w7.cell? ⟨gr, 9, none⟩ = some (.slice none 0 0) := (blk_cell BR.out 9).trans rfl
 have hs0 := blk_frozen BR.out 0
 have hs1 := blk_frozen BR.out 1
 have hs2 := blk_frozen BR.out 2
 have hs3 := blk_frozen BR.out 3
 have hs4 := blk_frozen BR.out 4
 have hs5 := blk_frozen BR.out 5
 have hs6 := blk_frozen BR.out 6
 have hs7 := blk_frozen BR.out 7
 have hs8 := blk_frozen BR.out 8
 have hs9 := blk_frozen BR.out 9
 go_wp2
 have q0 := blk_put BR.out 0 (.int .u16 0) (rfl : _ = (#[.int .u16 0, .int .u8 0, .int .u8 0, .slice none 0 0, .int .u16 0, .int .u32 0, .slice none 0 0, .slice none 0 0, .slice none 0 0, .slice none 0 0] : Array Value))
 have q1 := blk_put q0 1 (.int .u8 0) (rfl : _ = (#[.int .u16 0, .int .u8 0, .int .u8 0, .slice none 0 0, .int .u16 0, .int .u32 0, .slice none 0 0, .slice none 0 0, .slice none 0 0, .slice none 0 0] : Array Value))
 have q2 := blk_put q1 2 (.int .u8 0) (rfl : _ = (#[.int .u16 0, .int .u8 0, .int .u8 0, .slice none 0 0, .int .u16 0, .int .u32 0, .slice none 0 0, .slice none 0 0, .slice none 0 0, .slice none 0 0] : Array Value))
 have q3 := blk_put q2 3 (.slice none 0 0) (rfl : _ = (#[.int .u16 0, .int .u8 0, .int .u8 0, .slice none 0 0, .int .u16 0, .int .u32 0, .slice none 0 0, .slice none 0 0, .slice none 0 0, .slice none 0 0] : Array Value))
 have q4 := blk_put q3 4 (.int .u16 0) (rfl : _ = (#[.int .u16 0, .int .u8 0, .int .u8 0, .slice none 0 0, .int .u16 0, .int .u32 0, .slice none 0 0, .slice none 0 0, .slice none 0 0, .slice none 0 0] : Array Value))
 have q5 := blk_put q4 5 (.int .u32 0) (rfl : _ = (#[.int .u16 0, .int .u8 0, .int .u8 0, .slice none 0 0, .int .u16 0, .int .u32 0, .slice none 0 0, .slice none 0 0, .slice none 0 0, .slice none 0 0] : Array Value))
 have q6 := blk_put q5 6 (.slice none 0 0) (rfl : _ = (#[.int .u16 0, .int .u8 0, .int .u8 0, .slice none 0 0, .int .u16 0, .int .u32 0, .slice none 0 0, .slice none 0 0, .slice none 0 0, .slice none 0 0] : Array Value))
 have q7 := blk_put q6 7 (.slice none 0 0) (rfl : _ = (#[.int .u16 0, .int .u8 0, .int .u8 0, .slice none 0 0, .int .u16 0, .int .u32 0, .slice none 0 0, .slice none 0 0, .slice none 0 0, .slice none 0 0] : Array Value))
 have q8 := blk_put q7 8 (.slice none 0 0) (rfl : _ = (#[.int .u16 0, .int .u8 0, .int .u8 0, .slice none 0 0, .int .u16 0, .int .u32 0, .slice none 0 0, .slice none 0 0, .slice none 0 0, .slice none 0 0] : Array Value))
 have q9 := blk_put q8 9 (.slice none 0 0) (rfl : _ = (#[.int .u16 0, .int .u8 0, .int .u8 0, .slice none 0 0, .int .u16 0, .int .u32 0, .slice none 0 0, .slice none 0 0, .slice none 0 0, .slice none 0 0] : Array Value))
 refine bodyPost_ret (results_ct rfl _ _ gr 47 #[.int .u16 0, .int .u8 0, .int .u8 0, .slice none 0 0, .int .u16 0, .int .u32 0, .slice none 0 0, .slice none 0 0, .slice none 0 0, .slice none 0 0] (0, 0) _ rfl q9 hu47 rfl (by kernel_rfl)) rfl ?_
 exact ⟨_, _, _, _, _, rfl, Kd.S_nil _ _ _ _ _, Kd.R_nil _ _ _ _ _, Kd.R_nil _ _ _ _ _, Kd.R_nil _ _ _ _ _, Kd.R_nil _ _ _ _ _, below_set (below_set (below_set (below_set (below_set (below_set (below_set (below_set (below_set (below_set (HB.out) GR.out) GR.out) GR.out) GR.out) GR.out) GR.out) GR.out) GR.out) GR.out) GR.out⟩
end Go.Proofs.Ytgjeahgagciagaa.Print
namespace Go.Proofs.Ytgjeahgagciagaa.Print
open Go.RowKit Go.Proofs.YtgjeahgagciagaaW.PrintWords Go.Proofs.YtgjeahgagciagaaW.PrintLast Go.Proofs.YtgjeahgagciagaaW.PrintMore
set_option linter.unusedVariables false
def pap_Put.f (k : Nat) (a0_0 : Int) (a0_1 : Int) (a0_2 : Int) (l0_3 : List (S57)) (a0_4 : Int) (a0_5 : Int) (l0_6 : List Int) (l0_7 : List Int) (l0_8 : List Int) (l0_9 : List Int) : Option (List Int × Int) :=
 if a0_1 = 1 then papPut2 k a0_0 a0_1 a0_2 l0_3 a0_4 a0_5 l0_6 l0_7 l0_8 l0_9 else if a0_1 = 2 ∨ a0_1 = 3 then papPut1 k a0_0 a0_1 a0_2 l0_3 a0_4 a0_5 l0_6 l0_7 l0_8 l0_9 else papPut0 k a0_0 a0_1 a0_2 l0_3 a0_4 a0_5 l0_6 l0_7 l0_8 l0_9
def pap_Get.f (k : Nat) (l0 : List Int) : Option (Int × Int × Int × (List S57) × Int × Int × List Int × List Int × List Int × List Int × Int) :=
 (ctl_Get.f k l0).bind fun b => if b.2.2.2 = 0 then (if b.1 = 1 then papG2 b.1 b.2.1 b.2.2.1 else if b.1 = 2 ∨ b.1 = 3 then papG1 b.1 b.2.1 b.2.2.1 else papG0 b.1 b.2.1 b.2.2.1) else papZ b.2.2.2
theorem pap_Put.calls (k : Nat) (a0_0 : Int) (a0_1 : Int) (a0_2 : Int) (A0_3 : Option Addr) (c0_3 : Nat) (l0_3 : List (S57)) (a0_4 : Int) (a0_5 : Int) (A0_6 : Option Addr) (c0_6 : Nat) (l0_6 : List Int) (A0_7 : Option Addr) (c0_7 : Nat) (l0_7 : List Int) (A0_8 : Option Addr) (c0_8 : Nat) (l0_8 : List Int) (A0_9 : Option Addr) (c0_9 : Nat) (l0_9 : List Int) (r1 : List Int) (r2 : Int) (w : World) (hr0_3 : Kd.C k57 w A0_3 l0_3.length l0_3) (hc0_3 : l0_3.length ≤ c0_3) (hr0_6 : Kd.C (Kd.int .u8) w A0_6 l0_6.length l0_6) (hc0_6 : l0_6.length ≤ c0_6) (hr0_7 : Kd.C (Kd.int .u8) w A0_7 l0_7.length l0_7) (hc0_7 : l0_7.length ≤ c0_7) (hr0_8 : Kd.C (Kd.int .u8) w A0_8 l0_8.length l0_8) (hc0_8 : l0_8.length ≤ c0_8) (hr0_9 : Kd.C (Kd.int .u32) w A0_9 l0_9.length l0_9) (hc0_9 : l0_9.length ≤ c0_9) (h : pap_Put.f k a0_0 a0_1 a0_2 l0_3 a0_4 a0_5 l0_6 l0_7 l0_8 l0_9 = some (r1, r2)) :
 Calls Try.prog 31 #[.agg #[.int .u16 a0_0, .int .u8 a0_1, .int .u8 a0_2, .slice A0_3 l0_3.length c0_3, .int .u16 a0_4, .int .u32 a0_5, .slice A0_6 l0_6.length c0_6, .slice A0_7 l0_7.length c0_7, .slice A0_8 l0_8.length c0_8, .slice A0_9 l0_9.length c0_9]] w fun e w' => ∃ v0_ : Value, e = .returned (.tuple #[v0_, .int .i64 r2]) ∧ Kd.R (Kd.int .u8) 5 w' w.heap.size (fun _ => True) v0_ r1 ∧ Below w.heap.size w w' := by
 unfold pap_Put.f at h
 split at h
 · rename_i h1
   exact pt_put2 k a0_0 a0_1 a0_2 a0_4 a0_5 A0_3 A0_6 A0_7 A0_8 A0_9 c0_3 c0_6 c0_7 c0_8 c0_9 l0_3 l0_6 l0_7 l0_8 l0_9 r1 r2 w h1 hr0_6 hr0_7 hr0_8 hc0_6 hc0_7 hc0_8 h
 · rename_i h1
   split at h
   · rename_i h2
     exact pt_put1 k a0_0 a0_1 a0_2 a0_4 a0_5 A0_3 A0_6 A0_7 A0_8 A0_9 c0_3 c0_6 c0_7 c0_8 c0_9 l0_3 l0_6 l0_7 l0_8 l0_9 r1 r2 w h2 hr0_6 hr0_7 hr0_8 hc0_6 hc0_7 hc0_8 h
   · rename_i h2
     exact pt_put0 k a0_0 a0_1 a0_2 a0_4 a0_5 A0_3 A0_6 A0_7 A0_8 A0_9 c0_3 c0_6 c0_7 c0_8 c0_9 l0_3 l0_6 l0_7 l0_8 l0_9 r1 r2 w ⟨h1, fun e => h2 (.inl e), fun e => h2 (.inr e)⟩ hr0_6 hr0_7 hr0_8 hc0_6 hc0_7 hc0_8 h
theorem pap_Get.calls (k : Nat) (A0 : Option Addr) (c0 : Nat) (l0 : List Int) (r1 : Int) (r2 : Int) (r3 : Int) (r4 : List (S57)) (r5 : Int) (r6 : Int) (r7 : List Int) (r8 : List Int) (r9 : List Int) (r10 : List Int) (r11 : Int) (w : World) (hr0 : Kd.C (Kd.int .u8) w A0 l0.length l0) (hc0 : l0.length ≤ c0) (h : pap_Get.f k l0 = some (r1, r2, r3, r4, r5, r6, r7, r8, r9, r10, r11)) :
 Calls Try.prog 33 #[.slice A0 l0.length c0] w fun e_ w' => ∃ v3_ v6_ v7_ v8_ v9_ : Value, e_ = .returned (.tuple #[.agg #[.int .u16 r1, .int .u8 r2, .int .u8 r3, v3_, .int .u16 r5, .int .u32 r6, v6_, v7_, v8_, v9_], .int .i64 r11]) ∧ Kd.S k57 57 w' w.heap.size (fun k_ => some k_ ≠ (v6_ : Value).ownBlock ∧ some k_ ≠ (v7_ : Value).ownBlock ∧ some k_ ≠ (v8_ : Value).ownBlock) v3_ r4 ∧ Kd.R (Kd.int .u8) 5 w' w.heap.size (fun k_ => some k_ ≠ (v7_ : Value).ownBlock ∧ some k_ ≠ (v8_ : Value).ownBlock) v6_ r7 ∧ Kd.R (Kd.int .u8) 5 w' w.heap.size (fun k_ => some k_ ≠ (v6_ : Value).ownBlock ∧ some k_ ≠ (v8_ : Value).ownBlock) v7_ r8 ∧ Kd.R (Kd.int .u8) 5 w' w.heap.size (fun k_ => some k_ ≠ (v6_ : Value).ownBlock ∧ some k_ ≠ (v7_ : Value).ownBlock) v8_ r9 ∧ Kd.R (Kd.int .u32) 41 w' w.heap.size (fun _ => True) v9_ r10 ∧ Below w.heap.size w w' := by
 unfold pap_Get.f at h
 obtain ⟨⟨code, id, rest, e⟩, hg, h⟩ := Option.bind_eq_some_iff.mp h
 simp only at h
 split at h
 · rename_i he
   split at h
   · rename_i h1
     exact pt_get2 k A0 c0 l0 r1 r2 r3 r4 r5 r6 r7 r8 r9 r10 r11 code id e rest w hr0 hc0 hg h1 he h
   · rename_i h1
     split at h
     · rename_i h2
       exact pt_get1 k A0 c0 l0 r1 r2 r3 r4 r5 r6 r7 r8 r9 r10 r11 code id e rest w hr0 hc0 hg h2 he h
     · rename_i h2
       exact pt_get0 k A0 c0 l0 r1 r2 r3 r4 r5 r6 r7 r8 r9 r10 r11 code id e rest w hr0 hc0 hg ⟨h1, fun e => h2 (.inl e), fun e => h2 (.inr e)⟩ he h
 · rename_i he
   exact pt_gete k A0 c0 l0 r1 r2 r3 r4 r5 r6 r7 r8 r9 r10 r11 code id e rest w hr0 hc0 hg he h
end Go.Proofs.Ytgjeahgagciagaa.Print
namespace Go.Proofs.Ytgjeahgagciagaa.Print
open Go.RowKit Go.Proofs.YtgjeahgagciagaaW.PrintWords Go.Proofs.YtgjeahgagciagaaW.PrintLast Go.Proofs.YtgjeahgagciagaaW.PrintMore
attribute [local go_sem] max2_int min2_int max_two min_two max_three min_three max_four min_four
set_option linter.unusedVariables false
set_option linter.unusedSimpArgs false
def marlinelaw17_speaks.f (k : Nat) : Option Bool := (pap_Put.f k 49187 1 0 [] 0 0 [97] [98, 99] [] []).bind fun b => if b.2 = 0 then marlineref01_Equal.f k b.1 [1, 0, 0, 9, 1, 97, 2, 98, 99] else some false
theorem marlinelaw17_speaks.C_row (W : World) (b : Nat) (cs : Array Value) (e : Nat) (m : Nat × Nat) (xs : List Int) (hW : W.heap[b]? = some (.cells cs e m)) (hc : cs = (xs.map (Value.int .u8)).toArray) (hl : xs.length ≤ 1000) : Kd.C (Kd.int .u8) W (some ⟨b, 0, none⟩) xs.length xs := by
 refine ⟨rfl, by omega, fun _ => ⟨_, rfl, fun j p hj => ⟨[.int .u8 p], rfl, rfl, fun i u hu => ?_⟩⟩⟩
 cases i with
 | succ i => simp at hu
 | zero =>
  simp only [List.getElem?_cons_zero, Option.some.injEq] at hu
  subst hu
  have h1 : cs[j]? = some (Value.int .u8 p) := by rw [hc]; simp [hj]
  have ea : Addr.add ⟨b, 0, none⟩ (j * 1 + 0) = ⟨b, j, none⟩ := by
   by_cases h0 : j = 0
   · subst h0; rfl
   · simp [Addr.add, h0]
  show W.cell? (Addr.add ⟨b, 0, none⟩ (j * 1 + 0)) = _
  rw [ea, cell_of_row W b j cs e m hW]
  exact h1
set_option maxHeartbeats 8000000 in
set_option maxRecDepth 100000 in
theorem marlinelaw17_speaks.calls (k : Nat) (r : Bool) (w : World) (h : marlinelaw17_speaks.f k = some r) :
 Calls Try.prog 30 #[] w fun e w' => e = .returned (.bool r) ∧ Below w.heap.size w w' := by
 have hu47 := Try.underlying47
 obtain ⟨⟨t1, t2⟩, A0, H⟩ := Option.bind_eq_some_iff.mp h
 have A1 := Aside0.mk A0
 have HB := Aside0.mk (Below.refl w.heap.size w)
 clear h A0
 have hs1 : (w.alloc (.cells #[.int .u8 97] 5 (1, 2))).heap.size = w.heap.size + 1 := by show (w.heap.push _).size = _; simp
 have hcva : (convert 23 23 (.slice (some ⟨w.heap.size, 0, none⟩) 1 1)).run Try.prog (w.alloc (.cells #[.int .u8 97] 5)) = .ok (.slice (some ⟨w.heap.size, 0, none⟩) 1 1) (w.alloc (.cells #[.int .u8 97] 5 (1, 2))) := Lib.run_convert_bytes_const (P := Try.prog) w 23 5 #[.int .u8 97] 1 1 Try.underlying23 Try.underlying5
 have hcvb : (convert 23 23 (.slice (some ⟨w.heap.size + 1, 0, none⟩) 2 2)).run Try.prog ((w.alloc (.cells #[.int .u8 97] 5 (1, 2))).alloc (.cells #[.int .u8 98, .int .u8 99] 5)) = .ok (.slice (some ⟨w.heap.size + 1, 0, none⟩) 2 2) ((w.alloc (.cells #[.int .u8 97] 5 (1, 2))).alloc (.cells #[.int .u8 98, .int .u8 99] 5 (2, 3))) := by
  have h := Lib.run_convert_bytes_const (P := Try.prog) (w.alloc (.cells #[.int .u8 97] 5 (1, 2))) 23 5 #[.int .u8 98, .int .u8 99] 2 2 Try.underlying23 Try.underlying5
  rw [hs1] at h
  exact h
 have hb0 : Below w.heap.size w ((w.alloc (.cells #[.int .u8 97] 5 (1, 2))).alloc (.cells #[.int .u8 98, .int .u8 99] 5 (2, 3))) := below_alloc (below_alloc (Below.refl _ _) _) _
 have hCa : Kd.C (Kd.int .u8) ((w.alloc (.cells #[.int .u8 97] 5 (1, 2))).alloc (.cells #[.int .u8 98, .int .u8 99] 5 (2, 3))) (some ⟨w.heap.size, 0, none⟩) [(97 : Int)].length [97] := marlinelaw17_speaks.C_row _ _ #[.int .u8 97] 5 (1, 2) [97] (by show ((w.heap.push _).push _)[w.heap.size]? = _; simp [Array.getElem?_push]) rfl (by decide)
 have hCb : Kd.C (Kd.int .u8) ((w.alloc (.cells #[.int .u8 97] 5 (1, 2))).alloc (.cells #[.int .u8 98, .int .u8 99] 5 (2, 3))) (some ⟨w.heap.size + 1, 0, none⟩) [(98 : Int), 99].length [98, 99] := marlinelaw17_speaks.C_row _ _ #[.int .u8 98, .int .u8 99] 5 (2, 3) [98, 99] (by show ((w.heap.push _).push _)[w.heap.size + 1]? = _; rw [show w.heap.size + 1 = (w.heap.push (.cells #[.int .u8 97] 5 (1, 2))).size by simp]; exact Array.getElem?_push_size) rfl (by decide)
 generalize hW : ((w.alloc (.cells #[.int .u8 97] 5 (1, 2))).alloc (.cells #[.int .u8 98, .int .u8 99] 5 (2, 3))) = W at hcvb hb0 hCa hCb
 have HCa := Aside0.mk hCa
 have HCb := Aside0.mk hCb
 have HB1 := Aside0.mk hb0
 clear hCa hCb hb0 hW HB
 go_enter Try.func30, Try.ntmps30
 by_cases h2 : t2 = 0
 · subst h2
   replace H : marlineref01_Equal.f k t1 [1, 0, 0, 9, 1, 97, 2, 98, 99] = some r := by rw [if_pos rfl] at H; exact H
   have H1 := Aside0.mk H
   clear H
   go_wp2_with (first | (go_at_call 31; refine (calls_of_args rfl (pap_Put.calls k 49187 1 0 none 0 [] 0 0 (some ⟨w.heap.size, 0, none⟩) 1 [97] (some ⟨w.heap.size + 1, 0, none⟩) 2 [98, 99] none 0 [] none 0 [] t1 0 W (Kd.C_nil _ _) (Nat.le_refl _) HCa.out (Nat.le_refl 1) HCb.out (Nat.le_refl 2) (Kd.C_nil _ _) (Nat.le_refl _) (Kd.C_nil _ _) (Nat.le_refl _) A1.out)).mono ?_; rintro e w5 ⟨v1, rfl, ho, hb⟩; have HB2 := Aside0.mk (below_step HB1.out hb); have HO := Aside0.mk (Kd.R_lower ho (below_size HB1.out)); clear ho hb; obtain ⟨A3, c3, e3⟩ := Kd.R_slice HO.out; subst e3) | (go_at_call 22; refine (calls_of_args rfl (marlineref01_Equal.calls k A3 c3 t1 (some ⟨w5.heap.size, 0, none⟩) 9 [1, 0, 0, 9, 1, 97, 2, 98, 99] r (w5.alloc (.cells #[.int .u8 1, .int .u8 0, .int .u8 0, .int .u8 9, .int .u8 1, .int .u8 97, .int .u8 2, .int .u8 98, .int .u8 99] 5)) (Kd.C_alloc (Kd.R_reads' HO.out).2.2 _) (Kd.R_reads' HO.out).2.1 (marlinelaw17_speaks.C_row _ _ #[.int .u8 1, .int .u8 0, .int .u8 0, .int .u8 9, .int .u8 1, .int .u8 97, .int .u8 2, .int .u8 98, .int .u8 99] 5 (0, 0) [1, 0, 0, 9, 1, 97, 2, 98, 99] (by show (w5.heap.push _)[w5.heap.size]? = _; exact Array.getElem?_push_size) rfl (by decide)) (Nat.le_refl _) H1.out)).mono ?_; rintro e w6 ⟨rfl, ⟨nd, rfl⟩⟩))
   go_ret
   exact ⟨rfl, by repeat (first | exact HB2.out | apply below_alloc | apply pw_below_drewN)⟩
 · replace H : some false = some r := by rw [if_neg h2] at H; exact H
   obtain rfl := Option.some.inj H
   have e2 : (t2 == 0) = false := beq_eq_false_iff_ne.mpr h2
   clear H
   go_wp2_with (first | (go_at_call 31; refine (calls_of_args rfl (pap_Put.calls k 49187 1 0 none 0 [] 0 0 (some ⟨w.heap.size, 0, none⟩) 1 [97] (some ⟨w.heap.size + 1, 0, none⟩) 2 [98, 99] none 0 [] none 0 [] t1 t2 W (Kd.C_nil _ _) (Nat.le_refl _) HCa.out (Nat.le_refl 1) HCb.out (Nat.le_refl 2) (Kd.C_nil _ _) (Nat.le_refl _) (Kd.C_nil _ _) (Nat.le_refl _) A1.out)).mono ?_; rintro e w5 ⟨v1, rfl, ho, hb⟩; have HB2 := Aside0.mk (below_step HB1.out hb); have HO := Aside0.mk (Kd.R_lower ho (below_size HB1.out)); clear ho hb; obtain ⟨A3, c3, e3⟩ := Kd.R_slice HO.out; subst e3))
   go_ret
   exact ⟨rfl, HB2.out⟩
end Go.Proofs.Ytgjeahgagciagaa.Print
namespace Go.Proofs.Ytgjeahgagciagaa.Print
open Go.RowKit Go.Proofs.YtgjeahgagciagaaW.PrintWords Go.Proofs.YtgjeahgagciagaaW.PrintLast Go.Proofs.YtgjeahgagciagaaW.PrintMore
attribute [local go_sem] max2_int min2_int max_two min_two max_three min_three max_four min_four
set_option linter.unusedVariables false
set_option linter.unusedSimpArgs false
def marlineref12_Same.l0 : Nat → List (S56) → List (S56) → Int → Option (Bool)
 | 0, _, _, _ => none
 | k + 1, x0, x1, x5 => if x5 < (x0.length : Int) then (if 0 ≤ x5 then (if x5 < (x1.length : Int) then (if ((rd_T56 x0 x5).f0) = ((rd_T56 x1 x5).f0) then ((marlineref01_Equal.f k ((rd_T56 x0 x5).f1) ((rd_T56 x1 x5).f1)).bind fun t173 => (if t173 = true then (marlineref12_Same.l0 k x0 x1 (wrap64 (x5 + 1))) else (some false))) else (some false)) else (none)) else (none)) else (some true)
def marlineref12_Same.f (k : Nat) (l0 : List (S56)) (l1 : List (S56)) : Option (Bool) := if (l0.length : Int) = (l1.length : Int) then (marlineref12_Same.l0 k l0 l1 0) else (some false)
set_option maxHeartbeats 8000000 in
set_option maxRecDepth 100000 in
theorem marlineref12_Same.calls (k : Nat) (A0 : Option Addr) (c0 : Nat) (l0 : List (S56)) (A1 : Option Addr) (c1 : Nat) (l1 : List (S56)) (r : Bool) (w : World) (hr0 : Kd.C k56 w A0 l0.length l0) (hc0 : l0.length ≤ c0) (hr1 : Kd.C k56 w A1 l1.length l1) (hc1 : l1.length ≤ c1) (h : marlineref12_Same.f k l0 l1 = some r) :
 Calls Try.prog 19 #[.slice A0 l0.length c0, .slice A1 l1.length c1] w fun e w' => e = .returned (.bool r) ∧ Drawn0 w w' := by
 have HR0 := Aside0.mk hr0
 have HC0 := Aside0.mk hc0
 clear hr0 hc0
 have HR1 := Aside0.mk hr1
 have HC1 := Aside0.mk hc1
 clear hr1 hc1
 have H : (if (l0.length : Int) = (l1.length : Int) then (marlineref12_Same.l0 k l0 l1 0) else (some false)) = some r := h
 clear h
 by_cases c3 : (l0.length : Int) = (l1.length : Int)
 · rw [if_pos c3] at H
   have c3b0 : ((l0.length : Int) == (l1.length : Int)) = true := beq_iff_eq.mpr c3
   have c3b1 : ((l0.length : Int) != (l1.length : Int)) = false := bne_eq_false_iff_eq.mpr c3
   have c3b2 : (l0.length == l1.length) = true := by first | simpa using c3 | (simp at c3 ⊢; omega)
   clear c3
   have H' := Aside0.mk H
   clear H
   go_enter Try.func19, Try.ntmps19
   go_wp2
   repeat (go_quiet (fail); try go_wp2)
   go_loopg [5] k (fun kq v5 w' => ∃ (x5_1 : Int), v5 = .int .i64 x5_1 ∧ Aside0 (marlineref12_Same.l0 kq l0 l1 x5_1 = some r) ∧ Aside0 (kq ≤ k) ∧ Drawn0 w w')
   case atStart => exact ⟨(0), (by first | rfl | (simp; done) | (simp [*]; done)), H', ⟨Nat.le_refl _⟩, by repeat (first | exact Drawn0.refl _ | apply Drawn0.step)⟩
   case round =>
    clear H'
    try clear c1
    try clear p2
    try clear c3
    try clear c3b0
    try clear c3b1
    try clear c3b2
    obtain ⟨x5_1, rfl, HA, HK1, ⟨m1, rfl⟩⟩ := hrel
    cases gk with
    | zero => exact absurd HA.out (by simp [marlineref12_Same.l0])
    | succ k1 =>
     have H := HA.out
     clear HA
     simp only [marlineref12_Same.l0] at H
     by_cases c4 : x5_1 < (l0.length : Int)
     · rw [if_pos c4] at H
       have c4b0 : decide (x5_1 < (l0.length : Int)) = true := decide_eq_true c4
       clear c4
       by_cases c5 : 0 ≤ x5_1
       · rw [if_pos c5] at H
         have c5b0 : decide (0 ≤ x5_1) = true := decide_eq_true c5
         clear c5
         by_cases c6 : x5_1 < (l1.length : Int)
         · rw [if_pos c6] at H
           have c6b0 : decide (x5_1 < (l1.length : Int)) = true := decide_eq_true c6
           clear c6
           by_cases c7 : ((rd_T56 l0 x5_1).f0) = ((rd_T56 l1 x5_1).f0)
           · rw [if_pos c7] at H
             have c7b0 : (((rd_T56 l0 x5_1).f0) == ((rd_T56 l1 x5_1).f0)) = true := beq_iff_eq.mpr c7
             have c7b1 : (((rd_T56 l0 x5_1).f0) != ((rd_T56 l1 x5_1).f0)) = false := bne_eq_false_iff_eq.mpr c7
             clear c7
             replace H := Option.bind_eq_some_iff.mp H
             obtain ⟨t173, A80, H⟩ := H
             replace H : (if t173 = true then (marlineref12_Same.l0 k1 l0 l1 (wrap64 (x5_1 + 1))) else (some false)) = some r := H
             have A8 := Aside0.mk A80
             clear A80
             by_cases c9 : t173 = true
             · subst c9
               have H1 : (marlineref12_Same.l0 k1 l0 l1 (wrap64 (x5_1 + 1))) = some r := by rw [if_pos rfl] at H; exact H
               clear H
               have H := H1
               clear H1
               have H' := Aside0.mk H
               clear H
               have p169 : 0 ≤ (x5_1 : Int) := of_decide_eq_true (by first | (with_reducible assumption) | assumption)
               have q169 : x5_1 < (l0.length : Int) := of_decide_eq_true (by first | (with_reducible assumption) | assumption)
               (try clear hHeld)
               obtain ⟨ad169, A169_1, c169_1, e169, hx169_0, hx169_1, hl169_1, hi169_1⟩ := at_T56 HR0.out x5_1 p169 q169
               cases e169
               have HR169_1 := Aside0.mk hi169_1
               have HC169_1 := Aside0.mk hl169_1
               clear hi169_1 hl169_1
               replace p169 := eq_true p169
               replace q169 := eq_true q169
               have p170 : 0 ≤ (x5_1 : Int) := of_decide_eq_true (by first | (with_reducible assumption) | assumption)
               have q170 : x5_1 < (l1.length : Int) := of_decide_eq_true (by first | (with_reducible assumption) | assumption)
               (try clear hHeld)
               obtain ⟨ad170, A170_1, c170_1, e170, hx170_0, hx170_1, hl170_1, hi170_1⟩ := at_T56 HR1.out x5_1 p170 q170
               cases e170
               have HR170_1 := Aside0.mk hi170_1
               have HC170_1 := Aside0.mk hl170_1
               clear hi170_1 hl170_1
               replace p170 := eq_true p170
               replace q170 := eq_true q170
               have p171 : 0 ≤ (x5_1 : Int) := of_decide_eq_true (by first | (with_reducible assumption) | assumption)
               have q171 : x5_1 < (l0.length : Int) := of_decide_eq_true (by first | (with_reducible assumption) | assumption)
               (try clear hHeld)
               obtain ⟨ad171, A171_1, c171_1, e171, hx171_0, hx171_1, hl171_1, hi171_1⟩ := at_T56 HR0.out x5_1 p171 q171
               obtain rfl : ad169 = ad171 := (by injection e171)
               have HR171_1 := Aside0.mk hi171_1
               have HC171_1 := Aside0.mk hl171_1
               clear hi171_1 hl171_1
               replace p171 := eq_true p171
               replace q171 := eq_true q171
               have ea_ := Option.some.inj (hx169_1.symm.trans hx171_1)
               injection ea_ with ea_ en_ ec_
               subst ea_
               subst ec_
               clear en_
               have p172 : 0 ≤ (x5_1 : Int) := of_decide_eq_true (by first | (with_reducible assumption) | assumption)
               have q172 : x5_1 < (l1.length : Int) := of_decide_eq_true (by first | (with_reducible assumption) | assumption)
               (try clear hHeld)
               obtain ⟨ad172, A172_1, c172_1, e172, hx172_0, hx172_1, hl172_1, hi172_1⟩ := at_T56 HR1.out x5_1 p172 q172
               obtain rfl : ad170 = ad172 := (by injection e172)
               have HR172_1 := Aside0.mk hi172_1
               have HC172_1 := Aside0.mk hl172_1
               clear hi172_1 hl172_1
               replace p172 := eq_true p172
               replace q172 := eq_true q172
               have ea_ := Option.some.inj (hx170_1.symm.trans hx172_1)
               injection ea_ with ea_ en_ ec_
               subst ea_
               subst ec_
               clear en_
               go_wp2_with (first | (go_at_call 22; (with_reducible refine (marlineref01_Equal.calls k1 _ _ ((rd_T56 l0 x5_1).f1) _ _ ((rd_T56 l1 x5_1).f1) true _ ?side1 ?side2 ?side3 ?side4 A8.out).mono ?_); (case side1 => repeat (first | exact HR171_1.out | (with_reducible refine Kd.C_alloc ?_ _) | (with_reducible refine Kd.C_drewN ?_ _) | (with_reducible refine Kd.C_drew ?_))); (case side2 => exact HC171_1.out); (case side3 => repeat (first | exact HR172_1.out | (with_reducible refine Kd.C_alloc ?_ _) | (with_reducible refine Kd.C_drewN ?_ _) | (with_reducible refine Kd.C_drew ?_))); (case side4 => exact HC172_1.out); rintro e w' ⟨rfl, ⟨nd, rfl⟩⟩; (try first | exact ⟨rfl, _, World.drewN_drewN _ _ _⟩ | exact ⟨rfl, _, Eq.trans (World.drewN_drewN _ _ _) (congrArg (World.drewN _) (Nat.add_assoc _ _ _))⟩)))
               repeat (go_quiet (first | (go_at_call 22; (with_reducible refine (marlineref01_Equal.calls k1 _ _ ((rd_T56 l0 x5_1).f1) _ _ ((rd_T56 l1 x5_1).f1) true _ ?side1 ?side2 ?side3 ?side4 A8.out).mono ?_); (case side1 => repeat (first | exact HR171_1.out | (with_reducible refine Kd.C_alloc ?_ _) | (with_reducible refine Kd.C_drewN ?_ _) | (with_reducible refine Kd.C_drew ?_))); (case side2 => exact HC171_1.out); (case side3 => repeat (first | exact HR172_1.out | (with_reducible refine Kd.C_alloc ?_ _) | (with_reducible refine Kd.C_drewN ?_ _) | (with_reducible refine Kd.C_drew ?_))); (case side4 => exact HC172_1.out); rintro e w' ⟨rfl, ⟨nd, rfl⟩⟩; (try first | exact ⟨rfl, _, World.drewN_drewN _ _ _⟩ | exact ⟨rfl, _, Eq.trans (World.drewN_drewN _ _ _) (congrArg (World.drewN _) (Nat.add_assoc _ _ _))⟩))); try go_wp2_with (first | (go_at_call 22; (with_reducible refine (marlineref01_Equal.calls k1 _ _ ((rd_T56 l0 x5_1).f1) _ _ ((rd_T56 l1 x5_1).f1) true _ ?side1 ?side2 ?side3 ?side4 A8.out).mono ?_); (case side1 => repeat (first | exact HR171_1.out | (with_reducible refine Kd.C_alloc ?_ _) | (with_reducible refine Kd.C_drewN ?_ _) | (with_reducible refine Kd.C_drew ?_))); (case side2 => exact HC171_1.out); (case side3 => repeat (first | exact HR172_1.out | (with_reducible refine Kd.C_alloc ?_ _) | (with_reducible refine Kd.C_drewN ?_ _) | (with_reducible refine Kd.C_drew ?_))); (case side4 => exact HC172_1.out); rintro e w' ⟨rfl, ⟨nd, rfl⟩⟩; (try first | exact ⟨rfl, _, World.drewN_drewN _ _ _⟩ | exact ⟨rfl, _, Eq.trans (World.drewN_drewN _ _ _) (congrArg (World.drewN _) (Nat.add_assoc _ _ _))⟩))))
               go_roundg k1
               case measure => have := HK1.out; omega
               case rel => exact ⟨(wrap64 (x5_1 + 1)), (by first | rfl | (simp; done) | (simp [*]; done)), H', ⟨by have := HK1.out; omega⟩, by repeat (first | exact Drawn0.refl _ | apply Drawn0.step)⟩
             · replace c9 := Bool.eq_false_iff.mpr c9
               subst c9
               have H1 : (some false) = some r := by rw [if_neg (show ¬ (false = true) by decide)] at H; exact H
               clear H
               have H := H1
               clear H1
               obtain rfl := Option.some.inj H
               have p169 : 0 ≤ (x5_1 : Int) := of_decide_eq_true (by first | (with_reducible assumption) | assumption)
               have q169 : x5_1 < (l0.length : Int) := of_decide_eq_true (by first | (with_reducible assumption) | assumption)
               (try clear hHeld)
               obtain ⟨ad169, A169_1, c169_1, e169, hx169_0, hx169_1, hl169_1, hi169_1⟩ := at_T56 HR0.out x5_1 p169 q169
               cases e169
               have HR169_1 := Aside0.mk hi169_1
               have HC169_1 := Aside0.mk hl169_1
               clear hi169_1 hl169_1
               replace p169 := eq_true p169
               replace q169 := eq_true q169
               have p170 : 0 ≤ (x5_1 : Int) := of_decide_eq_true (by first | (with_reducible assumption) | assumption)
               have q170 : x5_1 < (l1.length : Int) := of_decide_eq_true (by first | (with_reducible assumption) | assumption)
               (try clear hHeld)
               obtain ⟨ad170, A170_1, c170_1, e170, hx170_0, hx170_1, hl170_1, hi170_1⟩ := at_T56 HR1.out x5_1 p170 q170
               cases e170
               have HR170_1 := Aside0.mk hi170_1
               have HC170_1 := Aside0.mk hl170_1
               clear hi170_1 hl170_1
               replace p170 := eq_true p170
               replace q170 := eq_true q170
               have p171 : 0 ≤ (x5_1 : Int) := of_decide_eq_true (by first | (with_reducible assumption) | assumption)
               have q171 : x5_1 < (l0.length : Int) := of_decide_eq_true (by first | (with_reducible assumption) | assumption)
               (try clear hHeld)
               obtain ⟨ad171, A171_1, c171_1, e171, hx171_0, hx171_1, hl171_1, hi171_1⟩ := at_T56 HR0.out x5_1 p171 q171
               obtain rfl : ad169 = ad171 := (by injection e171)
               have HR171_1 := Aside0.mk hi171_1
               have HC171_1 := Aside0.mk hl171_1
               clear hi171_1 hl171_1
               replace p171 := eq_true p171
               replace q171 := eq_true q171
               have ea_ := Option.some.inj (hx169_1.symm.trans hx171_1)
               injection ea_ with ea_ en_ ec_
               subst ea_
               subst ec_
               clear en_
               have p172 : 0 ≤ (x5_1 : Int) := of_decide_eq_true (by first | (with_reducible assumption) | assumption)
               have q172 : x5_1 < (l1.length : Int) := of_decide_eq_true (by first | (with_reducible assumption) | assumption)
               (try clear hHeld)
               obtain ⟨ad172, A172_1, c172_1, e172, hx172_0, hx172_1, hl172_1, hi172_1⟩ := at_T56 HR1.out x5_1 p172 q172
               obtain rfl : ad170 = ad172 := (by injection e172)
               have HR172_1 := Aside0.mk hi172_1
               have HC172_1 := Aside0.mk hl172_1
               clear hi172_1 hl172_1
               replace p172 := eq_true p172
               replace q172 := eq_true q172
               have ea_ := Option.some.inj (hx170_1.symm.trans hx172_1)
               injection ea_ with ea_ en_ ec_
               subst ea_
               subst ec_
               clear en_
               go_wp2_with (first | (go_at_call 22; (with_reducible refine (marlineref01_Equal.calls k1 _ _ ((rd_T56 l0 x5_1).f1) _ _ ((rd_T56 l1 x5_1).f1) false _ ?side1 ?side2 ?side3 ?side4 A8.out).mono ?_); (case side1 => repeat (first | exact HR171_1.out | (with_reducible refine Kd.C_alloc ?_ _) | (with_reducible refine Kd.C_drewN ?_ _) | (with_reducible refine Kd.C_drew ?_))); (case side2 => exact HC171_1.out); (case side3 => repeat (first | exact HR172_1.out | (with_reducible refine Kd.C_alloc ?_ _) | (with_reducible refine Kd.C_drewN ?_ _) | (with_reducible refine Kd.C_drew ?_))); (case side4 => exact HC172_1.out); rintro e w' ⟨rfl, ⟨nd, rfl⟩⟩; (try first | exact ⟨rfl, _, World.drewN_drewN _ _ _⟩ | exact ⟨rfl, _, Eq.trans (World.drewN_drewN _ _ _) (congrArg (World.drewN _) (Nat.add_assoc _ _ _))⟩)))
               repeat (go_quiet (first | (go_at_call 22; (with_reducible refine (marlineref01_Equal.calls k1 _ _ ((rd_T56 l0 x5_1).f1) _ _ ((rd_T56 l1 x5_1).f1) false _ ?side1 ?side2 ?side3 ?side4 A8.out).mono ?_); (case side1 => repeat (first | exact HR171_1.out | (with_reducible refine Kd.C_alloc ?_ _) | (with_reducible refine Kd.C_drewN ?_ _) | (with_reducible refine Kd.C_drew ?_))); (case side2 => exact HC171_1.out); (case side3 => repeat (first | exact HR172_1.out | (with_reducible refine Kd.C_alloc ?_ _) | (with_reducible refine Kd.C_drewN ?_ _) | (with_reducible refine Kd.C_drew ?_))); (case side4 => exact HC172_1.out); rintro e w' ⟨rfl, ⟨nd, rfl⟩⟩; (try first | exact ⟨rfl, _, World.drewN_drewN _ _ _⟩ | exact ⟨rfl, _, Eq.trans (World.drewN_drewN _ _ _) (congrArg (World.drewN _) (Nat.add_assoc _ _ _))⟩))); try go_wp2_with (first | (go_at_call 22; (with_reducible refine (marlineref01_Equal.calls k1 _ _ ((rd_T56 l0 x5_1).f1) _ _ ((rd_T56 l1 x5_1).f1) false _ ?side1 ?side2 ?side3 ?side4 A8.out).mono ?_); (case side1 => repeat (first | exact HR171_1.out | (with_reducible refine Kd.C_alloc ?_ _) | (with_reducible refine Kd.C_drewN ?_ _) | (with_reducible refine Kd.C_drew ?_))); (case side2 => exact HC171_1.out); (case side3 => repeat (first | exact HR172_1.out | (with_reducible refine Kd.C_alloc ?_ _) | (with_reducible refine Kd.C_drewN ?_ _) | (with_reducible refine Kd.C_drew ?_))); (case side4 => exact HC172_1.out); rintro e w' ⟨rfl, ⟨nd, rfl⟩⟩; (try first | exact ⟨rfl, _, World.drewN_drewN _ _ _⟩ | exact ⟨rfl, _, Eq.trans (World.drewN_drewN _ _ _) (congrArg (World.drewN _) (Nat.add_assoc _ _ _))⟩))))
               go_ret
               exact ⟨by first | rfl | (simp; done) | (simp [*]; done), by repeat (first | exact Drawn0.refl _ | apply Drawn0.step)⟩
           · rw [if_neg c7] at H
             have c7b0 : (((rd_T56 l0 x5_1).f0) == ((rd_T56 l1 x5_1).f0)) = false := beq_eq_false_iff_ne.mpr c7
             have c7b1 : (((rd_T56 l0 x5_1).f0) != ((rd_T56 l1 x5_1).f0)) = true := bne_iff_ne.mpr c7
             obtain rfl := Option.some.inj H
             have p169 : 0 ≤ (x5_1 : Int) := of_decide_eq_true (by first | (with_reducible assumption) | assumption)
             have q169 : x5_1 < (l0.length : Int) := of_decide_eq_true (by first | (with_reducible assumption) | assumption)
             (try clear hHeld)
             obtain ⟨ad169, A169_1, c169_1, e169, hx169_0, hx169_1, hl169_1, hi169_1⟩ := at_T56 HR0.out x5_1 p169 q169
             cases e169
             have HR169_1 := Aside0.mk hi169_1
             have HC169_1 := Aside0.mk hl169_1
             clear hi169_1 hl169_1
             replace p169 := eq_true p169
             replace q169 := eq_true q169
             have p170 : 0 ≤ (x5_1 : Int) := of_decide_eq_true (by first | (with_reducible assumption) | assumption)
             have q170 : x5_1 < (l1.length : Int) := of_decide_eq_true (by first | (with_reducible assumption) | assumption)
             (try clear hHeld)
             obtain ⟨ad170, A170_1, c170_1, e170, hx170_0, hx170_1, hl170_1, hi170_1⟩ := at_T56 HR1.out x5_1 p170 q170
             cases e170
             have HR170_1 := Aside0.mk hi170_1
             have HC170_1 := Aside0.mk hl170_1
             clear hi170_1 hl170_1
             replace p170 := eq_true p170
             replace q170 := eq_true q170
             go_wp2
             repeat (go_quiet (fail); try go_wp2)
             go_ret
             exact ⟨by first | rfl | (simp; done) | (simp [*]; done), by repeat (first | exact Drawn0.refl _ | apply Drawn0.step)⟩
         · rw [if_neg c6] at H
           exact absurd H (by simp)
       · rw [if_neg c5] at H
         exact absurd H (by simp)
     · rw [if_neg c4] at H
       have c4b0 : decide (x5_1 < (l0.length : Int)) = false := decide_eq_false c4
       clear c4
       obtain rfl := Option.some.inj H
       go_wp2
       repeat (go_quiet (fail); try go_wp2)
       go_ret
       exact ⟨by first | rfl | (simp; done) | (simp [*]; done), by repeat (first | exact Drawn0.refl _ | apply Drawn0.step)⟩
 · rw [if_neg c3] at H
   have c3b0 : ((l0.length : Int) == (l1.length : Int)) = false := beq_eq_false_iff_ne.mpr c3
   have c3b1 : ((l0.length : Int) != (l1.length : Int)) = true := bne_iff_ne.mpr c3
   have c3b2 : (l0.length == l1.length) = false := by first | simpa using c3 | (simp at c3 ⊢; omega)
   obtain rfl := Option.some.inj H
   go_enter Try.func19, Try.ntmps19
   go_wp2
   repeat (go_quiet (fail); try go_wp2)
   go_ret
   exact ⟨by first | rfl | (simp; done) | (simp [*]; done), by repeat (first | exact Drawn0.refl _ | apply Drawn0.step)⟩
end Go.Proofs.Ytgjeahgagciagaa.Print
