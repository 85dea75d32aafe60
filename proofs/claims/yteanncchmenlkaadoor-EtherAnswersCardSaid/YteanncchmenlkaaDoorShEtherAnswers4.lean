/- Texts of this claim, several in one, told shortly by a program of this claim (wip/x/shrink.py): what Go functions come to, and plain words on it. -/
import Derived.Test.YteanncchmenlkaaDoorShEtherAnswers3
namespace Go.Proofs.YteanncchmenlkaaDoor.Print
open Go.RowKit Go.Proofs.YteanncchmenlkaaDoorW.PrintWords Go.Proofs.YteanncchmenlkaaDoorW.PrintLast Go.Proofs.YteanncchmenlkaaDoorW.PrintMore
attribute [local go_sem] max2_int min2_int max_two min_two max_three min_three max_four min_four
set_option linter.unusedVariables false
set_option linter.unusedSimpArgs false
def marlinelaw22_Of.f (k : Nat) (a0_0 : Int) (a0_1 : Int) (l0_2 : List (S85)) (a0_3 : Int) (a0_4 : Int) (a0_5 : Int) (l0_6 : List (S105)) (a0_7 : Int) (a0_8 : Int) (l0_9 : List Int) (l0_10 : List Int) (l0_11 : List Int) (l0_12 : List Int) : Option (Int × Int × (List (S51)) × Int × Int × Int × (List (S62)) × Int × Int × List Int × List Int × List Int × List Int) := (marlinelaw21_Of.f k l0_2).bind fun t457 => ((marlinelaw15_Of.f k a0_3 a0_4 a0_5 l0_6 a0_7 a0_8 l0_9 l0_10 l0_11 l0_12).bind fun bt460 => (some (a0_0, a0_1, t457, bt460.1, bt460.2.1, bt460.2.2.1, bt460.2.2.2.1, bt460.2.2.2.2.1, bt460.2.2.2.2.2.1, bt460.2.2.2.2.2.2.1, bt460.2.2.2.2.2.2.2.1, bt460.2.2.2.2.2.2.2.2.1, bt460.2.2.2.2.2.2.2.2.2)))
def marlinelaw22_Of.T1 : Bool × List (List Nat × List Nat) := (true, [([], []), ([0], [0]), ([], []), ([2], [2]), ([], []), ([4], [4]), ([5], [5]), ([], []), ([7], [7]), ([8, 6], [8]), ([1, 3, 6, 9], [1, 3, 6, 9]), ([10, 9, 0, 1, 2, 3, 4, 5, 6, 7, 8, 9, 10], [10])])
def marlinelaw22_Of.B1 : List Nat := [0, 1, 0, 4, 0, 16, 48, 0, 128, 496, 1023, 2047]
theorem marlinelaw22_Of.tab1 : rtab .any (opsOf Tryd.f15 1) = marlinelaw22_Of.T1 := by kernel_rfl
theorem marlinelaw22_Of.bits1 : waitsOk marlinelaw22_Of.T1.2 marlinelaw22_Of.B1 = true := by kernel_rfl
set_option maxHeartbeats 8000000 in
set_option maxRecDepth 100000 in
theorem marlinelaw22_Of.calls (k : Nat) (a0_0 : Int) (a0_1 : Int) (P0_2_ : Nat → Prop) (A0_2 : Option Addr) (c0_2 : Nat) (l0_2 : List (S85)) (a0_3 : Int) (a0_4 : Int) (a0_5 : Int) (P0_6_ : Nat → Prop) (A0_6 : Option Addr) (c0_6 : Nat) (l0_6 : List (S105)) (a0_7 : Int) (a0_8 : Int) (P0_9_ : Nat → Prop) (A0_9 : Option Addr) (c0_9 : Nat) (l0_9 : List Int) (P0_10_ : Nat → Prop) (A0_10 : Option Addr) (c0_10 : Nat) (l0_10 : List Int) (P0_11_ : Nat → Prop) (A0_11 : Option Addr) (c0_11 : Nat) (l0_11 : List Int) (P0_12_ : Nat → Prop) (A0_12 : Option Addr) (c0_12 : Nat) (l0_12 : List Int) (r1 : Int) (r2 : Int) (r3 : List (S51)) (r4 : Int) (r5 : Int) (r6 : Int) (r7 : List (S62)) (r8 : Int) (r9 : Int) (r10 : List Int) (r11 : List Int) (r12 : List Int) (r13 : List Int) (w : World) (hs0_2 : Kd.V k85 85 w w.heap.size (fun k_ => P0_2_ k_) (.slice A0_2 l0_2.length c0_2) l0_2) (hs0_6 : Kd.V k105 105 w w.heap.size (fun k_ => P0_6_ k_) (.slice A0_6 l0_6.length c0_6) l0_6) (hs0_9 : Kd.V (Kd.int .u8) 5 w w.heap.size (fun k_ => P0_9_ k_) (.slice A0_9 l0_9.length c0_9) l0_9) (hs0_10 : Kd.V (Kd.int .u8) 5 w w.heap.size (fun k_ => P0_10_ k_) (.slice A0_10 l0_10.length c0_10) l0_10) (hs0_11 : Kd.V (Kd.int .u8) 5 w w.heap.size (fun k_ => P0_11_ k_) (.slice A0_11 l0_11.length c0_11) l0_11) (hs0_12 : Kd.V (Kd.int .u32) 26 w w.heap.size (fun k_ => P0_12_ k_) (.slice A0_12 l0_12.length c0_12) l0_12) (h : marlinelaw22_Of.f k a0_0 a0_1 l0_2 a0_3 a0_4 a0_5 l0_6 a0_7 a0_8 l0_9 l0_10 l0_11 l0_12 = some (r1, r2, r3, r4, r5, r6, r7, r8, r9, r10, r11, r12, r13)) :
 Calls Tryd.prog 15 #[.agg #[.int .u8 a0_0, .int .u16 a0_1, .slice A0_2 l0_2.length c0_2, .int .u16 a0_3, .int .u8 a0_4, .int .u8 a0_5, .slice A0_6 l0_6.length c0_6, .int .u16 a0_7, .int .u32 a0_8, .slice A0_9 l0_9.length c0_9, .slice A0_10 l0_10.length c0_10, .slice A0_11 l0_11.length c0_11, .slice A0_12 l0_12.length c0_12]] w fun e w' => ∃ v2_ v6_ v9_ v10_ v11_ v12_ : Value, e = .returned (.agg #[.int .u8 r1, .int .u16 r2, v2_, .int .u16 r4, .int .u8 r5, .int .u8 r6, v6_, .int .u16 r8, .int .u32 r9, v9_, v10_, v11_, v12_]) ∧ Kd.N k51 51 w' w.heap.size (fun k_ => ((P0_2_ k_ ∨ P0_6_ k_ ∨ P0_9_ k_ ∨ P0_10_ k_ ∨ P0_11_ k_ ∨ P0_12_ k_) ∨ w.heap.size ≤ k_) ∧ some k_ ≠ (v6_ : Value).ownBlock) v2_ r3 ∧ Kd.N k62 62 w' w.heap.size (fun k_ => ((P0_2_ k_ ∨ P0_6_ k_ ∨ P0_9_ k_ ∨ P0_10_ k_ ∨ P0_11_ k_ ∨ P0_12_ k_) ∨ w.heap.size ≤ k_) ∧ some k_ ≠ (v2_ : Value).ownBlock) v6_ r7 ∧ Kd.V (Kd.int .u8) 5 w' w.heap.size (fun k_ => ((P0_2_ k_ ∨ P0_6_ k_ ∨ P0_9_ k_ ∨ P0_10_ k_ ∨ P0_11_ k_ ∨ P0_12_ k_) ∨ w.heap.size ≤ k_) ∧ some k_ ≠ (v2_ : Value).ownBlock ∧ some k_ ≠ (v6_ : Value).ownBlock) v9_ r10 ∧ Kd.V (Kd.int .u8) 5 w' w.heap.size (fun k_ => ((P0_2_ k_ ∨ P0_6_ k_ ∨ P0_9_ k_ ∨ P0_10_ k_ ∨ P0_11_ k_ ∨ P0_12_ k_) ∨ w.heap.size ≤ k_) ∧ some k_ ≠ (v2_ : Value).ownBlock ∧ some k_ ≠ (v6_ : Value).ownBlock) v10_ r11 ∧ Kd.V (Kd.int .u8) 5 w' w.heap.size (fun k_ => ((P0_2_ k_ ∨ P0_6_ k_ ∨ P0_9_ k_ ∨ P0_10_ k_ ∨ P0_11_ k_ ∨ P0_12_ k_) ∨ w.heap.size ≤ k_) ∧ some k_ ≠ (v2_ : Value).ownBlock ∧ some k_ ≠ (v6_ : Value).ownBlock) v11_ r12 ∧ Kd.V (Kd.int .u32) 26 w' w.heap.size (fun k_ => ((P0_2_ k_ ∨ P0_6_ k_ ∨ P0_9_ k_ ∨ P0_10_ k_ ∨ P0_11_ k_ ∨ P0_12_ k_) ∨ w.heap.size ≤ k_) ∧ some k_ ≠ (v2_ : Value).ownBlock ∧ some k_ ≠ (v6_ : Value).ownBlock) v12_ r13 ∧ Below w.heap.size w w' := by
 have hu44 := Tryd.underlying44
 have hu32 := Tryd.underlying32
 have hu42 := Tryd.underlying42
 have HO0_2 := Aside0.mk (show Kd.V k85 85 w w.heap.size (fun k_ => ((P0_2_ k_ ∨ P0_6_ k_ ∨ P0_9_ k_ ∨ P0_10_ k_ ∨ P0_11_ k_ ∨ P0_12_ k_) ∨ w.heap.size ≤ k_)) (.slice A0_2 l0_2.length c0_2) l0_2 from Kd.V_mono hs0_2 (fun k_ hk => .inl (.inl hk)))
 have HO0_6 := Aside0.mk (show Kd.V k105 105 w w.heap.size (fun k_ => ((P0_2_ k_ ∨ P0_6_ k_ ∨ P0_9_ k_ ∨ P0_10_ k_ ∨ P0_11_ k_ ∨ P0_12_ k_) ∨ w.heap.size ≤ k_)) (.slice A0_6 l0_6.length c0_6) l0_6 from Kd.V_mono hs0_6 (fun k_ hk => .inl (.inr (.inl hk))))
 have HO0_9 := Aside0.mk (show Kd.V (Kd.int .u8) 5 w w.heap.size (fun k_ => ((P0_2_ k_ ∨ P0_6_ k_ ∨ P0_9_ k_ ∨ P0_10_ k_ ∨ P0_11_ k_ ∨ P0_12_ k_) ∨ w.heap.size ≤ k_)) (.slice A0_9 l0_9.length c0_9) l0_9 from Kd.V_mono hs0_9 (fun k_ hk => .inl (.inr (.inr (.inl hk)))))
 have HO0_10 := Aside0.mk (show Kd.V (Kd.int .u8) 5 w w.heap.size (fun k_ => ((P0_2_ k_ ∨ P0_6_ k_ ∨ P0_9_ k_ ∨ P0_10_ k_ ∨ P0_11_ k_ ∨ P0_12_ k_) ∨ w.heap.size ≤ k_)) (.slice A0_10 l0_10.length c0_10) l0_10 from Kd.V_mono hs0_10 (fun k_ hk => .inl (.inr (.inr (.inr (.inl hk))))))
 have HO0_11 := Aside0.mk (show Kd.V (Kd.int .u8) 5 w w.heap.size (fun k_ => ((P0_2_ k_ ∨ P0_6_ k_ ∨ P0_9_ k_ ∨ P0_10_ k_ ∨ P0_11_ k_ ∨ P0_12_ k_) ∨ w.heap.size ≤ k_)) (.slice A0_11 l0_11.length c0_11) l0_11 from Kd.V_mono hs0_11 (fun k_ hk => .inl (.inr (.inr (.inr (.inr (.inl hk)))))))
 have HO0_12 := Aside0.mk (show Kd.V (Kd.int .u32) 26 w w.heap.size (fun k_ => ((P0_2_ k_ ∨ P0_6_ k_ ∨ P0_9_ k_ ∨ P0_10_ k_ ∨ P0_11_ k_ ∨ P0_12_ k_) ∨ w.heap.size ≤ k_)) (.slice A0_12 l0_12.length c0_12) l0_12 from Kd.V_mono hs0_12 (fun k_ hk => .inl (.inr (.inr (.inr (.inr (.inr hk)))))))
 have HB := Aside0.mk (Below.refl w.heap.size w)
 have H : ((marlinelaw21_Of.f k l0_2).bind fun t457 => ((marlinelaw15_Of.f k a0_3 a0_4 a0_5 l0_6 a0_7 a0_8 l0_9 l0_10 l0_11 l0_12).bind fun bt460 => (some (a0_0, a0_1, t457, bt460.1, bt460.2.1, bt460.2.2.1, bt460.2.2.2.1, bt460.2.2.2.2.1, bt460.2.2.2.2.2.1, bt460.2.2.2.2.2.2.1, bt460.2.2.2.2.2.2.2.1, bt460.2.2.2.2.2.2.2.2.1, bt460.2.2.2.2.2.2.2.2.2)))) = some (r1, r2, r3, r4, r5, r6, r7, r8, r9, r10, r11, r12, r13) := h
 clear h
 replace H := Option.bind_eq_some_iff.mp H
 obtain ⟨t457, A20, H⟩ := H
 replace H : ((marlinelaw15_Of.f k a0_3 a0_4 a0_5 l0_6 a0_7 a0_8 l0_9 l0_10 l0_11 l0_12).bind fun bt460 => (some (a0_0, a0_1, t457, bt460.1, bt460.2.1, bt460.2.2.1, bt460.2.2.2.1, bt460.2.2.2.2.1, bt460.2.2.2.2.2.1, bt460.2.2.2.2.2.2.1, bt460.2.2.2.2.2.2.2.1, bt460.2.2.2.2.2.2.2.2.1, bt460.2.2.2.2.2.2.2.2.2))) = some (r1, r2, r3, r4, r5, r6, r7, r8, r9, r10, r11, r12, r13) := H
 have A2 := Aside0.mk A20
 clear A20
 replace H := Option.bind_eq_some_iff.mp H
 obtain ⟨⟨t460, t461, t462, t463, t466, t467, t468, t471, t474, t477⟩, A30, H⟩ := H
 replace H : (some (a0_0, a0_1, t457, t460, t461, t462, t463, t466, t467, t468, t471, t474, t477)) = some (r1, r2, r3, r4, r5, r6, r7, r8, r9, r10, r11, r12, r13) := H
 have A3 := Aside0.mk A30
 clear A30
 simp only [Option.some.injEq, Prod.mk.injEq] at H
 obtain ⟨rfl, rfl, rfl, rfl, rfl, rfl, rfl, rfl, rfl, rfl, rfl, rfl, rfl⟩ := H
 go_enter Tryd.func15, Tryd.ntmps15
 try go_wp2_with (first | ((with_reducible refine gate_dst (N := 1) rfl ?_); refine box_event ?hg (N := 1) ?hd (cs := #[.int .u8 a0_0, .int .u16 a0_1, .slice A0_2 l0_2.length c0_2, .int .u16 a0_3, .int .u8 a0_4, .int .u8 a0_5, .slice A0_6 l0_6.length c0_6, .int .u16 a0_7, .int .u32 a0_8, .slice A0_9 l0_9.length c0_9, .slice A0_10 l0_10.length c0_10, .slice A0_11 l0_11.length c0_11, .slice A0_12 l0_12.length c0_12]) (t := 44) ?hr ?_; (case hd => rfl); (case hg => rfl); (case hr => first | (go_simp; done) | (go_simp; simp only [IntKind.wrap_u8, IntKind.wrap_u16, IntKind.wrap_u32, IntKind.wrap_u64]; done) | (go_simp; simp only [IntKind.wrap_u8, IntKind.wrap_u16, IntKind.wrap_u32, IntKind.wrap_u64, Int.tmod_eq_emod_of_nonneg (Int.natCast_nonneg _), Int.emod_emod]; done) | (go_simp; rfl)); intro gb455 hg w4 hbox hb; have n0_ := Aside0.mk (Kd.V_below (Kd.V_elderB (by (with_reducible repeat (first | apply Kd.V_alloc | apply Kd.V_drewN | apply Kd.V_drew)); exact HO0_2.out) gb455 (Nat.le_of_eq hg.symm)) hb); have n1_ := Aside0.mk (Kd.V_below (Kd.V_elderB (by (with_reducible repeat (first | apply Kd.V_alloc | apply Kd.V_drewN | apply Kd.V_drew)); exact HO0_6.out) gb455 (Nat.le_of_eq hg.symm)) hb); have n2_ := Aside0.mk (Kd.V_below (Kd.V_elderB (by (with_reducible repeat (first | apply Kd.V_alloc | apply Kd.V_drewN | apply Kd.V_drew)); exact HO0_9.out) gb455 (Nat.le_of_eq hg.symm)) hb); have n3_ := Aside0.mk (Kd.V_below (Kd.V_elderB (by (with_reducible repeat (first | apply Kd.V_alloc | apply Kd.V_drewN | apply Kd.V_drew)); exact HO0_10.out) gb455 (Nat.le_of_eq hg.symm)) hb); have n4_ := Aside0.mk (Kd.V_below (Kd.V_elderB (by (with_reducible repeat (first | apply Kd.V_alloc | apply Kd.V_drewN | apply Kd.V_drew)); exact HO0_11.out) gb455 (Nat.le_of_eq hg.symm)) hb); have n5_ := Aside0.mk (Kd.V_below (Kd.V_elderB (by (with_reducible repeat (first | apply Kd.V_alloc | apply Kd.V_drewN | apply Kd.V_drew)); exact HO0_12.out) gb455 (Nat.le_of_eq hg.symm)) hb); have n6_ := Aside0.mk (below_step (by repeat (first | (with_reducible first | exact HB.out | apply below_alloc | apply pw_below_drewN | apply below_drew1) | exact HB.out)) hb); have n7_ := Aside0.mk (hbox); have n8_ := Aside0.mk ((by rw [hg]; exact (below_size (by repeat (first | (with_reducible first | exact HB.out | apply below_alloc | apply pw_below_drewN | apply below_drew1) | exact HB.out))) : w.heap.size ≤ gb455)); have n9_ := Aside0.mk ((by rw [hg]; exact (below_size (by repeat (first | (with_reducible first | exact HB.out | apply below_alloc | apply pw_below_drewN | apply below_drew1) | exact HB.out))) : w.heap.size ≤ gb455)); clear HO0_2; clear HO0_6; clear HO0_9; clear HO0_10; clear HO0_11; clear HO0_12; clear HB; have HO0_2 := n0_; have HO0_6 := n1_; have HO0_9 := n2_; have HO0_10 := n3_; have HO0_11 := n4_; have HO0_12 := n5_; have HB := n6_; have BK455 := n7_; have GW455 := n8_; have GE455 := n9_; clear n0_ n1_ n2_ n3_ n4_ n5_ n6_ n7_ n8_ n9_; clear hb hbox hg) | ((with_reducible refine gate_dst (N := 2) rfl ?_); refine box_event ?hg (N := 2) ?hd (cs := #[.int .u8 0, .int .u16 0, .slice none 0 0, .int .u16 0, .int .u8 0, .int .u8 0, .slice none 0 0, .int .u16 0, .int .u32 0, .slice none 0 0, .slice none 0 0, .slice none 0 0, .slice none 0 0]) (t := 32) ?hr ?_; (case hd => rfl); (case hg => rfl); (case hr => first | (go_simp; done) | (go_simp; simp only [IntKind.wrap_u8, IntKind.wrap_u16, IntKind.wrap_u32, IntKind.wrap_u64]; done) | (go_simp; simp only [IntKind.wrap_u8, IntKind.wrap_u16, IntKind.wrap_u32, IntKind.wrap_u64, Int.tmod_eq_emod_of_nonneg (Int.natCast_nonneg _), Int.emod_emod]; done) | (go_simp; rfl)); intro gb456 hg w5 hbox hb; have n0_ := Aside0.mk (Kd.V_below (Kd.V_elderB (by (with_reducible repeat (first | apply Kd.V_alloc | apply Kd.V_drewN | apply Kd.V_drew)); exact HO0_2.out) gb456 (Nat.le_of_eq hg.symm)) hb); have n1_ := Aside0.mk (Kd.V_below (Kd.V_elderB (by (with_reducible repeat (first | apply Kd.V_alloc | apply Kd.V_drewN | apply Kd.V_drew)); exact HO0_6.out) gb456 (Nat.le_of_eq hg.symm)) hb); have n2_ := Aside0.mk (Kd.V_below (Kd.V_elderB (by (with_reducible repeat (first | apply Kd.V_alloc | apply Kd.V_drewN | apply Kd.V_drew)); exact HO0_9.out) gb456 (Nat.le_of_eq hg.symm)) hb); have n3_ := Aside0.mk (Kd.V_below (Kd.V_elderB (by (with_reducible repeat (first | apply Kd.V_alloc | apply Kd.V_drewN | apply Kd.V_drew)); exact HO0_10.out) gb456 (Nat.le_of_eq hg.symm)) hb); have n4_ := Aside0.mk (Kd.V_below (Kd.V_elderB (by (with_reducible repeat (first | apply Kd.V_alloc | apply Kd.V_drewN | apply Kd.V_drew)); exact HO0_11.out) gb456 (Nat.le_of_eq hg.symm)) hb); have n5_ := Aside0.mk (Kd.V_below (Kd.V_elderB (by (with_reducible repeat (first | apply Kd.V_alloc | apply Kd.V_drewN | apply Kd.V_drew)); exact HO0_12.out) gb456 (Nat.le_of_eq hg.symm)) hb); have n6_ := Aside0.mk (blk_below (g := gb455) (o := .cells #[.int .u8 a0_0, .int .u16 a0_1, .slice A0_2 l0_2.length c0_2, .int .u16 a0_3, .int .u8 a0_4, .int .u8 a0_5, .slice A0_6 l0_6.length c0_6, .int .u16 a0_7, .int .u32 a0_8, .slice A0_9 l0_9.length c0_9, .slice A0_10 l0_10.length c0_10, .slice A0_11 l0_11.length c0_11, .slice A0_12 l0_12.length c0_12] 44 (0, 0)) (by (with_reducible repeat (first | refine blk_drewN ?_ _ | refine blk_drew ?_ | refine blk_alloc ?_ _)); exact BK455.out) hb); have n7_ := Aside0.mk (below_step (by repeat (first | (with_reducible first | exact HB.out | apply below_alloc | apply pw_below_drewN | apply below_drew1 | refine below_set ?_ GE455.out) | exact HB.out)) hb); have n8_ := Aside0.mk (hbox); have n9_ := Aside0.mk ((by rw [hg]; exact (below_size (by repeat (first | (with_reducible first | exact HB.out | apply below_alloc | apply pw_below_drewN | apply below_drew1 | refine below_set ?_ GE455.out) | exact HB.out))) : w.heap.size ≤ gb456)); have n10_ := Aside0.mk ((by rw [hg]; exact (below_size (by repeat (first | (with_reducible first | exact HB.out | apply below_alloc | apply pw_below_drewN | apply below_drew1 | refine below_set ?_ GE455.out) | exact HB.out))) : w.heap.size ≤ gb456)); have n11_ := Aside0.mk ((by rw [hg]; exact Nat.ne_of_lt (blk_lt (g := gb455) (o := .cells #[.int .u8 a0_0, .int .u16 a0_1, .slice A0_2 l0_2.length c0_2, .int .u16 a0_3, .int .u8 a0_4, .int .u8 a0_5, .slice A0_6 l0_6.length c0_6, .int .u16 a0_7, .int .u32 a0_8, .slice A0_9 l0_9.length c0_9, .slice A0_10 l0_10.length c0_10, .slice A0_11 l0_11.length c0_11, .slice A0_12 l0_12.length c0_12] 44 (0, 0)) (by (with_reducible repeat (first | refine blk_drewN ?_ _ | refine blk_drew ?_ | refine blk_alloc ?_ _)); exact BK455.out)) : gb455 ≠ gb456)); have n12_ := Aside0.mk ((by rw [hg]; exact Nat.ne_of_gt (blk_lt (g := gb455) (o := .cells #[.int .u8 a0_0, .int .u16 a0_1, .slice A0_2 l0_2.length c0_2, .int .u16 a0_3, .int .u8 a0_4, .int .u8 a0_5, .slice A0_6 l0_6.length c0_6, .int .u16 a0_7, .int .u32 a0_8, .slice A0_9 l0_9.length c0_9, .slice A0_10 l0_10.length c0_10, .slice A0_11 l0_11.length c0_11, .slice A0_12 l0_12.length c0_12] 44 (0, 0)) (by (with_reducible repeat (first | refine blk_drewN ?_ _ | refine blk_drew ?_ | refine blk_alloc ?_ _)); exact BK455.out)) : gb456 ≠ gb455)); clear HO0_2; clear HO0_6; clear HO0_9; clear HO0_10; clear HO0_11; clear HO0_12; clear BK455; clear HB; have HO0_2 := n0_; have HO0_6 := n1_; have HO0_9 := n2_; have HO0_10 := n3_; have HO0_11 := n4_; have HO0_12 := n5_; have BK455 := n6_; have HB := n7_; have BK456 := n8_; have GW456 := n9_; have GE456 := n10_; have NB455_456 := n11_; have NB456_455 := n12_; clear n0_ n1_ n2_ n3_ n4_ n5_ n6_ n7_ n8_ n9_ n10_ n11_ n12_; clear hb hbox hg))
 have n0_ := Aside0.mk (Kd.V_drew HO0_2.out)
 have n1_ := Aside0.mk (Kd.V_drew HO0_6.out)
 have n2_ := Aside0.mk (Kd.V_drew HO0_9.out)
 have n3_ := Aside0.mk (Kd.V_drew HO0_10.out)
 have n4_ := Aside0.mk (Kd.V_drew HO0_11.out)
 have n5_ := Aside0.mk (Kd.V_drew HO0_12.out)
 have n6_ := Aside0.mk (blk_drew BK455.out)
 have n7_ := Aside0.mk (blk_drew BK456.out)
 have n8_ := Aside0.mk (below_drew1 HB.out)
 clear HO0_2
 clear HO0_6
 clear HO0_9
 clear HO0_10
 clear HO0_11
 clear HO0_12
 clear BK455
 clear BK456
 clear HB
 have HO0_2 := n0_
 have HO0_6 := n1_
 have HO0_9 := n2_
 have HO0_10 := n3_
 have HO0_11 := n4_
 have HO0_12 := n5_
 have BK455 := n6_
 have BK456 := n7_
 have HB := n8_
 clear n0_ n1_ n2_ n3_ n4_ n5_ n6_ n7_ n8_
 refine start_ (n := 12) (S := fun w' => w'.cell? ⟨gb455, 0, none⟩ = some (.int .u8 a0_0) ∧ w'.cell? ⟨gb455, 1, none⟩ = some (.int .u16 a0_1) ∧ w'.cell? ⟨gb455, 2, none⟩ = some (.slice A0_2 l0_2.length c0_2) ∧ w'.cell? ⟨gb455, 3, none⟩ = some (.int .u16 a0_3) ∧ w'.cell? ⟨gb455, 4, none⟩ = some (.int .u8 a0_4) ∧ w'.cell? ⟨gb455, 5, none⟩ = some (.int .u8 a0_5) ∧ w'.cell? ⟨gb455, 6, none⟩ = some (.slice A0_6 l0_6.length c0_6) ∧ w'.cell? ⟨gb455, 7, none⟩ = some (.int .u16 a0_7) ∧ w'.cell? ⟨gb455, 8, none⟩ = some (.int .u32 a0_8) ∧ w'.cell? ⟨gb455, 9, none⟩ = some (.slice A0_9 l0_9.length c0_9) ∧ w'.cell? ⟨gb455, 10, none⟩ = some (.slice A0_10 l0_10.length c0_10) ∧ w'.cell? ⟨gb455, 11, none⟩ = some (.slice A0_11 l0_11.length c0_11) ∧ w'.cell? ⟨gb455, 12, none⟩ = some (.slice A0_12 l0_12.length c0_12)) (ds := []) #[false, false, false, false, false, false, false, false, false, false, false, false] (by kernel_rfl) rfl rfl ⟨(blk_cell BK455.out 0).trans rfl, (blk_cell BK455.out 1).trans rfl, (blk_cell BK455.out 2).trans rfl, (blk_cell BK455.out 3).trans rfl, (blk_cell BK455.out 4).trans rfl, (blk_cell BK455.out 5).trans rfl, (blk_cell BK455.out 6).trans rfl, (blk_cell BK455.out 7).trans rfl, (blk_cell BK455.out 8).trans rfl, (blk_cell BK455.out 9).trans rfl, (blk_cell BK455.out 10).trans rfl, (blk_cell BK455.out 11).trans rfl, (blk_cell BK455.out 12).trans rfl⟩ (fun hHeld => ?_); refine with_tabW marlinelaw22_Of.tab1 marlinelaw22_Of.bits1 (fun HT_ HW_ => ?_)
 generalize w5.drew = w6 at HO0_2 HO0_6 HO0_9 HO0_10 HO0_11 HO0_12 BK455 BK456 HB hHeld ⊢
 refine pure_ (i := 0) (N := some 3) (v := ?_) (a' := ?_) #[true, false, false, false, false, false, false, false, false, false, false, false] rfl rfl (any_of HT_.out (by kernel_rfl)) (fun _ _ _ h => h) (Or.inl ⟨by rfl, ?_⟩) ?_ ?_
 rotate_left
 · intro w'
   go_simp
   with_reducible rfl
 rotate_left
 · simp only [Act.put, List.setIfInBounds_toArray, List.set_cons_zero, List.set_cons_succ, i64_w, i32_w]
   rfl
 refine pure_ (i := 2) (N := some 5) (v := ?_) (a' := ?_) #[true, false, true, false, false, false, false, false, false, false, false, false] rfl rfl (any_of HT_.out (by kernel_rfl)) (fun _ _ _ h => h) (Or.inl ⟨by rfl, ?_⟩) ?_ ?_
 rotate_left
 · intro w'
   go_simp
   with_reducible rfl
 rotate_left
 · simp only [Act.put, List.setIfInBounds_toArray, List.set_cons_zero, List.set_cons_succ, i64_w, i32_w]
   rfl
 refine pure_ (i := 4) (N := some 7) (v := ?_) (a' := ?_) #[true, false, true, false, true, false, false, false, false, false, false, false] rfl rfl (any_of HT_.out (by kernel_rfl)) (fun _ _ _ h => h) (Or.inl ⟨by rfl, ?_⟩) ?_ ?_
 rotate_left
 · intro w'
   go_simp
   with_reducible rfl
 rotate_left
 · simp only [Act.put, List.setIfInBounds_toArray, List.set_cons_zero, List.set_cons_succ, i64_w, i32_w]
   rfl
 refine pure_ (i := 7) (N := some 10) (v := ?_) (a' := ?_) #[true, false, true, false, true, false, false, true, false, false, false, false] rfl rfl (any_of HT_.out (by kernel_rfl)) (fun _ _ _ h => h) (Or.inl ⟨by rfl, ?_⟩) ?_ ?_
 rotate_left
 · intro w'
   go_simp
   with_reducible rfl
 rotate_left
 · simp only [Act.put, List.setIfInBounds_toArray, List.set_cons_zero, List.set_cons_succ, i64_w, i32_w]
   rfl
 refine take_ (i := 1) (N := some 4) (v := ?_) (a' := ?_) #[true, true, true, false, true, false, false, true, false, false, false, false] rfl rfl (take_ofW HT_.out HW_.out (by kernel_rfl)) (fun _ _ _ h => h) (Or.inl ⟨by rfl, ?_⟩) hHeld ?_ ?_
 rotate_left
 · rintro w' ⟨s0, s1, s2, s3, s4, s5, s6, s7, s8, s9, s10, s11, s12⟩
   go_simp
   with_reducible rfl
 rotate_left
 · simp only [Act.put, List.setIfInBounds_toArray, List.set_cons_zero, List.set_cons_succ, i64_w, i32_w]
   rfl
 refine take_ (i := 3) (N := some 6) (v := ?_) (a' := ?_) #[true, true, true, true, true, false, false, true, false, false, false, false] rfl rfl (take_ofW HT_.out HW_.out (by kernel_rfl)) (fun _ _ _ h => h) (Or.inl ⟨by rfl, ?_⟩) hHeld ?_ ?_
 rotate_left
 · rintro w' ⟨s0, s1, s2, s3, s4, s5, s6, s7, s8, s9, s10, s11, s12⟩
   go_simp
   with_reducible rfl
 rotate_left
 · simp only [Act.put, List.setIfInBounds_toArray, List.set_cons_zero, List.set_cons_succ, i64_w, i32_w]
   rfl
 refine take_ (i := 5) (N := some 8) (v := ?_) (a' := ?_) #[true, true, true, true, true, true, false, true, false, false, false, false] rfl rfl (take_ofW HT_.out HW_.out (by kernel_rfl)) (fun _ _ _ h => h) (Or.inl ⟨by rfl, ?_⟩) hHeld ?_ ?_
 rotate_left
 · rintro w' ⟨s0, s1, s2, s3, s4, s5, s6, s7, s8, s9, s10, s11, s12⟩
   go_simp
   with_reducible rfl
 rotate_left
 · simp only [Act.put, List.setIfInBounds_toArray, List.set_cons_zero, List.set_cons_succ, i64_w, i32_w]
   rfl
 refine take_ (i := 8) (N := some 11) (v := ?_) (a' := ?_) #[true, true, true, true, true, true, false, true, true, false, false, false] rfl rfl (take_ofW HT_.out HW_.out (by kernel_rfl)) (fun _ _ _ h => h) (Or.inl ⟨by rfl, ?_⟩) hHeld ?_ ?_
 rotate_left
 · rintro w' ⟨s0, s1, s2, s3, s4, s5, s6, s7, s8, s9, s10, s11, s12⟩
   go_simp
   with_reducible rfl
 rotate_left
 · simp only [Act.put, List.setIfInBounds_toArray, List.set_cons_zero, List.set_cons_succ, i64_w, i32_w]
   rfl
 refine one_ (i := 6) (N := some 9) #[true, true, true, true, true, true, true, true, true, false, false, false] rfl rfl (one_of HT_.out (by kernel_rfl)) (by decide) (fun K hK => ?_)
 refine goes_ Tryd.func35 (by kernel_rfl) rfl #[.slice A0_2 l0_2.length c0_2] (by rfl) rfl rfl (by (try simp only [List.map_toArray, List.map_cons, List.map_nil]); first | done | rfl | (simp only [List.length_drop, List.length_take]; rfl)) ?_
 with_reducible refine (marlinelaw21_Of.calls k (fun k_ => ((((P0_2_ k_ ∨ P0_6_ k_ ∨ P0_9_ k_ ∨ P0_10_ k_ ∨ P0_11_ k_ ∨ P0_12_ k_) ∨ w.heap.size ≤ k_) ∧ k_ ≠ gb455) ∧ k_ ≠ gb456)) _ _ l0_2 t457 _ ?side1 A2.out).mono ?_
 (case side1 => exact HO0_2.out)
 rintro e w7 ⟨v458, rfl, ho0, hb⟩
 refine ⟨_, rfl, ?_⟩
 have n0_ := Aside0.mk (Kd.V_elder' (by (with_reducible repeat (first | apply Kd.V_alloc | apply Kd.V_drewN | apply Kd.V_drew)); exact HO0_2.out) (Kd.N_base ho0) hb)
 have n1_ := Aside0.mk (Kd.V_elder' (by (with_reducible repeat (first | apply Kd.V_alloc | apply Kd.V_drewN | apply Kd.V_drew)); exact HO0_6.out) (Kd.N_base ho0) hb)
 have n2_ := Aside0.mk (Kd.V_elder' (by (with_reducible repeat (first | apply Kd.V_alloc | apply Kd.V_drewN | apply Kd.V_drew)); exact HO0_9.out) (Kd.N_base ho0) hb)
 have n3_ := Aside0.mk (Kd.V_elder' (by (with_reducible repeat (first | apply Kd.V_alloc | apply Kd.V_drewN | apply Kd.V_drew)); exact HO0_10.out) (Kd.N_base ho0) hb)
 have n4_ := Aside0.mk (Kd.V_elder' (by (with_reducible repeat (first | apply Kd.V_alloc | apply Kd.V_drewN | apply Kd.V_drew)); exact HO0_11.out) (Kd.N_base ho0) hb)
 have n5_ := Aside0.mk (Kd.V_elder' (by (with_reducible repeat (first | apply Kd.V_alloc | apply Kd.V_drewN | apply Kd.V_drew)); exact HO0_12.out) (Kd.N_base ho0) hb)
 have n6_ := Aside0.mk (Kd.N_lower (Kd.N_mono (ok' := fun k_ => ((P0_2_ k_ ∨ P0_6_ k_ ∨ P0_9_ k_ ∨ P0_10_ k_ ∨ P0_11_ k_ ∨ P0_12_ k_) ∨ w.heap.size ≤ k_) ∧ k_ ≠ gb455 ∧ k_ ≠ gb456) ho0 (fun k_ hk_ => ⟨Or.elim hk_ (fun hs_ => hs_.1.1) (fun hn_ => (.inr (Nat.le_trans (below_size (by repeat (first | (with_reducible first | exact HB.out | apply below_alloc | apply pw_below_drewN | apply below_drew1 | refine below_set ?_ GE455.out | refine below_set ?_ GE456.out) | exact HB.out))) hn_))), Or.elim hk_ (fun hs_ => hs_.1.2) (fun hn_ => (Kd.freshB (g := gb455) (o := .cells #[.int .u8 a0_0, .int .u16 a0_1, .slice A0_2 l0_2.length c0_2, .int .u16 a0_3, .int .u8 a0_4, .int .u8 a0_5, .slice A0_6 l0_6.length c0_6, .int .u16 a0_7, .int .u32 a0_8, .slice A0_9 l0_9.length c0_9, .slice A0_10 l0_10.length c0_10, .slice A0_11 l0_11.length c0_11, .slice A0_12 l0_12.length c0_12] 44 (0, 0)) (by (with_reducible repeat (first | refine blk_drewN ?_ _ | refine blk_drew ?_ | refine blk_alloc ?_ _)); exact BK455.out) k_ hn_)), Or.elim hk_ (fun hs_ => hs_.2) (fun hn_ => (Kd.freshB (g := gb456) (o := .cells #[.int .u8 0, .int .u16 0, .slice none 0 0, .int .u16 0, .int .u8 0, .int .u8 0, .slice none 0 0, .int .u16 0, .int .u32 0, .slice none 0 0, .slice none 0 0, .slice none 0 0, .slice none 0 0] 32 (0, 0)) (by (with_reducible repeat (first | refine blk_drewN ?_ _ | refine blk_drew ?_ | refine blk_alloc ?_ _)); exact BK456.out) k_ hn_))⟩)) (below_size (by repeat (first | (with_reducible first | exact HB.out | apply below_alloc | apply pw_below_drewN | apply below_drew1 | refine below_set ?_ GE455.out | refine below_set ?_ GE456.out) | exact HB.out))))
 have n7_ := Aside0.mk (blk_below (g := gb455) (o := .cells #[.int .u8 a0_0, .int .u16 a0_1, .slice A0_2 l0_2.length c0_2, .int .u16 a0_3, .int .u8 a0_4, .int .u8 a0_5, .slice A0_6 l0_6.length c0_6, .int .u16 a0_7, .int .u32 a0_8, .slice A0_9 l0_9.length c0_9, .slice A0_10 l0_10.length c0_10, .slice A0_11 l0_11.length c0_11, .slice A0_12 l0_12.length c0_12] 44 (0, 0)) (by (with_reducible repeat (first | refine blk_drewN ?_ _ | refine blk_drew ?_ | refine blk_alloc ?_ _)); exact BK455.out) hb)
 have n8_ := Aside0.mk (blk_below (g := gb456) (o := .cells #[.int .u8 0, .int .u16 0, .slice none 0 0, .int .u16 0, .int .u8 0, .int .u8 0, .slice none 0 0, .int .u16 0, .int .u32 0, .slice none 0 0, .slice none 0 0, .slice none 0 0, .slice none 0 0] 32 (0, 0)) (by (with_reducible repeat (first | refine blk_drewN ?_ _ | refine blk_drew ?_ | refine blk_alloc ?_ _)); exact BK456.out) hb)
 have n9_ := Aside0.mk (below_step (by repeat (first | (with_reducible first | exact HB.out | apply below_alloc | apply pw_below_drewN | apply below_drew1 | refine below_set ?_ GE455.out | refine below_set ?_ GE456.out) | exact HB.out)) hb)
 clear HO0_2
 clear HO0_6
 clear HO0_9
 clear HO0_10
 clear HO0_11
 clear HO0_12
 clear BK455
 clear BK456
 clear HB
 have HO0_2 := n0_
 have HO0_6 := n1_
 have HO0_9 := n2_
 have HO0_10 := n3_
 have HO0_11 := n4_
 have HO0_12 := n5_
 have HO459 := n6_
 have BK455 := n7_
 have BK456 := n8_
 have HB := n9_
 clear n0_ n1_ n2_ n3_ n4_ n5_ n6_ n7_ n8_ n9_
 (try clear hb)
 (try clear hb2)
 (try clear hk)
 (try clear hi)
 (try clear ho0)
 refine hK.out _ _ ⟨(blk_cell BK455.out 0).trans rfl, (blk_cell BK455.out 1).trans rfl, (blk_cell BK455.out 2).trans rfl, (blk_cell BK455.out 3).trans rfl, (blk_cell BK455.out 4).trans rfl, (blk_cell BK455.out 5).trans rfl, (blk_cell BK455.out 6).trans rfl, (blk_cell BK455.out 7).trans rfl, (blk_cell BK455.out 8).trans rfl, (blk_cell BK455.out 9).trans rfl, (blk_cell BK455.out 10).trans rfl, (blk_cell BK455.out 11).trans rfl, (blk_cell BK455.out 12).trans rfl⟩ (fun hHeld => ?_)
 clear hK K
 refine norm_ (a' := ?_) ?_ ?_
 rotate_left
 · show Act.put _ (some 9) _ = _
   simp only [Act.put, List.setIfInBounds_toArray, List.set_cons_zero, List.set_cons_succ, i64_w, i32_w]
   rfl
 refine one_ (i := 9) (N := some 12) #[true, true, true, true, true, true, true, true, true, true, false, false] rfl rfl (one_of HT_.out (by kernel_rfl)) (by decide) (fun K hK => ?_)
 refine goes_ Tryd.func24 (by kernel_rfl) rfl #[.agg #[.int .u16 a0_3, .int .u8 a0_4, .int .u8 a0_5, .slice A0_6 l0_6.length c0_6, .int .u16 a0_7, .int .u32 a0_8, .slice A0_9 l0_9.length c0_9, .slice A0_10 l0_10.length c0_10, .slice A0_11 l0_11.length c0_11, .slice A0_12 l0_12.length c0_12]] (by rfl) rfl rfl (by (try simp only [List.map_toArray, List.map_cons, List.map_nil]); first | done | rfl | (simp only [List.length_drop, List.length_take]; rfl)) ?_
 with_reducible refine (marlinelaw15_Of.calls k a0_3 a0_4 a0_5 (fun k_ => (((((P0_2_ k_ ∨ P0_6_ k_ ∨ P0_9_ k_ ∨ P0_10_ k_ ∨ P0_11_ k_ ∨ P0_12_ k_) ∨ w.heap.size ≤ k_) ∧ k_ ≠ gb455) ∧ k_ ≠ gb456) ∧ some k_ ≠ (v458 : Value).ownBlock)) _ _ l0_6 a0_7 a0_8 (fun k_ => (((((P0_2_ k_ ∨ P0_6_ k_ ∨ P0_9_ k_ ∨ P0_10_ k_ ∨ P0_11_ k_ ∨ P0_12_ k_) ∨ w.heap.size ≤ k_) ∧ k_ ≠ gb455) ∧ k_ ≠ gb456) ∧ some k_ ≠ (v458 : Value).ownBlock)) _ _ l0_9 (fun k_ => (((((P0_2_ k_ ∨ P0_6_ k_ ∨ P0_9_ k_ ∨ P0_10_ k_ ∨ P0_11_ k_ ∨ P0_12_ k_) ∨ w.heap.size ≤ k_) ∧ k_ ≠ gb455) ∧ k_ ≠ gb456) ∧ some k_ ≠ (v458 : Value).ownBlock)) _ _ l0_10 (fun k_ => (((((P0_2_ k_ ∨ P0_6_ k_ ∨ P0_9_ k_ ∨ P0_10_ k_ ∨ P0_11_ k_ ∨ P0_12_ k_) ∨ w.heap.size ≤ k_) ∧ k_ ≠ gb455) ∧ k_ ≠ gb456) ∧ some k_ ≠ (v458 : Value).ownBlock)) _ _ l0_11 (fun k_ => (((((P0_2_ k_ ∨ P0_6_ k_ ∨ P0_9_ k_ ∨ P0_10_ k_ ∨ P0_11_ k_ ∨ P0_12_ k_) ∨ w.heap.size ≤ k_) ∧ k_ ≠ gb455) ∧ k_ ≠ gb456) ∧ some k_ ≠ (v458 : Value).ownBlock)) _ _ l0_12 t460 t461 t462 t463 t466 t467 t468 t471 t474 t477 _ ?side1 ?side2 ?side3 ?side4 ?side5 A3.out).mono ?_
 (case side1 => exact HO0_6.out)
 (case side2 => exact HO0_9.out)
 (case side3 => exact HO0_10.out)
 (case side4 => exact HO0_11.out)
 (case side5 => exact HO0_12.out)
 rintro e w8 ⟨v464, v469, v472, v475, v478, rfl, ho0, ho1, ho2, ho3, ho4, hb⟩
 refine ⟨_, rfl, ?_⟩
 have n0_ := Aside0.mk (Kd.V_elder' (by (with_reducible repeat (first | apply Kd.V_alloc | apply Kd.V_drewN | apply Kd.V_drew)); exact HO0_2.out) (Kd.N_base ho0) hb)
 have n1_ := Aside0.mk (Kd.V_elder' (by (with_reducible repeat (first | apply Kd.V_alloc | apply Kd.V_drewN | apply Kd.V_drew)); exact HO0_6.out) (Kd.N_base ho0) hb)
 have n2_ := Aside0.mk (Kd.V_elder' (by (with_reducible repeat (first | apply Kd.V_alloc | apply Kd.V_drewN | apply Kd.V_drew)); exact HO0_9.out) (Kd.N_base ho0) hb)
 have n3_ := Aside0.mk (Kd.V_elder' (by (with_reducible repeat (first | apply Kd.V_alloc | apply Kd.V_drewN | apply Kd.V_drew)); exact HO0_10.out) (Kd.N_base ho0) hb)
 have n4_ := Aside0.mk (Kd.V_elder' (by (with_reducible repeat (first | apply Kd.V_alloc | apply Kd.V_drewN | apply Kd.V_drew)); exact HO0_11.out) (Kd.N_base ho0) hb)
 have n5_ := Aside0.mk (Kd.V_elder' (by (with_reducible repeat (first | apply Kd.V_alloc | apply Kd.V_drewN | apply Kd.V_drew)); exact HO0_12.out) (Kd.N_base ho0) hb)
 have n6_ := Aside0.mk (Kd.N_elder' (by (with_reducible repeat (first | apply Kd.N_alloc | apply Kd.N_drewN | apply Kd.N_drew)); exact HO459.out) (Kd.N_base ho0) hb)
 have n7_ := Aside0.mk (Kd.N_lower (Kd.N_mono (ok' := fun k_ => ((P0_2_ k_ ∨ P0_6_ k_ ∨ P0_9_ k_ ∨ P0_10_ k_ ∨ P0_11_ k_ ∨ P0_12_ k_) ∨ w.heap.size ≤ k_) ∧ some k_ ≠ (v458 : Value).ownBlock ∧ k_ ≠ gb455 ∧ k_ ≠ gb456) ho0 (fun k_ hk_ => ⟨Or.elim hk_ (fun hs_ => Or.elim hs_ (fun hs_ => hs_.1.1.1) (fun hs_ => Or.elim hs_ (fun hs_ => hs_.1.1.1) (fun hs_ => Or.elim hs_ (fun hs_ => hs_.1.1.1) (fun hs_ => Or.elim hs_ (fun hs_ => hs_.1.1.1) (fun hs_ => hs_.1.1.1))))) (fun hn_ => (.inr (Nat.le_trans (below_size (by repeat (first | (with_reducible first | exact HB.out | apply below_alloc | apply pw_below_drewN | apply below_drew1 | refine below_set ?_ GE455.out | refine below_set ?_ GE456.out) | exact HB.out))) hn_))), Or.elim hk_ (fun hs_ => Or.elim hs_ (fun hs_ => hs_.2) (fun hs_ => Or.elim hs_ (fun hs_ => hs_.2) (fun hs_ => Or.elim hs_ (fun hs_ => hs_.2) (fun hs_ => Or.elim hs_ (fun hs_ => hs_.2) (fun hs_ => hs_.2))))) (fun hn_ => (Kd.fresh' (Kd.N_lt (by (with_reducible repeat (first | apply Kd.N_alloc | apply Kd.N_drewN | apply Kd.N_drew)); exact HO459.out)) k_ hn_)), Or.elim hk_ (fun hs_ => Or.elim hs_ (fun hs_ => hs_.1.1.2) (fun hs_ => Or.elim hs_ (fun hs_ => hs_.1.1.2) (fun hs_ => Or.elim hs_ (fun hs_ => hs_.1.1.2) (fun hs_ => Or.elim hs_ (fun hs_ => hs_.1.1.2) (fun hs_ => hs_.1.1.2))))) (fun hn_ => (Kd.freshB (g := gb455) (o := .cells #[.int .u8 a0_0, .int .u16 a0_1, .slice A0_2 l0_2.length c0_2, .int .u16 a0_3, .int .u8 a0_4, .int .u8 a0_5, .slice A0_6 l0_6.length c0_6, .int .u16 a0_7, .int .u32 a0_8, .slice A0_9 l0_9.length c0_9, .slice A0_10 l0_10.length c0_10, .slice A0_11 l0_11.length c0_11, .slice A0_12 l0_12.length c0_12] 44 (0, 0)) (by (with_reducible repeat (first | refine blk_drewN ?_ _ | refine blk_drew ?_ | refine blk_alloc ?_ _)); exact BK455.out) k_ hn_)), Or.elim hk_ (fun hs_ => Or.elim hs_ (fun hs_ => hs_.1.2) (fun hs_ => Or.elim hs_ (fun hs_ => hs_.1.2) (fun hs_ => Or.elim hs_ (fun hs_ => hs_.1.2) (fun hs_ => Or.elim hs_ (fun hs_ => hs_.1.2) (fun hs_ => hs_.1.2))))) (fun hn_ => (Kd.freshB (g := gb456) (o := .cells #[.int .u8 0, .int .u16 0, .slice none 0 0, .int .u16 0, .int .u8 0, .int .u8 0, .slice none 0 0, .int .u16 0, .int .u32 0, .slice none 0 0, .slice none 0 0, .slice none 0 0, .slice none 0 0] 32 (0, 0)) (by (with_reducible repeat (first | refine blk_drewN ?_ _ | refine blk_drew ?_ | refine blk_alloc ?_ _)); exact BK456.out) k_ hn_))⟩)) (below_size (by repeat (first | (with_reducible first | exact HB.out | apply below_alloc | apply pw_below_drewN | apply below_drew1 | refine below_set ?_ GE455.out | refine below_set ?_ GE456.out) | exact HB.out))))
 have n8_ := Aside0.mk (Kd.V_lower (Kd.V_mono (ok' := fun k_ => ((P0_2_ k_ ∨ P0_6_ k_ ∨ P0_9_ k_ ∨ P0_10_ k_ ∨ P0_11_ k_ ∨ P0_12_ k_) ∨ w.heap.size ≤ k_) ∧ some k_ ≠ (v464 : Value).ownBlock ∧ some k_ ≠ (v458 : Value).ownBlock ∧ k_ ≠ gb455 ∧ k_ ≠ gb456) ho1 (fun k_ hk_ => ⟨Or.elim hk_.1 (fun hs_ => Or.elim hs_ (fun hs_ => hs_.1.1.1) (fun hs_ => Or.elim hs_ (fun hs_ => hs_.1.1.1) (fun hs_ => Or.elim hs_ (fun hs_ => hs_.1.1.1) (fun hs_ => Or.elim hs_ (fun hs_ => hs_.1.1.1) (fun hs_ => hs_.1.1.1))))) (fun hn_ => (.inr (Nat.le_trans (below_size (by repeat (first | (with_reducible first | exact HB.out | apply below_alloc | apply pw_below_drewN | apply below_drew1 | refine below_set ?_ GE455.out | refine below_set ?_ GE456.out) | exact HB.out))) hn_))), hk_.2, Or.elim hk_.1 (fun hs_ => Or.elim hs_ (fun hs_ => hs_.2) (fun hs_ => Or.elim hs_ (fun hs_ => hs_.2) (fun hs_ => Or.elim hs_ (fun hs_ => hs_.2) (fun hs_ => Or.elim hs_ (fun hs_ => hs_.2) (fun hs_ => hs_.2))))) (fun hn_ => (Kd.fresh' (Kd.N_lt (by (with_reducible repeat (first | apply Kd.N_alloc | apply Kd.N_drewN | apply Kd.N_drew)); exact HO459.out)) k_ hn_)), Or.elim hk_.1 (fun hs_ => Or.elim hs_ (fun hs_ => hs_.1.1.2) (fun hs_ => Or.elim hs_ (fun hs_ => hs_.1.1.2) (fun hs_ => Or.elim hs_ (fun hs_ => hs_.1.1.2) (fun hs_ => Or.elim hs_ (fun hs_ => hs_.1.1.2) (fun hs_ => hs_.1.1.2))))) (fun hn_ => (Kd.freshB (g := gb455) (o := .cells #[.int .u8 a0_0, .int .u16 a0_1, .slice A0_2 l0_2.length c0_2, .int .u16 a0_3, .int .u8 a0_4, .int .u8 a0_5, .slice A0_6 l0_6.length c0_6, .int .u16 a0_7, .int .u32 a0_8, .slice A0_9 l0_9.length c0_9, .slice A0_10 l0_10.length c0_10, .slice A0_11 l0_11.length c0_11, .slice A0_12 l0_12.length c0_12] 44 (0, 0)) (by (with_reducible repeat (first | refine blk_drewN ?_ _ | refine blk_drew ?_ | refine blk_alloc ?_ _)); exact BK455.out) k_ hn_)), Or.elim hk_.1 (fun hs_ => Or.elim hs_ (fun hs_ => hs_.1.2) (fun hs_ => Or.elim hs_ (fun hs_ => hs_.1.2) (fun hs_ => Or.elim hs_ (fun hs_ => hs_.1.2) (fun hs_ => Or.elim hs_ (fun hs_ => hs_.1.2) (fun hs_ => hs_.1.2))))) (fun hn_ => (Kd.freshB (g := gb456) (o := .cells #[.int .u8 0, .int .u16 0, .slice none 0 0, .int .u16 0, .int .u8 0, .int .u8 0, .slice none 0 0, .int .u16 0, .int .u32 0, .slice none 0 0, .slice none 0 0, .slice none 0 0, .slice none 0 0] 32 (0, 0)) (by (with_reducible repeat (first | refine blk_drewN ?_ _ | refine blk_drew ?_ | refine blk_alloc ?_ _)); exact BK456.out) k_ hn_))⟩)) (below_size (by repeat (first | (with_reducible first | exact HB.out | apply below_alloc | apply pw_below_drewN | apply below_drew1 | refine below_set ?_ GE455.out | refine below_set ?_ GE456.out) | exact HB.out))))
 have n9_ := Aside0.mk (Kd.V_lower (Kd.V_mono (ok' := fun k_ => ((P0_2_ k_ ∨ P0_6_ k_ ∨ P0_9_ k_ ∨ P0_10_ k_ ∨ P0_11_ k_ ∨ P0_12_ k_) ∨ w.heap.size ≤ k_) ∧ some k_ ≠ (v464 : Value).ownBlock ∧ some k_ ≠ (v458 : Value).ownBlock ∧ k_ ≠ gb455 ∧ k_ ≠ gb456) ho2 (fun k_ hk_ => ⟨Or.elim hk_.1 (fun hs_ => Or.elim hs_ (fun hs_ => hs_.1.1.1) (fun hs_ => Or.elim hs_ (fun hs_ => hs_.1.1.1) (fun hs_ => Or.elim hs_ (fun hs_ => hs_.1.1.1) (fun hs_ => Or.elim hs_ (fun hs_ => hs_.1.1.1) (fun hs_ => hs_.1.1.1))))) (fun hn_ => (.inr (Nat.le_trans (below_size (by repeat (first | (with_reducible first | exact HB.out | apply below_alloc | apply pw_below_drewN | apply below_drew1 | refine below_set ?_ GE455.out | refine below_set ?_ GE456.out) | exact HB.out))) hn_))), hk_.2, Or.elim hk_.1 (fun hs_ => Or.elim hs_ (fun hs_ => hs_.2) (fun hs_ => Or.elim hs_ (fun hs_ => hs_.2) (fun hs_ => Or.elim hs_ (fun hs_ => hs_.2) (fun hs_ => Or.elim hs_ (fun hs_ => hs_.2) (fun hs_ => hs_.2))))) (fun hn_ => (Kd.fresh' (Kd.N_lt (by (with_reducible repeat (first | apply Kd.N_alloc | apply Kd.N_drewN | apply Kd.N_drew)); exact HO459.out)) k_ hn_)), Or.elim hk_.1 (fun hs_ => Or.elim hs_ (fun hs_ => hs_.1.1.2) (fun hs_ => Or.elim hs_ (fun hs_ => hs_.1.1.2) (fun hs_ => Or.elim hs_ (fun hs_ => hs_.1.1.2) (fun hs_ => Or.elim hs_ (fun hs_ => hs_.1.1.2) (fun hs_ => hs_.1.1.2))))) (fun hn_ => (Kd.freshB (g := gb455) (o := .cells #[.int .u8 a0_0, .int .u16 a0_1, .slice A0_2 l0_2.length c0_2, .int .u16 a0_3, .int .u8 a0_4, .int .u8 a0_5, .slice A0_6 l0_6.length c0_6, .int .u16 a0_7, .int .u32 a0_8, .slice A0_9 l0_9.length c0_9, .slice A0_10 l0_10.length c0_10, .slice A0_11 l0_11.length c0_11, .slice A0_12 l0_12.length c0_12] 44 (0, 0)) (by (with_reducible repeat (first | refine blk_drewN ?_ _ | refine blk_drew ?_ | refine blk_alloc ?_ _)); exact BK455.out) k_ hn_)), Or.elim hk_.1 (fun hs_ => Or.elim hs_ (fun hs_ => hs_.1.2) (fun hs_ => Or.elim hs_ (fun hs_ => hs_.1.2) (fun hs_ => Or.elim hs_ (fun hs_ => hs_.1.2) (fun hs_ => Or.elim hs_ (fun hs_ => hs_.1.2) (fun hs_ => hs_.1.2))))) (fun hn_ => (Kd.freshB (g := gb456) (o := .cells #[.int .u8 0, .int .u16 0, .slice none 0 0, .int .u16 0, .int .u8 0, .int .u8 0, .slice none 0 0, .int .u16 0, .int .u32 0, .slice none 0 0, .slice none 0 0, .slice none 0 0, .slice none 0 0] 32 (0, 0)) (by (with_reducible repeat (first | refine blk_drewN ?_ _ | refine blk_drew ?_ | refine blk_alloc ?_ _)); exact BK456.out) k_ hn_))⟩)) (below_size (by repeat (first | (with_reducible first | exact HB.out | apply below_alloc | apply pw_below_drewN | apply below_drew1 | refine below_set ?_ GE455.out | refine below_set ?_ GE456.out) | exact HB.out))))
 have n10_ := Aside0.mk (Kd.V_lower (Kd.V_mono (ok' := fun k_ => ((P0_2_ k_ ∨ P0_6_ k_ ∨ P0_9_ k_ ∨ P0_10_ k_ ∨ P0_11_ k_ ∨ P0_12_ k_) ∨ w.heap.size ≤ k_) ∧ some k_ ≠ (v464 : Value).ownBlock ∧ some k_ ≠ (v458 : Value).ownBlock ∧ k_ ≠ gb455 ∧ k_ ≠ gb456) ho3 (fun k_ hk_ => ⟨Or.elim hk_.1 (fun hs_ => Or.elim hs_ (fun hs_ => hs_.1.1.1) (fun hs_ => Or.elim hs_ (fun hs_ => hs_.1.1.1) (fun hs_ => Or.elim hs_ (fun hs_ => hs_.1.1.1) (fun hs_ => Or.elim hs_ (fun hs_ => hs_.1.1.1) (fun hs_ => hs_.1.1.1))))) (fun hn_ => (.inr (Nat.le_trans (below_size (by repeat (first | (with_reducible first | exact HB.out | apply below_alloc | apply pw_below_drewN | apply below_drew1 | refine below_set ?_ GE455.out | refine below_set ?_ GE456.out) | exact HB.out))) hn_))), hk_.2, Or.elim hk_.1 (fun hs_ => Or.elim hs_ (fun hs_ => hs_.2) (fun hs_ => Or.elim hs_ (fun hs_ => hs_.2) (fun hs_ => Or.elim hs_ (fun hs_ => hs_.2) (fun hs_ => Or.elim hs_ (fun hs_ => hs_.2) (fun hs_ => hs_.2))))) (fun hn_ => (Kd.fresh' (Kd.N_lt (by (with_reducible repeat (first | apply Kd.N_alloc | apply Kd.N_drewN | apply Kd.N_drew)); exact HO459.out)) k_ hn_)), Or.elim hk_.1 (fun hs_ => Or.elim hs_ (fun hs_ => hs_.1.1.2) (fun hs_ => Or.elim hs_ (fun hs_ => hs_.1.1.2) (fun hs_ => Or.elim hs_ (fun hs_ => hs_.1.1.2) (fun hs_ => Or.elim hs_ (fun hs_ => hs_.1.1.2) (fun hs_ => hs_.1.1.2))))) (fun hn_ => (Kd.freshB (g := gb455) (o := .cells #[.int .u8 a0_0, .int .u16 a0_1, .slice A0_2 l0_2.length c0_2, .int .u16 a0_3, .int .u8 a0_4, .int .u8 a0_5, .slice A0_6 l0_6.length c0_6, .int .u16 a0_7, .int .u32 a0_8, .slice A0_9 l0_9.length c0_9, .slice A0_10 l0_10.length c0_10, .slice A0_11 l0_11.length c0_11, .slice A0_12 l0_12.length c0_12] 44 (0, 0)) (by (with_reducible repeat (first | refine blk_drewN ?_ _ | refine blk_drew ?_ | refine blk_alloc ?_ _)); exact BK455.out) k_ hn_)), Or.elim hk_.1 (fun hs_ => Or.elim hs_ (fun hs_ => hs_.1.2) (fun hs_ => Or.elim hs_ (fun hs_ => hs_.1.2) (fun hs_ => Or.elim hs_ (fun hs_ => hs_.1.2) (fun hs_ => Or.elim hs_ (fun hs_ => hs_.1.2) (fun hs_ => hs_.1.2))))) (fun hn_ => (Kd.freshB (g := gb456) (o := .cells #[.int .u8 0, .int .u16 0, .slice none 0 0, .int .u16 0, .int .u8 0, .int .u8 0, .slice none 0 0, .int .u16 0, .int .u32 0, .slice none 0 0, .slice none 0 0, .slice none 0 0, .slice none 0 0] 32 (0, 0)) (by (with_reducible repeat (first | refine blk_drewN ?_ _ | refine blk_drew ?_ | refine blk_alloc ?_ _)); exact BK456.out) k_ hn_))⟩)) (below_size (by repeat (first | (with_reducible first | exact HB.out | apply below_alloc | apply pw_below_drewN | apply below_drew1 | refine below_set ?_ GE455.out | refine below_set ?_ GE456.out) | exact HB.out))))
 have n11_ := Aside0.mk (Kd.V_lower (Kd.V_mono (ok' := fun k_ => ((P0_2_ k_ ∨ P0_6_ k_ ∨ P0_9_ k_ ∨ P0_10_ k_ ∨ P0_11_ k_ ∨ P0_12_ k_) ∨ w.heap.size ≤ k_) ∧ some k_ ≠ (v464 : Value).ownBlock ∧ some k_ ≠ (v458 : Value).ownBlock ∧ k_ ≠ gb455 ∧ k_ ≠ gb456) ho4 (fun k_ hk_ => ⟨Or.elim hk_.1 (fun hs_ => Or.elim hs_ (fun hs_ => hs_.1.1.1) (fun hs_ => Or.elim hs_ (fun hs_ => hs_.1.1.1) (fun hs_ => Or.elim hs_ (fun hs_ => hs_.1.1.1) (fun hs_ => Or.elim hs_ (fun hs_ => hs_.1.1.1) (fun hs_ => hs_.1.1.1))))) (fun hn_ => (.inr (Nat.le_trans (below_size (by repeat (first | (with_reducible first | exact HB.out | apply below_alloc | apply pw_below_drewN | apply below_drew1 | refine below_set ?_ GE455.out | refine below_set ?_ GE456.out) | exact HB.out))) hn_))), hk_.2, Or.elim hk_.1 (fun hs_ => Or.elim hs_ (fun hs_ => hs_.2) (fun hs_ => Or.elim hs_ (fun hs_ => hs_.2) (fun hs_ => Or.elim hs_ (fun hs_ => hs_.2) (fun hs_ => Or.elim hs_ (fun hs_ => hs_.2) (fun hs_ => hs_.2))))) (fun hn_ => (Kd.fresh' (Kd.N_lt (by (with_reducible repeat (first | apply Kd.N_alloc | apply Kd.N_drewN | apply Kd.N_drew)); exact HO459.out)) k_ hn_)), Or.elim hk_.1 (fun hs_ => Or.elim hs_ (fun hs_ => hs_.1.1.2) (fun hs_ => Or.elim hs_ (fun hs_ => hs_.1.1.2) (fun hs_ => Or.elim hs_ (fun hs_ => hs_.1.1.2) (fun hs_ => Or.elim hs_ (fun hs_ => hs_.1.1.2) (fun hs_ => hs_.1.1.2))))) (fun hn_ => (Kd.freshB (g := gb455) (o := .cells #[.int .u8 a0_0, .int .u16 a0_1, .slice A0_2 l0_2.length c0_2, .int .u16 a0_3, .int .u8 a0_4, .int .u8 a0_5, .slice A0_6 l0_6.length c0_6, .int .u16 a0_7, .int .u32 a0_8, .slice A0_9 l0_9.length c0_9, .slice A0_10 l0_10.length c0_10, .slice A0_11 l0_11.length c0_11, .slice A0_12 l0_12.length c0_12] 44 (0, 0)) (by (with_reducible repeat (first | refine blk_drewN ?_ _ | refine blk_drew ?_ | refine blk_alloc ?_ _)); exact BK455.out) k_ hn_)), Or.elim hk_.1 (fun hs_ => Or.elim hs_ (fun hs_ => hs_.1.2) (fun hs_ => Or.elim hs_ (fun hs_ => hs_.1.2) (fun hs_ => Or.elim hs_ (fun hs_ => hs_.1.2) (fun hs_ => Or.elim hs_ (fun hs_ => hs_.1.2) (fun hs_ => hs_.1.2))))) (fun hn_ => (Kd.freshB (g := gb456) (o := .cells #[.int .u8 0, .int .u16 0, .slice none 0 0, .int .u16 0, .int .u8 0, .int .u8 0, .slice none 0 0, .int .u16 0, .int .u32 0, .slice none 0 0, .slice none 0 0, .slice none 0 0, .slice none 0 0] 32 (0, 0)) (by (with_reducible repeat (first | refine blk_drewN ?_ _ | refine blk_drew ?_ | refine blk_alloc ?_ _)); exact BK456.out) k_ hn_))⟩)) (below_size (by repeat (first | (with_reducible first | exact HB.out | apply below_alloc | apply pw_below_drewN | apply below_drew1 | refine below_set ?_ GE455.out | refine below_set ?_ GE456.out) | exact HB.out))))
 have n12_ := Aside0.mk (blk_below (g := gb455) (o := .cells #[.int .u8 a0_0, .int .u16 a0_1, .slice A0_2 l0_2.length c0_2, .int .u16 a0_3, .int .u8 a0_4, .int .u8 a0_5, .slice A0_6 l0_6.length c0_6, .int .u16 a0_7, .int .u32 a0_8, .slice A0_9 l0_9.length c0_9, .slice A0_10 l0_10.length c0_10, .slice A0_11 l0_11.length c0_11, .slice A0_12 l0_12.length c0_12] 44 (0, 0)) (by (with_reducible repeat (first | refine blk_drewN ?_ _ | refine blk_drew ?_ | refine blk_alloc ?_ _)); exact BK455.out) hb)
 have n13_ := Aside0.mk (blk_below (g := gb456) (o := .cells #[.int .u8 0, .int .u16 0, .slice none 0 0, .int .u16 0, .int .u8 0, .int .u8 0, .slice none 0 0, .int .u16 0, .int .u32 0, .slice none 0 0, .slice none 0 0, .slice none 0 0, .slice none 0 0] 32 (0, 0)) (by (with_reducible repeat (first | refine blk_drewN ?_ _ | refine blk_drew ?_ | refine blk_alloc ?_ _)); exact BK456.out) hb)
 have n14_ := Aside0.mk (below_step (by repeat (first | (with_reducible first | exact HB.out | apply below_alloc | apply pw_below_drewN | apply below_drew1 | refine below_set ?_ GE455.out | refine below_set ?_ GE456.out) | exact HB.out)) hb)
 clear HO0_2
 clear HO0_6
 clear HO0_9
 clear HO0_10
 clear HO0_11
 clear HO0_12
 clear HO459
 clear BK455
 clear BK456
 clear HB
 have HO0_2 := n0_
 have HO0_6 := n1_
 have HO0_9 := n2_
 have HO0_10 := n3_
 have HO0_11 := n4_
 have HO0_12 := n5_
 have HO459 := n6_
 have HO465 := n7_
 have HO470 := n8_
 have HO473 := n9_
 have HO476 := n10_
 have HO479 := n11_
 have BK455 := n12_
 have BK456 := n13_
 have HB := n14_
 clear n0_ n1_ n2_ n3_ n4_ n5_ n6_ n7_ n8_ n9_ n10_ n11_ n12_ n13_ n14_
 (try clear hb)
 (try clear hb2)
 (try clear hk)
 (try clear hi)
 (try clear ho0)
 (try clear ho1)
 (try clear ho2)
 (try clear ho3)
 (try clear ho4)
 obtain ⟨Ao9, co9, eo9⟩ := Kd.V_slice HO479.out
 (first | subst eo9 | (injection eo9 with f1_ f2_ f3_; have f4_ := f1_.symm; have f5_ := f3_.symm; clear f1_ f2_ f3_; subst f4_; subst f5_))
 obtain ⟨Ao10, co10, eo10⟩ := Kd.V_slice HO476.out
 (first | subst eo10 | (injection eo10 with f1_ f2_ f3_; have f4_ := f1_.symm; have f5_ := f3_.symm; clear f1_ f2_ f3_; subst f4_; subst f5_))
 obtain ⟨Ao11, co11, eo11⟩ := Kd.V_slice HO473.out
 (first | subst eo11 | (injection eo11 with f1_ f2_ f3_; have f4_ := f1_.symm; have f5_ := f3_.symm; clear f1_ f2_ f3_; subst f4_; subst f5_))
 obtain ⟨Ao12, co12, eo12⟩ := Kd.V_slice HO470.out
 (first | subst eo12 | (injection eo12 with f1_ f2_ f3_; have f4_ := f1_.symm; have f5_ := f3_.symm; clear f1_ f2_ f3_; subst f4_; subst f5_))
 obtain ⟨Ao13, co13, eo13⟩ := Kd.N_slice HO465.out
 (first | subst eo13 | (injection eo13 with f1_ f2_ f3_; have f4_ := f1_.symm; have f5_ := f3_.symm; clear f1_ f2_ f3_; subst f4_; subst f5_))
 obtain ⟨Ao14, co14, eo14⟩ := Kd.N_slice HO459.out
 (first | subst eo14 | (injection eo14 with f1_ f2_ f3_; have f4_ := f1_.symm; have f5_ := f3_.symm; clear f1_ f2_ f3_; subst f4_; subst f5_))
 refine hK.out _ _ ⟨(blk_cell BK455.out 0).trans rfl, (blk_cell BK455.out 1).trans rfl, (blk_cell BK455.out 2).trans rfl, (blk_cell BK455.out 3).trans rfl, (blk_cell BK455.out 4).trans rfl, (blk_cell BK455.out 5).trans rfl, (blk_cell BK455.out 6).trans rfl, (blk_cell BK455.out 7).trans rfl, (blk_cell BK455.out 8).trans rfl, (blk_cell BK455.out 9).trans rfl, (blk_cell BK455.out 10).trans rfl, (blk_cell BK455.out 11).trans rfl, (blk_cell BK455.out 12).trans rfl⟩ (fun hHeld => ?_)
 clear hK K
 refine norm_ (a' := ?_) ?_ ?_
 rotate_left
 · show Act.put _ (some 12) _ = _
   simp only [Act.put, List.setIfInBounds_toArray, List.set_cons_zero, List.set_cons_succ, i64_w, i32_w]
   rfl
 refine pure_ (i := 10) (N := some 13) (v := ?_) (a' := ?_) #[true, true, true, true, true, true, true, true, true, true, true, false] rfl rfl (any_of HT_.out (by kernel_rfl)) (fun _ _ _ h => h) (Or.inl ⟨by rfl, ?_⟩) ?_ ?_
 rotate_left
 · intro w'
   go_simp
   with_reducible rfl
 rotate_left
 · simp only [Act.put, List.setIfInBounds_toArray, List.set_cons_zero, List.set_cons_succ, i64_w, i32_w]
   rfl
 refine one_ (i := 11) (N := none) #[true, true, true, true, true, true, true, true, true, true, true, true] rfl rfl (one_of HT_.out (by kernel_rfl)) (by decide) (fun K hK => ?_)
 have hs15 : w8.cell? ⟨gb456, 0, none⟩ = some (.int .u8 0) := (blk_cell BK456.out 0).trans rfl
 have hfs15 := blk_frozen BK456.out 0
 have hns15_0 := NB455_456.out
 have hms15_0 := NB456_455.out
 have hs16 : w8.cell? ⟨gb456, 1, none⟩ = some (.int .u16 0) := (blk_cell BK456.out 1).trans rfl
 have hfs16 := blk_frozen BK456.out 1
 have hns16_0 := NB455_456.out
 have hms16_0 := NB456_455.out
 have hs17 : w8.cell? ⟨gb456, 2, none⟩ = some (.slice none 0 0) := (blk_cell BK456.out 2).trans rfl
 have hfs17 := blk_frozen BK456.out 2
 have hns17_0 := NB455_456.out
 have hms17_0 := NB456_455.out
 have hs18 : w8.cell? ⟨gb456, 3, none⟩ = some (.int .u16 0) := (blk_cell BK456.out 3).trans rfl
 have hfs18 := blk_frozen BK456.out 3
 have hns18_0 := NB455_456.out
 have hms18_0 := NB456_455.out
 have hs19 : w8.cell? ⟨gb456, 4, none⟩ = some (.int .u8 0) := (blk_cell BK456.out 4).trans rfl
 have hfs19 := blk_frozen BK456.out 4
 have hns19_0 := NB455_456.out
 have hms19_0 := NB456_455.out
 have hs20 : w8.cell? ⟨gb456, 5, none⟩ = some (.int .u8 0) := (blk_cell BK456.out 5).trans rfl
 have hfs20 := blk_frozen BK456.out 5
 have hns20_0 := NB455_456.out
 have hms20_0 := NB456_455.out
 have hs21 : w8.cell? ⟨gb456, 6, none⟩ = some (.slice none 0 0) := (blk_cell BK456.out 6).trans rfl
 have hfs21 := blk_frozen BK456.out 6
 have hns21_0 := NB455_456.out
 have hms21_0 := NB456_455.out
 have hs22 : w8.cell? ⟨gb456, 7, none⟩ = some (.int .u16 0) := (blk_cell BK456.out 7).trans rfl
 have hfs22 := blk_frozen BK456.out 7
 have hns22_0 := NB455_456.out
 have hms22_0 := NB456_455.out
 have hs23 : w8.cell? ⟨gb456, 8, none⟩ = some (.int .u32 0) := (blk_cell BK456.out 8).trans rfl
 have hfs23 := blk_frozen BK456.out 8
 have hns23_0 := NB455_456.out
 have hms23_0 := NB456_455.out
 have hs24 : w8.cell? ⟨gb456, 9, none⟩ = some (.slice none 0 0) := (blk_cell BK456.out 9).trans rfl
 have hfs24 := blk_frozen BK456.out 9
 have hns24_0 := NB455_456.out
 have hms24_0 := NB456_455.out
 have hs25 : w8.cell? ⟨gb456, 10, none⟩ = some (.slice none 0 0) := (blk_cell BK456.out 10).trans rfl
 have hfs25 := blk_frozen BK456.out 10
 have hns25_0 := NB455_456.out
 have hms25_0 := NB456_455.out
 have hs26 : w8.cell? ⟨gb456, 11, none⟩ = some (.slice none 0 0) := (blk_cell BK456.out 11).trans rfl
 have hfs26 := blk_frozen BK456.out 11
 have hns26_0 := NB455_456.out
 have hms26_0 := NB456_455.out
 have hs27 : w8.cell? ⟨gb456, 12, none⟩ = some (.slice none 0 0) := (blk_cell BK456.out 12).trans rfl
 have hfs27 := blk_frozen BK456.out 12
 have hns27_0 := NB455_456.out
 have hms27_0 := NB456_455.out
 refine skip_ (w1 := ?_) (by rfl) rfl ?_ ?_
 rotate_left
 · go_simp
   rfl
 refine hK.out _ _ ⟨((cell_far (p := ⟨gb456, _, none⟩) NB455_456.out _).trans (((cell_far (p := ⟨gb456, _, none⟩) NB455_456.out _).trans (((cell_far (p := ⟨gb456, _, none⟩) NB455_456.out _).trans (((cell_far (p := ⟨gb456, _, none⟩) NB455_456.out _).trans (((cell_far (p := ⟨gb456, _, none⟩) NB455_456.out _).trans (((cell_far (p := ⟨gb456, _, none⟩) NB455_456.out _).trans (((cell_far (p := ⟨gb456, _, none⟩) NB455_456.out _).trans (((cell_far (p := ⟨gb456, _, none⟩) NB455_456.out _).trans (((cell_far (p := ⟨gb456, _, none⟩) NB455_456.out _).trans (((cell_far (p := ⟨gb456, _, none⟩) NB455_456.out _).trans (((cell_far (p := ⟨gb456, _, none⟩) NB455_456.out _).trans (((cell_far (p := ⟨gb456, _, none⟩) NB455_456.out _).trans (((cell_far (p := ⟨gb456, _, none⟩) NB455_456.out _).trans (hHeld.1)))))))))))))))))))))))))), ((cell_far (p := ⟨gb456, _, none⟩) NB455_456.out _).trans (((cell_far (p := ⟨gb456, _, none⟩) NB455_456.out _).trans (((cell_far (p := ⟨gb456, _, none⟩) NB455_456.out _).trans (((cell_far (p := ⟨gb456, _, none⟩) NB455_456.out _).trans (((cell_far (p := ⟨gb456, _, none⟩) NB455_456.out _).trans (((cell_far (p := ⟨gb456, _, none⟩) NB455_456.out _).trans (((cell_far (p := ⟨gb456, _, none⟩) NB455_456.out _).trans (((cell_far (p := ⟨gb456, _, none⟩) NB455_456.out _).trans (((cell_far (p := ⟨gb456, _, none⟩) NB455_456.out _).trans (((cell_far (p := ⟨gb456, _, none⟩) NB455_456.out _).trans (((cell_far (p := ⟨gb456, _, none⟩) NB455_456.out _).trans (((cell_far (p := ⟨gb456, _, none⟩) NB455_456.out _).trans (((cell_far (p := ⟨gb456, _, none⟩) NB455_456.out _).trans (hHeld.2.1)))))))))))))))))))))))))), ((cell_far (p := ⟨gb456, _, none⟩) NB455_456.out _).trans (((cell_far (p := ⟨gb456, _, none⟩) NB455_456.out _).trans (((cell_far (p := ⟨gb456, _, none⟩) NB455_456.out _).trans (((cell_far (p := ⟨gb456, _, none⟩) NB455_456.out _).trans (((cell_far (p := ⟨gb456, _, none⟩) NB455_456.out _).trans (((cell_far (p := ⟨gb456, _, none⟩) NB455_456.out _).trans (((cell_far (p := ⟨gb456, _, none⟩) NB455_456.out _).trans (((cell_far (p := ⟨gb456, _, none⟩) NB455_456.out _).trans (((cell_far (p := ⟨gb456, _, none⟩) NB455_456.out _).trans (((cell_far (p := ⟨gb456, _, none⟩) NB455_456.out _).trans (((cell_far (p := ⟨gb456, _, none⟩) NB455_456.out _).trans (((cell_far (p := ⟨gb456, _, none⟩) NB455_456.out _).trans (((cell_far (p := ⟨gb456, _, none⟩) NB455_456.out _).trans (hHeld.2.2.1)))))))))))))))))))))))))), ((cell_far (p := ⟨gb456, _, none⟩) NB455_456.out _).trans (((cell_far (p := ⟨gb456, _, none⟩) NB455_456.out _).trans (((cell_far (p := ⟨gb456, _, none⟩) NB455_456.out _).trans (((cell_far (p := ⟨gb456, _, none⟩) NB455_456.out _).trans (((cell_far (p := ⟨gb456, _, none⟩) NB455_456.out _).trans (((cell_far (p := ⟨gb456, _, none⟩) NB455_456.out _).trans (((cell_far (p := ⟨gb456, _, none⟩) NB455_456.out _).trans (((cell_far (p := ⟨gb456, _, none⟩) NB455_456.out _).trans (((cell_far (p := ⟨gb456, _, none⟩) NB455_456.out _).trans (((cell_far (p := ⟨gb456, _, none⟩) NB455_456.out _).trans (((cell_far (p := ⟨gb456, _, none⟩) NB455_456.out _).trans (((cell_far (p := ⟨gb456, _, none⟩) NB455_456.out _).trans (((cell_far (p := ⟨gb456, _, none⟩) NB455_456.out _).trans (hHeld.2.2.2.1)))))))))))))))))))))))))), ((cell_far (p := ⟨gb456, _, none⟩) NB455_456.out _).trans (((cell_far (p := ⟨gb456, _, none⟩) NB455_456.out _).trans (((cell_far (p := ⟨gb456, _, none⟩) NB455_456.out _).trans (((cell_far (p := ⟨gb456, _, none⟩) NB455_456.out _).trans (((cell_far (p := ⟨gb456, _, none⟩) NB455_456.out _).trans (((cell_far (p := ⟨gb456, _, none⟩) NB455_456.out _).trans (((cell_far (p := ⟨gb456, _, none⟩) NB455_456.out _).trans (((cell_far (p := ⟨gb456, _, none⟩) NB455_456.out _).trans (((cell_far (p := ⟨gb456, _, none⟩) NB455_456.out _).trans (((cell_far (p := ⟨gb456, _, none⟩) NB455_456.out _).trans (((cell_far (p := ⟨gb456, _, none⟩) NB455_456.out _).trans (((cell_far (p := ⟨gb456, _, none⟩) NB455_456.out _).trans (((cell_far (p := ⟨gb456, _, none⟩) NB455_456.out _).trans (hHeld.2.2.2.2.1)))))))))))))))))))))))))), ((cell_far (p := ⟨gb456, _, none⟩) NB455_456.out _).trans (((cell_far (p := ⟨gb456, _, none⟩) NB455_456.out _).trans (((cell_far (p := ⟨gb456, _, none⟩) NB455_456.out _).trans (((cell_far (p := ⟨gb456, _, none⟩) NB455_456.out _).trans (((cell_far (p := ⟨gb456, _, none⟩) NB455_456.out _).trans (((cell_far (p := ⟨gb456, _, none⟩) NB455_456.out _).trans (((cell_far (p := ⟨gb456, _, none⟩) NB455_456.out _).trans (((cell_far (p := ⟨gb456, _, none⟩) NB455_456.out _).trans (((cell_far (p := ⟨gb456, _, none⟩) NB455_456.out _).trans (((cell_far (p := ⟨gb456, _, none⟩) NB455_456.out _).trans (((cell_far (p := ⟨gb456, _, none⟩) NB455_456.out _).trans (((cell_far (p := ⟨gb456, _, none⟩) NB455_456.out _).trans (((cell_far (p := ⟨gb456, _, none⟩) NB455_456.out _).trans (hHeld.2.2.2.2.2.1)))))))))))))))))))))))))), ((cell_far (p := ⟨gb456, _, none⟩) NB455_456.out _).trans (((cell_far (p := ⟨gb456, _, none⟩) NB455_456.out _).trans (((cell_far (p := ⟨gb456, _, none⟩) NB455_456.out _).trans (((cell_far (p := ⟨gb456, _, none⟩) NB455_456.out _).trans (((cell_far (p := ⟨gb456, _, none⟩) NB455_456.out _).trans (((cell_far (p := ⟨gb456, _, none⟩) NB455_456.out _).trans (((cell_far (p := ⟨gb456, _, none⟩) NB455_456.out _).trans (((cell_far (p := ⟨gb456, _, none⟩) NB455_456.out _).trans (((cell_far (p := ⟨gb456, _, none⟩) NB455_456.out _).trans (((cell_far (p := ⟨gb456, _, none⟩) NB455_456.out _).trans (((cell_far (p := ⟨gb456, _, none⟩) NB455_456.out _).trans (((cell_far (p := ⟨gb456, _, none⟩) NB455_456.out _).trans (((cell_far (p := ⟨gb456, _, none⟩) NB455_456.out _).trans (hHeld.2.2.2.2.2.2.1)))))))))))))))))))))))))), ((cell_far (p := ⟨gb456, _, none⟩) NB455_456.out _).trans (((cell_far (p := ⟨gb456, _, none⟩) NB455_456.out _).trans (((cell_far (p := ⟨gb456, _, none⟩) NB455_456.out _).trans (((cell_far (p := ⟨gb456, _, none⟩) NB455_456.out _).trans (((cell_far (p := ⟨gb456, _, none⟩) NB455_456.out _).trans (((cell_far (p := ⟨gb456, _, none⟩) NB455_456.out _).trans (((cell_far (p := ⟨gb456, _, none⟩) NB455_456.out _).trans (((cell_far (p := ⟨gb456, _, none⟩) NB455_456.out _).trans (((cell_far (p := ⟨gb456, _, none⟩) NB455_456.out _).trans (((cell_far (p := ⟨gb456, _, none⟩) NB455_456.out _).trans (((cell_far (p := ⟨gb456, _, none⟩) NB455_456.out _).trans (((cell_far (p := ⟨gb456, _, none⟩) NB455_456.out _).trans (((cell_far (p := ⟨gb456, _, none⟩) NB455_456.out _).trans (hHeld.2.2.2.2.2.2.2.1)))))))))))))))))))))))))), ((cell_far (p := ⟨gb456, _, none⟩) NB455_456.out _).trans (((cell_far (p := ⟨gb456, _, none⟩) NB455_456.out _).trans (((cell_far (p := ⟨gb456, _, none⟩) NB455_456.out _).trans (((cell_far (p := ⟨gb456, _, none⟩) NB455_456.out _).trans (((cell_far (p := ⟨gb456, _, none⟩) NB455_456.out _).trans (((cell_far (p := ⟨gb456, _, none⟩) NB455_456.out _).trans (((cell_far (p := ⟨gb456, _, none⟩) NB455_456.out _).trans (((cell_far (p := ⟨gb456, _, none⟩) NB455_456.out _).trans (((cell_far (p := ⟨gb456, _, none⟩) NB455_456.out _).trans (((cell_far (p := ⟨gb456, _, none⟩) NB455_456.out _).trans (((cell_far (p := ⟨gb456, _, none⟩) NB455_456.out _).trans (((cell_far (p := ⟨gb456, _, none⟩) NB455_456.out _).trans (((cell_far (p := ⟨gb456, _, none⟩) NB455_456.out _).trans (hHeld.2.2.2.2.2.2.2.2.1)))))))))))))))))))))))))), ((cell_far (p := ⟨gb456, _, none⟩) NB455_456.out _).trans (((cell_far (p := ⟨gb456, _, none⟩) NB455_456.out _).trans (((cell_far (p := ⟨gb456, _, none⟩) NB455_456.out _).trans (((cell_far (p := ⟨gb456, _, none⟩) NB455_456.out _).trans (((cell_far (p := ⟨gb456, _, none⟩) NB455_456.out _).trans (((cell_far (p := ⟨gb456, _, none⟩) NB455_456.out _).trans (((cell_far (p := ⟨gb456, _, none⟩) NB455_456.out _).trans (((cell_far (p := ⟨gb456, _, none⟩) NB455_456.out _).trans (((cell_far (p := ⟨gb456, _, none⟩) NB455_456.out _).trans (((cell_far (p := ⟨gb456, _, none⟩) NB455_456.out _).trans (((cell_far (p := ⟨gb456, _, none⟩) NB455_456.out _).trans (((cell_far (p := ⟨gb456, _, none⟩) NB455_456.out _).trans (((cell_far (p := ⟨gb456, _, none⟩) NB455_456.out _).trans (hHeld.2.2.2.2.2.2.2.2.2.1)))))))))))))))))))))))))), ((cell_far (p := ⟨gb456, _, none⟩) NB455_456.out _).trans (((cell_far (p := ⟨gb456, _, none⟩) NB455_456.out _).trans (((cell_far (p := ⟨gb456, _, none⟩) NB455_456.out _).trans (((cell_far (p := ⟨gb456, _, none⟩) NB455_456.out _).trans (((cell_far (p := ⟨gb456, _, none⟩) NB455_456.out _).trans (((cell_far (p := ⟨gb456, _, none⟩) NB455_456.out _).trans (((cell_far (p := ⟨gb456, _, none⟩) NB455_456.out _).trans (((cell_far (p := ⟨gb456, _, none⟩) NB455_456.out _).trans (((cell_far (p := ⟨gb456, _, none⟩) NB455_456.out _).trans (((cell_far (p := ⟨gb456, _, none⟩) NB455_456.out _).trans (((cell_far (p := ⟨gb456, _, none⟩) NB455_456.out _).trans (((cell_far (p := ⟨gb456, _, none⟩) NB455_456.out _).trans (((cell_far (p := ⟨gb456, _, none⟩) NB455_456.out _).trans (hHeld.2.2.2.2.2.2.2.2.2.2.1)))))))))))))))))))))))))), ((cell_far (p := ⟨gb456, _, none⟩) NB455_456.out _).trans (((cell_far (p := ⟨gb456, _, none⟩) NB455_456.out _).trans (((cell_far (p := ⟨gb456, _, none⟩) NB455_456.out _).trans (((cell_far (p := ⟨gb456, _, none⟩) NB455_456.out _).trans (((cell_far (p := ⟨gb456, _, none⟩) NB455_456.out _).trans (((cell_far (p := ⟨gb456, _, none⟩) NB455_456.out _).trans (((cell_far (p := ⟨gb456, _, none⟩) NB455_456.out _).trans (((cell_far (p := ⟨gb456, _, none⟩) NB455_456.out _).trans (((cell_far (p := ⟨gb456, _, none⟩) NB455_456.out _).trans (((cell_far (p := ⟨gb456, _, none⟩) NB455_456.out _).trans (((cell_far (p := ⟨gb456, _, none⟩) NB455_456.out _).trans (((cell_far (p := ⟨gb456, _, none⟩) NB455_456.out _).trans (((cell_far (p := ⟨gb456, _, none⟩) NB455_456.out _).trans (hHeld.2.2.2.2.2.2.2.2.2.2.2.1)))))))))))))))))))))))))), ((cell_far (p := ⟨gb456, _, none⟩) NB455_456.out _).trans (((cell_far (p := ⟨gb456, _, none⟩) NB455_456.out _).trans (((cell_far (p := ⟨gb456, _, none⟩) NB455_456.out _).trans (((cell_far (p := ⟨gb456, _, none⟩) NB455_456.out _).trans (((cell_far (p := ⟨gb456, _, none⟩) NB455_456.out _).trans (((cell_far (p := ⟨gb456, _, none⟩) NB455_456.out _).trans (((cell_far (p := ⟨gb456, _, none⟩) NB455_456.out _).trans (((cell_far (p := ⟨gb456, _, none⟩) NB455_456.out _).trans (((cell_far (p := ⟨gb456, _, none⟩) NB455_456.out _).trans (((cell_far (p := ⟨gb456, _, none⟩) NB455_456.out _).trans (((cell_far (p := ⟨gb456, _, none⟩) NB455_456.out _).trans (((cell_far (p := ⟨gb456, _, none⟩) NB455_456.out _).trans (((cell_far (p := ⟨gb456, _, none⟩) NB455_456.out _).trans (hHeld.2.2.2.2.2.2.2.2.2.2.2.2))))))))))))))))))))))))))⟩ (fun hHeld => ?_)
 clear hK K
 refine done_ (done_of HT_.out (by kernel_rfl)) ?_
 try go_wp2
 refine bodyPost_ret (results_cell_row rfl _ _ gb456 32 #[.int .u8 a0_0, .int .u16 a0_1, .slice Ao14 t457.length co14, .int .u16 t460, .int .u8 t461, .int .u8 t462, .slice Ao13 t463.length co13, .int .u16 t466, .int .u32 t467, .slice Ao12 t468.length co12, .slice Ao11 t471.length co11, .slice Ao10 t474.length co10, .slice Ao9 t477.length co9] (0, 0) _ rfl (by (with_reducible repeat (first | refine blk_drewN ?_ _ | refine blk_drew ?_ | refine blk_alloc ?_ _)); refine blk_put (cs := #[.int .u8 a0_0, .int .u16 a0_1, .slice Ao14 t457.length co14, .int .u16 t460, .int .u8 t461, .int .u8 t462, .slice Ao13 t463.length co13, .int .u16 t466, .int .u32 t467, .slice Ao12 t468.length co12, .slice Ao11 t471.length co11, .slice Ao10 t474.length co10, .slice none 0 0]) ?_ 12 _ rfl; (with_reducible repeat (first | refine blk_drewN ?_ _ | refine blk_drew ?_ | refine blk_alloc ?_ _)); refine blk_put (cs := #[.int .u8 a0_0, .int .u16 a0_1, .slice Ao14 t457.length co14, .int .u16 t460, .int .u8 t461, .int .u8 t462, .slice Ao13 t463.length co13, .int .u16 t466, .int .u32 t467, .slice Ao12 t468.length co12, .slice Ao11 t471.length co11, .slice none 0 0, .slice none 0 0]) ?_ 11 _ rfl; (with_reducible repeat (first | refine blk_drewN ?_ _ | refine blk_drew ?_ | refine blk_alloc ?_ _)); refine blk_put (cs := #[.int .u8 a0_0, .int .u16 a0_1, .slice Ao14 t457.length co14, .int .u16 t460, .int .u8 t461, .int .u8 t462, .slice Ao13 t463.length co13, .int .u16 t466, .int .u32 t467, .slice Ao12 t468.length co12, .slice none 0 0, .slice none 0 0, .slice none 0 0]) ?_ 10 _ rfl; (with_reducible repeat (first | refine blk_drewN ?_ _ | refine blk_drew ?_ | refine blk_alloc ?_ _)); refine blk_put (cs := #[.int .u8 a0_0, .int .u16 a0_1, .slice Ao14 t457.length co14, .int .u16 t460, .int .u8 t461, .int .u8 t462, .slice Ao13 t463.length co13, .int .u16 t466, .int .u32 t467, .slice none 0 0, .slice none 0 0, .slice none 0 0, .slice none 0 0]) ?_ 9 _ rfl; (with_reducible repeat (first | refine blk_drewN ?_ _ | refine blk_drew ?_ | refine blk_alloc ?_ _)); refine blk_put (cs := #[.int .u8 a0_0, .int .u16 a0_1, .slice Ao14 t457.length co14, .int .u16 t460, .int .u8 t461, .int .u8 t462, .slice Ao13 t463.length co13, .int .u16 t466, .int .u32 0, .slice none 0 0, .slice none 0 0, .slice none 0 0, .slice none 0 0]) ?_ 8 _ rfl; (with_reducible repeat (first | refine blk_drewN ?_ _ | refine blk_drew ?_ | refine blk_alloc ?_ _)); refine blk_put (cs := #[.int .u8 a0_0, .int .u16 a0_1, .slice Ao14 t457.length co14, .int .u16 t460, .int .u8 t461, .int .u8 t462, .slice Ao13 t463.length co13, .int .u16 0, .int .u32 0, .slice none 0 0, .slice none 0 0, .slice none 0 0, .slice none 0 0]) ?_ 7 _ rfl; (with_reducible repeat (first | refine blk_drewN ?_ _ | refine blk_drew ?_ | refine blk_alloc ?_ _)); refine blk_put (cs := #[.int .u8 a0_0, .int .u16 a0_1, .slice Ao14 t457.length co14, .int .u16 t460, .int .u8 t461, .int .u8 t462, .slice none 0 0, .int .u16 0, .int .u32 0, .slice none 0 0, .slice none 0 0, .slice none 0 0, .slice none 0 0]) ?_ 6 _ rfl; (with_reducible repeat (first | refine blk_drewN ?_ _ | refine blk_drew ?_ | refine blk_alloc ?_ _)); refine blk_put (cs := #[.int .u8 a0_0, .int .u16 a0_1, .slice Ao14 t457.length co14, .int .u16 t460, .int .u8 t461, .int .u8 0, .slice none 0 0, .int .u16 0, .int .u32 0, .slice none 0 0, .slice none 0 0, .slice none 0 0, .slice none 0 0]) ?_ 5 _ rfl; (with_reducible repeat (first | refine blk_drewN ?_ _ | refine blk_drew ?_ | refine blk_alloc ?_ _)); refine blk_put (cs := #[.int .u8 a0_0, .int .u16 a0_1, .slice Ao14 t457.length co14, .int .u16 t460, .int .u8 0, .int .u8 0, .slice none 0 0, .int .u16 0, .int .u32 0, .slice none 0 0, .slice none 0 0, .slice none 0 0, .slice none 0 0]) ?_ 4 _ rfl; (with_reducible repeat (first | refine blk_drewN ?_ _ | refine blk_drew ?_ | refine blk_alloc ?_ _)); refine blk_put (cs := #[.int .u8 a0_0, .int .u16 a0_1, .slice Ao14 t457.length co14, .int .u16 0, .int .u8 0, .int .u8 0, .slice none 0 0, .int .u16 0, .int .u32 0, .slice none 0 0, .slice none 0 0, .slice none 0 0, .slice none 0 0]) ?_ 3 _ rfl; (with_reducible repeat (first | refine blk_drewN ?_ _ | refine blk_drew ?_ | refine blk_alloc ?_ _)); refine blk_put (cs := #[.int .u8 a0_0, .int .u16 a0_1, .slice none 0 0, .int .u16 0, .int .u8 0, .int .u8 0, .slice none 0 0, .int .u16 0, .int .u32 0, .slice none 0 0, .slice none 0 0, .slice none 0 0, .slice none 0 0]) ?_ 2 _ rfl; (with_reducible repeat (first | refine blk_drewN ?_ _ | refine blk_drew ?_ | refine blk_alloc ?_ _)); refine blk_put (cs := #[.int .u8 a0_0, .int .u16 0, .slice none 0 0, .int .u16 0, .int .u8 0, .int .u8 0, .slice none 0 0, .int .u16 0, .int .u32 0, .slice none 0 0, .slice none 0 0, .slice none 0 0, .slice none 0 0]) ?_ 1 _ rfl; (with_reducible repeat (first | refine blk_drewN ?_ _ | refine blk_drew ?_ | refine blk_alloc ?_ _)); refine blk_put (cs := #[.int .u8 0, .int .u16 0, .slice none 0 0, .int .u16 0, .int .u8 0, .int .u8 0, .slice none 0 0, .int .u16 0, .int .u32 0, .slice none 0 0, .slice none 0 0, .slice none 0 0, .slice none 0 0]) ?_ 0 _ rfl; (with_reducible repeat (first | refine blk_drewN ?_ _ | refine blk_drew ?_ | refine blk_alloc ?_ _)); exact BK456.out) Tryd.underlying32 rfl (by kernel_rfl)) rfl ?_
 exact ⟨_, _, _, _, _, _, by first | rfl | (simp [errW_none, errW_some] <;> rfl) | (simp [*, errW_none, errW_some] <;> rfl), by (with_reducible repeat (first | apply Kd.N_alloc | apply Kd.N_drewN | apply Kd.N_drew)); exact Kd.N_mono (Kd.N_far (p := ⟨gb456, 12, none⟩) (Kd.N_far (p := ⟨gb456, 11, none⟩) (Kd.N_far (p := ⟨gb456, 10, none⟩) (Kd.N_far (p := ⟨gb456, 9, none⟩) (Kd.N_far (p := ⟨gb456, 8, none⟩) (Kd.N_far (p := ⟨gb456, 7, none⟩) (Kd.N_far (p := ⟨gb456, 6, none⟩) (Kd.N_far (p := ⟨gb456, 5, none⟩) (Kd.N_far (p := ⟨gb456, 4, none⟩) (Kd.N_far (p := ⟨gb456, 3, none⟩) (Kd.N_far (p := ⟨gb456, 2, none⟩) (Kd.N_far (p := ⟨gb456, 1, none⟩) (Kd.N_far (p := ⟨gb456, 0, none⟩) (Kd.N_mono HO459.out (fun k_ hk => (⟨hk, hk.1.2.2⟩ : _ ∧ k_ ≠ gb456))) (fun _ hk => hk.2) (.int .u8 a0_0)) (fun _ hk => hk.2) (.int .u16 a0_1)) (fun _ hk => hk.2) (.slice Ao14 t457.length co14)) (fun _ hk => hk.2) (.int .u16 t460)) (fun _ hk => hk.2) (.int .u8 t461)) (fun _ hk => hk.2) (.int .u8 t462)) (fun _ hk => hk.2) (.slice Ao13 t463.length co13)) (fun _ hk => hk.2) (.int .u16 t466)) (fun _ hk => hk.2) (.int .u32 t467)) (fun _ hk => hk.2) (.slice Ao12 t468.length co12)) (fun _ hk => hk.2) (.slice Ao11 t471.length co11)) (fun _ hk => hk.2) (.slice Ao10 t474.length co10)) (fun _ hk => hk.2) (.slice Ao9 t477.length co9)) (fun _ hk => ⟨hk.1.1.1, hk.1.2⟩), by (with_reducible repeat (first | apply Kd.N_alloc | apply Kd.N_drewN | apply Kd.N_drew)); exact Kd.N_mono (Kd.N_far (p := ⟨gb456, 12, none⟩) (Kd.N_far (p := ⟨gb456, 11, none⟩) (Kd.N_far (p := ⟨gb456, 10, none⟩) (Kd.N_far (p := ⟨gb456, 9, none⟩) (Kd.N_far (p := ⟨gb456, 8, none⟩) (Kd.N_far (p := ⟨gb456, 7, none⟩) (Kd.N_far (p := ⟨gb456, 6, none⟩) (Kd.N_far (p := ⟨gb456, 5, none⟩) (Kd.N_far (p := ⟨gb456, 4, none⟩) (Kd.N_far (p := ⟨gb456, 3, none⟩) (Kd.N_far (p := ⟨gb456, 2, none⟩) (Kd.N_far (p := ⟨gb456, 1, none⟩) (Kd.N_far (p := ⟨gb456, 0, none⟩) (Kd.N_mono HO465.out (fun k_ hk => (⟨hk, hk.2.2.2⟩ : _ ∧ k_ ≠ gb456))) (fun _ hk => hk.2) (.int .u8 a0_0)) (fun _ hk => hk.2) (.int .u16 a0_1)) (fun _ hk => hk.2) (.slice Ao14 t457.length co14)) (fun _ hk => hk.2) (.int .u16 t460)) (fun _ hk => hk.2) (.int .u8 t461)) (fun _ hk => hk.2) (.int .u8 t462)) (fun _ hk => hk.2) (.slice Ao13 t463.length co13)) (fun _ hk => hk.2) (.int .u16 t466)) (fun _ hk => hk.2) (.int .u32 t467)) (fun _ hk => hk.2) (.slice Ao12 t468.length co12)) (fun _ hk => hk.2) (.slice Ao11 t471.length co11)) (fun _ hk => hk.2) (.slice Ao10 t474.length co10)) (fun _ hk => hk.2) (.slice Ao9 t477.length co9)) (fun _ hk => ⟨hk.1.1, hk.1.2.1⟩), by (with_reducible repeat (first | apply Kd.V_alloc | apply Kd.V_drewN | apply Kd.V_drew)); exact Kd.V_mono (Kd.V_far (p := ⟨gb456, 12, none⟩) (Kd.V_far (p := ⟨gb456, 11, none⟩) (Kd.V_far (p := ⟨gb456, 10, none⟩) (Kd.V_far (p := ⟨gb456, 9, none⟩) (Kd.V_far (p := ⟨gb456, 8, none⟩) (Kd.V_far (p := ⟨gb456, 7, none⟩) (Kd.V_far (p := ⟨gb456, 6, none⟩) (Kd.V_far (p := ⟨gb456, 5, none⟩) (Kd.V_far (p := ⟨gb456, 4, none⟩) (Kd.V_far (p := ⟨gb456, 3, none⟩) (Kd.V_far (p := ⟨gb456, 2, none⟩) (Kd.V_far (p := ⟨gb456, 1, none⟩) (Kd.V_far (p := ⟨gb456, 0, none⟩) (Kd.V_mono HO470.out (fun k_ hk => (⟨hk, hk.2.2.2.2⟩ : _ ∧ k_ ≠ gb456))) (fun _ hk => hk.2) (.int .u8 a0_0)) (fun _ hk => hk.2) (.int .u16 a0_1)) (fun _ hk => hk.2) (.slice Ao14 t457.length co14)) (fun _ hk => hk.2) (.int .u16 t460)) (fun _ hk => hk.2) (.int .u8 t461)) (fun _ hk => hk.2) (.int .u8 t462)) (fun _ hk => hk.2) (.slice Ao13 t463.length co13)) (fun _ hk => hk.2) (.int .u16 t466)) (fun _ hk => hk.2) (.int .u32 t467)) (fun _ hk => hk.2) (.slice Ao12 t468.length co12)) (fun _ hk => hk.2) (.slice Ao11 t471.length co11)) (fun _ hk => hk.2) (.slice Ao10 t474.length co10)) (fun _ hk => hk.2) (.slice Ao9 t477.length co9)) (fun _ hk => ⟨hk.1.1, ⟨hk.1.2.2.1, hk.1.2.1⟩⟩), by (with_reducible repeat (first | apply Kd.V_alloc | apply Kd.V_drewN | apply Kd.V_drew)); exact Kd.V_mono (Kd.V_far (p := ⟨gb456, 12, none⟩) (Kd.V_far (p := ⟨gb456, 11, none⟩) (Kd.V_far (p := ⟨gb456, 10, none⟩) (Kd.V_far (p := ⟨gb456, 9, none⟩) (Kd.V_far (p := ⟨gb456, 8, none⟩) (Kd.V_far (p := ⟨gb456, 7, none⟩) (Kd.V_far (p := ⟨gb456, 6, none⟩) (Kd.V_far (p := ⟨gb456, 5, none⟩) (Kd.V_far (p := ⟨gb456, 4, none⟩) (Kd.V_far (p := ⟨gb456, 3, none⟩) (Kd.V_far (p := ⟨gb456, 2, none⟩) (Kd.V_far (p := ⟨gb456, 1, none⟩) (Kd.V_far (p := ⟨gb456, 0, none⟩) (Kd.V_mono HO473.out (fun k_ hk => (⟨hk, hk.2.2.2.2⟩ : _ ∧ k_ ≠ gb456))) (fun _ hk => hk.2) (.int .u8 a0_0)) (fun _ hk => hk.2) (.int .u16 a0_1)) (fun _ hk => hk.2) (.slice Ao14 t457.length co14)) (fun _ hk => hk.2) (.int .u16 t460)) (fun _ hk => hk.2) (.int .u8 t461)) (fun _ hk => hk.2) (.int .u8 t462)) (fun _ hk => hk.2) (.slice Ao13 t463.length co13)) (fun _ hk => hk.2) (.int .u16 t466)) (fun _ hk => hk.2) (.int .u32 t467)) (fun _ hk => hk.2) (.slice Ao12 t468.length co12)) (fun _ hk => hk.2) (.slice Ao11 t471.length co11)) (fun _ hk => hk.2) (.slice Ao10 t474.length co10)) (fun _ hk => hk.2) (.slice Ao9 t477.length co9)) (fun _ hk => ⟨hk.1.1, ⟨hk.1.2.2.1, hk.1.2.1⟩⟩), by (with_reducible repeat (first | apply Kd.V_alloc | apply Kd.V_drewN | apply Kd.V_drew)); exact Kd.V_mono (Kd.V_far (p := ⟨gb456, 12, none⟩) (Kd.V_far (p := ⟨gb456, 11, none⟩) (Kd.V_far (p := ⟨gb456, 10, none⟩) (Kd.V_far (p := ⟨gb456, 9, none⟩) (Kd.V_far (p := ⟨gb456, 8, none⟩) (Kd.V_far (p := ⟨gb456, 7, none⟩) (Kd.V_far (p := ⟨gb456, 6, none⟩) (Kd.V_far (p := ⟨gb456, 5, none⟩) (Kd.V_far (p := ⟨gb456, 4, none⟩) (Kd.V_far (p := ⟨gb456, 3, none⟩) (Kd.V_far (p := ⟨gb456, 2, none⟩) (Kd.V_far (p := ⟨gb456, 1, none⟩) (Kd.V_far (p := ⟨gb456, 0, none⟩) (Kd.V_mono HO476.out (fun k_ hk => (⟨hk, hk.2.2.2.2⟩ : _ ∧ k_ ≠ gb456))) (fun _ hk => hk.2) (.int .u8 a0_0)) (fun _ hk => hk.2) (.int .u16 a0_1)) (fun _ hk => hk.2) (.slice Ao14 t457.length co14)) (fun _ hk => hk.2) (.int .u16 t460)) (fun _ hk => hk.2) (.int .u8 t461)) (fun _ hk => hk.2) (.int .u8 t462)) (fun _ hk => hk.2) (.slice Ao13 t463.length co13)) (fun _ hk => hk.2) (.int .u16 t466)) (fun _ hk => hk.2) (.int .u32 t467)) (fun _ hk => hk.2) (.slice Ao12 t468.length co12)) (fun _ hk => hk.2) (.slice Ao11 t471.length co11)) (fun _ hk => hk.2) (.slice Ao10 t474.length co10)) (fun _ hk => hk.2) (.slice Ao9 t477.length co9)) (fun _ hk => ⟨hk.1.1, ⟨hk.1.2.2.1, hk.1.2.1⟩⟩), by (with_reducible repeat (first | apply Kd.V_alloc | apply Kd.V_drewN | apply Kd.V_drew)); exact Kd.V_mono (Kd.V_far (p := ⟨gb456, 12, none⟩) (Kd.V_far (p := ⟨gb456, 11, none⟩) (Kd.V_far (p := ⟨gb456, 10, none⟩) (Kd.V_far (p := ⟨gb456, 9, none⟩) (Kd.V_far (p := ⟨gb456, 8, none⟩) (Kd.V_far (p := ⟨gb456, 7, none⟩) (Kd.V_far (p := ⟨gb456, 6, none⟩) (Kd.V_far (p := ⟨gb456, 5, none⟩) (Kd.V_far (p := ⟨gb456, 4, none⟩) (Kd.V_far (p := ⟨gb456, 3, none⟩) (Kd.V_far (p := ⟨gb456, 2, none⟩) (Kd.V_far (p := ⟨gb456, 1, none⟩) (Kd.V_far (p := ⟨gb456, 0, none⟩) (Kd.V_mono HO479.out (fun k_ hk => (⟨hk, hk.2.2.2.2⟩ : _ ∧ k_ ≠ gb456))) (fun _ hk => hk.2) (.int .u8 a0_0)) (fun _ hk => hk.2) (.int .u16 a0_1)) (fun _ hk => hk.2) (.slice Ao14 t457.length co14)) (fun _ hk => hk.2) (.int .u16 t460)) (fun _ hk => hk.2) (.int .u8 t461)) (fun _ hk => hk.2) (.int .u8 t462)) (fun _ hk => hk.2) (.slice Ao13 t463.length co13)) (fun _ hk => hk.2) (.int .u16 t466)) (fun _ hk => hk.2) (.int .u32 t467)) (fun _ hk => hk.2) (.slice Ao12 t468.length co12)) (fun _ hk => hk.2) (.slice Ao11 t471.length co11)) (fun _ hk => hk.2) (.slice Ao10 t474.length co10)) (fun _ hk => hk.2) (.slice Ao9 t477.length co9)) (fun _ hk => ⟨hk.1.1, ⟨hk.1.2.2.1, hk.1.2.1⟩⟩), by repeat (first | (with_reducible first | exact HB.out | apply below_alloc | apply pw_below_drewN | apply below_drew1 | refine below_set ?_ GE455.out | refine below_set ?_ GE456.out) | exact HB.out)⟩
end Go.Proofs.YteanncchmenlkaaDoor.Print
namespace Go.Proofs.YteanncchmenlkaaDoor.Print
open Go.RowKit Go.Proofs.YteanncchmenlkaaDoorW.PrintWords Go.Proofs.YteanncchmenlkaaDoorW.PrintLast Go.Proofs.YteanncchmenlkaaDoorW.PrintMore
attribute [local go_sem] max2_int min2_int max_two min_two max_three min_three max_four min_four
set_option linter.unusedVariables false
set_option linter.unusedSimpArgs false
def bytes_Clone.f (l0 : List Int) : Option (List Int) := if l0.length < 140737488355328 then some l0 else none
set_option maxHeartbeats 8000000 in
set_option maxRecDepth 100000 in
theorem bytes_Clone.calls (A0 : Option Addr) (c0 : Nat) (l0 : List Int) (r : List Int) (w : World) (hr0 : Kd.C (Kd.int .u8) w A0 l0.length l0) (hc0 : l0.length ≤ c0) (h : bytes_Clone.f l0 = some r) :
 Calls Tryd.prog 50 #[.slice A0 l0.length c0] w fun e w' => ∃ v0_ : Value, e = .returned (v0_) ∧ Kd.R (Kd.int .u8) 5 w' w.heap.size (fun _ => True) v0_ r ∧ Below w.heap.size w w' := by
 unfold bytes_Clone.f at h
 by_cases hlim : l0.length < 140737488355328
 · rw [if_pos hlim] at h
   obtain rfl := Option.some.inj h
   have LM := Aside0.mk hlim
   clear h hlim
   have HR0 := Aside0.mk hr0
   have HC0 := Aside0.mk hc0
   have HB := Aside0.mk (Below.refl w.heap.size w)
   rcases A0 with _ | ad
   · have hz : l0.length = 0 := by
      rcases Nat.eq_zero_or_pos l0.length with h0 | h0
      · exact h0
      · obtain ⟨ad, h, _⟩ := hr0.2.2 h0
        cases h
     obtain rfl : l0 = [] := List.eq_nil_of_length_eq_zero hz
     clear hr0 hc0
     have hq : ∀ (w : World) (n c : Nat), (Go.binOp .eql 24 (.slice none n c) (.slice none 0 0)).run Tryd.prog w = .ok (.bool true) w := fun w n c => Lib.run_eql_slice_nil (P := Tryd.prog) w 24 5 none n c 0 0 Tryd.underlying24
     go_enter Tryd.func50, Tryd.ntmps50
     go_wp2
     go_ret
     exact ⟨_, rfl, Kd.R_nil _ _ _ _ _, HB.out⟩
   · clear hr0 hc0
     have hq : ∀ (w : World) (n c : Nat), (Go.binOp .eql 24 (.slice (some ad) n c) (.slice none 0 0)).run Tryd.prog w = .ok (.bool false) w := fun w n c => Lib.run_eql_slice_nil (P := Tryd.prog) w 24 5 (some ad) n c 0 0 Tryd.underlying24
     obtain ⟨y1, hy1⟩ : ∃ y_ : List Int, y_ = ([] : List Int) := ⟨_, rfl⟩
     have Ny1 := Aside0.mk hy1
     clear hy1
     go_enter Tryd.func50, Tryd.ntmps50
     go_wp2_with (first | ((with_reducible refine gate_dst (N := 5) rfl ?_); refine Kd.R_lit (Kd.int .u8) _ 5 ?hg (N := 5) ?hd (xs := ([] : List Int)) (inner := []) (ok := fun _ => True) (okp := fun _ => True) ?hr ?hp (fun _ hk => hk) trivial (Below.refl _ _) (Nat.le_refl _) (by simp) ?_; (case hd => rfl); (case hg => rfl); (case hr => first | (go_simp; done) | (go_simp; rfl)); (case hp => exact (Reps.none _ _)); intro v1 w1 ho7 hb hg_ hnew_; clear hg_ hnew_; rw [← Ny1.out] at ho7; have n0_ := Aside0.mk (Kd.R_lower ho7 (below_size (by repeat (first | (with_reducible first | exact HB.out | apply below_alloc | apply pw_below_drewN | apply below_drew1) | exact HB.out)))); have n1_ := Aside0.mk (below_step (by repeat (first | (with_reducible first | exact HB.out | apply below_alloc | apply pw_below_drewN | apply below_drew1) | exact HB.out)) hb); clear HB; have HO1 := n0_; have HB := n1_; clear n0_ n1_; clear hb ho7) | ((with_reducible refine gate_builtin (b := .append) (xs := #[.tmp 5, .tmp 6]) rfl ?_); at_builtin; refine Kd.R_append_rows (Kd.int .u8) (w0 := w) w.heap.size rfl (.tmp 5) (.tmp 6) 24 5 (.int .u8 0) 1 rfl Tryd.underlying24 info5 rfl (by decide) (by omega) v1 y1 l0 _ _ _ (fun _ => True) (fun _ => False) rfl rfl ?aO ?aR (fun _ _ h => h) (fun _ h => h.elim) ?aF ?aB ?aS ?aL ?_; (case aR => repeat (first | exact (Kd.C_below HR0.out HB.out) | (with_reducible refine Kd.C_alloc ?_ _) | (with_reducible refine Kd.C_drewN ?_ _) | (with_reducible refine Kd.C_drew ?_))); (case aB => exact (by repeat (first | (with_reducible first | exact HB.out | apply below_alloc | apply pw_below_drewN | apply below_drew1) | exact HB.out))); (case aF => exact (fun _ _ => trivial)); (case aO => exact (by (with_reducible repeat (first | apply Kd.R_alloc | apply Kd.R_drewN | apply Kd.R_drew)); exact HO1.out)); (case aS => exact (below_size (by repeat (first | (with_reducible first | exact HB.out | apply below_alloc | apply pw_below_drewN | apply below_drew1) | exact HB.out)))); (case aL => have h1_ := LM.out; rw [Ny1.out, List.length_nil]; omega); intro v2 w2 ho hb hg hat; have n0_ := Aside0.mk (hb); have n1_ := Aside0.mk (ho); clear HB HO1 hg hat ho hb; have HB := n0_; have HO2 := n1_; clear n0_ n1_))
     go_ret
     have e1 : y1 ++ l0 = l0 := by rw [Ny1.out]; rfl
     exact ⟨_, by first | rfl | (simp; done) | (simp [*]; done), by rw [e1] at HO2; exact HO2.out, HB.out⟩
 · rw [if_neg hlim] at h
   exact absurd h (by simp)
end Go.Proofs.YteanncchmenlkaaDoor.Print
namespace Go.Proofs.YteanncchmenlkaaDoor.Print
open Go.RowKit Go.Proofs.YteanncchmenlkaaDoorW.PrintWords Go.Proofs.YteanncchmenlkaaDoorW.PrintLast Go.Proofs.YteanncchmenlkaaDoorW.PrintMore
attribute [local go_sem] max2_int min2_int max_two min_two max_three min_three max_four min_four
set_option linter.unusedVariables false
set_option linter.unusedSimpArgs false
def tags_Find.idx : List S51 → Int → Int
 | [], _ => -1
 | o :: r, t => if o.f0 = t then 0 else if tags_Find.idx r t = -1 then -1 else tags_Find.idx r t + 1
def tags_Find.idxf (l : List S51) (t : Int) : Option Int := some (tags_Find.idx l t)
theorem tags_Find.idx_none {l : List S51} {t : Int} (h : ∀ j (hj : j < l.length), l[j].f0 ≠ t) : tags_Find.idx l t = -1 := by
 induction l with
 | nil => rfl
 | cons o r ih =>
  have h0 := h 0 (by simp)
  simp only [List.getElem_cons_zero] at h0
  have h1 := ih (fun j hj => h (j + 1) (by simpa using hj))
  simp only [tags_Find.idx]
  rw [if_neg h0, if_pos h1]
theorem tags_Find.idx_hit : ∀ {l : List S51} {t : Int} (i : Nat) (hi : i < l.length), l[i].f0 = t → (∀ j (hj : j < l.length), j < i → l[j].f0 ≠ t) → tags_Find.idx l t = i
 | [], t, i, hi, _, _ => by simp at hi
 | o :: r, t, 0, hi, h, _ => by
  simp only [List.getElem_cons_zero] at h
  simp only [tags_Find.idx]
  rw [if_pos h]
  rfl
 | o :: r, t, i + 1, hi, h, hne => by
  have h0 := hne 0 (by simp) (by omega)
  simp only [List.getElem_cons_zero] at h0
  have ih := tags_Find.idx_hit (l := r) (t := t) i (by simpa using hi) (by simpa using h) (fun j hj hji => hne (j + 1) (by simpa using hj) (by omega))
  simp only [tags_Find.idx]
  rw [if_neg h0, ih, if_neg (by omega)]
  omega
set_option maxHeartbeats 8000000 in
set_option maxRecDepth 100000 in
theorem tags_Find.one (x : S51) (t : Int) (b : Nat) (A0 : Option Addr) (c0 : Nat) (w : World) (hx : w.cell? ⟨b, 0, none⟩ = some (.int .u16 t)) :
 Calls Tryd.prog 49 #[.agg #[.int .u16 x.f0, .slice A0 x.f1.length c0], .pointer (some ⟨b, 0, none⟩)] w fun e w' => e = .returned (.bool (x.f0 == t)) ∧ Below w.heap.size w w' := by
 have hu := Tryd.underlying51
 have HB := Aside0.mk (Below.refl w.heap.size w)
 have hxa : ∀ o, (w.alloc o).cell? ⟨b, 0, none⟩ = some (.int .u16 t) := fun o => ((below_alloc (Below.refl _ w) o).cell (World.block_lt_of_cell? w _ hx)).trans hx
 clear hx
 go_enter Tryd.func49, Tryd.ntmps49
 go_wp2
 go_ret
 exact ⟨rfl, by repeat (first | exact HB.out | apply below_alloc)⟩
set_option maxHeartbeats 8000000 in
set_option maxRecDepth 100000 in
theorem tags_Find.search (A0 : Option Addr) (c0 : Nat) (l0 : List S51) (t r : Int) (b : Nat) (w : World) (hr0 : Kd.C k51 w A0 l0.length l0) (hx : w.cell? ⟨b, 0, none⟩ = some (.int .u16 t)) (h : tags_Find.idxf l0 t = some r) :
 Calls Tryd.prog 48 #[.slice A0 l0.length c0, .func (.func 49) #[] #[.pointer (some ⟨b, 0, none⟩)]] w fun e w' => e = .returned (.int .i64 r) ∧ Below w.heap.size w w' := by
 obtain rfl := Option.some.inj h
 clear h
 have hl : l0.length ≤ 9223372036854775807 := hr0.2.1
 have hu := Tryd.underlying51
 have HR0 := Aside0.mk hr0
 have HX := Aside0.mk hx
 clear hr0 hx
 have HB := Aside0.mk (Below.refl w.heap.size w)
 go_enter Tryd.func48, Tryd.ntmps48
 go_wp2
 go_loopg [8] (l0.length + 1) (fun kq v8 w' => ∃ (x : Int), v8 = .int .i64 x ∧ Aside0 (0 ≤ x ∧ x.toNat + kq = l0.length + 1) ∧ Aside0 (∀ j : Nat, (j : Int) < x → (rd_T51 l0 j).f0 ≠ t) ∧ Aside0 (Below w.heap.size w w'))
 case atStart => exact ⟨0, rfl, ⟨Int.le_refl _, by simp⟩, ⟨fun j h => absurd h (by omega)⟩, HB⟩
 case round =>
  obtain ⟨x, rfl, hk, hj, HB⟩ := hrel
  by_cases hi : x < (l0.length : Int)
  · have hi0 : decide (x < (l0.length : Int)) = true := decide_eq_true hi
    have p0 : 0 ≤ x := hk.out.1
    have p0b : decide (0 ≤ x) = true := decide_eq_true p0
    obtain ⟨ad0, B0, d0, e0, hx00, hx01, hl0, hi0_⟩ := at_T51 HR0.out x p0 hi
    cases e0
    replace hx00 := (HB.out.cell (World.block_lt_of_cell? w _ hx00)).trans hx00
    replace hx01 := (HB.out.cell (World.block_lt_of_cell? w _ hx01)).trans hx01
    have I0 := Aside0.mk hi0_
    clear hi0_
    have P0 := Aside0.mk p0
    have HI := Aside0.mk hi
    have EX : rd_T51 l0 x = l0[x.toNat]'(by omega) := by
     unfold rd_T51
     rw [List.getD_eq_getElem?_getD, List.getElem?_eq_getElem (by omega)]
     rfl
    have EX' := Aside0.mk EX
    clear EX
    replace p0 := eq_true p0
    replace hi := eq_true hi
    cases gk with
    | zero =>
     have := hk.out.2
     have := HI.out
     omega
    | succ k1 =>
     have CC := fun W (h0 : W.cell? ⟨b, 0, none⟩ = some (.int .u16 t)) => tags_Find.one (rd_T51 l0 x) t b B0 d0 W h0
     by_cases hq : (rd_T51 l0 x).f0 = t
     · rw [beq_iff_eq.mpr hq] at CC
       have HQ := Aside0.mk hq
       clear hq
       go_wp2_with (first | (go_at_call 49; refine (CC _ ?s1).mono ?_; (case s1 => exact (HB.out.cell (World.block_lt_of_cell? w _ HX.out)).trans HX.out); rintro e w' ⟨rfl, hb⟩; have HB2 := Aside0.mk (below_step HB.out hb); clear hb))
       go_ret
       refine ⟨?_, HB2.out⟩
       have e := tags_Find.idx_hit (l := l0) (t := t) x.toNat (by have := HI.out; have := P0.out; omega) (by rw [← EX'.out]; exact HQ.out) (fun j hjl hjx => by
        have h3 := hj.out j (by have := P0.out; omega)
        unfold rd_T51 at h3
        rw [Int.toNat_natCast, List.getD_eq_getElem?_getD, List.getElem?_eq_getElem hjl] at h3
        exact h3)
       rw [e, Int.toNat_of_nonneg P0.out]
       rfl
     · rw [beq_eq_false_iff_ne.mpr hq] at CC
       have HQ := Aside0.mk hq
       clear hq
       go_wp2_with (first | (go_at_call 49; refine (CC _ ?s1).mono ?_; (case s1 => exact (HB.out.cell (World.block_lt_of_cell? w _ HX.out)).trans HX.out); rintro e w' ⟨rfl, hb⟩; have HB2 := Aside0.mk (below_step HB.out hb); clear hb))
       have hx1 : wrap64 (x + 1) = x + 1 := by have := HI.out; have := P0.out; unfold wrap64; omega
       go_roundg k1
       case measure => omega
       case rel =>
        refine ⟨x + 1, (by first | rfl | (rw [hx1]; done) | (simp [hx1]; done)), ⟨?_⟩, ⟨?_⟩, HB2⟩
        · have := hk.out
          omega
        · intro j hj'
          by_cases hjx : (j : Int) < x
          · exact hj.out j hjx
          · obtain rfl : (j : Int) = x := by omega
            exact HQ.out
  · have hi0 : decide (x < (l0.length : Int)) = false := decide_eq_false hi
    go_wp2
    go_ret
    refine ⟨?_, HB.out⟩
    have e := tags_Find.idx_none (l := l0) (t := t) (fun j hjl => by
     have h3 := hj.out j (by omega)
     unfold rd_T51 at h3
     rw [Int.toNat_natCast, List.getD_eq_getElem?_getD, List.getElem?_eq_getElem hjl] at h3
     exact h3)
    rw [e]
    rfl
def tags_Find.f (l0 : List (S51)) (a1 : Int) : Option (List Int × Bool) := (tags_Find.idxf l0 a1).bind fun t136 => (if t136 < 0 then (some (([] : List Int), false)) else (if 0 ≤ t136 then (if t136 < (l0.length : Int) then ((bytes_Clone.f ((rd_T51 l0 t136).f1)).bind fun t138 => (some (t138, true))) else (none)) else (none)))
set_option maxHeartbeats 8000000 in
set_option maxRecDepth 100000 in
theorem tags_Find.calls (A0 : Option Addr) (c0 : Nat) (l0 : List (S51)) (a1 : Int) (r1 : List Int) (r2 : Bool) (w : World) (hr0 : Kd.C k51 w A0 l0.length l0) (hc0 : l0.length ≤ c0) (h : tags_Find.f l0 a1 = some (r1, r2)) :
 Calls Tryd.prog 36 #[.slice A0 l0.length c0, .int .u16 a1] w fun e w' => ∃ v0_ : Value, e = .returned (.tuple #[v0_, .bool r2]) ∧ Kd.R (Kd.int .u8) 5 w' w.heap.size (fun _ => True) v0_ r1 ∧ Below w.heap.size w w' := by
 have HR0 := Aside0.mk hr0
 have HC0 := Aside0.mk hc0
 clear hr0 hc0
 have HB := Aside0.mk (Below.refl w.heap.size w)
 have H : ((tags_Find.idxf l0 a1).bind fun t136 => (if t136 < 0 then (some (([] : List Int), false)) else (if 0 ≤ t136 then (if t136 < (l0.length : Int) then ((bytes_Clone.f ((rd_T51 l0 t136).f1)).bind fun t138 => (some (t138, true))) else (none)) else (none)))) = some (r1, r2) := h
 clear h
 replace H := Option.bind_eq_some_iff.mp H
 obtain ⟨t136, A30, H⟩ := H
 replace H : (if t136 < 0 then (some (([] : List Int), false)) else (if 0 ≤ t136 then (if t136 < (l0.length : Int) then ((bytes_Clone.f ((rd_T51 l0 t136).f1)).bind fun t138 => (some (t138, true))) else (none)) else (none))) = some (r1, r2) := H
 have A3 := Aside0.mk A30
 clear A30
 by_cases c4 : t136 < 0
 · rw [if_pos c4] at H
   have c4b0 : decide (t136 < 0) = true := decide_eq_true c4
   clear c4
   simp only [Option.some.injEq, Prod.mk.injEq] at H
   obtain ⟨rfl, rfl⟩ := H
   go_enter Tryd.func36, Tryd.ntmps36
   go_wp2_with (first | ((with_reducible refine gate_dst (N := 3) rfl ?_); refine box_event ?hg (N := 3) ?hd (cs := #[.int .u16 a1]) (t := 22) ?hr ?_; (case hd => rfl); (case hg => rfl); (case hr => first | (go_simp; done) | (go_simp; rfl)); intro gb3 hg w4 hbox hb; have n0_ := Aside0.mk (below_step HB.out hb); have n1_ := Aside0.mk hbox; clear HB; have HB := n0_; have BX := n1_; clear n0_ n1_; clear hb hbox hg) | ((with_reducible refine gate_callee (f := 48) rfl ?_); refine goesL_ (some 9) rfl rfl Tryd.func48 (by kernel_rfl) rfl #[.slice A0 l0.length c0, .func (.func 49) #[] #[.pointer (some ⟨gb3, 0, none⟩)]] rfl (by (try simp only [List.map_toArray, List.map_cons, List.map_nil]); first | done | rfl | (simp only [List.length_drop, List.length_take]; rfl)) ?_; (with_reducible refine (tags_Find.search A0 c0 l0 a1 t136 gb3 _ ?side1 ?side2 A3.out).mono ?_); (case side1 => repeat (first | exact (Kd.C_below HR0.out HB.out) | (with_reducible refine Kd.C_alloc ?_ _) | (with_reducible refine Kd.C_drewN ?_ _) | (with_reducible refine Kd.C_drew ?_))); (case side2 => exact (blk_cell BX.out 0).trans rfl); rintro e w5 ⟨rfl, hb⟩; refine ⟨_, rfl, ?_⟩; have n0_ := Aside0.mk (below_step (by repeat (first | (with_reducible first | exact HB.out | apply below_alloc | apply pw_below_drewN | apply below_drew1) | exact HB.out)) hb); clear HB; have HB := n0_; clear n0_; (try clear hb); (try clear hb2); (try clear hk); (try clear hi)))
   go_ret2
   exact ⟨_, by first | rfl | (simp [errW_none, errW_some] <;> rfl) | (simp [*, errW_none, errW_some] <;> rfl), by first | exact Kd.R_nil _ _ _ _ _ | exact Kd.N_nil _ _ _ _ _ | exact Kd.V_nil _ _ _ _ _ | exact Kd.Q_nil _ _ _ _ _ | exact Kd.S_nil _ _ _ _ _, by repeat (first | (with_reducible first | exact HB.out | apply below_alloc | apply pw_below_drewN | apply below_drew1) | exact HB.out)⟩
 · rw [if_neg c4] at H
   have c4b0 : decide (t136 < 0) = false := decide_eq_false c4
   clear c4
   by_cases c6 : 0 ≤ t136
   · rw [if_pos c6] at H
     have c6b0 : decide (0 ≤ t136) = true := decide_eq_true c6
     clear c6
     by_cases c7 : t136 < (l0.length : Int)
     · rw [if_pos c7] at H
       have c7b0 : decide (t136 < (l0.length : Int)) = true := decide_eq_true c7
       clear c7
       replace H := Option.bind_eq_some_iff.mp H
       obtain ⟨t138, A80, H⟩ := H
       replace H : (some (t138, true)) = some (r1, r2) := H
       have A8 := Aside0.mk A80
       clear A80
       simp only [Option.some.injEq, Prod.mk.injEq] at H
       obtain ⟨rfl, rfl⟩ := H
       go_enter Tryd.func36, Tryd.ntmps36
       go_wp2_with (first | ((with_reducible refine gate_dst (N := 3) rfl ?_); refine box_event ?hg (N := 3) ?hd (cs := #[.int .u16 a1]) (t := 22) ?hr ?_; (case hd => rfl); (case hg => rfl); (case hr => first | (go_simp; done) | (go_simp; rfl)); intro gb3 hg w4 hbox hb; have n0_ := Aside0.mk (below_step HB.out hb); have n1_ := Aside0.mk hbox; clear HB; have HB := n0_; have BX := n1_; clear n0_ n1_; clear hb hbox hg) | ((with_reducible refine gate_callee (f := 48) rfl ?_); refine goesL_ (some 9) rfl rfl Tryd.func48 (by kernel_rfl) rfl #[.slice A0 l0.length c0, .func (.func 49) #[] #[.pointer (some ⟨gb3, 0, none⟩)]] rfl (by (try simp only [List.map_toArray, List.map_cons, List.map_nil]); first | done | rfl | (simp only [List.length_drop, List.length_take]; rfl)) ?_; (with_reducible refine (tags_Find.search A0 c0 l0 a1 t136 gb3 _ ?side1 ?side2 A3.out).mono ?_); (case side1 => repeat (first | exact (Kd.C_below HR0.out HB.out) | (with_reducible refine Kd.C_alloc ?_ _) | (with_reducible refine Kd.C_drewN ?_ _) | (with_reducible refine Kd.C_drew ?_))); (case side2 => exact (blk_cell BX.out 0).trans rfl); rintro e w9 ⟨rfl, hb⟩; refine ⟨_, rfl, ?_⟩; have n0_ := Aside0.mk (below_step (by repeat (first | (with_reducible first | exact HB.out | apply below_alloc | apply pw_below_drewN | apply below_drew1) | exact HB.out)) hb); clear HB; have HB := n0_; clear n0_; (try clear hb); (try clear hb2); (try clear hk); (try clear hi); have p137 : 0 ≤ (t136 : Int) := of_decide_eq_true (by first | (with_reducible assumption) | assumption); have q137 : t136 < (l0.length : Int) := of_decide_eq_true (by first | (with_reducible assumption) | assumption); (try clear hHeld); obtain ⟨ad137, A137_1, c137_1, e137, hx137_0, hx137_1, hl137_1, hi137_1⟩ := at_T51 HR0.out t136 p137 q137; cases e137; replace hx137_0 := (HB.out.cell (World.block_lt_of_cell? w _ hx137_0)).trans hx137_0; replace hx137_1 := (HB.out.cell (World.block_lt_of_cell? w _ hx137_1)).trans hx137_1; have HR137_1 := Aside0.mk hi137_1; have HC137_1 := Aside0.mk hl137_1; clear hi137_1 hl137_1; replace p137 := eq_true p137; replace q137 := eq_true q137) | ((with_reducible refine gate_callee (f := 50) rfl ?_); refine goesL_ (some 17) rfl rfl Tryd.func50 (by kernel_rfl) rfl #[.slice A137_1 ((rd_T51 l0 t136).f1).length c137_1] rfl (by (try simp only [List.map_toArray, List.map_cons, List.map_nil]); first | done | rfl | (simp only [List.length_drop, List.length_take]; rfl)) ?_; (with_reducible refine (bytes_Clone.calls _ _ ((rd_T51 l0 t136).f1) t138 _ ?side1 ?side2 A8.out).mono ?_); (case side1 => repeat (first | exact (Kd.C_below HR137_1.out HB.out) | (with_reducible refine Kd.C_alloc ?_ _) | (with_reducible refine Kd.C_drewN ?_ _) | (with_reducible refine Kd.C_drew ?_))); (case side2 => exact HC137_1.out); rintro e w10 ⟨v139, rfl, ho0, hb⟩; refine ⟨_, rfl, ?_⟩; have n0_ := Aside0.mk (Kd.R_lower ho0 (below_size (by repeat (first | (with_reducible first | exact HB.out | apply below_alloc | apply pw_below_drewN | apply below_drew1) | exact HB.out)))); have n1_ := Aside0.mk (below_step (by repeat (first | (with_reducible first | exact HB.out | apply below_alloc | apply pw_below_drewN | apply below_drew1) | exact HB.out)) hb); clear HB; have HO140 := n0_; have HB := n1_; clear n0_ n1_; (try clear hb); (try clear hb2); (try clear hk); (try clear hi); (try clear ho0)))
       go_ret2
       exact ⟨_, by first | rfl | (simp [errW_none, errW_some] <;> rfl) | (simp [*, errW_none, errW_some] <;> rfl), by (with_reducible repeat (first | apply Kd.R_alloc | apply Kd.R_drewN | apply Kd.R_drew)); exact HO140.out, by repeat (first | (with_reducible first | exact HB.out | apply below_alloc | apply pw_below_drewN | apply below_drew1) | exact HB.out)⟩
     · rw [if_neg c7] at H
       exact absurd H (by simp)
   · rw [if_neg c6] at H
     exact absurd H (by simp)
end Go.Proofs.YteanncchmenlkaaDoor.Print
namespace Go.Proofs.YteanncchmenlkaaDoor.Print
open Go.RowKit Go.Proofs.YteanncchmenlkaaDoorW.PrintWords Go.Proofs.YteanncchmenlkaaDoorW.PrintLast Go.Proofs.YteanncchmenlkaaDoorW.PrintMore
attribute [local go_sem] max2_int min2_int max_two min_two max_three min_three max_four min_four
set_option linter.unusedVariables false
set_option linter.unusedSimpArgs false
def ether_Answers.j0 : Nat → Bool → Int → Int → List (S51) → Int → Int → Int → List (S62) → Int → Int → List Int → List Int → List Int → List Int → Int → Int → List (S51) → Int → Int → Int → List (S62) → Int → Int → List Int → List Int → List Int → List Int → Option (Bool)
 | 0, _, _, _, _, _, _, _, _, _, _, _, _, _, _, _, _, _, _, _, _, _, _, _, _, _, _, _ => none
 | k + 1, x27, x481000, x481001, x481002, x481003, x481004, x481005, x481006, x481007, x481008, x481009, x481010, x481011, x481012, x482000, x482001, x482002, x482003, x482004, x482005, x482006, x482007, x482008, x482009, x482010, x482011, x482012 => if x27 = true then (some false) else ((tags_Find.f x482002 259).bind fun bt482 => (if bt482.2 = true then ((tags_Find.f x481002 259).bind fun bt486 => (if bt486.2 = true then ((bytes_Equal.f bt486.1 bt482.1).bind fun t490 => (some t490)) else (some false))) else (some true)))
def ether_Answers.f (k : Nat) (a0_0 : Int) (a0_1 : Int) (l0_2 : List (S51)) (a0_3 : Int) (a0_4 : Int) (a0_5 : Int) (l0_6 : List (S62)) (a0_7 : Int) (a0_8 : Int) (l0_9 : List Int) (l0_10 : List Int) (l0_11 : List Int) (l0_12 : List Int) (a1_0 : Int) (a1_1 : Int) (l1_2 : List (S51)) (a1_3 : Int) (a1_4 : Int) (a1_5 : Int) (l1_6 : List (S62)) (a1_7 : Int) (a1_8 : Int) (l1_9 : List Int) (l1_10 : List Int) (l1_11 : List Int) (l1_12 : List Int) : Option (Bool) := if a0_0 = 7 then (if a1_0 = 9 then (ether_Answers.j0 k (!true) a0_0 a0_1 l0_2 a0_3 a0_4 a0_5 l0_6 a0_7 a0_8 l0_9 l0_10 l0_11 l0_12 a1_0 a1_1 l1_2 a1_3 a1_4 a1_5 l1_6 a1_7 a1_8 l1_9 l1_10 l1_11 l1_12) else (if a0_0 = 101 then (ether_Answers.j0 k (!(a1_0 == 25)) a0_0 a0_1 l0_2 a0_3 a0_4 a0_5 l0_6 a0_7 a0_8 l0_9 l0_10 l0_11 l0_12 a1_0 a1_1 l1_2 a1_3 a1_4 a1_5 l1_6 a1_7 a1_8 l1_9 l1_10 l1_11 l1_12) else (ether_Answers.j0 k (!false) a0_0 a0_1 l0_2 a0_3 a0_4 a0_5 l0_6 a0_7 a0_8 l0_9 l0_10 l0_11 l0_12 a1_0 a1_1 l1_2 a1_3 a1_4 a1_5 l1_6 a1_7 a1_8 l1_9 l1_10 l1_11 l1_12))) else (if a0_0 = 101 then (ether_Answers.j0 k (!(a1_0 == 25)) a0_0 a0_1 l0_2 a0_3 a0_4 a0_5 l0_6 a0_7 a0_8 l0_9 l0_10 l0_11 l0_12 a1_0 a1_1 l1_2 a1_3 a1_4 a1_5 l1_6 a1_7 a1_8 l1_9 l1_10 l1_11 l1_12) else (ether_Answers.j0 k (!false) a0_0 a0_1 l0_2 a0_3 a0_4 a0_5 l0_6 a0_7 a0_8 l0_9 l0_10 l0_11 l0_12 a1_0 a1_1 l1_2 a1_3 a1_4 a1_5 l1_6 a1_7 a1_8 l1_9 l1_10 l1_11 l1_12))
set_option maxHeartbeats 8000000 in
set_option maxRecDepth 100000 in
theorem ether_Answers.calls (k : Nat) (a0_0 : Int) (a0_1 : Int) (A0_2 : Option Addr) (c0_2 : Nat) (l0_2 : List (S51)) (a0_3 : Int) (a0_4 : Int) (a0_5 : Int) (A0_6 : Option Addr) (c0_6 : Nat) (l0_6 : List (S62)) (a0_7 : Int) (a0_8 : Int) (A0_9 : Option Addr) (c0_9 : Nat) (l0_9 : List Int) (A0_10 : Option Addr) (c0_10 : Nat) (l0_10 : List Int) (A0_11 : Option Addr) (c0_11 : Nat) (l0_11 : List Int) (A0_12 : Option Addr) (c0_12 : Nat) (l0_12 : List Int) (a1_0 : Int) (a1_1 : Int) (A1_2 : Option Addr) (c1_2 : Nat) (l1_2 : List (S51)) (a1_3 : Int) (a1_4 : Int) (a1_5 : Int) (A1_6 : Option Addr) (c1_6 : Nat) (l1_6 : List (S62)) (a1_7 : Int) (a1_8 : Int) (A1_9 : Option Addr) (c1_9 : Nat) (l1_9 : List Int) (A1_10 : Option Addr) (c1_10 : Nat) (l1_10 : List Int) (A1_11 : Option Addr) (c1_11 : Nat) (l1_11 : List Int) (A1_12 : Option Addr) (c1_12 : Nat) (l1_12 : List Int) (r : Bool) (w : World) (hr0_2 : Kd.C k51 w A0_2 l0_2.length l0_2) (hc0_2 : l0_2.length ≤ c0_2) (hr0_6 : Kd.C k62 w A0_6 l0_6.length l0_6) (hc0_6 : l0_6.length ≤ c0_6) (hr0_9 : Kd.C (Kd.int .u8) w A0_9 l0_9.length l0_9) (hc0_9 : l0_9.length ≤ c0_9) (hr0_10 : Kd.C (Kd.int .u8) w A0_10 l0_10.length l0_10) (hc0_10 : l0_10.length ≤ c0_10) (hr0_11 : Kd.C (Kd.int .u8) w A0_11 l0_11.length l0_11) (hc0_11 : l0_11.length ≤ c0_11) (hr0_12 : Kd.C (Kd.int .u32) w A0_12 l0_12.length l0_12) (hc0_12 : l0_12.length ≤ c0_12) (hr1_2 : Kd.C k51 w A1_2 l1_2.length l1_2) (hc1_2 : l1_2.length ≤ c1_2) (hr1_6 : Kd.C k62 w A1_6 l1_6.length l1_6) (hc1_6 : l1_6.length ≤ c1_6) (hr1_9 : Kd.C (Kd.int .u8) w A1_9 l1_9.length l1_9) (hc1_9 : l1_9.length ≤ c1_9) (hr1_10 : Kd.C (Kd.int .u8) w A1_10 l1_10.length l1_10) (hc1_10 : l1_10.length ≤ c1_10) (hr1_11 : Kd.C (Kd.int .u8) w A1_11 l1_11.length l1_11) (hc1_11 : l1_11.length ≤ c1_11) (hr1_12 : Kd.C (Kd.int .u32) w A1_12 l1_12.length l1_12) (hc1_12 : l1_12.length ≤ c1_12) (h : ether_Answers.f k a0_0 a0_1 l0_2 a0_3 a0_4 a0_5 l0_6 a0_7 a0_8 l0_9 l0_10 l0_11 l0_12 a1_0 a1_1 l1_2 a1_3 a1_4 a1_5 l1_6 a1_7 a1_8 l1_9 l1_10 l1_11 l1_12 = some r) :
 Calls Tryd.prog 16 #[.agg #[.int .u8 a0_0, .int .u16 a0_1, .slice A0_2 l0_2.length c0_2, .int .u16 a0_3, .int .u8 a0_4, .int .u8 a0_5, .slice A0_6 l0_6.length c0_6, .int .u16 a0_7, .int .u32 a0_8, .slice A0_9 l0_9.length c0_9, .slice A0_10 l0_10.length c0_10, .slice A0_11 l0_11.length c0_11, .slice A0_12 l0_12.length c0_12], .agg #[.int .u8 a1_0, .int .u16 a1_1, .slice A1_2 l1_2.length c1_2, .int .u16 a1_3, .int .u8 a1_4, .int .u8 a1_5, .slice A1_6 l1_6.length c1_6, .int .u16 a1_7, .int .u32 a1_8, .slice A1_9 l1_9.length c1_9, .slice A1_10 l1_10.length c1_10, .slice A1_11 l1_11.length c1_11, .slice A1_12 l1_12.length c1_12]] w fun e w' => e = .returned (.bool r) ∧ Below w.heap.size w w' := by
 have hu32 := Tryd.underlying32
 have HR0_2 := Aside0.mk hr0_2
 have HC0_2 := Aside0.mk hc0_2
 clear hr0_2 hc0_2
 have HR0_6 := Aside0.mk hr0_6
 have HC0_6 := Aside0.mk hc0_6
 clear hr0_6 hc0_6
 have HR0_9 := Aside0.mk hr0_9
 have HC0_9 := Aside0.mk hc0_9
 clear hr0_9 hc0_9
 have HR0_10 := Aside0.mk hr0_10
 have HC0_10 := Aside0.mk hc0_10
 clear hr0_10 hc0_10
 have HR0_11 := Aside0.mk hr0_11
 have HC0_11 := Aside0.mk hc0_11
 clear hr0_11 hc0_11
 have HR0_12 := Aside0.mk hr0_12
 have HC0_12 := Aside0.mk hc0_12
 clear hr0_12 hc0_12
 have HR1_2 := Aside0.mk hr1_2
 have HC1_2 := Aside0.mk hc1_2
 clear hr1_2 hc1_2
 have HR1_6 := Aside0.mk hr1_6
 have HC1_6 := Aside0.mk hc1_6
 clear hr1_6 hc1_6
 have HR1_9 := Aside0.mk hr1_9
 have HC1_9 := Aside0.mk hc1_9
 clear hr1_9 hc1_9
 have HR1_10 := Aside0.mk hr1_10
 have HC1_10 := Aside0.mk hc1_10
 clear hr1_10 hc1_10
 have HR1_11 := Aside0.mk hr1_11
 have HC1_11 := Aside0.mk hc1_11
 clear hr1_11 hc1_11
 have HR1_12 := Aside0.mk hr1_12
 have HC1_12 := Aside0.mk hc1_12
 clear hr1_12 hc1_12
 have HB := Aside0.mk (Below.refl w.heap.size w)
 have H : (if a0_0 = 7 then (if a1_0 = 9 then (ether_Answers.j0 k (!true) a0_0 a0_1 l0_2 a0_3 a0_4 a0_5 l0_6 a0_7 a0_8 l0_9 l0_10 l0_11 l0_12 a1_0 a1_1 l1_2 a1_3 a1_4 a1_5 l1_6 a1_7 a1_8 l1_9 l1_10 l1_11 l1_12) else (if a0_0 = 101 then (ether_Answers.j0 k (!(a1_0 == 25)) a0_0 a0_1 l0_2 a0_3 a0_4 a0_5 l0_6 a0_7 a0_8 l0_9 l0_10 l0_11 l0_12 a1_0 a1_1 l1_2 a1_3 a1_4 a1_5 l1_6 a1_7 a1_8 l1_9 l1_10 l1_11 l1_12) else (ether_Answers.j0 k (!false) a0_0 a0_1 l0_2 a0_3 a0_4 a0_5 l0_6 a0_7 a0_8 l0_9 l0_10 l0_11 l0_12 a1_0 a1_1 l1_2 a1_3 a1_4 a1_5 l1_6 a1_7 a1_8 l1_9 l1_10 l1_11 l1_12))) else (if a0_0 = 101 then (ether_Answers.j0 k (!(a1_0 == 25)) a0_0 a0_1 l0_2 a0_3 a0_4 a0_5 l0_6 a0_7 a0_8 l0_9 l0_10 l0_11 l0_12 a1_0 a1_1 l1_2 a1_3 a1_4 a1_5 l1_6 a1_7 a1_8 l1_9 l1_10 l1_11 l1_12) else (ether_Answers.j0 k (!false) a0_0 a0_1 l0_2 a0_3 a0_4 a0_5 l0_6 a0_7 a0_8 l0_9 l0_10 l0_11 l0_12 a1_0 a1_1 l1_2 a1_3 a1_4 a1_5 l1_6 a1_7 a1_8 l1_9 l1_10 l1_11 l1_12))) = some r := h
 clear h
 have HC3 := Aside0.mk H
 clear H
 go_enter Tryd.func16, Tryd.ntmps16
 go_upto_region 1 with (first | ((with_reducible refine gate_dst (N := 2) rfl ?_); refine box_event ?hg (N := 2) ?hd (cs := #[.int .u8 a0_0, .int .u16 a0_1, .slice A0_2 l0_2.length c0_2, .int .u16 a0_3, .int .u8 a0_4, .int .u8 a0_5, .slice A0_6 l0_6.length c0_6, .int .u16 a0_7, .int .u32 a0_8, .slice A0_9 l0_9.length c0_9, .slice A0_10 l0_10.length c0_10, .slice A0_11 l0_11.length c0_11, .slice A0_12 l0_12.length c0_12]) (t := 32) ?hr ?_; (case hd => rfl); (case hg => rfl); (case hr => first | (go_simp; done) | (go_simp; simp only [IntKind.wrap_u8, IntKind.wrap_u16, IntKind.wrap_u32, IntKind.wrap_u64]; done) | (go_simp; simp only [IntKind.wrap_u8, IntKind.wrap_u16, IntKind.wrap_u32, IntKind.wrap_u64, Int.tmod_eq_emod_of_nonneg (Int.natCast_nonneg _), Int.emod_emod]; done) | (go_simp; rfl)); intro gb480 hg w4 hbox hb; have n0_ := Aside0.mk (below_step (by repeat (first | (with_reducible first | exact HB.out | apply below_alloc | apply pw_below_drewN | apply below_drew1) | exact HB.out)) hb); have n1_ := Aside0.mk (hbox); have n2_ := Aside0.mk ((by rw [hg]; exact (below_size (by repeat (first | (with_reducible first | exact HB.out | apply below_alloc | apply pw_below_drewN | apply below_drew1) | exact HB.out))) : w.heap.size ≤ gb480)); have n3_ := Aside0.mk ((by rw [hg]; exact (below_size (by repeat (first | (with_reducible first | exact HB.out | apply below_alloc | apply pw_below_drewN | apply below_drew1) | exact HB.out))) : w.heap.size ≤ gb480)); clear HB; have HB := n0_; have BK480 := n1_; have GW480 := n2_; have GE480 := n3_; clear n0_ n1_ n2_ n3_; clear hb hbox hg) | ((with_reducible refine gate_dst (N := 3) rfl ?_); refine box_event ?hg (N := 3) ?hd (cs := #[.int .u8 a1_0, .int .u16 a1_1, .slice A1_2 l1_2.length c1_2, .int .u16 a1_3, .int .u8 a1_4, .int .u8 a1_5, .slice A1_6 l1_6.length c1_6, .int .u16 a1_7, .int .u32 a1_8, .slice A1_9 l1_9.length c1_9, .slice A1_10 l1_10.length c1_10, .slice A1_11 l1_11.length c1_11, .slice A1_12 l1_12.length c1_12]) (t := 32) ?hr ?_; (case hd => rfl); (case hg => rfl); (case hr => first | (go_simp; done) | (go_simp; simp only [IntKind.wrap_u8, IntKind.wrap_u16, IntKind.wrap_u32, IntKind.wrap_u64]; done) | (go_simp; simp only [IntKind.wrap_u8, IntKind.wrap_u16, IntKind.wrap_u32, IntKind.wrap_u64, Int.tmod_eq_emod_of_nonneg (Int.natCast_nonneg _), Int.emod_emod]; done) | (go_simp; rfl)); intro gb481 hg w5 hbox hb; have n0_ := Aside0.mk (blk_below (g := gb480) (o := .cells #[.int .u8 a0_0, .int .u16 a0_1, .slice A0_2 l0_2.length c0_2, .int .u16 a0_3, .int .u8 a0_4, .int .u8 a0_5, .slice A0_6 l0_6.length c0_6, .int .u16 a0_7, .int .u32 a0_8, .slice A0_9 l0_9.length c0_9, .slice A0_10 l0_10.length c0_10, .slice A0_11 l0_11.length c0_11, .slice A0_12 l0_12.length c0_12] 32 (0, 0)) (by (with_reducible repeat (first | refine blk_drewN ?_ _ | refine blk_drew ?_ | refine blk_alloc ?_ _)); exact BK480.out) hb); have n1_ := Aside0.mk (below_step (by repeat (first | (with_reducible first | exact HB.out | apply below_alloc | apply pw_below_drewN | apply below_drew1 | refine below_set ?_ GE480.out) | exact HB.out)) hb); have n2_ := Aside0.mk (hbox); have n3_ := Aside0.mk ((by rw [hg]; exact (below_size (by repeat (first | (with_reducible first | exact HB.out | apply below_alloc | apply pw_below_drewN | apply below_drew1 | refine below_set ?_ GE480.out) | exact HB.out))) : w.heap.size ≤ gb481)); have n4_ := Aside0.mk ((by rw [hg]; exact (below_size (by repeat (first | (with_reducible first | exact HB.out | apply below_alloc | apply pw_below_drewN | apply below_drew1 | refine below_set ?_ GE480.out) | exact HB.out))) : w.heap.size ≤ gb481)); have n5_ := Aside0.mk ((by rw [hg]; exact Nat.ne_of_lt (blk_lt (g := gb480) (o := .cells #[.int .u8 a0_0, .int .u16 a0_1, .slice A0_2 l0_2.length c0_2, .int .u16 a0_3, .int .u8 a0_4, .int .u8 a0_5, .slice A0_6 l0_6.length c0_6, .int .u16 a0_7, .int .u32 a0_8, .slice A0_9 l0_9.length c0_9, .slice A0_10 l0_10.length c0_10, .slice A0_11 l0_11.length c0_11, .slice A0_12 l0_12.length c0_12] 32 (0, 0)) (by (with_reducible repeat (first | refine blk_drewN ?_ _ | refine blk_drew ?_ | refine blk_alloc ?_ _)); exact BK480.out)) : gb480 ≠ gb481)); have n6_ := Aside0.mk ((by rw [hg]; exact Nat.ne_of_gt (blk_lt (g := gb480) (o := .cells #[.int .u8 a0_0, .int .u16 a0_1, .slice A0_2 l0_2.length c0_2, .int .u16 a0_3, .int .u8 a0_4, .int .u8 a0_5, .slice A0_6 l0_6.length c0_6, .int .u16 a0_7, .int .u32 a0_8, .slice A0_9 l0_9.length c0_9, .slice A0_10 l0_10.length c0_10, .slice A0_11 l0_11.length c0_11, .slice A0_12 l0_12.length c0_12] 32 (0, 0)) (by (with_reducible repeat (first | refine blk_drewN ?_ _ | refine blk_drew ?_ | refine blk_alloc ?_ _)); exact BK480.out)) : gb481 ≠ gb480)); clear BK480; clear HB; have BK480 := n0_; have HB := n1_; have BK481 := n2_; have GW481 := n3_; have GE481 := n4_; have NB480_481 := n5_; have NB481_480 := n6_; clear n0_ n1_ n2_ n3_ n4_ n5_ n6_; clear hb hbox hg))
 (try simp only [Act.put, List.setIfInBounds_toArray, List.set_cons_zero, List.set_cons_succ])
 go_cut [27] (fun v27 wc => ∃ (kq : Nat) (x27_2 : Bool), v27 = .bool x27_2 ∧ Aside0 (ether_Answers.j0 kq x27_2 a0_0 a0_1 l0_2 a0_3 a0_4 a0_5 l0_6 a0_7 a0_8 l0_9 l0_10 l0_11 l0_12 a1_0 a1_1 l1_2 a1_3 a1_4 a1_5 l1_6 a1_7 a1_8 l1_9 l1_10 l1_11 l1_12 = some r) ∧ Aside0 (kq ≤ k) ∧ Aside0 (wc.heap[gb480]? = some (.cells #[.int .u8 a0_0, .int .u16 a0_1, (.slice A0_2 l0_2.length c0_2), .int .u16 a0_3, .int .u8 a0_4, .int .u8 a0_5, (.slice A0_6 l0_6.length c0_6), .int .u16 a0_7, .int .u32 a0_8, (.slice A0_9 l0_9.length c0_9), (.slice A0_10 l0_10.length c0_10), (.slice A0_11 l0_11.length c0_11), (.slice A0_12 l0_12.length c0_12)] 32 (0, 0))) ∧ Aside0 (wc.heap[gb481]? = some (.cells #[.int .u8 a1_0, .int .u16 a1_1, (.slice A1_2 l1_2.length c1_2), .int .u16 a1_3, .int .u8 a1_4, .int .u8 a1_5, (.slice A1_6 l1_6.length c1_6), .int .u16 a1_7, .int .u32 a1_8, (.slice A1_9 l1_9.length c1_9), (.slice A1_10 l1_10.length c1_10), (.slice A1_11 l1_11.length c1_11), (.slice A1_12 l1_12.length c1_12)] 32 (0, 0))) ∧ Aside0 (Below w.heap.size w wc))
 case first =>
  have H := HC3.out
  clear HC3
  by_cases c6 : a0_0 = 7
  · rw [if_pos c6] at H
    have c6b0 : (a0_0 == 7) = true := beq_iff_eq.mpr c6
    have c6b1 : (a0_0 != 7) = false := bne_eq_false_iff_eq.mpr c6
    clear c6
    (first | rw [c6b0] | (simp only [i64_w, i32_w]; rw [c6b0]) | skip)
    by_cases c7 : a1_0 = 9
    · rw [if_pos c7] at H
      have c7b0 : (a1_0 == 9) = true := beq_iff_eq.mpr c7
      have c7b1 : (a1_0 != 9) = false := bne_eq_false_iff_eq.mpr c7
      clear c7
      have H' := Aside0.mk H
      clear H
      have hnb8 := NB480_481.out
      have hnc8 := NB481_480.out
      obtain ⟨⟨hcz9_0, hcz9_1, hcz9_2, hcz9_3, hcz9_4, hcz9_5, hcz9_6, hcz9_7, hcz9_8, hcz9_9, hcz9_10, hcz9_11, hcz9_12⟩, hfz9_0, hfz9_1, hfz9_2, hfz9_3, hfz9_4, hfz9_5, hfz9_6, hfz9_7, hfz9_8, hfz9_9, hfz9_10, hfz9_11, hfz9_12⟩ := cz13 BK480.out
      obtain ⟨⟨hcz10_0, hcz10_1, hcz10_2, hcz10_3, hcz10_4, hcz10_5, hcz10_6, hcz10_7, hcz10_8, hcz10_9, hcz10_10, hcz10_11, hcz10_12⟩, hfz10_0, hfz10_1, hfz10_2, hfz10_3, hfz10_4, hfz10_5, hfz10_6, hfz10_7, hfz10_8, hfz10_9, hfz10_10, hfz10_11, hfz10_12⟩ := cz13 BK481.out
      go_wp2
      go_meet
      case rel => exact ⟨_, (!true), (by first | rfl | (simp; done) | (simp [*]; done)), H', ⟨by first | omega | exact Nat.le_refl _⟩, ⟨by (with_reducible repeat (first | refine blk_drewN ?_ _ | refine blk_drew ?_ | refine blk_alloc ?_ _)); exact BK480.out⟩, ⟨by (with_reducible repeat (first | refine blk_drewN ?_ _ | refine blk_drew ?_ | refine blk_alloc ?_ _)); exact BK481.out⟩, ⟨by repeat (first | (with_reducible first | exact HB.out | apply below_alloc | apply pw_below_drewN | apply below_drew1 | refine below_set ?_ GE480.out | refine below_set ?_ GE481.out) | exact HB.out)⟩⟩
    · rw [if_neg c7] at H
      have c7b0 : (a1_0 == 9) = false := beq_eq_false_iff_ne.mpr c7
      have c7b1 : (a1_0 != 9) = true := bne_iff_ne.mpr c7
      by_cases c11 : a0_0 = 101
      · rw [if_pos c11] at H
        have c11b0 : (a0_0 == 101) = true := beq_iff_eq.mpr c11
        have c11b1 : (a0_0 != 101) = false := bne_eq_false_iff_eq.mpr c11
        clear c11
        have H' := Aside0.mk H
        clear H
        have hnb12 := NB480_481.out
        have hnc12 := NB481_480.out
        obtain ⟨⟨hcz13_0, hcz13_1, hcz13_2, hcz13_3, hcz13_4, hcz13_5, hcz13_6, hcz13_7, hcz13_8, hcz13_9, hcz13_10, hcz13_11, hcz13_12⟩, hfz13_0, hfz13_1, hfz13_2, hfz13_3, hfz13_4, hfz13_5, hfz13_6, hfz13_7, hfz13_8, hfz13_9, hfz13_10, hfz13_11, hfz13_12⟩ := cz13 BK480.out
        obtain ⟨⟨hcz14_0, hcz14_1, hcz14_2, hcz14_3, hcz14_4, hcz14_5, hcz14_6, hcz14_7, hcz14_8, hcz14_9, hcz14_10, hcz14_11, hcz14_12⟩, hfz14_0, hfz14_1, hfz14_2, hfz14_3, hfz14_4, hfz14_5, hfz14_6, hfz14_7, hfz14_8, hfz14_9, hfz14_10, hfz14_11, hfz14_12⟩ := cz13 BK481.out
        go_wp2
        go_meet
        case rel => exact ⟨_, (!(a1_0 == 25)), (by first | rfl | (simp; done) | (simp [*]; done)), H', ⟨by first | omega | exact Nat.le_refl _⟩, ⟨by (with_reducible repeat (first | refine blk_drewN ?_ _ | refine blk_drew ?_ | refine blk_alloc ?_ _)); exact BK480.out⟩, ⟨by (with_reducible repeat (first | refine blk_drewN ?_ _ | refine blk_drew ?_ | refine blk_alloc ?_ _)); exact BK481.out⟩, ⟨by repeat (first | (with_reducible first | exact HB.out | apply below_alloc | apply pw_below_drewN | apply below_drew1 | refine below_set ?_ GE480.out | refine below_set ?_ GE481.out) | exact HB.out)⟩⟩
      · rw [if_neg c11] at H
        have c11b0 : (a0_0 == 101) = false := beq_eq_false_iff_ne.mpr c11
        have c11b1 : (a0_0 != 101) = true := bne_iff_ne.mpr c11
        have H' := Aside0.mk H
        clear H
        have hnb15 := NB480_481.out
        have hnc15 := NB481_480.out
        obtain ⟨⟨hcz16_0, hcz16_1, hcz16_2, hcz16_3, hcz16_4, hcz16_5, hcz16_6, hcz16_7, hcz16_8, hcz16_9, hcz16_10, hcz16_11, hcz16_12⟩, hfz16_0, hfz16_1, hfz16_2, hfz16_3, hfz16_4, hfz16_5, hfz16_6, hfz16_7, hfz16_8, hfz16_9, hfz16_10, hfz16_11, hfz16_12⟩ := cz13 BK480.out
        obtain ⟨⟨hcz17_0, hcz17_1, hcz17_2, hcz17_3, hcz17_4, hcz17_5, hcz17_6, hcz17_7, hcz17_8, hcz17_9, hcz17_10, hcz17_11, hcz17_12⟩, hfz17_0, hfz17_1, hfz17_2, hfz17_3, hfz17_4, hfz17_5, hfz17_6, hfz17_7, hfz17_8, hfz17_9, hfz17_10, hfz17_11, hfz17_12⟩ := cz13 BK481.out
        go_wp2
        go_meet
        case rel => exact ⟨_, (!false), (by first | rfl | (simp; done) | (simp [*]; done)), H', ⟨by first | omega | exact Nat.le_refl _⟩, ⟨by (with_reducible repeat (first | refine blk_drewN ?_ _ | refine blk_drew ?_ | refine blk_alloc ?_ _)); exact BK480.out⟩, ⟨by (with_reducible repeat (first | refine blk_drewN ?_ _ | refine blk_drew ?_ | refine blk_alloc ?_ _)); exact BK481.out⟩, ⟨by repeat (first | (with_reducible first | exact HB.out | apply below_alloc | apply pw_below_drewN | apply below_drew1 | refine below_set ?_ GE480.out | refine below_set ?_ GE481.out) | exact HB.out)⟩⟩
  · rw [if_neg c6] at H
    have c6b0 : (a0_0 == 7) = false := beq_eq_false_iff_ne.mpr c6
    have c6b1 : (a0_0 != 7) = true := bne_iff_ne.mpr c6
    (first | rw [c6b0] | (simp only [i64_w, i32_w]; rw [c6b0]) | skip)
    by_cases c18 : a0_0 = 101
    · rw [if_pos c18] at H
      have c18b0 : (a0_0 == 101) = true := beq_iff_eq.mpr c18
      have c18b1 : (a0_0 != 101) = false := bne_eq_false_iff_eq.mpr c18
      clear c18
      have H' := Aside0.mk H
      clear H
      have hnb19 := NB480_481.out
      have hnc19 := NB481_480.out
      obtain ⟨⟨hcz20_0, hcz20_1, hcz20_2, hcz20_3, hcz20_4, hcz20_5, hcz20_6, hcz20_7, hcz20_8, hcz20_9, hcz20_10, hcz20_11, hcz20_12⟩, hfz20_0, hfz20_1, hfz20_2, hfz20_3, hfz20_4, hfz20_5, hfz20_6, hfz20_7, hfz20_8, hfz20_9, hfz20_10, hfz20_11, hfz20_12⟩ := cz13 BK480.out
      obtain ⟨⟨hcz21_0, hcz21_1, hcz21_2, hcz21_3, hcz21_4, hcz21_5, hcz21_6, hcz21_7, hcz21_8, hcz21_9, hcz21_10, hcz21_11, hcz21_12⟩, hfz21_0, hfz21_1, hfz21_2, hfz21_3, hfz21_4, hfz21_5, hfz21_6, hfz21_7, hfz21_8, hfz21_9, hfz21_10, hfz21_11, hfz21_12⟩ := cz13 BK481.out
      go_wp2
      go_meet
      case rel => exact ⟨_, (!(a1_0 == 25)), (by first | rfl | (simp; done) | (simp [*]; done)), H', ⟨by first | omega | exact Nat.le_refl _⟩, ⟨by (with_reducible repeat (first | refine blk_drewN ?_ _ | refine blk_drew ?_ | refine blk_alloc ?_ _)); exact BK480.out⟩, ⟨by (with_reducible repeat (first | refine blk_drewN ?_ _ | refine blk_drew ?_ | refine blk_alloc ?_ _)); exact BK481.out⟩, ⟨by repeat (first | (with_reducible first | exact HB.out | apply below_alloc | apply pw_below_drewN | apply below_drew1 | refine below_set ?_ GE480.out | refine below_set ?_ GE481.out) | exact HB.out)⟩⟩
    · rw [if_neg c18] at H
      have c18b0 : (a0_0 == 101) = false := beq_eq_false_iff_ne.mpr c18
      have c18b1 : (a0_0 != 101) = true := bne_iff_ne.mpr c18
      have H' := Aside0.mk H
      clear H
      have hnb22 := NB480_481.out
      have hnc22 := NB481_480.out
      obtain ⟨⟨hcz23_0, hcz23_1, hcz23_2, hcz23_3, hcz23_4, hcz23_5, hcz23_6, hcz23_7, hcz23_8, hcz23_9, hcz23_10, hcz23_11, hcz23_12⟩, hfz23_0, hfz23_1, hfz23_2, hfz23_3, hfz23_4, hfz23_5, hfz23_6, hfz23_7, hfz23_8, hfz23_9, hfz23_10, hfz23_11, hfz23_12⟩ := cz13 BK480.out
      go_wp2
      go_meet
      case rel => exact ⟨_, (!false), (by first | rfl | (simp; done) | (simp [*]; done)), H', ⟨by first | omega | exact Nat.le_refl _⟩, ⟨by (with_reducible repeat (first | refine blk_drewN ?_ _ | refine blk_drew ?_ | refine blk_alloc ?_ _)); exact BK480.out⟩, ⟨by (with_reducible repeat (first | refine blk_drewN ?_ _ | refine blk_drew ?_ | refine blk_alloc ?_ _)); exact BK481.out⟩, ⟨by repeat (first | (with_reducible first | exact HB.out | apply below_alloc | apply pw_below_drewN | apply below_drew1 | refine below_set ?_ GE480.out | refine below_set ?_ GE481.out) | exact HB.out)⟩⟩
 case rest =>
  clear HC3
  try clear c1
  try clear c2
  try clear p2
  try clear c6
  try clear c6b0
  try clear c6b1
  try clear c7
  try clear c7b0
  try clear c7b1
  try clear c8
  try clear c11
  try clear c11b0
  try clear c11b1
  try clear c12
  try clear c15
  try clear c16
  try clear c18
  try clear c18b0
  try clear c18b1
  try clear c19
  try clear c22
  try clear hcz10_0 hcz10_1 hcz10_10 hcz10_11 hcz10_12 hcz10_2 hcz10_3 hcz10_4 hcz10_5 hcz10_6 hcz10_7 hcz10_8 hcz10_9 hfz10_0 hfz10_1 hfz10_10 hfz10_11 hfz10_12 hfz10_2 hfz10_3 hfz10_4 hfz10_5 hfz10_6 hfz10_7 hfz10_8 hfz10_9
  try clear hcz13_0 hcz13_1 hcz13_10 hcz13_11 hcz13_12 hcz13_2 hcz13_3 hcz13_4 hcz13_5 hcz13_6 hcz13_7 hcz13_8 hcz13_9 hfz13_0 hfz13_1 hfz13_10 hfz13_11 hfz13_12 hfz13_2 hfz13_3 hfz13_4 hfz13_5 hfz13_6 hfz13_7 hfz13_8 hfz13_9
  try clear hcz14_0 hcz14_1 hcz14_10 hcz14_11 hcz14_12 hcz14_2 hcz14_3 hcz14_4 hcz14_5 hcz14_6 hcz14_7 hcz14_8 hcz14_9 hfz14_0 hfz14_1 hfz14_10 hfz14_11 hfz14_12 hfz14_2 hfz14_3 hfz14_4 hfz14_5 hfz14_6 hfz14_7 hfz14_8 hfz14_9
  try clear hcz16_0 hcz16_1 hcz16_10 hcz16_11 hcz16_12 hcz16_2 hcz16_3 hcz16_4 hcz16_5 hcz16_6 hcz16_7 hcz16_8 hcz16_9 hfz16_0 hfz16_1 hfz16_10 hfz16_11 hfz16_12 hfz16_2 hfz16_3 hfz16_4 hfz16_5 hfz16_6 hfz16_7 hfz16_8 hfz16_9
  try clear hcz17_0 hcz17_1 hcz17_10 hcz17_11 hcz17_12 hcz17_2 hcz17_3 hcz17_4 hcz17_5 hcz17_6 hcz17_7 hcz17_8 hcz17_9 hfz17_0 hfz17_1 hfz17_10 hfz17_11 hfz17_12 hfz17_2 hfz17_3 hfz17_4 hfz17_5 hfz17_6 hfz17_7 hfz17_8 hfz17_9
  try clear hcz20_0 hcz20_1 hcz20_10 hcz20_11 hcz20_12 hcz20_2 hcz20_3 hcz20_4 hcz20_5 hcz20_6 hcz20_7 hcz20_8 hcz20_9 hfz20_0 hfz20_1 hfz20_10 hfz20_11 hfz20_12 hfz20_2 hfz20_3 hfz20_4 hfz20_5 hfz20_6 hfz20_7 hfz20_8 hfz20_9
  try clear hcz21_0 hcz21_1 hcz21_10 hcz21_11 hcz21_12 hcz21_2 hcz21_3 hcz21_4 hcz21_5 hcz21_6 hcz21_7 hcz21_8 hcz21_9 hfz21_0 hfz21_1 hfz21_10 hfz21_11 hfz21_12 hfz21_2 hfz21_3 hfz21_4 hfz21_5 hfz21_6 hfz21_7 hfz21_8 hfz21_9
  try clear hcz23_0 hcz23_1 hcz23_10 hcz23_11 hcz23_12 hcz23_2 hcz23_3 hcz23_4 hcz23_5 hcz23_6 hcz23_7 hcz23_8 hcz23_9 hfz23_0 hfz23_1 hfz23_10 hfz23_11 hfz23_12 hfz23_2 hfz23_3 hfz23_4 hfz23_5 hfz23_6 hfz23_7 hfz23_8 hfz23_9
  try clear hcz9_0 hcz9_1 hcz9_10 hcz9_11 hcz9_12 hcz9_2 hcz9_3 hcz9_4 hcz9_5 hcz9_6 hcz9_7 hcz9_8 hcz9_9 hfz9_0 hfz9_1 hfz9_10 hfz9_11 hfz9_12 hfz9_2 hfz9_3 hfz9_4 hfz9_5 hfz9_6 hfz9_7 hfz9_8 hfz9_9
  obtain ⟨kq, x27_2, rfl, HA, HJ2, BK480, BK481, HB⟩ := hcut
  cases kq with
  | zero => exact absurd HA.out (by simp [ether_Answers.j0])
  | succ kj2 =>
   have H := HA.out
   clear HA
   simp only [ether_Answers.j0] at H
   by_cases c24 : x27_2 = true
   · subst c24
     have H1 : (some false) = some r := by rw [if_pos rfl] at H; exact H
     clear H
     have H := H1
     clear H1
     obtain rfl := Option.some.inj H
     go_wp2
     go_ret
     exact ⟨by first | rfl | (simp [errW_none, errW_some] <;> rfl) | (simp [*, errW_none, errW_some] <;> rfl), by repeat (first | (with_reducible first | exact HB.out | apply below_alloc | apply pw_below_drewN | apply below_drew1 | refine below_set ?_ GE480.out | refine below_set ?_ GE481.out) | exact HB.out)⟩
   · replace c24 := Bool.eq_false_iff.mpr c24
     subst c24
     have H1 : ((tags_Find.f l1_2 259).bind fun bt482 => (if bt482.2 = true then ((tags_Find.f l0_2 259).bind fun bt486 => (if bt486.2 = true then ((bytes_Equal.f bt486.1 bt482.1).bind fun t490 => (some t490)) else (some false))) else (some true))) = some r := by rw [if_neg (show ¬ (false = true) by decide)] at H; exact H
     clear H
     have H := H1
     clear H1
     replace H := Option.bind_eq_some_iff.mp H
     obtain ⟨⟨t482, t483⟩, A250, H⟩ := H
     replace H : (if t483 = true then ((tags_Find.f l0_2 259).bind fun bt486 => (if bt486.2 = true then ((bytes_Equal.f bt486.1 t482).bind fun t490 => (some t490)) else (some false))) else (some true)) = some r := H
     have A25 := Aside0.mk A250
     clear A250
     by_cases c26 : t483 = true
     · subst c26
       have H1 : ((tags_Find.f l0_2 259).bind fun bt486 => (if bt486.2 = true then ((bytes_Equal.f bt486.1 t482).bind fun t490 => (some t490)) else (some false))) = some r := by rw [if_pos rfl] at H; exact H
       clear H
       have H := H1
       clear H1
       replace H := Option.bind_eq_some_iff.mp H
       obtain ⟨⟨t486, t487⟩, A270, H⟩ := H
       replace H : (if t487 = true then ((bytes_Equal.f t486 t482).bind fun t490 => (some t490)) else (some false)) = some r := H
       have A27 := Aside0.mk A270
       clear A270
       by_cases c28 : t487 = true
       · subst c28
         have H1 : ((bytes_Equal.f t486 t482).bind fun t490 => (some t490)) = some r := by rw [if_pos rfl] at H; exact H
         clear H
         have H := H1
         clear H1
         replace H := Option.bind_eq_some_iff.mp H
         obtain ⟨t490, A290, H⟩ := H
         replace H : (some t490) = some r := H
         have A29 := Aside0.mk A290
         clear A290
         obtain rfl := Option.some.inj H
         have hnb30 := NB481_480.out
         have hnc30 := NB480_481.out
         obtain ⟨⟨hcz31_0, hcz31_1, hcz31_2, hcz31_3, hcz31_4, hcz31_5, hcz31_6, hcz31_7, hcz31_8, hcz31_9, hcz31_10, hcz31_11, hcz31_12⟩, hfz31_0, hfz31_1, hfz31_2, hfz31_3, hfz31_4, hfz31_5, hfz31_6, hfz31_7, hfz31_8, hfz31_9, hfz31_10, hfz31_11, hfz31_12⟩ := cz13 BK481.out
         go_wp2_with (first | ((with_reducible refine gate_callee (f := 36) rfl ?_); refine goesL_ (some 31) rfl rfl Tryd.func36 (by kernel_rfl) rfl #[.slice A1_2 l1_2.length c1_2, .int .u16 259] rfl (by (try simp only [List.map_toArray, List.map_cons, List.map_nil]); first | done | rfl | (simp only [List.length_drop, List.length_take]; rfl)) ?_; (with_reducible refine (tags_Find.calls _ _ l1_2 259 t482 true _ ?side1 ?side2 A25.out).mono ?_); (case side1 => repeat (first | exact (Kd.C_below HR1_2.out HB.out) | (with_reducible refine Kd.C_alloc ?_ _) | (with_reducible refine Kd.C_drewN ?_ _) | (with_reducible refine Kd.C_drew ?_))); (case side2 => exact HC1_2.out); rintro e w32 ⟨v484, rfl, ho0, hb⟩; refine ⟨_, rfl, ?_⟩; have n0_ := Aside0.mk (Kd.R_lower ho0 (below_size (by repeat (first | (with_reducible first | exact HB.out | apply below_alloc | apply pw_below_drewN | apply below_drew1 | refine below_set ?_ GE480.out | refine below_set ?_ GE481.out) | exact HB.out)))); have n1_ := Aside0.mk (blk_below (g := gb480) (o := .cells #[.int .u8 a0_0, .int .u16 a0_1, .slice A0_2 l0_2.length c0_2, .int .u16 a0_3, .int .u8 a0_4, .int .u8 a0_5, .slice A0_6 l0_6.length c0_6, .int .u16 a0_7, .int .u32 a0_8, .slice A0_9 l0_9.length c0_9, .slice A0_10 l0_10.length c0_10, .slice A0_11 l0_11.length c0_11, .slice A0_12 l0_12.length c0_12] 32 (0, 0)) (by (with_reducible repeat (first | refine blk_drewN ?_ _ | refine blk_drew ?_ | refine blk_alloc ?_ _)); exact BK480.out) hb); have n2_ := Aside0.mk (blk_below (g := gb481) (o := .cells #[.int .u8 a1_0, .int .u16 a1_1, .slice A1_2 l1_2.length c1_2, .int .u16 a1_3, .int .u8 a1_4, .int .u8 a1_5, .slice A1_6 l1_6.length c1_6, .int .u16 a1_7, .int .u32 a1_8, .slice A1_9 l1_9.length c1_9, .slice A1_10 l1_10.length c1_10, .slice A1_11 l1_11.length c1_11, .slice A1_12 l1_12.length c1_12] 32 (0, 0)) (by (with_reducible repeat (first | refine blk_drewN ?_ _ | refine blk_drew ?_ | refine blk_alloc ?_ _)); exact BK481.out) hb); have n3_ := Aside0.mk (below_step (by repeat (first | (with_reducible first | exact HB.out | apply below_alloc | apply pw_below_drewN | apply below_drew1 | refine below_set ?_ GE480.out | refine below_set ?_ GE481.out) | exact HB.out)) hb); clear BK480; clear BK481; clear HB; have HO485 := n0_; have BK480 := n1_; have BK481 := n2_; have HB := n3_; clear n0_ n1_ n2_ n3_; (try clear hb); (try clear hb2); (try clear hk); (try clear hi); (try clear ho0); obtain ⟨⟨hcz33_0, hcz33_1, hcz33_2, hcz33_3, hcz33_4, hcz33_5, hcz33_6, hcz33_7, hcz33_8, hcz33_9, hcz33_10, hcz33_11, hcz33_12⟩, hfz33_0, hfz33_1, hfz33_2, hfz33_3, hfz33_4, hfz33_5, hfz33_6, hfz33_7, hfz33_8, hfz33_9, hfz33_10, hfz33_11, hfz33_12⟩ := cz13 BK480.out) | ((with_reducible refine gate_callee (f := 36) rfl ?_); refine goesL_ (some 39) rfl rfl Tryd.func36 (by kernel_rfl) rfl #[.slice A0_2 l0_2.length c0_2, .int .u16 259] rfl (by (try simp only [List.map_toArray, List.map_cons, List.map_nil]); first | done | rfl | (simp only [List.length_drop, List.length_take]; rfl)) ?_; (with_reducible refine (tags_Find.calls _ _ l0_2 259 t486 true _ ?side1 ?side2 A27.out).mono ?_); (case side1 => repeat (first | exact (Kd.C_below HR0_2.out HB.out) | (with_reducible refine Kd.C_alloc ?_ _) | (with_reducible refine Kd.C_drewN ?_ _) | (with_reducible refine Kd.C_drew ?_))); (case side2 => exact HC0_2.out); rintro e w34 ⟨v488, rfl, ho0, hb⟩; refine ⟨_, rfl, ?_⟩; have n0_ := Aside0.mk (Kd.R_elder' (by (with_reducible repeat (first | apply Kd.R_alloc | apply Kd.R_drewN | apply Kd.R_drew)); exact HO485.out) (Kd.R_base ho0) hb); have n1_ := Aside0.mk (Kd.R_lower (Kd.R_new' ho0 (Kd.R_lt (by (with_reducible repeat (first | apply Kd.R_alloc | apply Kd.R_drewN | apply Kd.R_drew)); exact HO485.out))) (below_size (by repeat (first | (with_reducible first | exact HB.out | apply below_alloc | apply pw_below_drewN | apply below_drew1 | refine below_set ?_ GE480.out | refine below_set ?_ GE481.out) | exact HB.out)))); have n2_ := Aside0.mk (blk_below (g := gb480) (o := .cells #[.int .u8 a0_0, .int .u16 a0_1, .slice A0_2 l0_2.length c0_2, .int .u16 a0_3, .int .u8 a0_4, .int .u8 a0_5, .slice A0_6 l0_6.length c0_6, .int .u16 a0_7, .int .u32 a0_8, .slice A0_9 l0_9.length c0_9, .slice A0_10 l0_10.length c0_10, .slice A0_11 l0_11.length c0_11, .slice A0_12 l0_12.length c0_12] 32 (0, 0)) (by (with_reducible repeat (first | refine blk_drewN ?_ _ | refine blk_drew ?_ | refine blk_alloc ?_ _)); exact BK480.out) hb); have n3_ := Aside0.mk (blk_below (g := gb481) (o := .cells #[.int .u8 a1_0, .int .u16 a1_1, .slice A1_2 l1_2.length c1_2, .int .u16 a1_3, .int .u8 a1_4, .int .u8 a1_5, .slice A1_6 l1_6.length c1_6, .int .u16 a1_7, .int .u32 a1_8, .slice A1_9 l1_9.length c1_9, .slice A1_10 l1_10.length c1_10, .slice A1_11 l1_11.length c1_11, .slice A1_12 l1_12.length c1_12] 32 (0, 0)) (by (with_reducible repeat (first | refine blk_drewN ?_ _ | refine blk_drew ?_ | refine blk_alloc ?_ _)); exact BK481.out) hb); have n4_ := Aside0.mk (below_step (by repeat (first | (with_reducible first | exact HB.out | apply below_alloc | apply pw_below_drewN | apply below_drew1 | refine below_set ?_ GE480.out | refine below_set ?_ GE481.out) | exact HB.out)) hb); clear HO485; clear BK480; clear BK481; clear HB; have HO485 := n0_; have HO489 := n1_; have BK480 := n2_; have BK481 := n3_; have HB := n4_; clear n0_ n1_ n2_ n3_ n4_; (try clear hb); (try clear hb2); (try clear hk); (try clear hi); (try clear ho0); obtain ⟨Ao35, co35, eo35⟩ := Kd.R_slice HO489.out; subst eo35; obtain ⟨Ao36, co36, eo36⟩ := Kd.R_slice HO485.out; subst eo36) | (go_at_call 37; (with_reducible refine (bytes_Equal.calls _ _ t486 _ _ t482 t490 _ ?side1 ?side2 ?side3 ?side4 A29.out).mono ?_); (case side1 => repeat (first | exact (Kd.R_reads' HO489.out).2.2 | (with_reducible refine Kd.C_alloc ?_ _) | (with_reducible refine Kd.C_drewN ?_ _) | (with_reducible refine Kd.C_drew ?_))); (case side2 => exact (Kd.R_reads' HO489.out).2.1); (case side3 => repeat (first | exact (Kd.R_reads' HO485.out).2.2 | (with_reducible refine Kd.C_alloc ?_ _) | (with_reducible refine Kd.C_drewN ?_ _) | (with_reducible refine Kd.C_drew ?_))); (case side4 => exact (Kd.R_reads' HO485.out).2.1); rintro e w' ⟨rfl, ⟨nd, rfl⟩⟩))
         go_ret
         exact ⟨by first | rfl | (simp [errW_none, errW_some] <;> rfl) | (simp [*, errW_none, errW_some] <;> rfl), by repeat (first | (with_reducible first | exact HB.out | apply below_alloc | apply pw_below_drewN | apply below_drew1 | refine below_set ?_ GE480.out | refine below_set ?_ GE481.out) | exact HB.out)⟩
       · replace c28 := Bool.eq_false_iff.mpr c28
         subst c28
         have H1 : (some false) = some r := by rw [if_neg (show ¬ (false = true) by decide)] at H; exact H
         clear H
         have H := H1
         clear H1
         obtain rfl := Option.some.inj H
         have hnb37 := NB481_480.out
         have hnc37 := NB480_481.out
         obtain ⟨⟨hcz38_0, hcz38_1, hcz38_2, hcz38_3, hcz38_4, hcz38_5, hcz38_6, hcz38_7, hcz38_8, hcz38_9, hcz38_10, hcz38_11, hcz38_12⟩, hfz38_0, hfz38_1, hfz38_2, hfz38_3, hfz38_4, hfz38_5, hfz38_6, hfz38_7, hfz38_8, hfz38_9, hfz38_10, hfz38_11, hfz38_12⟩ := cz13 BK481.out
         go_wp2_with (first | ((with_reducible refine gate_callee (f := 36) rfl ?_); refine goesL_ (some 31) rfl rfl Tryd.func36 (by kernel_rfl) rfl #[.slice A1_2 l1_2.length c1_2, .int .u16 259] rfl (by (try simp only [List.map_toArray, List.map_cons, List.map_nil]); first | done | rfl | (simp only [List.length_drop, List.length_take]; rfl)) ?_; (with_reducible refine (tags_Find.calls _ _ l1_2 259 t482 true _ ?side1 ?side2 A25.out).mono ?_); (case side1 => repeat (first | exact (Kd.C_below HR1_2.out HB.out) | (with_reducible refine Kd.C_alloc ?_ _) | (with_reducible refine Kd.C_drewN ?_ _) | (with_reducible refine Kd.C_drew ?_))); (case side2 => exact HC1_2.out); rintro e w39 ⟨v484, rfl, ho0, hb⟩; refine ⟨_, rfl, ?_⟩; have n0_ := Aside0.mk (Kd.R_lower ho0 (below_size (by repeat (first | (with_reducible first | exact HB.out | apply below_alloc | apply pw_below_drewN | apply below_drew1 | refine below_set ?_ GE480.out | refine below_set ?_ GE481.out) | exact HB.out)))); have n1_ := Aside0.mk (blk_below (g := gb480) (o := .cells #[.int .u8 a0_0, .int .u16 a0_1, .slice A0_2 l0_2.length c0_2, .int .u16 a0_3, .int .u8 a0_4, .int .u8 a0_5, .slice A0_6 l0_6.length c0_6, .int .u16 a0_7, .int .u32 a0_8, .slice A0_9 l0_9.length c0_9, .slice A0_10 l0_10.length c0_10, .slice A0_11 l0_11.length c0_11, .slice A0_12 l0_12.length c0_12] 32 (0, 0)) (by (with_reducible repeat (first | refine blk_drewN ?_ _ | refine blk_drew ?_ | refine blk_alloc ?_ _)); exact BK480.out) hb); have n2_ := Aside0.mk (blk_below (g := gb481) (o := .cells #[.int .u8 a1_0, .int .u16 a1_1, .slice A1_2 l1_2.length c1_2, .int .u16 a1_3, .int .u8 a1_4, .int .u8 a1_5, .slice A1_6 l1_6.length c1_6, .int .u16 a1_7, .int .u32 a1_8, .slice A1_9 l1_9.length c1_9, .slice A1_10 l1_10.length c1_10, .slice A1_11 l1_11.length c1_11, .slice A1_12 l1_12.length c1_12] 32 (0, 0)) (by (with_reducible repeat (first | refine blk_drewN ?_ _ | refine blk_drew ?_ | refine blk_alloc ?_ _)); exact BK481.out) hb); have n3_ := Aside0.mk (below_step (by repeat (first | (with_reducible first | exact HB.out | apply below_alloc | apply pw_below_drewN | apply below_drew1 | refine below_set ?_ GE480.out | refine below_set ?_ GE481.out) | exact HB.out)) hb); clear BK480; clear BK481; clear HB; have HO485 := n0_; have BK480 := n1_; have BK481 := n2_; have HB := n3_; clear n0_ n1_ n2_ n3_; (try clear hb); (try clear hb2); (try clear hk); (try clear hi); (try clear ho0); obtain ⟨⟨hcz40_0, hcz40_1, hcz40_2, hcz40_3, hcz40_4, hcz40_5, hcz40_6, hcz40_7, hcz40_8, hcz40_9, hcz40_10, hcz40_11, hcz40_12⟩, hfz40_0, hfz40_1, hfz40_2, hfz40_3, hfz40_4, hfz40_5, hfz40_6, hfz40_7, hfz40_8, hfz40_9, hfz40_10, hfz40_11, hfz40_12⟩ := cz13 BK480.out) | ((with_reducible refine gate_callee (f := 36) rfl ?_); refine goesL_ (some 39) rfl rfl Tryd.func36 (by kernel_rfl) rfl #[.slice A0_2 l0_2.length c0_2, .int .u16 259] rfl (by (try simp only [List.map_toArray, List.map_cons, List.map_nil]); first | done | rfl | (simp only [List.length_drop, List.length_take]; rfl)) ?_; (with_reducible refine (tags_Find.calls _ _ l0_2 259 t486 false _ ?side1 ?side2 A27.out).mono ?_); (case side1 => repeat (first | exact (Kd.C_below HR0_2.out HB.out) | (with_reducible refine Kd.C_alloc ?_ _) | (with_reducible refine Kd.C_drewN ?_ _) | (with_reducible refine Kd.C_drew ?_))); (case side2 => exact HC0_2.out); rintro e w41 ⟨v488, rfl, ho0, hb⟩; refine ⟨_, rfl, ?_⟩; have n0_ := Aside0.mk (Kd.R_elder' (by (with_reducible repeat (first | apply Kd.R_alloc | apply Kd.R_drewN | apply Kd.R_drew)); exact HO485.out) (Kd.R_base ho0) hb); have n1_ := Aside0.mk (Kd.R_lower (Kd.R_new' ho0 (Kd.R_lt (by (with_reducible repeat (first | apply Kd.R_alloc | apply Kd.R_drewN | apply Kd.R_drew)); exact HO485.out))) (below_size (by repeat (first | (with_reducible first | exact HB.out | apply below_alloc | apply pw_below_drewN | apply below_drew1 | refine below_set ?_ GE480.out | refine below_set ?_ GE481.out) | exact HB.out)))); have n2_ := Aside0.mk (blk_below (g := gb480) (o := .cells #[.int .u8 a0_0, .int .u16 a0_1, .slice A0_2 l0_2.length c0_2, .int .u16 a0_3, .int .u8 a0_4, .int .u8 a0_5, .slice A0_6 l0_6.length c0_6, .int .u16 a0_7, .int .u32 a0_8, .slice A0_9 l0_9.length c0_9, .slice A0_10 l0_10.length c0_10, .slice A0_11 l0_11.length c0_11, .slice A0_12 l0_12.length c0_12] 32 (0, 0)) (by (with_reducible repeat (first | refine blk_drewN ?_ _ | refine blk_drew ?_ | refine blk_alloc ?_ _)); exact BK480.out) hb); have n3_ := Aside0.mk (blk_below (g := gb481) (o := .cells #[.int .u8 a1_0, .int .u16 a1_1, .slice A1_2 l1_2.length c1_2, .int .u16 a1_3, .int .u8 a1_4, .int .u8 a1_5, .slice A1_6 l1_6.length c1_6, .int .u16 a1_7, .int .u32 a1_8, .slice A1_9 l1_9.length c1_9, .slice A1_10 l1_10.length c1_10, .slice A1_11 l1_11.length c1_11, .slice A1_12 l1_12.length c1_12] 32 (0, 0)) (by (with_reducible repeat (first | refine blk_drewN ?_ _ | refine blk_drew ?_ | refine blk_alloc ?_ _)); exact BK481.out) hb); have n4_ := Aside0.mk (below_step (by repeat (first | (with_reducible first | exact HB.out | apply below_alloc | apply pw_below_drewN | apply below_drew1 | refine below_set ?_ GE480.out | refine below_set ?_ GE481.out) | exact HB.out)) hb); clear HO485; clear BK480; clear BK481; clear HB; have HO485 := n0_; have HO489 := n1_; have BK480 := n2_; have BK481 := n3_; have HB := n4_; clear n0_ n1_ n2_ n3_ n4_; (try clear hb); (try clear hb2); (try clear hk); (try clear hi); (try clear ho0)))
         go_ret
         exact ⟨by first | rfl | (simp [errW_none, errW_some] <;> rfl) | (simp [*, errW_none, errW_some] <;> rfl), by repeat (first | (with_reducible first | exact HB.out | apply below_alloc | apply pw_below_drewN | apply below_drew1 | refine below_set ?_ GE480.out | refine below_set ?_ GE481.out) | exact HB.out)⟩
     · replace c26 := Bool.eq_false_iff.mpr c26
       subst c26
       have H1 : (some true) = some r := by rw [if_neg (show ¬ (false = true) by decide)] at H; exact H
       clear H
       have H := H1
       clear H1
       obtain rfl := Option.some.inj H
       have hnb42 := NB481_480.out
       have hnc42 := NB480_481.out
       obtain ⟨⟨hcz43_0, hcz43_1, hcz43_2, hcz43_3, hcz43_4, hcz43_5, hcz43_6, hcz43_7, hcz43_8, hcz43_9, hcz43_10, hcz43_11, hcz43_12⟩, hfz43_0, hfz43_1, hfz43_2, hfz43_3, hfz43_4, hfz43_5, hfz43_6, hfz43_7, hfz43_8, hfz43_9, hfz43_10, hfz43_11, hfz43_12⟩ := cz13 BK481.out
       go_wp2_with (first | ((with_reducible refine gate_callee (f := 36) rfl ?_); refine goesL_ (some 31) rfl rfl Tryd.func36 (by kernel_rfl) rfl #[.slice A1_2 l1_2.length c1_2, .int .u16 259] rfl (by (try simp only [List.map_toArray, List.map_cons, List.map_nil]); first | done | rfl | (simp only [List.length_drop, List.length_take]; rfl)) ?_; (with_reducible refine (tags_Find.calls _ _ l1_2 259 t482 false _ ?side1 ?side2 A25.out).mono ?_); (case side1 => repeat (first | exact (Kd.C_below HR1_2.out HB.out) | (with_reducible refine Kd.C_alloc ?_ _) | (with_reducible refine Kd.C_drewN ?_ _) | (with_reducible refine Kd.C_drew ?_))); (case side2 => exact HC1_2.out); rintro e w44 ⟨v484, rfl, ho0, hb⟩; refine ⟨_, rfl, ?_⟩; have n0_ := Aside0.mk (Kd.R_lower ho0 (below_size (by repeat (first | (with_reducible first | exact HB.out | apply below_alloc | apply pw_below_drewN | apply below_drew1 | refine below_set ?_ GE480.out | refine below_set ?_ GE481.out) | exact HB.out)))); have n1_ := Aside0.mk (blk_below (g := gb480) (o := .cells #[.int .u8 a0_0, .int .u16 a0_1, .slice A0_2 l0_2.length c0_2, .int .u16 a0_3, .int .u8 a0_4, .int .u8 a0_5, .slice A0_6 l0_6.length c0_6, .int .u16 a0_7, .int .u32 a0_8, .slice A0_9 l0_9.length c0_9, .slice A0_10 l0_10.length c0_10, .slice A0_11 l0_11.length c0_11, .slice A0_12 l0_12.length c0_12] 32 (0, 0)) (by (with_reducible repeat (first | refine blk_drewN ?_ _ | refine blk_drew ?_ | refine blk_alloc ?_ _)); exact BK480.out) hb); have n2_ := Aside0.mk (blk_below (g := gb481) (o := .cells #[.int .u8 a1_0, .int .u16 a1_1, .slice A1_2 l1_2.length c1_2, .int .u16 a1_3, .int .u8 a1_4, .int .u8 a1_5, .slice A1_6 l1_6.length c1_6, .int .u16 a1_7, .int .u32 a1_8, .slice A1_9 l1_9.length c1_9, .slice A1_10 l1_10.length c1_10, .slice A1_11 l1_11.length c1_11, .slice A1_12 l1_12.length c1_12] 32 (0, 0)) (by (with_reducible repeat (first | refine blk_drewN ?_ _ | refine blk_drew ?_ | refine blk_alloc ?_ _)); exact BK481.out) hb); have n3_ := Aside0.mk (below_step (by repeat (first | (with_reducible first | exact HB.out | apply below_alloc | apply pw_below_drewN | apply below_drew1 | refine below_set ?_ GE480.out | refine below_set ?_ GE481.out) | exact HB.out)) hb); clear BK480; clear BK481; clear HB; have HO485 := n0_; have BK480 := n1_; have BK481 := n2_; have HB := n3_; clear n0_ n1_ n2_ n3_; (try clear hb); (try clear hb2); (try clear hk); (try clear hi); (try clear ho0)))
       go_ret
       exact ⟨by first | rfl | (simp [errW_none, errW_some] <;> rfl) | (simp [*, errW_none, errW_some] <;> rfl), by repeat (first | (with_reducible first | exact HB.out | apply below_alloc | apply pw_below_drewN | apply below_drew1 | refine below_set ?_ GE480.out | refine below_set ?_ GE481.out) | exact HB.out)⟩
end Go.Proofs.YteanncchmenlkaaDoor.Print
namespace Go.Proofs.YteanncchmenlkaaDoor.Print
open Go.RowKit Go.Proofs.YteanncchmenlkaaDoorW.PrintWords Go.Proofs.YteanncchmenlkaaDoorW.PrintLast Go.Proofs.YteanncchmenlkaaDoorW.PrintMore
attribute [local go_sem] max2_int min2_int max_two min_two max_three min_three max_four min_four
set_option linter.unusedVariables false
set_option linter.unusedSimpArgs false
def marlinelaw21_To.l0 : Nat → List (S85) → List (S51) → Int → Int → Option ((List (S85)))
 | 0, _, _, _, _ => none
 | k + 1, x3, x6, x7, x8 => if x8 < x7 then (if 0 ≤ x8 then (if x8 < (x6.length : Int) then (if x3.length < 4398046511104 then (marlinelaw21_To.l0 k (x3 ++ [(⟨(rd_T51 x6 x8).f0, (rd_T51 x6 x8).f1⟩ : S85)]) x6 x7 (wrap64 (x8 + 1))) else (none)) else (none)) else (none)) else (some x3)
def marlinelaw21_To.f (k : Nat) (l0 : List (S51)) : Option ((List (S85))) := marlinelaw21_To.l0 k ([] : List (S85)) l0 (l0.length : Int) 0
set_option maxHeartbeats 8000000 in
set_option maxRecDepth 100000 in
theorem marlinelaw21_To.calls (k : Nat) (P0_ : Nat → Prop) (A0 : Option Addr) (c0 : Nat) (l0 : List (S51)) (r : List (S85)) (w : World) (hs0 : Kd.V k51 51 w w.heap.size (fun k_ => P0_ k_) (.slice A0 l0.length c0) l0) (h : marlinelaw21_To.f k l0 = some r) :
 Calls Tryd.prog 21 #[.slice A0 l0.length c0] w fun e w' => ∃ v0_ : Value, e = .returned (v0_) ∧ Kd.N k85 85 w' w.heap.size (fun k_ => (P0_ k_ ∨ w.heap.size ≤ k_)) v0_ r ∧ Below w.heap.size w w' := by
 have hu51 := Tryd.underlying51
 have HO0 := Aside0.mk (show Kd.V k51 51 w w.heap.size (fun k_ => (P0_ k_ ∨ w.heap.size ≤ k_)) (.slice A0 l0.length c0) l0 from Kd.V_mono hs0 (fun k_ hk => .inl hk))
 have HB := Aside0.mk (Below.refl w.heap.size w)
 have H : (marlinelaw21_To.l0 k ([] : List (S85)) l0 (l0.length : Int) 0) = some r := h
 clear h
 have H' := Aside0.mk H
 clear H
 go_enter Tryd.func21, Tryd.ntmps21
 go_wp2
 go_loopg [3, 8] k (fun kq v3 v8 w' => ∃ (x3_1 : List (S85)) (x8_1 : Int), v8 = .int .i64 x8_1 ∧ Aside0 (marlinelaw21_To.l0 kq x3_1 l0 (l0.length : Int) x8_1 = some r) ∧ Aside0 (kq ≤ k) ∧ Aside0 (Kd.N k85 85 w' w.heap.size (fun k_ => (P0_ k_ ∨ w.heap.size ≤ k_)) v3 x3_1) ∧ Aside0 (Kd.V k51 51 w' w.heap.size (fun k_ => (P0_ k_ ∨ w.heap.size ≤ k_) ∧ some k_ ≠ (v3 : Value).ownBlock) (.slice A0 l0.length c0) l0) ∧ Aside0 (Below w.heap.size w w'))
 case atStart => exact ⟨(([] : List (S85))), (0), (by first | rfl | (simp; done) | (simp [*]; done)), H', ⟨Nat.le_refl _⟩, ⟨by first | exact Kd.S_nil _ _ _ _ _ | exact Kd.N_nil _ _ _ _ _ | exact Kd.V_nil _ _ _ _ _ | exact Kd.Q_nil _ _ _ _ _ | exact Kd.R_nil _ _ _ _ _⟩, ⟨by (with_reducible repeat (first | apply Kd.V_alloc | apply Kd.V_drewN | apply Kd.V_drew)); exact Kd.V_mono HO0.out (fun _ hk => ⟨hk, (by simp [Value.ownBlock])⟩)⟩, ⟨by repeat (first | (with_reducible first | exact HB.out | apply below_alloc | apply pw_below_drewN | apply below_drew1) | exact HB.out)⟩⟩
 case round =>
  clear H'
  obtain ⟨x3_1, x8_1, rfl, HA, HK1, HO_3, HO_6, HB⟩ := hrel
  cases gk with
  | zero => exact absurd HA.out (by simp [marlinelaw21_To.l0])
  | succ k1 =>
   have H := HA.out
   clear HA
   simp only [marlinelaw21_To.l0] at H
   by_cases c2 : x8_1 < (l0.length : Int)
   · rw [if_pos c2] at H
     have c2b0 : decide (x8_1 < (l0.length : Int)) = true := decide_eq_true c2
     clear c2
     by_cases c3 : 0 ≤ x8_1
     · rw [if_pos c3] at H
       have c3b0 : decide (0 ≤ x8_1) = true := decide_eq_true c3
       clear c3
       by_cases c4 : x8_1 < (l0.length : Int)
       · rw [if_pos c4] at H
         have c4b0 : decide (x8_1 < (l0.length : Int)) = true := decide_eq_true c4
         clear c4
         by_cases c5 : x3_1.length < 4398046511104
         · rw [if_pos c5] at H
           have LMc5 := Aside0.mk c5
           clear c5
           obtain ⟨y403, hy403⟩ : ∃ y_ : List (S85), y_ = (x3_1 ++ [(⟨(rd_T51 l0 x8_1).f0, (rd_T51 l0 x8_1).f1⟩ : S85)]) := ⟨_, rfl⟩
           replace H : (marlinelaw21_To.l0 k1 y403 l0 (l0.length : Int) (wrap64 (x8_1 + 1))) = some r := by first | (rw [hy403]; with_reducible exact H) | (have H2_ := (Option.bind_some _ _).symm.trans H; rw [hy403]; with_reducible exact H2_) | (have H2_ := (Option.bind_some _ _).symm.trans H; with_reducible exact H2_) | with_reducible exact H | (rw [hy403]; exact H) | exact H
           have Ny403 := Aside0.mk hy403
           clear hy403
           have H' := Aside0.mk H
           clear H
           have p401 : 0 ≤ (x8_1 : Int) := of_decide_eq_true (by first | (with_reducible assumption) | assumption)
           have q401 : x8_1 < (l0.length : Int) := of_decide_eq_true (by first | (with_reducible assumption) | assumption)
           (try clear hHeld)
           obtain ⟨ad401, A401_1, c401_1, e401, hx401_0, hx401_1, hl401_1, hi401_1⟩ := at_T51 (Kd.V_reads' HO_6.out).2.2 x8_1 p401 q401
           cases e401
           obtain ⟨ce401, hce401, hMe401, hcc401⟩ := Kd.V_get HO_6.out z51 x8_1 p401 (by first | exact q401 | exact of_decide_eq_true (by first | (with_reducible assumption) | assumption) | (have e_ := (Kd.V_reads' HO_6.out).1; omega))
           obtain ⟨ua401_1, uc401_1, rfl, ul401_1, ge401_1⟩ := k51_openF hMe401
           have hv401_1 := hcc401 1 _ rfl
           rw [add_field _ _ 1 (by omega)] at hv401_1
           replace hv401_1 := Option.some.inj (hv401_1.symm.trans hx401_1)
           injection hv401_1 with hva_ hvn_ hvc_
           rw [hva_] at ge401_1
           rw [hvc_] at ul401_1
           have HL401_1 := Aside0.mk (show Kd.V (Kd.int .u8) 5 _ w.heap.size _ _ ((rd_T51 l0 x8_1).f1) from Kd.V_mk ul401_1 ge401_1)
           clear hva_ hvn_ hvc_ ge401_1 ul401_1
           clear hcc401 hce401
           have HR401_1 := Aside0.mk hi401_1
           have HC401_1 := Aside0.mk hl401_1
           clear hi401_1 hl401_1
           replace p401 := eq_true p401
           replace q401 := eq_true q401
           go_wp2_with (first | ((with_reducible refine gate_dst (N := 5) rfl ?_); refine box_event ?hg (N := 5) ?hd (cs := #[.int .u16 0, .slice none 0 0]) (t := 51) ?hr ?_; (case hd => rfl); (case hg => rfl); (case hr => first | (go_simp; done) | (go_simp; simp only [IntKind.wrap_u8, IntKind.wrap_u16, IntKind.wrap_u32, IntKind.wrap_u64]; done) | (go_simp; simp only [IntKind.wrap_u8, IntKind.wrap_u16, IntKind.wrap_u32, IntKind.wrap_u64, Int.tmod_eq_emod_of_nonneg (Int.natCast_nonneg _), Int.emod_emod]; done) | (go_simp; rfl)); intro gb402 hg w6 hbox hb; have n0_ := Aside0.mk (Kd.N_below (Kd.N_elderB (by (with_reducible repeat (first | apply Kd.N_alloc | apply Kd.N_drewN | apply Kd.N_drew)); exact HO_3.out) gb402 (Nat.le_of_eq hg.symm)) hb); have n1_ := Aside0.mk (Kd.V_below (Kd.V_elderB (by (with_reducible repeat (first | apply Kd.V_alloc | apply Kd.V_drewN | apply Kd.V_drew)); exact HO_6.out) gb402 (Nat.le_of_eq hg.symm)) hb); have n2_ := Aside0.mk (Kd.V_below (Kd.V_elderB (by (with_reducible repeat (first | apply Kd.V_alloc | apply Kd.V_drewN | apply Kd.V_drew)); exact HL401_1.out) gb402 (Nat.le_of_eq hg.symm)) hb); have n3_ := Aside0.mk (Kd.C_below (by repeat (first | (with_reducible exact HR401_1.out) | (with_reducible refine Kd.C_alloc ?_ _) | (with_reducible refine Kd.C_drewN ?_ _) | (with_reducible refine Kd.C_drew ?_) | exact HR401_1.out)) hb); have n4_ := Aside0.mk (below_step (by repeat (first | (with_reducible first | exact HB.out | apply below_alloc | apply pw_below_drewN | apply below_drew1) | exact HB.out)) hb); have n5_ := Aside0.mk (hbox); have n6_ := Aside0.mk ((by rw [hg]; exact (below_size (by repeat (first | (with_reducible first | exact HB.out | apply below_alloc | apply pw_below_drewN | apply below_drew1) | exact HB.out))) : w.heap.size ≤ gb402)); have n7_ := Aside0.mk ((by rw [hg]; exact (below_size (by repeat (first | (with_reducible first | exact HB.out | apply below_alloc | apply pw_below_drewN | apply below_drew1) | exact HB.out))) : w.heap.size ≤ gb402)); clear HO_3; clear HO_6; clear HL401_1; clear HR401_1; clear HB; have HO_3 := n0_; have HO_6 := n1_; have HL401_1 := n2_; have HR401_1 := n3_; have HB := n4_; have BK402 := n5_; have GW402 := n6_; have GE402 := n7_; clear n0_ n1_ n2_ n3_ n4_ n5_ n6_ n7_; clear hb hbox hg; obtain ⟨⟨hcz7_0, hcz7_1⟩, hfz7_0, hfz7_1⟩ := cz2 BK402.out) | ((with_reducible refine gate_store (t := 51) (p := 5) rfl ?_); refine store_event (t := 51) (p := 5) (v := ?vo_w8) (w1 := ((w6.setCell ⟨gb402, 0, none⟩ (.int .u16 ((rd_T51 l0 x8_1).f0))).setCell ⟨gb402, 1, none⟩ (.slice A401_1 ((rd_T51 l0 x8_1).f1).length c401_1))) ?hg ?ho ?hn ?hr ?_; (case ho => rfl); (case hg => rfl); (case hn => rfl); (case hr => first | (go_simp; done) | (go_simp; simp only [IntKind.wrap_u8, IntKind.wrap_u16, IntKind.wrap_u32, IntKind.wrap_u64]; done) | (go_simp; simp only [IntKind.wrap_u8, IntKind.wrap_u16, IntKind.wrap_u32, IntKind.wrap_u64, Int.tmod_eq_emod_of_nonneg (Int.natCast_nonneg _), Int.emod_emod]; done) | (go_simp; rfl)); intro w8 hw; have n0_ : Aside0 (Kd.N k85 85 w8 w.heap.size (fun k_ => (P0_ k_ ∨ w.heap.size ≤ k_) ∧ k_ ≠ gb402) u3 x3_1) := ⟨(by rw [hw]; exact (by (with_reducible repeat (first | apply Kd.N_alloc | apply Kd.N_drewN | apply Kd.N_drew)); exact Kd.N_mono (Kd.N_far (p := ⟨gb402, 1, none⟩) (Kd.N_far (p := ⟨gb402, 0, none⟩) (Kd.N_mono HO_3.out (fun k_ hk => (⟨hk, hk.2⟩ : _ ∧ k_ ≠ gb402))) (fun _ hk => hk.2) (.int .u16 ((rd_T51 l0 x8_1).f0))) (fun _ hk => hk.2) (.slice A401_1 ((rd_T51 l0 x8_1).f1).length c401_1)) (fun _ hk => ⟨hk.1.1, hk.1.2⟩)))⟩; have n1_ : Aside0 (Kd.V k51 51 w8 w.heap.size (fun k_ => (P0_ k_ ∨ w.heap.size ≤ k_) ∧ some k_ ≠ (u3 : Value).ownBlock ∧ k_ ≠ gb402) (.slice (some ad401) l0.length c0) l0) := ⟨(by rw [hw]; exact (by (with_reducible repeat (first | apply Kd.V_alloc | apply Kd.V_drewN | apply Kd.V_drew)); exact Kd.V_mono (Kd.V_far (p := ⟨gb402, 1, none⟩) (Kd.V_far (p := ⟨gb402, 0, none⟩) (Kd.V_mono HO_6.out (fun k_ hk => (⟨hk, hk.2⟩ : _ ∧ k_ ≠ gb402))) (fun _ hk => hk.2) (.int .u16 ((rd_T51 l0 x8_1).f0))) (fun _ hk => hk.2) (.slice A401_1 ((rd_T51 l0 x8_1).f1).length c401_1)) (fun _ hk => ⟨hk.1.1.1, ⟨hk.1.1.2, hk.1.2⟩⟩)))⟩; have n2_ : Aside0 (Kd.V (Kd.int .u8) 5 w8 w.heap.size (fun k_ => (P0_ k_ ∨ w.heap.size ≤ k_) ∧ some k_ ≠ (u3 : Value).ownBlock ∧ k_ ≠ gb402) (.slice A401_1 ((rd_T51 l0 x8_1).f1).length c401_1) ((rd_T51 l0 x8_1).f1)) := ⟨(by rw [hw]; exact (by (with_reducible repeat (first | apply Kd.V_alloc | apply Kd.V_drewN | apply Kd.V_drew)); exact Kd.V_mono (Kd.V_far (p := ⟨gb402, 1, none⟩) (Kd.V_far (p := ⟨gb402, 0, none⟩) (Kd.V_mono HL401_1.out (fun k_ hk => (⟨hk, hk.2⟩ : _ ∧ k_ ≠ gb402))) (fun _ hk => hk.2) (.int .u16 ((rd_T51 l0 x8_1).f0))) (fun _ hk => hk.2) (.slice A401_1 ((rd_T51 l0 x8_1).f1).length c401_1)) (fun _ hk => ⟨hk.1.1.1, ⟨hk.1.1.2, hk.1.2⟩⟩)))⟩; have n3_ : Aside0 (w8.heap[gb402]? = some (.cells #[.int .u16 ((rd_T51 l0 x8_1).f0), .slice A401_1 ((rd_T51 l0 x8_1).f1).length c401_1] 51 (0, 0))) := ⟨(by rw [hw]; exact (by (with_reducible repeat (first | refine blk_drewN ?_ _ | refine blk_drew ?_ | refine blk_alloc ?_ _)); refine blk_put (cs := #[.int .u16 ((rd_T51 l0 x8_1).f0), .slice none 0 0]) ?_ 1 _ rfl; (with_reducible repeat (first | refine blk_drewN ?_ _ | refine blk_drew ?_ | refine blk_alloc ?_ _)); refine blk_put (cs := #[.int .u16 0, .slice none 0 0]) ?_ 0 _ rfl; (with_reducible repeat (first | refine blk_drewN ?_ _ | refine blk_drew ?_ | refine blk_alloc ?_ _)); exact BK402.out))⟩; have n4_ : Aside0 (Below w.heap.size w w8) := ⟨(by rw [hw]; exact (by repeat (first | (with_reducible first | exact HB.out | apply below_alloc | apply pw_below_drewN | apply below_drew1 | refine below_set ?_ GE402.out) | exact HB.out)))⟩; clear hw; clear HO_3; clear HO_6; clear HL401_1; clear BK402; clear HB; have HO_3 := n0_; have HO_6 := n1_; have HL401_1 := n2_; have BK402 := n3_; have HB := n4_; clear n0_ n1_ n2_ n3_ n4_; have hcz9_0 : w8.cell? ⟨gb402, 0, none⟩ = some (.int .u16 ((rd_T51 l0 x8_1).f0)) := (blk_cell BK402.out 0).trans rfl; have hcz9_1 : w8.cell? ⟨gb402, 1, none⟩ = some (.slice A401_1 ((rd_T51 l0 x8_1).f1).length c401_1) := (blk_cell BK402.out 1).trans rfl; have hfz9_0 := blk_frozen BK402.out 0; have hfz9_1 := blk_frozen BK402.out 1) | ((with_reducible refine gate_builtin (b := .append) (xs := #[.tmp 12, .tmp 14]) rfl ?_); at_builtin; refine Kd.N_append k85 (w0 := w) w.heap.size rfl (.tmp 12) (.tmp 14) 39 85 (.agg #[(.int .u16 0), (.slice none 0 0)]) 32 rfl Tryd.underlying39 info85 rfl (by decide) (by omega) u3 x3_1 (⟨(rd_T51 l0 x8_1).f0, (rd_T51 l0 x8_1).f1⟩ : S85) [.int .u16 ((rd_T51 l0 x8_1).f0), .slice A401_1 ((rd_T51 l0 x8_1).f1).length c401_1] (fun k_ => (P0_ k_ ∨ w.heap.size ≤ k_) ∧ k_ ≠ gb402) (fun k_ => ((fun k_ => (P0_ k_ ∨ w.heap.size ≤ k_) ∧ k_ ≠ gb402)) k_ ∧ some k_ ≠ (u3 : Value).ownBlock) rfl rfl ?aP (fun _ hk => hk) ?aF ?aO ?aB ?aS ?aL ?_; (case aP => exact (k85_mkF _ _ (⟨(rd_T51 l0 x8_1).f0, (rd_T51 l0 x8_1).f1⟩ : S85) (Kd.V_reads' (Kd.V_mono (ok' := (fun k_ => ((fun k_ => (P0_ k_ ∨ w.heap.size ≤ k_) ∧ k_ ≠ gb402)) k_ ∧ some k_ ≠ (u3 : Value).ownBlock)) (HL401_1.out) (fun k_ hk => ⟨⟨hk.1, hk.2.2⟩, hk.2.1⟩))).2.1 (Kd.V_F (Kd.V_mono (ok' := (fun k_ => ((fun k_ => (P0_ k_ ∨ w.heap.size ≤ k_) ∧ k_ ≠ gb402)) k_ ∧ some k_ ≠ (u3 : Value).ownBlock)) (HL401_1.out) (fun k_ hk => ⟨⟨hk.1, hk.2.2⟩, hk.2.1⟩))))); (case aB => exact (by repeat (first | (with_reducible first | exact HB.out | apply below_alloc | apply pw_below_drewN | apply below_drew1 | refine below_set ?_ GE402.out) | exact HB.out))); (case aF => exact (fun k_ hk => ⟨(.inr (Nat.le_trans (below_size (by repeat (first | (with_reducible first | exact HB.out | apply below_alloc | apply pw_below_drewN | apply below_drew1 | refine below_set ?_ GE402.out) | exact HB.out))) hk)), Kd.freshB (g := gb402) (o := .cells #[.int .u16 ((rd_T51 l0 x8_1).f0), .slice A401_1 ((rd_T51 l0 x8_1).f1).length c401_1] 51 (0, 0)) (by (with_reducible repeat (first | refine blk_drewN ?_ _ | refine blk_drew ?_ | refine blk_alloc ?_ _)); exact BK402.out) k_ hk⟩)); (case aO => exact (by (with_reducible repeat (first | apply Kd.N_alloc | apply Kd.N_drewN | apply Kd.N_drew)); exact HO_3.out)); (case aS => exact (below_size (by repeat (first | (with_reducible first | exact HB.out | apply below_alloc | apply pw_below_drewN | apply below_drew1 | refine below_set ?_ GE402.out) | exact HB.out)))); (case aL => have := LMc5.out; omega); intro v404 w10 ho hb hg hat; rw [← Ny403.out] at ho; have n0_ := Aside0.mk (Kd.V_afterv (ok := (fun k_ => (P0_ k_ ∨ w.heap.size ≤ k_) ∧ k_ ≠ gb402)) (by (with_reducible repeat (first | apply Kd.V_alloc | apply Kd.V_drewN | apply Kd.V_drew)); exact Kd.V_mono HO_6.out (fun _ hk => ⟨⟨hk.1, hk.2.2⟩, hk.2.1⟩)) hg hat); have n1_ := Aside0.mk (Kd.V_afterv (ok := (fun k_ => (P0_ k_ ∨ w.heap.size ≤ k_) ∧ k_ ≠ gb402)) (by (with_reducible repeat (first | apply Kd.V_alloc | apply Kd.V_drewN | apply Kd.V_drew)); exact Kd.V_mono HL401_1.out (fun _ hk => ⟨⟨hk.1, hk.2.2⟩, hk.2.1⟩)) hg hat); have n2_ := Aside0.mk (blk_grown (g := gb402) (o := .cells #[.int .u16 ((rd_T51 l0 x8_1).f0), .slice A401_1 ((rd_T51 l0 x8_1).f1).length c401_1] 51 (0, 0)) (by (with_reducible repeat (first | refine blk_drewN ?_ _ | refine blk_drew ?_ | refine blk_alloc ?_ _)); exact BK402.out) hg (Kd.N_ne HO_3.out BK402.out (by decide))); have n3_ := Aside0.mk (hb); have n4_ := Aside0.mk (ho); clear HO_6; clear HL401_1; clear BK402; clear HB; clear HO_3; have HO_6 := n0_; have HL401_1 := n1_; have BK402 := n2_; have HB := n3_; have HO405 := n4_; clear n0_ n1_ n2_ n3_ n4_; clear ho hb hg hat))
           go_roundg k1
           case measure => have := HK1.out; omega
           case rel => exact ⟨(y403), (wrap64 (x8_1 + 1)), (by first | rfl | (simp; done) | (simp [*]; done)), H', ⟨by have := HK1.out; omega⟩, ⟨by (with_reducible repeat (first | apply Kd.N_alloc | apply Kd.N_drewN | apply Kd.N_drew)); exact Kd.N_mono HO405.out (fun _ hk => hk.1)⟩, ⟨by (with_reducible repeat (first | apply Kd.V_alloc | apply Kd.V_drewN | apply Kd.V_drew)); exact Kd.V_mono HO_6.out (fun _ hk => ⟨hk.1.1, hk.2⟩)⟩, ⟨by repeat (first | (with_reducible first | exact HB.out | apply below_alloc | apply pw_below_drewN | apply below_drew1 | refine below_set ?_ GE402.out) | exact HB.out)⟩⟩
         · rw [if_neg c5] at H
           exact absurd H (by simp)
       · rw [if_neg c4] at H
         exact absurd H (by simp)
     · rw [if_neg c3] at H
       exact absurd H (by simp)
   · rw [if_neg c2] at H
     have c2b0 : decide (x8_1 < (l0.length : Int)) = false := decide_eq_false c2
     clear c2
     obtain rfl := Option.some.inj H
     go_wp2
     go_ret
     exact ⟨_, by first | rfl | (simp [errW_none, errW_some] <;> rfl) | (simp [*, errW_none, errW_some] <;> rfl), by (with_reducible repeat (first | apply Kd.N_alloc | apply Kd.N_drewN | apply Kd.N_drew)); exact HO_3.out, by repeat (first | (with_reducible first | exact HB.out | apply below_alloc | apply pw_below_drewN | apply below_drew1) | exact HB.out)⟩
end Go.Proofs.YteanncchmenlkaaDoor.Print
namespace Go.Proofs.YteanncchmenlkaaDoor.Print
open Go.RowKit Go.Proofs.YteanncchmenlkaaDoorW.PrintWords Go.Proofs.YteanncchmenlkaaDoorW.PrintLast Go.Proofs.YteanncchmenlkaaDoorW.PrintMore
attribute [local go_sem] max2_int min2_int max_two min_two max_three min_three max_four min_four
set_option linter.unusedVariables false
set_option linter.unusedSimpArgs false
def marlineref21_Same.l0 : Nat → List (S85) → List (S85) → Int → Option (Bool)
 | 0, _, _, _ => none
 | k + 1, x0, x1, x5 => if x5 < (x0.length : Int) then (if 0 ≤ x5 then (if x5 < (x1.length : Int) then (if ((rd_T85 x0 x5).f0) = ((rd_T85 x1 x5).f0) then (if (strOfNums ((rd_T85 x0 x5).f1)).toList = (strOfNums ((rd_T85 x1 x5).f1)).toList then (marlineref21_Same.l0 k x0 x1 (wrap64 (x5 + 1))) else (some false)) else (some false)) else (none)) else (none)) else (some true)
def marlineref21_Same.f (k : Nat) (l0 : List (S85)) (l1 : List (S85)) : Option (Bool) := if (l0.length : Int) = (l1.length : Int) then (marlineref21_Same.l0 k l0 l1 0) else (some false)
set_option maxHeartbeats 8000000 in
set_option maxRecDepth 100000 in
theorem marlineref21_Same.calls (k : Nat) (A0 : Option Addr) (c0 : Nat) (l0 : List (S85)) (A1 : Option Addr) (c1 : Nat) (l1 : List (S85)) (r : Bool) (w : World) (hr0 : Kd.C k85 w A0 l0.length l0) (hc0 : l0.length ≤ c0) (hr1 : Kd.C k85 w A1 l1.length l1) (hc1 : l1.length ≤ c1) (h : marlineref21_Same.f k l0 l1 = some r) :
 Calls Tryd.prog 20 #[.slice A0 l0.length c0, .slice A1 l1.length c1] w fun e w' => e = .returned (.bool r) ∧ Drawn0 w w' := by
 have HR0 := Aside0.mk hr0
 have HC0 := Aside0.mk hc0
 clear hr0 hc0
 have HR1 := Aside0.mk hr1
 have HC1 := Aside0.mk hc1
 clear hr1 hc1
 have H : (if (l0.length : Int) = (l1.length : Int) then (marlineref21_Same.l0 k l0 l1 0) else (some false)) = some r := h
 clear h
 by_cases c3 : (l0.length : Int) = (l1.length : Int)
 · rw [if_pos c3] at H
   have c3b0 : ((l0.length : Int) == (l1.length : Int)) = true := beq_iff_eq.mpr c3
   have c3b1 : ((l0.length : Int) != (l1.length : Int)) = false := bne_eq_false_iff_eq.mpr c3
   have c3b2 : (l0.length == l1.length) = true := by first | simpa using c3 | (simp at c3 ⊢; omega)
   clear c3
   have H' := Aside0.mk H
   clear H
   go_enter Tryd.func20, Tryd.ntmps20
   go_wp2
   repeat (go_quiet (fail); try go_wp2)
   go_loopg [5] k (fun kq v5 w' => ∃ (x5_1 : Int), v5 = .int .i64 x5_1 ∧ Aside0 (marlineref21_Same.l0 kq l0 l1 x5_1 = some r) ∧ Aside0 (kq ≤ k) ∧ Drawn0 w w')
   case atStart => exact ⟨(0), (by first | rfl | (simp; done) | (simp [*]; done)), H', ⟨Nat.le_refl _⟩, by repeat (first | exact Drawn0.refl _ | apply Drawn0.step)⟩
   case round =>
    clear H'
    try clear c1
    try clear c2
    try clear p2
    try clear c3
    try clear c3b0
    try clear c3b1
    try clear c3b2
    obtain ⟨x5_1, rfl, HA, HK1, ⟨m1, rfl⟩⟩ := hrel
    cases gk with
    | zero => exact absurd HA.out (by simp [marlineref21_Same.l0])
    | succ k1 =>
     have H := HA.out
     clear HA
     simp only [marlineref21_Same.l0] at H
     by_cases c4 : x5_1 < (l0.length : Int)
     · rw [if_pos c4] at H
       have c4b0 : decide (x5_1 < (l0.length : Int)) = true := decide_eq_true c4
       clear c4
       by_cases c5 : 0 ≤ x5_1
       · rw [if_pos c5] at H
         have c5b0 : decide (0 ≤ x5_1) = true := decide_eq_true c5
         clear c5
         by_cases c6 : x5_1 < (l1.length : Int)
         · rw [if_pos c6] at H
           have c6b0 : decide (x5_1 < (l1.length : Int)) = true := decide_eq_true c6
           clear c6
           by_cases c7 : ((rd_T85 l0 x5_1).f0) = ((rd_T85 l1 x5_1).f0)
           · rw [if_pos c7] at H
             have c7b0 : (((rd_T85 l0 x5_1).f0) == ((rd_T85 l1 x5_1).f0)) = true := beq_iff_eq.mpr c7
             have c7b1 : (((rd_T85 l0 x5_1).f0) != ((rd_T85 l1 x5_1).f0)) = false := bne_eq_false_iff_eq.mpr c7
             clear c7
             by_cases c8 : (strOfNums ((rd_T85 l0 x5_1).f1)).toList = (strOfNums ((rd_T85 l1 x5_1).f1)).toList
             · rw [if_pos c8] at H
               have c8b0 : ((strOfNums ((rd_T85 l0 x5_1).f1)).toList == (strOfNums ((rd_T85 l1 x5_1).f1)).toList) = true := beq_iff_eq.mpr c8
               have c8b1 : ((strOfNums ((rd_T85 l0 x5_1).f1)).toList != (strOfNums ((rd_T85 l1 x5_1).f1)).toList) = false := bne_eq_false_iff_eq.mpr c8
               clear c8
               have H' := Aside0.mk H
               clear H
               have p383 : 0 ≤ (x5_1 : Int) := of_decide_eq_true (by first | (with_reducible assumption) | assumption)
               have q383 : x5_1 < (l0.length : Int) := of_decide_eq_true (by first | (with_reducible assumption) | assumption)
               (try clear hHeld)
               obtain ⟨ad383, A383_1, c383_1, e383, hx383_0, hx383_1, hl383_1, hi383_1⟩ := at_T85 HR0.out x5_1 p383 q383
               cases e383
               have HR383_1 := Aside0.mk hi383_1
               have HC383_1 := Aside0.mk hl383_1
               clear hi383_1 hl383_1
               replace p383 := eq_true p383
               replace q383 := eq_true q383
               have p384 : 0 ≤ (x5_1 : Int) := of_decide_eq_true (by first | (with_reducible assumption) | assumption)
               have q384 : x5_1 < (l1.length : Int) := of_decide_eq_true (by first | (with_reducible assumption) | assumption)
               (try clear hHeld)
               obtain ⟨ad384, A384_1, c384_1, e384, hx384_0, hx384_1, hl384_1, hi384_1⟩ := at_T85 HR1.out x5_1 p384 q384
               cases e384
               have HR384_1 := Aside0.mk hi384_1
               have HC384_1 := Aside0.mk hl384_1
               clear hi384_1 hl384_1
               replace p384 := eq_true p384
               replace q384 := eq_true q384
               have p385 : 0 ≤ (x5_1 : Int) := of_decide_eq_true (by first | (with_reducible assumption) | assumption)
               have q385 : x5_1 < (l0.length : Int) := of_decide_eq_true (by first | (with_reducible assumption) | assumption)
               (try clear hHeld)
               obtain ⟨ad385, A385_1, c385_1, e385, hx385_0, hx385_1, hl385_1, hi385_1⟩ := at_T85 HR0.out x5_1 p385 q385
               obtain rfl : ad383 = ad385 := (by injection e385)
               have HR385_1 := Aside0.mk hi385_1
               have HC385_1 := Aside0.mk hl385_1
               clear hi385_1 hl385_1
               replace p385 := eq_true p385
               replace q385 := eq_true q385
               have ea_ := Option.some.inj (hx383_1.symm.trans hx385_1)
               injection ea_ with ea_ en_ ec_
               subst ea_
               subst ec_
               clear en_
               have hcv9 := Kd.C_string (P := Tryd.prog) (A := A383_1) (c := c383_1) Tryd.underlying24 Tryd.underlying5 Tryd.underlying9 HR385_1.out
               have hcv10 := fun m_ : Nat => Kd.C_string (P := Tryd.prog) (A := A383_1) (c := c383_1) Tryd.underlying24 Tryd.underlying5 Tryd.underlying9 (Kd.C_drewN HR385_1.out m_)
               have hcv11 := fun m_ n_ : Nat => Kd.C_string (P := Tryd.prog) (A := A383_1) (c := c383_1) Tryd.underlying24 Tryd.underlying5 Tryd.underlying9 (Kd.C_drewN (Kd.C_drewN HR385_1.out m_) n_)
               have p386 : 0 ≤ (x5_1 : Int) := of_decide_eq_true (by first | (with_reducible assumption) | assumption)
               have q386 : x5_1 < (l1.length : Int) := of_decide_eq_true (by first | (with_reducible assumption) | assumption)
               (try clear hHeld)
               obtain ⟨ad386, A386_1, c386_1, e386, hx386_0, hx386_1, hl386_1, hi386_1⟩ := at_T85 HR1.out x5_1 p386 q386
               obtain rfl : ad384 = ad386 := (by injection e386)
               have HR386_1 := Aside0.mk hi386_1
               have HC386_1 := Aside0.mk hl386_1
               clear hi386_1 hl386_1
               replace p386 := eq_true p386
               replace q386 := eq_true q386
               have ea_ := Option.some.inj (hx384_1.symm.trans hx386_1)
               injection ea_ with ea_ en_ ec_
               subst ea_
               subst ec_
               clear en_
               have hcv12 := Kd.C_string (P := Tryd.prog) (A := A384_1) (c := c384_1) Tryd.underlying24 Tryd.underlying5 Tryd.underlying9 HR386_1.out
               have hcv13 := fun m_ : Nat => Kd.C_string (P := Tryd.prog) (A := A384_1) (c := c384_1) Tryd.underlying24 Tryd.underlying5 Tryd.underlying9 (Kd.C_drewN HR386_1.out m_)
               have hcv14 := fun m_ n_ : Nat => Kd.C_string (P := Tryd.prog) (A := A384_1) (c := c384_1) Tryd.underlying24 Tryd.underlying5 Tryd.underlying9 (Kd.C_drewN (Kd.C_drewN HR386_1.out m_) n_)
               go_wp2
               repeat (go_quiet (fail); try go_wp2)
               go_roundg k1
               case measure => have := HK1.out; omega
               case rel => exact ⟨(wrap64 (x5_1 + 1)), (by first | rfl | (simp; done) | (simp [*]; done)), H', ⟨by have := HK1.out; omega⟩, by repeat (first | exact Drawn0.refl _ | apply Drawn0.step)⟩
             · rw [if_neg c8] at H
               have c8b0 : ((strOfNums ((rd_T85 l0 x5_1).f1)).toList == (strOfNums ((rd_T85 l1 x5_1).f1)).toList) = false := beq_eq_false_iff_ne.mpr c8
               have c8b1 : ((strOfNums ((rd_T85 l0 x5_1).f1)).toList != (strOfNums ((rd_T85 l1 x5_1).f1)).toList) = true := bne_iff_ne.mpr c8
               obtain rfl := Option.some.inj H
               have p383 : 0 ≤ (x5_1 : Int) := of_decide_eq_true (by first | (with_reducible assumption) | assumption)
               have q383 : x5_1 < (l0.length : Int) := of_decide_eq_true (by first | (with_reducible assumption) | assumption)
               (try clear hHeld)
               obtain ⟨ad383, A383_1, c383_1, e383, hx383_0, hx383_1, hl383_1, hi383_1⟩ := at_T85 HR0.out x5_1 p383 q383
               cases e383
               have HR383_1 := Aside0.mk hi383_1
               have HC383_1 := Aside0.mk hl383_1
               clear hi383_1 hl383_1
               replace p383 := eq_true p383
               replace q383 := eq_true q383
               have p384 : 0 ≤ (x5_1 : Int) := of_decide_eq_true (by first | (with_reducible assumption) | assumption)
               have q384 : x5_1 < (l1.length : Int) := of_decide_eq_true (by first | (with_reducible assumption) | assumption)
               (try clear hHeld)
               obtain ⟨ad384, A384_1, c384_1, e384, hx384_0, hx384_1, hl384_1, hi384_1⟩ := at_T85 HR1.out x5_1 p384 q384
               cases e384
               have HR384_1 := Aside0.mk hi384_1
               have HC384_1 := Aside0.mk hl384_1
               clear hi384_1 hl384_1
               replace p384 := eq_true p384
               replace q384 := eq_true q384
               have p385 : 0 ≤ (x5_1 : Int) := of_decide_eq_true (by first | (with_reducible assumption) | assumption)
               have q385 : x5_1 < (l0.length : Int) := of_decide_eq_true (by first | (with_reducible assumption) | assumption)
               (try clear hHeld)
               obtain ⟨ad385, A385_1, c385_1, e385, hx385_0, hx385_1, hl385_1, hi385_1⟩ := at_T85 HR0.out x5_1 p385 q385
               obtain rfl : ad383 = ad385 := (by injection e385)
               have HR385_1 := Aside0.mk hi385_1
               have HC385_1 := Aside0.mk hl385_1
               clear hi385_1 hl385_1
               replace p385 := eq_true p385
               replace q385 := eq_true q385
               have ea_ := Option.some.inj (hx383_1.symm.trans hx385_1)
               injection ea_ with ea_ en_ ec_
               subst ea_
               subst ec_
               clear en_
               have hcv15 := Kd.C_string (P := Tryd.prog) (A := A383_1) (c := c383_1) Tryd.underlying24 Tryd.underlying5 Tryd.underlying9 HR385_1.out
               have hcv16 := fun m_ : Nat => Kd.C_string (P := Tryd.prog) (A := A383_1) (c := c383_1) Tryd.underlying24 Tryd.underlying5 Tryd.underlying9 (Kd.C_drewN HR385_1.out m_)
               have hcv17 := fun m_ n_ : Nat => Kd.C_string (P := Tryd.prog) (A := A383_1) (c := c383_1) Tryd.underlying24 Tryd.underlying5 Tryd.underlying9 (Kd.C_drewN (Kd.C_drewN HR385_1.out m_) n_)
               have p386 : 0 ≤ (x5_1 : Int) := of_decide_eq_true (by first | (with_reducible assumption) | assumption)
               have q386 : x5_1 < (l1.length : Int) := of_decide_eq_true (by first | (with_reducible assumption) | assumption)
               (try clear hHeld)
               obtain ⟨ad386, A386_1, c386_1, e386, hx386_0, hx386_1, hl386_1, hi386_1⟩ := at_T85 HR1.out x5_1 p386 q386
               obtain rfl : ad384 = ad386 := (by injection e386)
               have HR386_1 := Aside0.mk hi386_1
               have HC386_1 := Aside0.mk hl386_1
               clear hi386_1 hl386_1
               replace p386 := eq_true p386
               replace q386 := eq_true q386
               have ea_ := Option.some.inj (hx384_1.symm.trans hx386_1)
               injection ea_ with ea_ en_ ec_
               subst ea_
               subst ec_
               clear en_
               have hcv18 := Kd.C_string (P := Tryd.prog) (A := A384_1) (c := c384_1) Tryd.underlying24 Tryd.underlying5 Tryd.underlying9 HR386_1.out
               have hcv19 := fun m_ : Nat => Kd.C_string (P := Tryd.prog) (A := A384_1) (c := c384_1) Tryd.underlying24 Tryd.underlying5 Tryd.underlying9 (Kd.C_drewN HR386_1.out m_)
               have hcv20 := fun m_ n_ : Nat => Kd.C_string (P := Tryd.prog) (A := A384_1) (c := c384_1) Tryd.underlying24 Tryd.underlying5 Tryd.underlying9 (Kd.C_drewN (Kd.C_drewN HR386_1.out m_) n_)
               go_wp2
               repeat (go_quiet (fail); try go_wp2)
               go_ret
               exact ⟨by first | rfl | (simp; done) | (simp [*]; done), by repeat (first | exact Drawn0.refl _ | apply Drawn0.step)⟩
           · rw [if_neg c7] at H
             have c7b0 : (((rd_T85 l0 x5_1).f0) == ((rd_T85 l1 x5_1).f0)) = false := beq_eq_false_iff_ne.mpr c7
             have c7b1 : (((rd_T85 l0 x5_1).f0) != ((rd_T85 l1 x5_1).f0)) = true := bne_iff_ne.mpr c7
             obtain rfl := Option.some.inj H
             have p383 : 0 ≤ (x5_1 : Int) := of_decide_eq_true (by first | (with_reducible assumption) | assumption)
             have q383 : x5_1 < (l0.length : Int) := of_decide_eq_true (by first | (with_reducible assumption) | assumption)
             (try clear hHeld)
             obtain ⟨ad383, A383_1, c383_1, e383, hx383_0, hx383_1, hl383_1, hi383_1⟩ := at_T85 HR0.out x5_1 p383 q383
             cases e383
             have HR383_1 := Aside0.mk hi383_1
             have HC383_1 := Aside0.mk hl383_1
             clear hi383_1 hl383_1
             replace p383 := eq_true p383
             replace q383 := eq_true q383
             have p384 : 0 ≤ (x5_1 : Int) := of_decide_eq_true (by first | (with_reducible assumption) | assumption)
             have q384 : x5_1 < (l1.length : Int) := of_decide_eq_true (by first | (with_reducible assumption) | assumption)
             (try clear hHeld)
             obtain ⟨ad384, A384_1, c384_1, e384, hx384_0, hx384_1, hl384_1, hi384_1⟩ := at_T85 HR1.out x5_1 p384 q384
             cases e384
             have HR384_1 := Aside0.mk hi384_1
             have HC384_1 := Aside0.mk hl384_1
             clear hi384_1 hl384_1
             replace p384 := eq_true p384
             replace q384 := eq_true q384
             go_wp2
             repeat (go_quiet (fail); try go_wp2)
             go_ret
             exact ⟨by first | rfl | (simp; done) | (simp [*]; done), by repeat (first | exact Drawn0.refl _ | apply Drawn0.step)⟩
         · rw [if_neg c6] at H
           exact absurd H (by simp)
       · rw [if_neg c5] at H
         exact absurd H (by simp)
     · rw [if_neg c4] at H
       have c4b0 : decide (x5_1 < (l0.length : Int)) = false := decide_eq_false c4
       clear c4
       obtain rfl := Option.some.inj H
       go_wp2
       repeat (go_quiet (fail); try go_wp2)
       go_ret
       exact ⟨by first | rfl | (simp; done) | (simp [*]; done), by repeat (first | exact Drawn0.refl _ | apply Drawn0.step)⟩
 · rw [if_neg c3] at H
   have c3b0 : ((l0.length : Int) == (l1.length : Int)) = false := beq_eq_false_iff_ne.mpr c3
   have c3b1 : ((l0.length : Int) != (l1.length : Int)) = true := bne_iff_ne.mpr c3
   have c3b2 : (l0.length == l1.length) = false := by first | simpa using c3 | (simp at c3 ⊢; omega)
   obtain rfl := Option.some.inj H
   go_enter Tryd.func20, Tryd.ntmps20
   go_wp2
   repeat (go_quiet (fail); try go_wp2)
   go_ret
   exact ⟨by first | rfl | (simp; done) | (simp [*]; done), by repeat (first | exact Drawn0.refl _ | apply Drawn0.step)⟩
end Go.Proofs.YteanncchmenlkaaDoor.Print
namespace Go.Proofs.YteanncchmenlkaaDoor.Print
open Go.RowKit Go.Proofs.YteanncchmenlkaaDoorW.PrintWords Go.Proofs.YteanncchmenlkaaDoorW.PrintLast Go.Proofs.YteanncchmenlkaaDoorW.PrintMore
set_option linter.unusedVariables false
set_option linter.unusedSimpArgs false
namespace XRow
variable {H : Type} {enc : TypeId × Value → H} {P : Program} {w : World} {α : Type}
def Opens (enc : TypeId × Value → H) (P : Program) (w : World) (t : TypeId) (d : Kd α) (wf : α → Prop) : Prop :=
 ∀ fuel cs x, DataW.trod enc P w 0 (fun _ => true) true fuel t cs = some x → (∀ n ∈ x.1.weights P t, n ≤ reachBytes) → ∃ a, d.K w a cs ∧ wf a
theorem opens_int {t : TypeId} {k : IntKind} (ht : P.underlying t = some (.int k)) : Opens enc P w t (Kd.int k) (fun n => (Lit.int k n).wf = true) := by
 intro fuel cs x hx _
 obtain ⟨n, rfl, _, hw⟩ := DataW.trod_int ht hx
 exact ⟨n, rfl, hw⟩
theorem cells_at {a : Addr} {n : Nat} {cs : List Value} (h : w.cells? 0 a n = some cs) : cs.length = n ∧ ∀ i u, cs[i]? = some u → w.cell? (a.add i) = some u := by
 obtain ⟨_, hlen, hc⟩ := World.cells?_some h
 refine ⟨hlen, fun i u hu => ?_⟩
 have hi : i < n := by rw [← hlen]; exact (List.getElem?_eq_some_iff.1 hu).1
 rw [← hu]
 exact hc i hi
theorem weights_all {e : TypeId} : ∀ {ds : List (DataW H)} {d : DataW H}, d ∈ ds → ∀ n ∈ d.weights P e, n ∈ DataW.weightsAll P e ds
 | [], _, h, _, _ => by simp at h
 | _ :: ds, d, h, n, hn => by
  simp only [DataW.weightsAll, List.mem_append]
  rcases List.mem_cons.1 h with rfl | h
  · exact Or.inl hn
  · exact Or.inr (weights_all h n hn)
theorem opens_slice {t e : TypeId} {d : Kd α} {wf : α → Prop} (ht : P.underlying t = some (.slice e)) (hC : P.cellsOf e = d.sz) {B : Nat} (hB : P.bytesOf e = B) (hE : Opens enc P w e d wf) :
 Opens enc P w t (Kd.slice e d) (fun l => (l.length ≤ 9223372036854775807 ∧ l.length * B ≤ 140737488351232) ∧ ∀ y ∈ l, wf y) := by
 intro fuel cs x hx hz
 rcases DataW.trod_slice ht hx with ⟨rfl, _⟩ | ⟨a, len, cap, elems, rest, n, _, rfl, he, _, hl, hm, hlen, hel, _, _⟩
 · exact ⟨[], ⟨none, 0, rfl, Nat.le_refl _, Kd.C_nil d w⟩, by simp, by simp⟩
 have hm' : cap ≤ 9223372036854775807 := by simpa [maxLen] using hm
 subst he
 simp only [DataW.weights, ht, List.mem_cons, List.mem_append] at hz
 have hB' : len * B ≤ 140737488351232 := by
  have h1 := hz _ (Or.inl rfl)
  rw [hB, List.length_map, hlen] at h1
  exact Nat.le_trans (Nat.mul_le_mul_right _ (Nat.le_add_right _ _)) h1
 have key : ∀ i, i < len → ∃ y, ∃ c, w.cells? 0 (a.add (i * d.sz)) d.sz = some c ∧ d.K w y c ∧ wf y := by
  intro i hi
  have h := hel i hi
  rw [hC, List.getElem?_eq_getElem (by omega)] at h
  obtain ⟨c, hc, ht⟩ := Option.bind_eq_some_iff.1 h
  obtain ⟨y, hk, hw⟩ := hE n c _ ht (fun m hm => hz m (Or.inr (Or.inl (weights_all (List.mem_map.2 ⟨_, List.getElem_mem _, rfl⟩) m hm))))
  exact ⟨y, c, hc, hk, hw⟩
 have hf : ∃ f : (i : Nat) → i < len → α, ∀ i (hi : i < len), ∃ c, w.cells? 0 (a.add (i * d.sz)) d.sz = some c ∧ d.K w (f i hi) c ∧ wf (f i hi) :=
  ⟨fun i hi => Classical.choose (key i hi), fun i hi => Classical.choose_spec (key i hi)⟩
 obtain ⟨f, hf⟩ := hf
 have hll : (List.ofFn (fun i : Fin len => f i.1 i.2)).length = len := by simp
 refine ⟨List.ofFn (fun i : Fin len => f i.1 i.2), ⟨some a, cap, by rw [hll], by rw [hll]; exact hl, rfl, by rw [hll]; omega, fun _ => ⟨a, rfl, fun j p hj => ?_⟩⟩, ⟨by rw [hll]; omega, by rw [hll]; exact hB'⟩, fun y hy => ?_⟩
 · obtain ⟨hj1, hj2⟩ := List.getElem?_eq_some_iff.1 hj
   rw [hll] at hj1
   have e : f j hj1 = p := by rw [← hj2]; simp
   obtain ⟨c, hc, hk, _⟩ := hf j hj1
   obtain ⟨hcl, hcc⟩ := cells_at hc
   refine ⟨c, hcl, e ▸ hk, fun i u hu => ?_⟩
   have h := hcc i u hu
   rwa [add_add] at h
 · obtain ⟨⟨i, hi⟩, rfl⟩ := List.mem_ofFn.1 hy
   obtain ⟨_, _, _, hw⟩ := hf i hi
   exact hw
theorem field_weights {t : TypeId} {fs : Array Field} {xs : List (DataW H × List MemPlace)} (ht : P.underlying t = some (.struct fs)) (hz : ∀ n ∈ (DataW.agg (xs.map (·.1))).weights P t, n ≤ reachBytes) {j : Nat} {f : Field} {x : DataW H × List MemPlace} (hf : fs[j]? = some f) (hx : xs[j]? = some x) : ∀ n ∈ x.1.weights P f.type, n ≤ reachBytes := by
 intro n hn
 refine hz n ?_
 simp only [DataW.weights, ht]
 exact DataW.weights_mem_each (j := j) (by simp [hf]) (by simp [hx]) n hn
theorem arg_weights {ts : List TypeId} {ds : List (DataW H)} (hsz : (DataW.weightsEach P ts ds).all (· ≤ reachBytes) = true) {j : Nat} {t : TypeId} {d : DataW H} (ht : ts[j]? = some t) (hd : ds[j]? = some d) : ∀ n ∈ d.weights P t, n ≤ reachBytes :=
 fun n hn => by simpa using List.all_eq_true.1 hsz n (DataW.weights_mem_each ht hd n hn)
theorem seg (cs : List Value) (o s : Nat) : cs.drop o = (cs.drop o).take s ++ cs.drop (o + s) := by rw [← List.drop_drop, List.take_append_drop]
theorem seg_last {cs : List Value} {o s : Nat} (h : cs.length = o + s) : cs.drop o = (cs.drop o).take s := by rw [List.take_of_length_le]; rw [List.length_drop]; omega
end XRow
structure S42 where
 f0 : Int
 f1 : Int
 f2 : Int
 f3 : (List S105)
 f4 : Int
 f5 : Int
 f6 : (List Int)
 f7 : (List Int)
 f8 : (List Int)
 f9 : (List Int)
def k42 : Kd S42 := Kd.iso (Kd.pair (Kd.int .u16) (Kd.pair (Kd.int .u8) (Kd.pair (Kd.int .u8) (Kd.pair (Kd.slice 105 k105) (Kd.pair (Kd.int .u16) (Kd.pair (Kd.int .u32) (Kd.pair (Kd.slice 5 (Kd.int .u8)) (Kd.pair (Kd.slice 5 (Kd.int .u8)) (Kd.pair (Kd.slice 5 (Kd.int .u8)) (Kd.slice 26 (Kd.int .u32))))))))))) (fun x : S42 => (x.f0, x.f1, x.f2, x.f3, x.f4, x.f5, x.f6, x.f7, x.f8, x.f9))
theorem k42_open {w : World} {x : S42} {cs : List Value} (h : k42.K w x cs) : ∃ A3 c3 A6 c6 A7 c7 A8 c8 A9 c9, cs = [.int .u16 x.f0, .int .u8 x.f1, .int .u8 x.f2, .slice A3 x.f3.length c3, .int .u16 x.f4, .int .u32 x.f5, .slice A6 x.f6.length c6, .slice A7 x.f7.length c7, .slice A8 x.f8.length c8, .slice A9 x.f9.length c9] ∧ x.f3.length ≤ c3 ∧ k105.C w A3 x.f3.length x.f3 ∧ x.f6.length ≤ c6 ∧ (Kd.int .u8).C w A6 x.f6.length x.f6 ∧ x.f7.length ≤ c7 ∧ (Kd.int .u8).C w A7 x.f7.length x.f7 ∧ x.f8.length ≤ c8 ∧ (Kd.int .u8).C w A8 x.f8.length x.f8 ∧ x.f9.length ≤ c9 ∧ (Kd.int .u32).C w A9 x.f9.length x.f9 := by
 obtain ⟨_, _, rfl, rfl, ⟨_, _, rfl, rfl, ⟨_, _, rfl, rfl, ⟨_, _, rfl, ⟨A3, c3, rfl, l3, g3⟩, ⟨_, _, rfl, rfl, ⟨_, _, rfl, rfl, ⟨_, _, rfl, ⟨A6, c6, rfl, l6, g6⟩, ⟨_, _, rfl, ⟨A7, c7, rfl, l7, g7⟩, ⟨_, _, rfl, ⟨A8, c8, rfl, l8, g8⟩, ⟨A9, c9, rfl, l9, g9⟩⟩⟩⟩⟩⟩⟩⟩⟩⟩ := h
 exact ⟨A3, c3, A6, c6, A7, c7, A8, c8, A9, c9, rfl, l3, g3, l6, g6, l7, g7, l8, g8, l9, g9⟩
structure S44 where
 f0 : Int
 f1 : Int
 f2 : (List S85)
 f3 : S42
def k44 : Kd S44 := Kd.iso (Kd.pair (Kd.int .u8) (Kd.pair (Kd.int .u16) (Kd.pair (Kd.slice 85 k85) k42))) (fun x : S44 => (x.f0, x.f1, x.f2, x.f3))
theorem k44_open {w : World} {x : S44} {cs : List Value} (h : k44.K w x cs) : ∃ A2 c2 A6 c6 A9 c9 A10 c10 A11 c11 A12 c12, cs = [.int .u8 x.f0, .int .u16 x.f1, .slice A2 x.f2.length c2, .int .u16 x.f3.f0, .int .u8 x.f3.f1, .int .u8 x.f3.f2, .slice A6 x.f3.f3.length c6, .int .u16 x.f3.f4, .int .u32 x.f3.f5, .slice A9 x.f3.f6.length c9, .slice A10 x.f3.f7.length c10, .slice A11 x.f3.f8.length c11, .slice A12 x.f3.f9.length c12] ∧ x.f2.length ≤ c2 ∧ k85.C w A2 x.f2.length x.f2 ∧ x.f3.f3.length ≤ c6 ∧ k105.C w A6 x.f3.f3.length x.f3.f3 ∧ x.f3.f6.length ≤ c9 ∧ (Kd.int .u8).C w A9 x.f3.f6.length x.f3.f6 ∧ x.f3.f7.length ≤ c10 ∧ (Kd.int .u8).C w A10 x.f3.f7.length x.f3.f7 ∧ x.f3.f8.length ≤ c11 ∧ (Kd.int .u8).C w A11 x.f3.f8.length x.f3.f8 ∧ x.f3.f9.length ≤ c12 ∧ (Kd.int .u32).C w A12 x.f3.f9.length x.f3.f9 := by
 obtain ⟨_, _, rfl, rfl, ⟨_, _, rfl, rfl, ⟨_, _, rfl, ⟨A2, c2, rfl, l2, g2⟩, s3⟩⟩⟩ := h
 obtain ⟨A6, c6, A9, c9, A10, c10, A11, c11, A12, c12, rfl, l6, g6, l9, g9, l10, g10, l11, g11, l12, g12⟩ := k42_open s3
 exact ⟨A2, c2, A6, c6, A9, c9, A10, c10, A11, c11, A12, c12, rfl, l2, g2, l6, g6, l9, g9, l10, g10, l11, g11, l12, g12⟩
end Go.Proofs.YteanncchmenlkaaDoor.Print
