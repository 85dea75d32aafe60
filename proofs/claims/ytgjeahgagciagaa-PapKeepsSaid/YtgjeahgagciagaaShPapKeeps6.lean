/- Texts of this claim, several in one, told shortly by a program of this claim (wip/x/shrink.py): what Go functions come to, and plain words on it. -/
import Derived.Test.YtgjeahgagciagaaShPapKeeps5
namespace Go.Proofs.Ytgjeahgagciagaa.Print
open Go.RowKit Go.Proofs.YtgjeahgagciagaaW.PrintWords Go.Proofs.YtgjeahgagciagaaW.PrintLast Go.Proofs.YtgjeahgagciagaaW.PrintMore
attribute [local go_sem] max2_int min2_int max_two min_two max_three min_three max_four min_four
set_option linter.unusedVariables false
set_option linter.unusedSimpArgs false
mutual
def marlinelaw17_PapKeeps.j0 : Nat → List Int → Bool → Int → Int → Int → List (S56) → Int → Int → List Int → List Int → List Int → List Int → Option (Bool)
 | 0, _, _, _, _, _, _, _, _, _, _, _, _ => none
 | k + 1, x1, x23, x205000, x205001, x205002, x205003, x205004, x205005, x205006, x205007, x205008, x205009 => if x23 = true then ((marlinelaw17_speaks.f k).bind fun t207 => (some t207)) else ((marlinelaw15_Of.f k x205000 x205001 x205002 x205003 x205004 x205005 x205006 x205007 x205008 x205009).bind fun bt208 => ((pap_Put.f k bt208.1 bt208.2.1 bt208.2.2.1 bt208.2.2.2.1 bt208.2.2.2.2.1 bt208.2.2.2.2.2.1 bt208.2.2.2.2.2.2.1 bt208.2.2.2.2.2.2.2.1 bt208.2.2.2.2.2.2.2.2.1 bt208.2.2.2.2.2.2.2.2.2).bind fun bt229 => ((some (([] : List Int) : List Int)).bind fun y233 => (if y233.length + x1.length < 140737488355328 then ((some (y233 ++ x1 : List Int)).bind fun y236 => ((pap_Get.f k y236).bind fun bt239 => ((pap_Get.f k x1).bind fun bt261 => (marlinelaw17_PapKeeps.l0 k y236 bt239.2.2.2.2.2.2.2.2.2.2 (y236.length : Int) 0 x205000 x205001 x205002 x205003 x205004 x205005 x205006 x205007 x205008 x205009 bt208.1 bt208.2.1 bt208.2.2.1 bt208.2.2.2.1 bt208.2.2.2.2.1 bt208.2.2.2.2.2.1 bt208.2.2.2.2.2.2.1 bt208.2.2.2.2.2.2.2.1 bt208.2.2.2.2.2.2.2.2.1 bt208.2.2.2.2.2.2.2.2.2 bt239.1 bt239.2.1 bt239.2.2.1 bt239.2.2.2.1 bt239.2.2.2.2.1 bt239.2.2.2.2.2.1 bt239.2.2.2.2.2.2.1 bt239.2.2.2.2.2.2.2.1 bt239.2.2.2.2.2.2.2.2.1 bt239.2.2.2.2.2.2.2.2.2.1 bt261.1 bt261.2.1 bt261.2.2.1 bt261.2.2.2.1 bt261.2.2.2.2.1 bt261.2.2.2.2.2.1 bt261.2.2.2.2.2.2.1 bt261.2.2.2.2.2.2.2.1 bt261.2.2.2.2.2.2.2.2.1 bt261.2.2.2.2.2.2.2.2.2.1)))) else (none)))))
def marlinelaw17_PapKeeps.l0 : Nat → List Int → Int → Int → Int → Int → Int → Int → List (S56) → Int → Int → List Int → List Int → List Int → List Int → Int → Int → Int → List (S57) → Int → Int → List Int → List Int → List Int → List Int → Int → Int → Int → List (S57) → Int → Int → List Int → List Int → List Int → List Int → Int → Int → Int → List (S57) → Int → Int → List Int → List Int → List Int → List Int → Option (Bool)
 | 0, _, _, _, _, _, _, _, _, _, _, _, _, _, _, _, _, _, _, _, _, _, _, _, _, _, _, _, _, _, _, _, _, _, _, _, _, _, _, _, _, _, _, _, _ => none
 | k + 1, x6, x8, x43, x44, x205000, x205001, x205002, x205003, x205004, x205005, x205006, x205007, x205008, x205009, x229000, x229001, x229002, x229003, x229004, x229005, x229006, x229007, x229008, x229009, x261000, x261001, x261002, x261003, x261004, x261005, x261006, x261007, x261008, x261009, x283000, x283001, x283002, x283003, x283004, x283005, x283006, x283007, x283008, x283009 => if x44 < x43 then (if 0 ≤ x44 then (if x44 < (x6.length : Int) then (marlinelaw17_PapKeeps.l0 k (x6.set (x44 : Int).toNat (((rd x6 x44) + 1) % 256)) x8 x43 (wrap64 (x44 + 1)) x205000 x205001 x205002 x205003 x205004 x205005 x205006 x205007 x205008 x205009 x229000 x229001 x229002 x229003 x229004 x229005 x229006 x229007 x229008 x229009 x261000 x261001 x261002 x261003 x261004 x261005 x261006 x261007 x261008 x261009 x283000 x283001 x283002 x283003 x283004 x283005 x283006 x283007 x283008 x283009) else (none)) else (none)) else ((marlinelaw15_To.f k x229000 x229001 x229002 x229003 x229004 x229005 x229006 x229007 x229008 x229009).bind fun bt285 => ((marlineref15_Same.f k bt285.1 bt285.2.1 bt285.2.2.1 bt285.2.2.2.1 bt285.2.2.2.2.1 bt285.2.2.2.2.2.1 bt285.2.2.2.2.2.2.1 bt285.2.2.2.2.2.2.2.1 bt285.2.2.2.2.2.2.2.2.1 bt285.2.2.2.2.2.2.2.2.2 x205000 x205001 x205002 x205003 x205004 x205005 x205006 x205007 x205008 x205009).bind fun t305 => (if t305 = true then (if x8 = 0 then ((marlinelaw15_To.f k x261000 x261001 x261002 x261003 x261004 x261005 x261006 x261007 x261008 x261009).bind fun bt306 => ((marlinelaw15_To.f k x283000 x283001 x283002 x283003 x283004 x283005 x283006 x283007 x283008 x283009).bind fun bt326 => ((marlineref15_Same.f k bt306.1 bt306.2.1 bt306.2.2.1 bt306.2.2.2.1 bt306.2.2.2.2.1 bt306.2.2.2.2.2.1 bt306.2.2.2.2.2.2.1 bt306.2.2.2.2.2.2.2.1 bt306.2.2.2.2.2.2.2.2.1 bt306.2.2.2.2.2.2.2.2.2 bt326.1 bt326.2.1 bt326.2.2.1 bt326.2.2.2.1 bt326.2.2.2.2.1 bt326.2.2.2.2.2.1 bt326.2.2.2.2.2.2.1 bt326.2.2.2.2.2.2.2.1 bt326.2.2.2.2.2.2.2.2.1 bt326.2.2.2.2.2.2.2.2.2).bind fun t346 => (some t346)))) else (some true)) else (none))))
end
def marlinelaw17_PapKeeps.f (k : Nat) (a0_0 : Int) (a0_1 : Int) (a0_2 : Int) (l0_3 : List (S56)) (a0_4 : Int) (a0_5 : Int) (l0_6 : List Int) (l0_7 : List Int) (l0_8 : List Int) (l0_9 : List Int) (l1 : List Int) : Option (Bool) := (marlinelaw17_speaks.f k).bind fun t205 => (if t205 = true then ((marlinelaw15_Few.f k a0_0 a0_1 a0_2 l0_3 a0_4 a0_5 l0_6 l0_7 l0_8 l0_9).bind fun t206 => (if t206 = true then (marlinelaw17_PapKeeps.j0 k l1 (decide ((l1.length : Int) > 600)) a0_0 a0_1 a0_2 l0_3 a0_4 a0_5 l0_6 l0_7 l0_8 l0_9) else (marlinelaw17_PapKeeps.j0 k l1 true a0_0 a0_1 a0_2 l0_3 a0_4 a0_5 l0_6 l0_7 l0_8 l0_9))) else (marlinelaw17_PapKeeps.j0 k l1 true a0_0 a0_1 a0_2 l0_3 a0_4 a0_5 l0_6 l0_7 l0_8 l0_9))
theorem marlinelaw17_PapKeeps.okN {α : Type} {d : Kd α} {e base : Nat} {ok C : Nat → Prop} {w : World} {v : Value} {xs : List α} (h : d.N e w base ok v xs) (f : ∀ k, ok k → C k) : ∀ k, ok k → C k := f
theorem marlinelaw17_PapKeeps.okV {α : Type} {d : Kd α} {e base : Nat} {A B C : Nat → Prop} {w : World} {v : Value} {xs : List α} (h : d.V e w base (fun k => A k ∧ B k) v xs) (f : ∀ k, A k → C k) : d.V e w base (fun k => B k ∧ C k) v xs := Kd.V_mono h (fun k hk => ⟨hk.2, f k hk.1⟩)
theorem marlinelaw17_PapKeeps.farN9 {α : Type} {d : Kd α} {e base g : Nat} {ok : Nat → Prop} {w : World} {v : Value} {xs : List α} {u0 u1 u2 u3 u4 u5 u6 u7 u8 u9 : Value} (h : d.N e w base ok v xs) (hg : ∀ k, ok k → k ≠ g) : d.N e ((((((((((w.setCell ⟨g, 0, none⟩ u0).setCell ⟨g, 1, none⟩ u1).setCell ⟨g, 2, none⟩ u2).setCell ⟨g, 3, none⟩ u3).setCell ⟨g, 4, none⟩ u4).setCell ⟨g, 5, none⟩ u5).setCell ⟨g, 6, none⟩ u6).setCell ⟨g, 7, none⟩ u7).setCell ⟨g, 8, none⟩ u8).setCell ⟨g, 9, none⟩ u9) base ok v xs := (Kd.N_far (p := ⟨g, 9, none⟩) (Kd.N_far (p := ⟨g, 8, none⟩) (Kd.N_far (p := ⟨g, 7, none⟩) (Kd.N_far (p := ⟨g, 6, none⟩) (Kd.N_far (p := ⟨g, 5, none⟩) (Kd.N_far (p := ⟨g, 4, none⟩) (Kd.N_far (p := ⟨g, 3, none⟩) (Kd.N_far (p := ⟨g, 2, none⟩) (Kd.N_far (p := ⟨g, 1, none⟩) (Kd.N_far (p := ⟨g, 0, none⟩) h hg u0) hg u1) hg u2) hg u3) hg u4) hg u5) hg u6) hg u7) hg u8) hg u9)
theorem marlinelaw17_PapKeeps.farR9 {α : Type} {d : Kd α} {e base g : Nat} {ok : Nat → Prop} {w : World} {v : Value} {xs : List α} {u0 u1 u2 u3 u4 u5 u6 u7 u8 u9 : Value} (h : d.R e w base ok v xs) (hg : ∀ k, ok k → k ≠ g) : d.R e ((((((((((w.setCell ⟨g, 0, none⟩ u0).setCell ⟨g, 1, none⟩ u1).setCell ⟨g, 2, none⟩ u2).setCell ⟨g, 3, none⟩ u3).setCell ⟨g, 4, none⟩ u4).setCell ⟨g, 5, none⟩ u5).setCell ⟨g, 6, none⟩ u6).setCell ⟨g, 7, none⟩ u7).setCell ⟨g, 8, none⟩ u8).setCell ⟨g, 9, none⟩ u9) base ok v xs := (Kd.R_far (p := ⟨g, 9, none⟩) (Kd.R_far (p := ⟨g, 8, none⟩) (Kd.R_far (p := ⟨g, 7, none⟩) (Kd.R_far (p := ⟨g, 6, none⟩) (Kd.R_far (p := ⟨g, 5, none⟩) (Kd.R_far (p := ⟨g, 4, none⟩) (Kd.R_far (p := ⟨g, 3, none⟩) (Kd.R_far (p := ⟨g, 2, none⟩) (Kd.R_far (p := ⟨g, 1, none⟩) (Kd.R_far (p := ⟨g, 0, none⟩) h hg u0) hg u1) hg u2) hg u3) hg u4) hg u5) hg u6) hg u7) hg u8) hg u9)
theorem marlinelaw17_PapKeeps.farV9 {α : Type} {d : Kd α} {e base g : Nat} {ok : Nat → Prop} {w : World} {v : Value} {xs : List α} {u0 u1 u2 u3 u4 u5 u6 u7 u8 u9 : Value} (h : d.V e w base ok v xs) (hg : ∀ k, ok k → k ≠ g) : d.V e ((((((((((w.setCell ⟨g, 0, none⟩ u0).setCell ⟨g, 1, none⟩ u1).setCell ⟨g, 2, none⟩ u2).setCell ⟨g, 3, none⟩ u3).setCell ⟨g, 4, none⟩ u4).setCell ⟨g, 5, none⟩ u5).setCell ⟨g, 6, none⟩ u6).setCell ⟨g, 7, none⟩ u7).setCell ⟨g, 8, none⟩ u8).setCell ⟨g, 9, none⟩ u9) base ok v xs := (Kd.V_far (p := ⟨g, 9, none⟩) (Kd.V_far (p := ⟨g, 8, none⟩) (Kd.V_far (p := ⟨g, 7, none⟩) (Kd.V_far (p := ⟨g, 6, none⟩) (Kd.V_far (p := ⟨g, 5, none⟩) (Kd.V_far (p := ⟨g, 4, none⟩) (Kd.V_far (p := ⟨g, 3, none⟩) (Kd.V_far (p := ⟨g, 2, none⟩) (Kd.V_far (p := ⟨g, 1, none⟩) (Kd.V_far (p := ⟨g, 0, none⟩) h hg u0) hg u1) hg u2) hg u3) hg u4) hg u5) hg u6) hg u7) hg u8) hg u9)
def marlinelaw17_PapKeeps.T13 : Bool × List (List Nat × List Nat) := (true, [([], []), ([0], [0]), ([], []), ([1, 2, 1], [1, 2]), ([3, 3], [3]), ([4], [4]), ([5, 4], [4, 5]), ([6, 4, 4], [4, 6]), ([7], [7]), ([8, 7, 7], [7, 8]), ([7], [7]), ([10, 9, 7], [7, 10]), ([9, 11, 11, 7], [7, 9, 11]), ([7, 12, 4], [4, 7, 12]), ([4, 13], [4, 13]), ([14, 12, 0, 1, 2, 3, 4, 5, 6, 7, 8, 9, 10, 11, 12, 13, 14], [14])])
def marlinelaw17_PapKeeps.B13 : List Nat := [0, 1, 0, 7, 15, 31, 63, 127, 255, 511, 255, 2047, 4095, 8191, 16383, 32767]
theorem marlinelaw17_PapKeeps.tab13 : rtab .any (opsOf Try.f10 13) = marlinelaw17_PapKeeps.T13 := by kernel_rfl
theorem marlinelaw17_PapKeeps.bits13 : waitsOk marlinelaw17_PapKeeps.T13.2 marlinelaw17_PapKeeps.B13 = true := by kernel_rfl
set_option maxHeartbeats 8000000 in
set_option maxRecDepth 100000 in
theorem marlinelaw17_PapKeeps.calls (k : Nat) (a0_0 : Int) (a0_1 : Int) (a0_2 : Int) (A0_3 : Option Addr) (c0_3 : Nat) (l0_3 : List (S56)) (a0_4 : Int) (a0_5 : Int) (A0_6 : Option Addr) (c0_6 : Nat) (l0_6 : List Int) (A0_7 : Option Addr) (c0_7 : Nat) (l0_7 : List Int) (A0_8 : Option Addr) (c0_8 : Nat) (l0_8 : List Int) (A0_9 : Option Addr) (c0_9 : Nat) (l0_9 : List Int) (A1 : Option Addr) (c1 : Nat) (l1 : List Int) (r : Bool) (w : World) (hr0_3 : Kd.C k56 w A0_3 l0_3.length l0_3) (hc0_3 : l0_3.length ≤ c0_3) (hr0_6 : Kd.C (Kd.int .u8) w A0_6 l0_6.length l0_6) (hc0_6 : l0_6.length ≤ c0_6) (hr0_7 : Kd.C (Kd.int .u8) w A0_7 l0_7.length l0_7) (hc0_7 : l0_7.length ≤ c0_7) (hr0_8 : Kd.C (Kd.int .u8) w A0_8 l0_8.length l0_8) (hc0_8 : l0_8.length ≤ c0_8) (hr0_9 : Kd.C (Kd.int .u32) w A0_9 l0_9.length l0_9) (hc0_9 : l0_9.length ≤ c0_9) (hr1 : Kd.C (Kd.int .u8) w A1 l1.length l1) (hc1 : l1.length ≤ c1) (h : marlinelaw17_PapKeeps.f k a0_0 a0_1 a0_2 l0_3 a0_4 a0_5 l0_6 l0_7 l0_8 l0_9 l1 = some r) :
 Calls Try.prog 10 #[.agg #[.int .u16 a0_0, .int .u8 a0_1, .int .u8 a0_2, .slice A0_3 l0_3.length c0_3, .int .u16 a0_4, .int .u32 a0_5, .slice A0_6 l0_6.length c0_6, .slice A0_7 l0_7.length c0_7, .slice A0_8 l0_8.length c0_8, .slice A0_9 l0_9.length c0_9], .slice A1 l1.length c1] w fun e w' => e = .returned (.bool r) ∧ Below w.heap.size w w' := by
 have hu44 := Try.underlying44
 have hu47 := Try.underlying47
 have HR0_3 := Aside0.mk hr0_3
 have HC0_3 := Aside0.mk hc0_3
 clear hr0_3 hc0_3
 have HR0_6 := Aside0.mk hr0_6
 have HC0_6 := Aside0.mk hc0_6
 clear hr0_6 hc0_6
 have HR0_7 := Aside0.mk hr0_7
 have HC0_7 := Aside0.mk hc0_7
 clear hr0_7 hc0_7
 have HR0_8 := Aside0.mk hr0_8
 have HC0_8 := Aside0.mk hc0_8
 clear hr0_8 hc0_8
 have HR0_9 := Aside0.mk hr0_9
 have HC0_9 := Aside0.mk hc0_9
 clear hr0_9 hc0_9
 have HR1 := Aside0.mk hr1
 have HC1 := Aside0.mk hc1
 clear hr1 hc1
 have HB := Aside0.mk (Below.refl w.heap.size w)
 have H : ((marlinelaw17_speaks.f k).bind fun t205 => (if t205 = true then ((marlinelaw15_Few.f k a0_0 a0_1 a0_2 l0_3 a0_4 a0_5 l0_6 l0_7 l0_8 l0_9).bind fun t206 => (if t206 = true then (marlinelaw17_PapKeeps.j0 k l1 (decide ((l1.length : Int) > 600)) a0_0 a0_1 a0_2 l0_3 a0_4 a0_5 l0_6 l0_7 l0_8 l0_9) else (marlinelaw17_PapKeeps.j0 k l1 true a0_0 a0_1 a0_2 l0_3 a0_4 a0_5 l0_6 l0_7 l0_8 l0_9))) else (marlinelaw17_PapKeeps.j0 k l1 true a0_0 a0_1 a0_2 l0_3 a0_4 a0_5 l0_6 l0_7 l0_8 l0_9))) = some r := h
 clear h
 have HC3 := Aside0.mk H
 clear H
 go_enter Try.func10, Try.ntmps10
 go_upto_region 1 with (first | ((with_reducible refine gate_dst (N := 2) rfl ?_); (try (refine gate_guard (by rfl) ?_; dsimp only)); refine box_event ?hg (N := 2) ?hd (cs := #[.int .u16 a0_0, .int .u8 a0_1, .int .u8 a0_2, .slice A0_3 l0_3.length c0_3, .int .u16 a0_4, .int .u32 a0_5, .slice A0_6 l0_6.length c0_6, .slice A0_7 l0_7.length c0_7, .slice A0_8 l0_8.length c0_8, .slice A0_9 l0_9.length c0_9]) (t := 44) ?hr ?_; (case hd => rfl); (case hg => rfl); (case hr => first | (go_simp; done) | (go_simp; simp only [IntKind.wrap_u8, IntKind.wrap_u16, IntKind.wrap_u32, IntKind.wrap_u64]; done) | (go_simp; simp only [IntKind.wrap_u8, IntKind.wrap_u16, IntKind.wrap_u32, IntKind.wrap_u64, Int.tmod_eq_emod_of_nonneg (Int.natCast_nonneg _), Int.emod_emod]; done) | (go_simp; rfl)); intro gb204 hg w4 hbox hb; have n0_ := Aside0.mk (below_step HB.out hb); have n1_ := Aside0.mk (hbox); have n2_ := Aside0.mk ((by rw [hg]; exact (below_size HB.out) : w.heap.size ≤ gb204)); have n3_ := Aside0.mk ((by rw [hg]; exact (below_size HB.out) : w.heap.size ≤ gb204)); clear HB; have HB := n0_; have BK204 := n1_; have GW204 := n2_; have GE204 := n3_; clear n0_ n1_ n2_ n3_; clear hb hbox hg))
 (try simp only [Act.put, List.setIfInBounds_toArray, List.set_cons_zero, List.set_cons_succ])
 go_cut [23] (fun v23 wc => ∃ (kq : Nat) (x23_2 : Bool), v23 = .bool x23_2 ∧ Aside0 (marlinelaw17_PapKeeps.j0 kq l1 x23_2 a0_0 a0_1 a0_2 l0_3 a0_4 a0_5 l0_6 l0_7 l0_8 l0_9 = some r) ∧ Aside0 (kq ≤ k) ∧ Aside0 (wc.heap[gb204]? = some (.cells #[.int .u16 a0_0, .int .u8 a0_1, .int .u8 a0_2, (.slice A0_3 l0_3.length c0_3), .int .u16 a0_4, .int .u32 a0_5, (.slice A0_6 l0_6.length c0_6), (.slice A0_7 l0_7.length c0_7), (.slice A0_8 l0_8.length c0_8), (.slice A0_9 l0_9.length c0_9)] 44 (0, 0))) ∧ Aside0 (Below w.heap.size w wc))
 case first =>
  have H := HC3.out
  clear HC3
  replace H := Option.bind_eq_some_iff.mp H
  obtain ⟨t205, A50, H⟩ := H
  replace H : (if t205 = true then ((marlinelaw15_Few.f k a0_0 a0_1 a0_2 l0_3 a0_4 a0_5 l0_6 l0_7 l0_8 l0_9).bind fun t206 => (if t206 = true then (marlinelaw17_PapKeeps.j0 k l1 (decide ((l1.length : Int) > 600)) a0_0 a0_1 a0_2 l0_3 a0_4 a0_5 l0_6 l0_7 l0_8 l0_9) else (marlinelaw17_PapKeeps.j0 k l1 true a0_0 a0_1 a0_2 l0_3 a0_4 a0_5 l0_6 l0_7 l0_8 l0_9))) else (marlinelaw17_PapKeeps.j0 k l1 true a0_0 a0_1 a0_2 l0_3 a0_4 a0_5 l0_6 l0_7 l0_8 l0_9)) = some r := H
  have A5 := Aside0.mk A50
  clear A50
  by_cases c6 : t205 = true
  · subst c6
    have H1 : ((marlinelaw15_Few.f k a0_0 a0_1 a0_2 l0_3 a0_4 a0_5 l0_6 l0_7 l0_8 l0_9).bind fun t206 => (if t206 = true then (marlinelaw17_PapKeeps.j0 k l1 (decide ((l1.length : Int) > 600)) a0_0 a0_1 a0_2 l0_3 a0_4 a0_5 l0_6 l0_7 l0_8 l0_9) else (marlinelaw17_PapKeeps.j0 k l1 true a0_0 a0_1 a0_2 l0_3 a0_4 a0_5 l0_6 l0_7 l0_8 l0_9))) = some r := by rw [if_pos rfl] at H; exact H
    clear H
    have H := H1
    clear H1
    replace H := Option.bind_eq_some_iff.mp H
    obtain ⟨t206, A70, H⟩ := H
    replace H : (if t206 = true then (marlinelaw17_PapKeeps.j0 k l1 (decide ((l1.length : Int) > 600)) a0_0 a0_1 a0_2 l0_3 a0_4 a0_5 l0_6 l0_7 l0_8 l0_9) else (marlinelaw17_PapKeeps.j0 k l1 true a0_0 a0_1 a0_2 l0_3 a0_4 a0_5 l0_6 l0_7 l0_8 l0_9)) = some r := H
    have A7 := Aside0.mk A70
    clear A70
    by_cases c8 : t206 = true
    · subst c8
      have H1 : (marlinelaw17_PapKeeps.j0 k l1 (decide ((l1.length : Int) > 600)) a0_0 a0_1 a0_2 l0_3 a0_4 a0_5 l0_6 l0_7 l0_8 l0_9) = some r := by rw [if_pos rfl] at H; exact H
      clear H
      have H := H1
      clear H1
      have H' := Aside0.mk H
      clear H
      go_wp2_with (first | ((with_reducible refine gate_callee (f := 30) rfl ?_); refine goesL_ (some 12) rfl rfl Try.func30 (by kernel_rfl) rfl #[] rfl (by (try simp only [List.map_toArray, List.map_cons, List.map_nil]); first | done | rfl | (simp only [List.length_drop, List.length_take]; rfl)) ?_; (with_reducible refine (marlinelaw17_speaks.calls k  true _ A5.out).mono ?_); rintro e w9 ⟨rfl, hb⟩; refine ⟨_, rfl, ?_⟩; have n0_ := Aside0.mk (blk_below BK204.out hb); have n1_ := Aside0.mk (below_step HB.out hb); clear BK204; clear HB; have BK204 := n0_; have HB := n1_; clear n0_ n1_; (try clear hb); (try clear hb2); (try clear hk); (try clear hi); obtain ⟨⟨hcz10_0, hcz10_1, hcz10_2, hcz10_3, hcz10_4, hcz10_5, hcz10_6, hcz10_7, hcz10_8, hcz10_9⟩, hfz10_0, hfz10_1, hfz10_2, hfz10_3, hfz10_4, hfz10_5, hfz10_6, hfz10_7, hfz10_8, hfz10_9⟩ := cz10 BK204.out) | (go_at_call 24; (with_reducible refine (marlinelaw15_Few.calls k a0_0 a0_1 a0_2 _ _ l0_3 a0_4 a0_5 _ _ l0_6 _ _ l0_7 _ _ l0_8 _ _ l0_9 true _ ?side1 ?side2 ?side3 ?side4 ?side5 ?side6 ?side7 ?side8 ?side9 ?side10 A7.out).mono ?_); (case side1 => repeat (first | exact (Kd.C_below HR0_3.out HB.out) | (with_reducible refine Kd.C_alloc ?_ _) | (with_reducible refine Kd.C_drewN ?_ _) | (with_reducible refine Kd.C_drew ?_))); (case side2 => exact HC0_3.out); (case side3 => repeat (first | exact (Kd.C_below HR0_6.out HB.out) | (with_reducible refine Kd.C_alloc ?_ _) | (with_reducible refine Kd.C_drewN ?_ _) | (with_reducible refine Kd.C_drew ?_))); (case side4 => exact HC0_6.out); (case side5 => repeat (first | exact (Kd.C_below HR0_7.out HB.out) | (with_reducible refine Kd.C_alloc ?_ _) | (with_reducible refine Kd.C_drewN ?_ _) | (with_reducible refine Kd.C_drew ?_))); (case side6 => exact HC0_7.out); (case side7 => repeat (first | exact (Kd.C_below HR0_8.out HB.out) | (with_reducible refine Kd.C_alloc ?_ _) | (with_reducible refine Kd.C_drewN ?_ _) | (with_reducible refine Kd.C_drew ?_))); (case side8 => exact HC0_8.out); (case side9 => repeat (first | exact (Kd.C_below HR0_9.out HB.out) | (with_reducible refine Kd.C_alloc ?_ _) | (with_reducible refine Kd.C_drewN ?_ _) | (with_reducible refine Kd.C_drew ?_))); (case side10 => exact HC0_9.out); rintro e w11 ⟨rfl, hb⟩; have n0_ := Aside0.mk (blk_below BK204.out hb); have n1_ := Aside0.mk (below_step HB.out hb); clear BK204; clear HB; have BK204 := n0_; have HB := n1_; clear n0_ n1_; (try clear hb); (try clear hb2); (try clear hk); (try clear hi)))
      go_meet
      case rel => exact ⟨_, (decide ((l1.length : Int) > 600)), (by first | rfl | (simp; done) | (simp [*]; done)), H', ⟨by first | omega | exact Nat.le_refl _⟩, ⟨by exact BK204.out⟩, ⟨by repeat (first | (with_reducible first | exact HB.out | apply below_alloc | apply pw_below_drewN | apply below_drew1 | refine below_set ?_ GE204.out) | exact HB.out)⟩⟩
    · replace c8 := Bool.eq_false_iff.mpr c8
      subst c8
      have H1 : (marlinelaw17_PapKeeps.j0 k l1 true a0_0 a0_1 a0_2 l0_3 a0_4 a0_5 l0_6 l0_7 l0_8 l0_9) = some r := by rw [if_neg (show ¬ (false = true) by decide)] at H; exact H
      clear H
      have H := H1
      clear H1
      have H' := Aside0.mk H
      clear H
      go_wp2_with (first | ((with_reducible refine gate_callee (f := 30) rfl ?_); refine goesL_ (some 12) rfl rfl Try.func30 (by kernel_rfl) rfl #[] rfl (by (try simp only [List.map_toArray, List.map_cons, List.map_nil]); first | done | rfl | (simp only [List.length_drop, List.length_take]; rfl)) ?_; (with_reducible refine (marlinelaw17_speaks.calls k  true _ A5.out).mono ?_); rintro e w12 ⟨rfl, hb⟩; refine ⟨_, rfl, ?_⟩; have n0_ := Aside0.mk (blk_below BK204.out hb); have n1_ := Aside0.mk (below_step HB.out hb); clear BK204; clear HB; have BK204 := n0_; have HB := n1_; clear n0_ n1_; (try clear hb); (try clear hb2); (try clear hk); (try clear hi); obtain ⟨⟨hcz13_0, hcz13_1, hcz13_2, hcz13_3, hcz13_4, hcz13_5, hcz13_6, hcz13_7, hcz13_8, hcz13_9⟩, hfz13_0, hfz13_1, hfz13_2, hfz13_3, hfz13_4, hfz13_5, hfz13_6, hfz13_7, hfz13_8, hfz13_9⟩ := cz10 BK204.out) | (go_at_call 24; (with_reducible refine (marlinelaw15_Few.calls k a0_0 a0_1 a0_2 _ _ l0_3 a0_4 a0_5 _ _ l0_6 _ _ l0_7 _ _ l0_8 _ _ l0_9 false _ ?side1 ?side2 ?side3 ?side4 ?side5 ?side6 ?side7 ?side8 ?side9 ?side10 A7.out).mono ?_); (case side1 => repeat (first | exact (Kd.C_below HR0_3.out HB.out) | (with_reducible refine Kd.C_alloc ?_ _) | (with_reducible refine Kd.C_drewN ?_ _) | (with_reducible refine Kd.C_drew ?_))); (case side2 => exact HC0_3.out); (case side3 => repeat (first | exact (Kd.C_below HR0_6.out HB.out) | (with_reducible refine Kd.C_alloc ?_ _) | (with_reducible refine Kd.C_drewN ?_ _) | (with_reducible refine Kd.C_drew ?_))); (case side4 => exact HC0_6.out); (case side5 => repeat (first | exact (Kd.C_below HR0_7.out HB.out) | (with_reducible refine Kd.C_alloc ?_ _) | (with_reducible refine Kd.C_drewN ?_ _) | (with_reducible refine Kd.C_drew ?_))); (case side6 => exact HC0_7.out); (case side7 => repeat (first | exact (Kd.C_below HR0_8.out HB.out) | (with_reducible refine Kd.C_alloc ?_ _) | (with_reducible refine Kd.C_drewN ?_ _) | (with_reducible refine Kd.C_drew ?_))); (case side8 => exact HC0_8.out); (case side9 => repeat (first | exact (Kd.C_below HR0_9.out HB.out) | (with_reducible refine Kd.C_alloc ?_ _) | (with_reducible refine Kd.C_drewN ?_ _) | (with_reducible refine Kd.C_drew ?_))); (case side10 => exact HC0_9.out); rintro e w14 ⟨rfl, hb⟩; have n0_ := Aside0.mk (blk_below BK204.out hb); have n1_ := Aside0.mk (below_step HB.out hb); clear BK204; clear HB; have BK204 := n0_; have HB := n1_; clear n0_ n1_; (try clear hb); (try clear hb2); (try clear hk); (try clear hi)))
      go_meet
      case rel => exact ⟨_, (true), (by first | rfl | (simp; done) | (simp [*]; done)), H', ⟨by first | omega | exact Nat.le_refl _⟩, ⟨by exact BK204.out⟩, ⟨by repeat (first | (with_reducible first | exact HB.out | apply below_alloc | apply pw_below_drewN | apply below_drew1 | refine below_set ?_ GE204.out) | exact HB.out)⟩⟩
  · replace c6 := Bool.eq_false_iff.mpr c6
    subst c6
    have H1 : (marlinelaw17_PapKeeps.j0 k l1 true a0_0 a0_1 a0_2 l0_3 a0_4 a0_5 l0_6 l0_7 l0_8 l0_9) = some r := by rw [if_neg (show ¬ (false = true) by decide)] at H; exact H
    clear H
    have H := H1
    clear H1
    have H' := Aside0.mk H
    clear H
    go_wp2_with (first | ((with_reducible refine gate_callee (f := 30) rfl ?_); refine goesL_ (some 12) rfl rfl Try.func30 (by kernel_rfl) rfl #[] rfl (by (try simp only [List.map_toArray, List.map_cons, List.map_nil]); first | done | rfl | (simp only [List.length_drop, List.length_take]; rfl)) ?_; (with_reducible refine (marlinelaw17_speaks.calls k  false _ A5.out).mono ?_); rintro e w15 ⟨rfl, hb⟩; refine ⟨_, rfl, ?_⟩; have n0_ := Aside0.mk (blk_below BK204.out hb); have n1_ := Aside0.mk (below_step HB.out hb); clear BK204; clear HB; have BK204 := n0_; have HB := n1_; clear n0_ n1_; (try clear hb); (try clear hb2); (try clear hk); (try clear hi)))
    go_meet
    case rel => exact ⟨_, (true), (by first | rfl | (simp; done) | (simp [*]; done)), H', ⟨by first | omega | exact Nat.le_refl _⟩, ⟨by exact BK204.out⟩, ⟨by repeat (first | (with_reducible first | exact HB.out | apply below_alloc | apply pw_below_drewN | apply below_drew1 | refine below_set ?_ GE204.out) | exact HB.out)⟩⟩
 case rest =>
  clear HC3
  try clear c1
  try clear p2
  try clear c3
  try clear c6
  try clear c8
  try clear c10
  try clear hcz10_0 hcz10_1 hcz10_2 hcz10_3 hcz10_4 hcz10_5 hcz10_6 hcz10_7 hcz10_8 hcz10_9 hfz10_0 hfz10_1 hfz10_2 hfz10_3 hfz10_4 hfz10_5 hfz10_6 hfz10_7 hfz10_8 hfz10_9
  try clear hcz13_0 hcz13_1 hcz13_2 hcz13_3 hcz13_4 hcz13_5 hcz13_6 hcz13_7 hcz13_8 hcz13_9 hfz13_0 hfz13_1 hfz13_2 hfz13_3 hfz13_4 hfz13_5 hfz13_6 hfz13_7 hfz13_8 hfz13_9
  obtain ⟨kq, x23_2, rfl, HA, HJ2, BK204, HB⟩ := hcut
  cases kq with
  | zero => exact absurd HA.out (by simp [marlinelaw17_PapKeeps.j0])
  | succ kj2 =>
   have H := HA.out
   clear HA
   simp only [marlinelaw17_PapKeeps.j0] at H
   by_cases c16 : x23_2 = true
   · subst c16
     have H1 : ((marlinelaw17_speaks.f kj2).bind fun t207 => (some t207)) = some r := by rw [if_pos rfl] at H; exact H
     clear H
     have H := H1
     clear H1
     replace H := Option.bind_eq_some_iff.mp H
     obtain ⟨t207, A170, H⟩ := H
     replace H : (some t207) = some r := H
     have A17 := Aside0.mk A170
     clear A170
     obtain rfl := Option.some.inj H
     go_wp2_with (first | ((with_reducible refine gate_callee (f := 30) rfl ?_); refine goesL_ (some 24) rfl rfl Try.func30 (by kernel_rfl) rfl #[] rfl (by (try simp only [List.map_toArray, List.map_cons, List.map_nil]); first | done | rfl | (simp only [List.length_drop, List.length_take]; rfl)) ?_; (with_reducible refine (marlinelaw17_speaks.calls kj2  t207 _ A17.out).mono ?_); rintro e w18 ⟨rfl, hb⟩; refine ⟨_, rfl, ?_⟩; have n0_ := Aside0.mk (blk_below BK204.out hb); have n1_ := Aside0.mk (below_step HB.out hb); clear BK204; clear HB; have BK204 := n0_; have HB := n1_; clear n0_ n1_; (try clear hb); (try clear hb2); (try clear hk); (try clear hi)))
     go_ret
     exact ⟨by first | rfl | (simp [errW_none, errW_some] <;> rfl) | (simp [*, errW_none, errW_some] <;> rfl), by repeat (first | (with_reducible first | exact HB.out | apply below_alloc | apply pw_below_drewN | apply below_drew1 | refine below_set ?_ GE204.out) | exact HB.out)⟩
   · replace c16 := Bool.eq_false_iff.mpr c16
     subst c16
     have H1 : ((marlinelaw15_Of.f kj2 a0_0 a0_1 a0_2 l0_3 a0_4 a0_5 l0_6 l0_7 l0_8 l0_9).bind fun bt208 => ((pap_Put.f kj2 bt208.1 bt208.2.1 bt208.2.2.1 bt208.2.2.2.1 bt208.2.2.2.2.1 bt208.2.2.2.2.2.1 bt208.2.2.2.2.2.2.1 bt208.2.2.2.2.2.2.2.1 bt208.2.2.2.2.2.2.2.2.1 bt208.2.2.2.2.2.2.2.2.2).bind fun bt229 => ((some (([] : List Int) : List Int)).bind fun y233 => (if y233.length + l1.length < 140737488355328 then ((some (y233 ++ l1 : List Int)).bind fun y236 => ((pap_Get.f kj2 y236).bind fun bt239 => ((pap_Get.f kj2 l1).bind fun bt261 => (marlinelaw17_PapKeeps.l0 kj2 y236 bt239.2.2.2.2.2.2.2.2.2.2 (y236.length : Int) 0 a0_0 a0_1 a0_2 l0_3 a0_4 a0_5 l0_6 l0_7 l0_8 l0_9 bt208.1 bt208.2.1 bt208.2.2.1 bt208.2.2.2.1 bt208.2.2.2.2.1 bt208.2.2.2.2.2.1 bt208.2.2.2.2.2.2.1 bt208.2.2.2.2.2.2.2.1 bt208.2.2.2.2.2.2.2.2.1 bt208.2.2.2.2.2.2.2.2.2 bt239.1 bt239.2.1 bt239.2.2.1 bt239.2.2.2.1 bt239.2.2.2.2.1 bt239.2.2.2.2.2.1 bt239.2.2.2.2.2.2.1 bt239.2.2.2.2.2.2.2.1 bt239.2.2.2.2.2.2.2.2.1 bt239.2.2.2.2.2.2.2.2.2.1 bt261.1 bt261.2.1 bt261.2.2.1 bt261.2.2.2.1 bt261.2.2.2.2.1 bt261.2.2.2.2.2.1 bt261.2.2.2.2.2.2.1 bt261.2.2.2.2.2.2.2.1 bt261.2.2.2.2.2.2.2.2.1 bt261.2.2.2.2.2.2.2.2.2.1)))) else (none))))) = some r := by rw [if_neg (show ¬ (false = true) by decide)] at H; exact H
     clear H
     have H := H1
     clear H1
     replace H := Option.bind_eq_some_iff.mp H
     obtain ⟨⟨t208, t209, t210, t211, t214, t215, t216, t219, t222, t225⟩, A190, H⟩ := H
     replace H : ((pap_Put.f kj2 t208 t209 t210 t211 t214 t215 t216 t219 t222 t225).bind fun bt229 => ((some (([] : List Int) : List Int)).bind fun y233 => (if y233.length + l1.length < 140737488355328 then ((some (y233 ++ l1 : List Int)).bind fun y236 => ((pap_Get.f kj2 y236).bind fun bt239 => ((pap_Get.f kj2 l1).bind fun bt261 => (marlinelaw17_PapKeeps.l0 kj2 y236 bt239.2.2.2.2.2.2.2.2.2.2 (y236.length : Int) 0 a0_0 a0_1 a0_2 l0_3 a0_4 a0_5 l0_6 l0_7 l0_8 l0_9 t208 t209 t210 t211 t214 t215 t216 t219 t222 t225 bt239.1 bt239.2.1 bt239.2.2.1 bt239.2.2.2.1 bt239.2.2.2.2.1 bt239.2.2.2.2.2.1 bt239.2.2.2.2.2.2.1 bt239.2.2.2.2.2.2.2.1 bt239.2.2.2.2.2.2.2.2.1 bt239.2.2.2.2.2.2.2.2.2.1 bt261.1 bt261.2.1 bt261.2.2.1 bt261.2.2.2.1 bt261.2.2.2.2.1 bt261.2.2.2.2.2.1 bt261.2.2.2.2.2.2.1 bt261.2.2.2.2.2.2.2.1 bt261.2.2.2.2.2.2.2.2.1 bt261.2.2.2.2.2.2.2.2.2.1)))) else (none)))) = some r := H
     have A19 := Aside0.mk A190
     clear A190
     replace H := Option.bind_eq_some_iff.mp H
     obtain ⟨⟨t229, t232⟩, A200, H⟩ := H
     replace H : ((some (([] : List Int) : List Int)).bind fun y233 => (if y233.length + l1.length < 140737488355328 then ((some (y233 ++ l1 : List Int)).bind fun y236 => ((pap_Get.f kj2 y236).bind fun bt239 => ((pap_Get.f kj2 l1).bind fun bt261 => (marlinelaw17_PapKeeps.l0 kj2 y236 bt239.2.2.2.2.2.2.2.2.2.2 (y236.length : Int) 0 a0_0 a0_1 a0_2 l0_3 a0_4 a0_5 l0_6 l0_7 l0_8 l0_9 t208 t209 t210 t211 t214 t215 t216 t219 t222 t225 bt239.1 bt239.2.1 bt239.2.2.1 bt239.2.2.2.1 bt239.2.2.2.2.1 bt239.2.2.2.2.2.1 bt239.2.2.2.2.2.2.1 bt239.2.2.2.2.2.2.2.1 bt239.2.2.2.2.2.2.2.2.1 bt239.2.2.2.2.2.2.2.2.2.1 bt261.1 bt261.2.1 bt261.2.2.1 bt261.2.2.2.1 bt261.2.2.2.2.1 bt261.2.2.2.2.2.1 bt261.2.2.2.2.2.2.1 bt261.2.2.2.2.2.2.2.1 bt261.2.2.2.2.2.2.2.2.1 bt261.2.2.2.2.2.2.2.2.2.1)))) else (none))) = some r := H
     have A20 := Aside0.mk A200
     clear A200
     obtain ⟨y233, hy233⟩ : ∃ y_ : List Int, y_ = (([] : List Int)) := ⟨_, rfl⟩
     replace H : (if y233.length + l1.length < 140737488355328 then ((some (y233 ++ l1 : List Int)).bind fun y236 => ((pap_Get.f kj2 y236).bind fun bt239 => ((pap_Get.f kj2 l1).bind fun bt261 => (marlinelaw17_PapKeeps.l0 kj2 y236 bt239.2.2.2.2.2.2.2.2.2.2 (y236.length : Int) 0 a0_0 a0_1 a0_2 l0_3 a0_4 a0_5 l0_6 l0_7 l0_8 l0_9 t208 t209 t210 t211 t214 t215 t216 t219 t222 t225 bt239.1 bt239.2.1 bt239.2.2.1 bt239.2.2.2.1 bt239.2.2.2.2.1 bt239.2.2.2.2.2.1 bt239.2.2.2.2.2.2.1 bt239.2.2.2.2.2.2.2.1 bt239.2.2.2.2.2.2.2.2.1 bt239.2.2.2.2.2.2.2.2.2.1 bt261.1 bt261.2.1 bt261.2.2.1 bt261.2.2.2.1 bt261.2.2.2.2.1 bt261.2.2.2.2.2.1 bt261.2.2.2.2.2.2.1 bt261.2.2.2.2.2.2.2.1 bt261.2.2.2.2.2.2.2.2.1 bt261.2.2.2.2.2.2.2.2.2.1)))) else (none)) = some r := by first | (rw [hy233]; with_reducible exact H) | (have H2_ := (Option.bind_some _ _).symm.trans H; rw [hy233]; with_reducible exact H2_) | (have H2_ := (Option.bind_some _ _).symm.trans H; with_reducible exact H2_) | with_reducible exact H | (rw [hy233]; exact H) | exact H
     have Ny233 := Aside0.mk hy233
     clear hy233
     by_cases c21 : y233.length + l1.length < 140737488355328
     · rw [if_pos c21] at H
       have LMc21 := Aside0.mk c21
       clear c21
       obtain ⟨y236, hy236⟩ : ∃ y_ : List Int, y_ = (y233 ++ l1) := ⟨_, rfl⟩
       replace H : ((pap_Get.f kj2 y236).bind fun bt239 => ((pap_Get.f kj2 l1).bind fun bt261 => (marlinelaw17_PapKeeps.l0 kj2 y236 bt239.2.2.2.2.2.2.2.2.2.2 (y236.length : Int) 0 a0_0 a0_1 a0_2 l0_3 a0_4 a0_5 l0_6 l0_7 l0_8 l0_9 t208 t209 t210 t211 t214 t215 t216 t219 t222 t225 bt239.1 bt239.2.1 bt239.2.2.1 bt239.2.2.2.1 bt239.2.2.2.2.1 bt239.2.2.2.2.2.1 bt239.2.2.2.2.2.2.1 bt239.2.2.2.2.2.2.2.1 bt239.2.2.2.2.2.2.2.2.1 bt239.2.2.2.2.2.2.2.2.2.1 bt261.1 bt261.2.1 bt261.2.2.1 bt261.2.2.2.1 bt261.2.2.2.2.1 bt261.2.2.2.2.2.1 bt261.2.2.2.2.2.2.1 bt261.2.2.2.2.2.2.2.1 bt261.2.2.2.2.2.2.2.2.1 bt261.2.2.2.2.2.2.2.2.2.1))) = some r := by first | (rw [hy236]; with_reducible exact H) | (have H2_ := (Option.bind_some _ _).symm.trans H; rw [hy236]; with_reducible exact H2_) | (have H2_ := (Option.bind_some _ _).symm.trans H; with_reducible exact H2_) | with_reducible exact H | (rw [hy236]; exact H) | exact H
       have Ny236 := Aside0.mk hy236
       clear hy236
       replace H := Option.bind_eq_some_iff.mp H
       obtain ⟨⟨t239, t240, t241, t242, t245, t246, t247, t250, t253, t256, t259⟩, A220, H⟩ := H
       replace H : ((pap_Get.f kj2 l1).bind fun bt261 => (marlinelaw17_PapKeeps.l0 kj2 y236 t259 (y236.length : Int) 0 a0_0 a0_1 a0_2 l0_3 a0_4 a0_5 l0_6 l0_7 l0_8 l0_9 t208 t209 t210 t211 t214 t215 t216 t219 t222 t225 t239 t240 t241 t242 t245 t246 t247 t250 t253 t256 bt261.1 bt261.2.1 bt261.2.2.1 bt261.2.2.2.1 bt261.2.2.2.2.1 bt261.2.2.2.2.2.1 bt261.2.2.2.2.2.2.1 bt261.2.2.2.2.2.2.2.1 bt261.2.2.2.2.2.2.2.2.1 bt261.2.2.2.2.2.2.2.2.2.1)) = some r := H
       have A22 := Aside0.mk A220
       clear A220
       replace H := Option.bind_eq_some_iff.mp H
       obtain ⟨⟨t261, t262, t263, t264, t267, t268, t269, t272, t275, t278, t281⟩, A230, H⟩ := H
       replace H : (marlinelaw17_PapKeeps.l0 kj2 y236 t259 (y236.length : Int) 0 a0_0 a0_1 a0_2 l0_3 a0_4 a0_5 l0_6 l0_7 l0_8 l0_9 t208 t209 t210 t211 t214 t215 t216 t219 t222 t225 t239 t240 t241 t242 t245 t246 t247 t250 t253 t256 t261 t262 t263 t264 t267 t268 t269 t272 t275 t278) = some r := H
       have A23 := Aside0.mk A230
       clear A230
       have H' := Aside0.mk H
       clear H
       obtain ⟨⟨hcz24_0, hcz24_1, hcz24_2, hcz24_3, hcz24_4, hcz24_5, hcz24_6, hcz24_7, hcz24_8, hcz24_9⟩, hfz24_0, hfz24_1, hfz24_2, hfz24_3, hfz24_4, hfz24_5, hfz24_6, hfz24_7, hfz24_8, hfz24_9⟩ := cz10 BK204.out
       go_wp2_with (first | ((with_reducible refine gate_callee (f := 25) rfl ?_); refine goesL_ (some 26) rfl rfl Try.func25 (by kernel_rfl) rfl #[.agg #[.int .u16 a0_0, .int .u8 a0_1, .int .u8 a0_2, .slice A0_3 l0_3.length c0_3, .int .u16 a0_4, .int .u32 a0_5, .slice A0_6 l0_6.length c0_6, .slice A0_7 l0_7.length c0_7, .slice A0_8 l0_8.length c0_8, .slice A0_9 l0_9.length c0_9]] rfl (by (try simp only [List.map_toArray, List.map_cons, List.map_nil]); first | done | rfl | (simp only [List.length_drop, List.length_take]; rfl)) ?_; (with_reducible refine (marlinelaw15_Of.calls kj2 a0_0 a0_1 a0_2 (fun k_ => k_ < w.heap.size) _ _ l0_3 a0_4 a0_5 (fun k_ => k_ < w.heap.size) _ _ l0_6 (fun k_ => k_ < w.heap.size) _ _ l0_7 (fun k_ => k_ < w.heap.size) _ _ l0_8 (fun k_ => k_ < w.heap.size) _ _ l0_9 t208 t209 t210 t211 t214 t215 t216 t219 t222 t225 _ ?side1 ?side2 ?side3 ?side4 ?side5 A19.out).mono ?_); (case side1 => exact Kd.V_mk HC0_3.out (Kd.F_below (Kd.C_F k56_heap HR0_3.out) HB.out)); (case side2 => exact Kd.V_mk HC0_6.out (Kd.F_below (Kd.C_F (Kd.heap_int .u8) HR0_6.out) HB.out)); (case side3 => exact Kd.V_mk HC0_7.out (Kd.F_below (Kd.C_F (Kd.heap_int .u8) HR0_7.out) HB.out)); (case side4 => exact Kd.V_mk HC0_8.out (Kd.F_below (Kd.C_F (Kd.heap_int .u8) HR0_8.out) HB.out)); (case side5 => exact Kd.V_mk HC0_9.out (Kd.F_below (Kd.C_F (Kd.heap_int .u32) HR0_9.out) HB.out)); rintro e w25 ⟨v212, v217, v220, v223, v226, rfl, ho0, ho1, ho2, ho3, ho4, hb⟩; refine ⟨_, rfl, ?_⟩; have n0_ := Aside0.mk (Kd.N_lower (Kd.N_mono (ok' := fun k_ => k_ ≠ gb204) ho0 (fun k_ hk_ => Or.elim hk_ (fun hs_ => Or.elim hs_ (fun hs_ => fun e_ => Nat.not_le.2 hs_ (by rw [e_]; exact GW204.out)) (fun hs_ => Or.elim hs_ (fun hs_ => fun e_ => Nat.not_le.2 hs_ (by rw [e_]; exact GW204.out)) (fun hs_ => Or.elim hs_ (fun hs_ => fun e_ => Nat.not_le.2 hs_ (by rw [e_]; exact GW204.out)) (fun hs_ => Or.elim hs_ (fun hs_ => fun e_ => Nat.not_le.2 hs_ (by rw [e_]; exact GW204.out)) (fun hs_ => fun e_ => Nat.not_le.2 hs_ (by rw [e_]; exact GW204.out)))))) (fun hn_ => (Kd.freshB BK204.out k_ hn_)))) (below_size HB.out)); have n1_ := Aside0.mk (Kd.V_lower (Kd.V_mono (ok' := fun k_ => some k_ ≠ (v212 : Value).ownBlock ∧ k_ ≠ gb204) ho1 (fun k_ hk_ => ⟨hk_.2, Or.elim hk_.1 (fun hs_ => Or.elim hs_ (fun hs_ => fun e_ => Nat.not_le.2 hs_ (by rw [e_]; exact GW204.out)) (fun hs_ => Or.elim hs_ (fun hs_ => fun e_ => Nat.not_le.2 hs_ (by rw [e_]; exact GW204.out)) (fun hs_ => Or.elim hs_ (fun hs_ => fun e_ => Nat.not_le.2 hs_ (by rw [e_]; exact GW204.out)) (fun hs_ => Or.elim hs_ (fun hs_ => fun e_ => Nat.not_le.2 hs_ (by rw [e_]; exact GW204.out)) (fun hs_ => fun e_ => Nat.not_le.2 hs_ (by rw [e_]; exact GW204.out)))))) (fun hn_ => (Kd.freshB BK204.out k_ hn_))⟩)) (below_size HB.out)); have n2_ := Aside0.mk (Kd.V_lower (Kd.V_mono (ok' := fun k_ => some k_ ≠ (v212 : Value).ownBlock ∧ k_ ≠ gb204) ho2 (fun k_ hk_ => ⟨hk_.2, Or.elim hk_.1 (fun hs_ => Or.elim hs_ (fun hs_ => fun e_ => Nat.not_le.2 hs_ (by rw [e_]; exact GW204.out)) (fun hs_ => Or.elim hs_ (fun hs_ => fun e_ => Nat.not_le.2 hs_ (by rw [e_]; exact GW204.out)) (fun hs_ => Or.elim hs_ (fun hs_ => fun e_ => Nat.not_le.2 hs_ (by rw [e_]; exact GW204.out)) (fun hs_ => Or.elim hs_ (fun hs_ => fun e_ => Nat.not_le.2 hs_ (by rw [e_]; exact GW204.out)) (fun hs_ => fun e_ => Nat.not_le.2 hs_ (by rw [e_]; exact GW204.out)))))) (fun hn_ => (Kd.freshB BK204.out k_ hn_))⟩)) (below_size HB.out)); have n3_ := Aside0.mk (Kd.V_lower (Kd.V_mono (ok' := fun k_ => some k_ ≠ (v212 : Value).ownBlock ∧ k_ ≠ gb204) ho3 (fun k_ hk_ => ⟨hk_.2, Or.elim hk_.1 (fun hs_ => Or.elim hs_ (fun hs_ => fun e_ => Nat.not_le.2 hs_ (by rw [e_]; exact GW204.out)) (fun hs_ => Or.elim hs_ (fun hs_ => fun e_ => Nat.not_le.2 hs_ (by rw [e_]; exact GW204.out)) (fun hs_ => Or.elim hs_ (fun hs_ => fun e_ => Nat.not_le.2 hs_ (by rw [e_]; exact GW204.out)) (fun hs_ => Or.elim hs_ (fun hs_ => fun e_ => Nat.not_le.2 hs_ (by rw [e_]; exact GW204.out)) (fun hs_ => fun e_ => Nat.not_le.2 hs_ (by rw [e_]; exact GW204.out)))))) (fun hn_ => (Kd.freshB BK204.out k_ hn_))⟩)) (below_size HB.out)); have n4_ := Aside0.mk (Kd.V_lower (Kd.V_mono (ok' := fun k_ => some k_ ≠ (v212 : Value).ownBlock ∧ k_ ≠ gb204) ho4 (fun k_ hk_ => ⟨hk_.2, Or.elim hk_.1 (fun hs_ => Or.elim hs_ (fun hs_ => fun e_ => Nat.not_le.2 hs_ (by rw [e_]; exact GW204.out)) (fun hs_ => Or.elim hs_ (fun hs_ => fun e_ => Nat.not_le.2 hs_ (by rw [e_]; exact GW204.out)) (fun hs_ => Or.elim hs_ (fun hs_ => fun e_ => Nat.not_le.2 hs_ (by rw [e_]; exact GW204.out)) (fun hs_ => Or.elim hs_ (fun hs_ => fun e_ => Nat.not_le.2 hs_ (by rw [e_]; exact GW204.out)) (fun hs_ => fun e_ => Nat.not_le.2 hs_ (by rw [e_]; exact GW204.out)))))) (fun hn_ => (Kd.freshB BK204.out k_ hn_))⟩)) (below_size HB.out)); have n5_ := Aside0.mk (blk_below BK204.out hb); have n6_ := Aside0.mk (below_step HB.out hb); clear BK204; clear HB; have HO213 := n0_; have HO218 := n1_; have HO221 := n2_; have HO224 := n3_; have HO227 := n4_; have BK204 := n5_; have HB := n6_; clear n0_ n1_ n2_ n3_ n4_ n5_ n6_; (try clear hb); (try clear hb2); (try clear hk); (try clear hi); (try clear ho0); (try clear ho1); (try clear ho2); (try clear ho3); (try clear ho4)) | ((with_reducible refine gate_dst (N := 5) rfl ?_); (try (refine gate_guard (by rfl) ?_; dsimp only)); refine box_event ?hg (N := 5) ?hd (cs := #[.int .u16 0, .int .u8 0, .int .u8 0, .slice none 0 0, .int .u16 0, .int .u32 0, .slice none 0 0, .slice none 0 0, .slice none 0 0, .slice none 0 0]) (t := 47) ?hr ?_; (case hd => rfl); (case hg => rfl); (case hr => first | (go_simp; done) | (go_simp; simp only [IntKind.wrap_u8, IntKind.wrap_u16, IntKind.wrap_u32, IntKind.wrap_u64]; done) | (go_simp; simp only [IntKind.wrap_u8, IntKind.wrap_u16, IntKind.wrap_u32, IntKind.wrap_u64, Int.tmod_eq_emod_of_nonneg (Int.natCast_nonneg _), Int.emod_emod]; done) | (go_simp; rfl)); intro gb228 hg w26 hbox hb; have n0_ := Aside0.mk (Kd.N_below (Kd.N_elderB HO213.out gb228 (Nat.le_of_eq hg.symm)) hb); have n1_ := Aside0.mk (Kd.V_below (Kd.V_elderB HO218.out gb228 (Nat.le_of_eq hg.symm)) hb); have n2_ := Aside0.mk (Kd.V_below (Kd.V_elderB HO221.out gb228 (Nat.le_of_eq hg.symm)) hb); have n3_ := Aside0.mk (Kd.V_below (Kd.V_elderB HO224.out gb228 (Nat.le_of_eq hg.symm)) hb); have n4_ := Aside0.mk (Kd.V_below (Kd.V_elderB HO227.out gb228 (Nat.le_of_eq hg.symm)) hb); have n5_ := Aside0.mk (blk_below BK204.out hb); have n6_ := Aside0.mk (below_step HB.out hb); have n7_ := Aside0.mk (hbox); have n8_ := Aside0.mk ((by rw [hg]; exact (below_size HB.out) : w.heap.size ≤ gb228)); have n9_ := Aside0.mk ((by rw [hg]; exact (below_size HB.out) : w.heap.size ≤ gb228)); have n10_ := Aside0.mk ((by rw [hg]; exact Nat.ne_of_lt (blk_lt BK204.out) : gb204 ≠ gb228)); have n11_ := Aside0.mk ((by rw [hg]; exact Nat.ne_of_gt (blk_lt BK204.out) : gb228 ≠ gb204)); clear HO213; clear HO218; clear HO221; clear HO224; clear HO227; clear BK204; clear HB; have HO213 := n0_; have HO218 := n1_; have HO221 := n2_; have HO224 := n3_; have HO227 := n4_; have BK204 := n5_; have HB := n6_; have BK228 := n7_; have GW228 := n8_; have GE228 := n9_; have NB204_228 := n10_; have NB228_204 := n11_; clear n0_ n1_ n2_ n3_ n4_ n5_ n6_ n7_ n8_ n9_ n10_ n11_; clear hb hbox hg; have hnb27 := NB228_204.out; have hnc27 := NB204_228.out; obtain ⟨⟨hcz28_0, hcz28_1, hcz28_2, hcz28_3, hcz28_4, hcz28_5, hcz28_6, hcz28_7, hcz28_8, hcz28_9⟩, hfz28_0, hfz28_1, hfz28_2, hfz28_3, hfz28_4, hfz28_5, hfz28_6, hfz28_7, hfz28_8, hfz28_9⟩ := cz10 BK228.out; obtain ⟨Ao29, co29, eo29⟩ := Kd.N_slice HO213.out; subst eo29; obtain ⟨Ao30, co30, eo30⟩ := Kd.V_slice HO218.out; subst eo30; obtain ⟨Ao31, co31, eo31⟩ := Kd.V_slice HO221.out; subst eo31; obtain ⟨Ao32, co32, eo32⟩ := Kd.V_slice HO224.out; subst eo32; obtain ⟨Ao33, co33, eo33⟩ := Kd.V_slice HO227.out; subst eo33) | ((with_reducible refine gate_callee (f := 31) rfl ?_); have n0_ : Aside0 (Kd.N k57 57 ((((((((((w26.setCell ⟨gb228, 0, none⟩ (.int .u16 t208)).setCell ⟨gb228, 1, none⟩ (.int .u8 t209)).setCell ⟨gb228, 2, none⟩ (.int .u8 t210)).setCell ⟨gb228, 3, none⟩ (.slice Ao29 t211.length co29)).setCell ⟨gb228, 4, none⟩ (.int .u16 t214)).setCell ⟨gb228, 5, none⟩ (.int .u32 t215)).setCell ⟨gb228, 6, none⟩ (.slice Ao30 t216.length co30)).setCell ⟨gb228, 7, none⟩ (.slice Ao31 t219.length co31)).setCell ⟨gb228, 8, none⟩ (.slice Ao32 t222.length co32)).setCell ⟨gb228, 9, none⟩ (.slice Ao33 t225.length co33)) w.heap.size (fun k_ => k_ ≠ gb204 ∧ k_ ≠ gb228) (.slice Ao29 t211.length co29) t211) := ⟨by exact Kd.N_mono (marlinelaw17_PapKeeps.farN9 (Kd.N_mono HO213.out (fun k_ hk => (⟨hk, hk.2⟩ : _ ∧ k_ ≠ gb228))) (fun _ hk => hk.2)) (fun _ hk => ⟨hk.1.1, hk.1.2⟩)⟩; have n1_ : Aside0 (Kd.V (Kd.int .u8) 5 ((((((((((w26.setCell ⟨gb228, 0, none⟩ (.int .u16 t208)).setCell ⟨gb228, 1, none⟩ (.int .u8 t209)).setCell ⟨gb228, 2, none⟩ (.int .u8 t210)).setCell ⟨gb228, 3, none⟩ (.slice Ao29 t211.length co29)).setCell ⟨gb228, 4, none⟩ (.int .u16 t214)).setCell ⟨gb228, 5, none⟩ (.int .u32 t215)).setCell ⟨gb228, 6, none⟩ (.slice Ao30 t216.length co30)).setCell ⟨gb228, 7, none⟩ (.slice Ao31 t219.length co31)).setCell ⟨gb228, 8, none⟩ (.slice Ao32 t222.length co32)).setCell ⟨gb228, 9, none⟩ (.slice Ao33 t225.length co33)) w.heap.size (fun k_ => some k_ ≠ (.slice Ao29 t211.length co29 : Value).ownBlock ∧ k_ ≠ gb204 ∧ k_ ≠ gb228) (.slice Ao30 t216.length co30) t216) := ⟨by exact Kd.V_mono (marlinelaw17_PapKeeps.farV9 (Kd.V_mono HO218.out (fun k_ hk => (⟨hk, hk.2⟩ : _ ∧ k_ ≠ gb228))) (fun _ hk => hk.2)) (fun _ hk => ⟨hk.1.1.1, ⟨hk.1.1.2, hk.1.2⟩⟩)⟩; have n2_ : Aside0 (Kd.V (Kd.int .u8) 5 ((((((((((w26.setCell ⟨gb228, 0, none⟩ (.int .u16 t208)).setCell ⟨gb228, 1, none⟩ (.int .u8 t209)).setCell ⟨gb228, 2, none⟩ (.int .u8 t210)).setCell ⟨gb228, 3, none⟩ (.slice Ao29 t211.length co29)).setCell ⟨gb228, 4, none⟩ (.int .u16 t214)).setCell ⟨gb228, 5, none⟩ (.int .u32 t215)).setCell ⟨gb228, 6, none⟩ (.slice Ao30 t216.length co30)).setCell ⟨gb228, 7, none⟩ (.slice Ao31 t219.length co31)).setCell ⟨gb228, 8, none⟩ (.slice Ao32 t222.length co32)).setCell ⟨gb228, 9, none⟩ (.slice Ao33 t225.length co33)) w.heap.size (fun k_ => some k_ ≠ (.slice Ao29 t211.length co29 : Value).ownBlock ∧ k_ ≠ gb204 ∧ k_ ≠ gb228) (.slice Ao31 t219.length co31) t219) := ⟨by exact Kd.V_mono (marlinelaw17_PapKeeps.farV9 (Kd.V_mono HO221.out (fun k_ hk => (⟨hk, hk.2⟩ : _ ∧ k_ ≠ gb228))) (fun _ hk => hk.2)) (fun _ hk => ⟨hk.1.1.1, ⟨hk.1.1.2, hk.1.2⟩⟩)⟩; have n3_ : Aside0 (Kd.V (Kd.int .u8) 5 ((((((((((w26.setCell ⟨gb228, 0, none⟩ (.int .u16 t208)).setCell ⟨gb228, 1, none⟩ (.int .u8 t209)).setCell ⟨gb228, 2, none⟩ (.int .u8 t210)).setCell ⟨gb228, 3, none⟩ (.slice Ao29 t211.length co29)).setCell ⟨gb228, 4, none⟩ (.int .u16 t214)).setCell ⟨gb228, 5, none⟩ (.int .u32 t215)).setCell ⟨gb228, 6, none⟩ (.slice Ao30 t216.length co30)).setCell ⟨gb228, 7, none⟩ (.slice Ao31 t219.length co31)).setCell ⟨gb228, 8, none⟩ (.slice Ao32 t222.length co32)).setCell ⟨gb228, 9, none⟩ (.slice Ao33 t225.length co33)) w.heap.size (fun k_ => some k_ ≠ (.slice Ao29 t211.length co29 : Value).ownBlock ∧ k_ ≠ gb204 ∧ k_ ≠ gb228) (.slice Ao32 t222.length co32) t222) := ⟨by exact Kd.V_mono (marlinelaw17_PapKeeps.farV9 (Kd.V_mono HO224.out (fun k_ hk => (⟨hk, hk.2⟩ : _ ∧ k_ ≠ gb228))) (fun _ hk => hk.2)) (fun _ hk => ⟨hk.1.1.1, ⟨hk.1.1.2, hk.1.2⟩⟩)⟩; have n4_ : Aside0 (Kd.V (Kd.int .u32) 41 ((((((((((w26.setCell ⟨gb228, 0, none⟩ (.int .u16 t208)).setCell ⟨gb228, 1, none⟩ (.int .u8 t209)).setCell ⟨gb228, 2, none⟩ (.int .u8 t210)).setCell ⟨gb228, 3, none⟩ (.slice Ao29 t211.length co29)).setCell ⟨gb228, 4, none⟩ (.int .u16 t214)).setCell ⟨gb228, 5, none⟩ (.int .u32 t215)).setCell ⟨gb228, 6, none⟩ (.slice Ao30 t216.length co30)).setCell ⟨gb228, 7, none⟩ (.slice Ao31 t219.length co31)).setCell ⟨gb228, 8, none⟩ (.slice Ao32 t222.length co32)).setCell ⟨gb228, 9, none⟩ (.slice Ao33 t225.length co33)) w.heap.size (fun k_ => some k_ ≠ (.slice Ao29 t211.length co29 : Value).ownBlock ∧ k_ ≠ gb204 ∧ k_ ≠ gb228) (.slice Ao33 t225.length co33) t225) := ⟨by exact Kd.V_mono (marlinelaw17_PapKeeps.farV9 (Kd.V_mono HO227.out (fun k_ hk => (⟨hk, hk.2⟩ : _ ∧ k_ ≠ gb228))) (fun _ hk => hk.2)) (fun _ hk => ⟨hk.1.1.1, ⟨hk.1.1.2, hk.1.2⟩⟩)⟩; have n5_ : Aside0 (((((((((((w26.setCell ⟨gb228, 0, none⟩ (.int .u16 t208)).setCell ⟨gb228, 1, none⟩ (.int .u8 t209)).setCell ⟨gb228, 2, none⟩ (.int .u8 t210)).setCell ⟨gb228, 3, none⟩ (.slice Ao29 t211.length co29)).setCell ⟨gb228, 4, none⟩ (.int .u16 t214)).setCell ⟨gb228, 5, none⟩ (.int .u32 t215)).setCell ⟨gb228, 6, none⟩ (.slice Ao30 t216.length co30)).setCell ⟨gb228, 7, none⟩ (.slice Ao31 t219.length co31)).setCell ⟨gb228, 8, none⟩ (.slice Ao32 t222.length co32)).setCell ⟨gb228, 9, none⟩ (.slice Ao33 t225.length co33)).heap[gb204]? = some (.cells #[.int .u16 a0_0, .int .u8 a0_1, .int .u8 a0_2, .slice A0_3 l0_3.length c0_3, .int .u16 a0_4, .int .u32 a0_5, .slice A0_6 l0_6.length c0_6, .slice A0_7 l0_7.length c0_7, .slice A0_8 l0_8.length c0_8, .slice A0_9 l0_9.length c0_9] 44 (0, 0))) := ⟨by refine blk_far ?_ NB204_228.out _; refine blk_far ?_ NB204_228.out _; refine blk_far ?_ NB204_228.out _; refine blk_far ?_ NB204_228.out _; refine blk_far ?_ NB204_228.out _; refine blk_far ?_ NB204_228.out _; refine blk_far ?_ NB204_228.out _; refine blk_far ?_ NB204_228.out _; refine blk_far ?_ NB204_228.out _; refine blk_far ?_ NB204_228.out _; exact BK204.out⟩; have n6_ : Aside0 (((((((((((w26.setCell ⟨gb228, 0, none⟩ (.int .u16 t208)).setCell ⟨gb228, 1, none⟩ (.int .u8 t209)).setCell ⟨gb228, 2, none⟩ (.int .u8 t210)).setCell ⟨gb228, 3, none⟩ (.slice Ao29 t211.length co29)).setCell ⟨gb228, 4, none⟩ (.int .u16 t214)).setCell ⟨gb228, 5, none⟩ (.int .u32 t215)).setCell ⟨gb228, 6, none⟩ (.slice Ao30 t216.length co30)).setCell ⟨gb228, 7, none⟩ (.slice Ao31 t219.length co31)).setCell ⟨gb228, 8, none⟩ (.slice Ao32 t222.length co32)).setCell ⟨gb228, 9, none⟩ (.slice Ao33 t225.length co33)).heap[gb228]? = some (.cells #[.int .u16 t208, .int .u8 t209, .int .u8 t210, .slice Ao29 t211.length co29, .int .u16 t214, .int .u32 t215, .slice Ao30 t216.length co30, .slice Ao31 t219.length co31, .slice Ao32 t222.length co32, .slice Ao33 t225.length co33] 47 (0, 0))) := ⟨by refine blk_put (cs := #[.int .u16 t208, .int .u8 t209, .int .u8 t210, .slice Ao29 t211.length co29, .int .u16 t214, .int .u32 t215, .slice Ao30 t216.length co30, .slice Ao31 t219.length co31, .slice Ao32 t222.length co32, .slice none 0 0]) ?_ 9 _ rfl; refine blk_put (cs := #[.int .u16 t208, .int .u8 t209, .int .u8 t210, .slice Ao29 t211.length co29, .int .u16 t214, .int .u32 t215, .slice Ao30 t216.length co30, .slice Ao31 t219.length co31, .slice none 0 0, .slice none 0 0]) ?_ 8 _ rfl; refine blk_put (cs := #[.int .u16 t208, .int .u8 t209, .int .u8 t210, .slice Ao29 t211.length co29, .int .u16 t214, .int .u32 t215, .slice Ao30 t216.length co30, .slice none 0 0, .slice none 0 0, .slice none 0 0]) ?_ 7 _ rfl; refine blk_put (cs := #[.int .u16 t208, .int .u8 t209, .int .u8 t210, .slice Ao29 t211.length co29, .int .u16 t214, .int .u32 t215, .slice none 0 0, .slice none 0 0, .slice none 0 0, .slice none 0 0]) ?_ 6 _ rfl; refine blk_put (cs := #[.int .u16 t208, .int .u8 t209, .int .u8 t210, .slice Ao29 t211.length co29, .int .u16 t214, .int .u32 0, .slice none 0 0, .slice none 0 0, .slice none 0 0, .slice none 0 0]) ?_ 5 _ rfl; refine blk_put (cs := #[.int .u16 t208, .int .u8 t209, .int .u8 t210, .slice Ao29 t211.length co29, .int .u16 0, .int .u32 0, .slice none 0 0, .slice none 0 0, .slice none 0 0, .slice none 0 0]) ?_ 4 _ rfl; refine blk_put (cs := #[.int .u16 t208, .int .u8 t209, .int .u8 t210, .slice none 0 0, .int .u16 0, .int .u32 0, .slice none 0 0, .slice none 0 0, .slice none 0 0, .slice none 0 0]) ?_ 3 _ rfl; refine blk_put (cs := #[.int .u16 t208, .int .u8 t209, .int .u8 0, .slice none 0 0, .int .u16 0, .int .u32 0, .slice none 0 0, .slice none 0 0, .slice none 0 0, .slice none 0 0]) ?_ 2 _ rfl; refine blk_put (cs := #[.int .u16 t208, .int .u8 0, .int .u8 0, .slice none 0 0, .int .u16 0, .int .u32 0, .slice none 0 0, .slice none 0 0, .slice none 0 0, .slice none 0 0]) ?_ 1 _ rfl; refine blk_put (cs := #[.int .u16 0, .int .u8 0, .int .u8 0, .slice none 0 0, .int .u16 0, .int .u32 0, .slice none 0 0, .slice none 0 0, .slice none 0 0, .slice none 0 0]) ?_ 0 _ rfl; exact BK228.out⟩; have n7_ : Aside0 (Below w.heap.size w ((((((((((w26.setCell ⟨gb228, 0, none⟩ (.int .u16 t208)).setCell ⟨gb228, 1, none⟩ (.int .u8 t209)).setCell ⟨gb228, 2, none⟩ (.int .u8 t210)).setCell ⟨gb228, 3, none⟩ (.slice Ao29 t211.length co29)).setCell ⟨gb228, 4, none⟩ (.int .u16 t214)).setCell ⟨gb228, 5, none⟩ (.int .u32 t215)).setCell ⟨gb228, 6, none⟩ (.slice Ao30 t216.length co30)).setCell ⟨gb228, 7, none⟩ (.slice Ao31 t219.length co31)).setCell ⟨gb228, 8, none⟩ (.slice Ao32 t222.length co32)).setCell ⟨gb228, 9, none⟩ (.slice Ao33 t225.length co33))) := ⟨by repeat (first | (with_reducible first | exact HB.out | apply below_alloc | apply pw_below_drewN | apply below_drew1 | refine below_set ?_ GE204.out | refine below_set ?_ GE228.out) | exact HB.out)⟩; (try clear HO213); (try clear HO218); (try clear HO221); (try clear HO224); (try clear HO227); (try clear BK204); (try clear BK228); (try clear HB); generalize ((((((((((w26.setCell ⟨gb228, 0, none⟩ (.int .u16 t208)).setCell ⟨gb228, 1, none⟩ (.int .u8 t209)).setCell ⟨gb228, 2, none⟩ (.int .u8 t210)).setCell ⟨gb228, 3, none⟩ (.slice Ao29 t211.length co29)).setCell ⟨gb228, 4, none⟩ (.int .u16 t214)).setCell ⟨gb228, 5, none⟩ (.int .u32 t215)).setCell ⟨gb228, 6, none⟩ (.slice Ao30 t216.length co30)).setCell ⟨gb228, 7, none⟩ (.slice Ao31 t219.length co31)).setCell ⟨gb228, 8, none⟩ (.slice Ao32 t222.length co32)).setCell ⟨gb228, 9, none⟩ (.slice Ao33 t225.length co33)) = w34 at n0_ n1_ n2_ n3_ n4_ n5_ n6_ n7_ ⊢; have HO213 := n0_; have HO218 := n1_; have HO221 := n2_; have HO224 := n3_; have HO227 := n4_; have BK204 := n5_; have BK228 := n6_; have HB := n7_; clear n0_ n1_ n2_ n3_ n4_ n5_ n6_ n7_; refine goesL_ (some 28) rfl rfl Try.func31 (by kernel_rfl) rfl #[.agg #[.int .u16 t208, .int .u8 t209, .int .u8 t210, .slice Ao29 t211.length co29, .int .u16 t214, .int .u32 t215, .slice Ao30 t216.length co30, .slice Ao31 t219.length co31, .slice Ao32 t222.length co32, .slice Ao33 t225.length co33]] rfl (by (try simp only [List.map_toArray, List.map_cons, List.map_nil]); first | done | rfl | (simp only [List.length_drop, List.length_take]; rfl)) ?_; (with_reducible refine (pap_Put.calls kj2 t208 t209 t210 _ _ t211 t214 t215 _ _ t216 _ _ t219 _ _ t222 _ _ t225 t229 t232 _ ?side1 ?side2 ?side3 ?side4 ?side5 ?side6 ?side7 ?side8 ?side9 ?side10 A20.out).mono ?_); (case side1 => repeat (first | exact (Kd.N_reads' HO213.out).2.2 | (with_reducible refine Kd.C_alloc ?_ _) | (with_reducible refine Kd.C_drewN ?_ _) | (with_reducible refine Kd.C_drew ?_))); (case side2 => exact (Kd.N_reads' HO213.out).2.1); (case side3 => repeat (first | exact (Kd.V_reads' HO218.out).2.2 | (with_reducible refine Kd.C_alloc ?_ _) | (with_reducible refine Kd.C_drewN ?_ _) | (with_reducible refine Kd.C_drew ?_))); (case side4 => exact (Kd.V_reads' HO218.out).2.1); (case side5 => repeat (first | exact (Kd.V_reads' HO221.out).2.2 | (with_reducible refine Kd.C_alloc ?_ _) | (with_reducible refine Kd.C_drewN ?_ _) | (with_reducible refine Kd.C_drew ?_))); (case side6 => exact (Kd.V_reads' HO221.out).2.1); (case side7 => repeat (first | exact (Kd.V_reads' HO224.out).2.2 | (with_reducible refine Kd.C_alloc ?_ _) | (with_reducible refine Kd.C_drewN ?_ _) | (with_reducible refine Kd.C_drew ?_))); (case side8 => exact (Kd.V_reads' HO224.out).2.1); (case side9 => repeat (first | exact (Kd.V_reads' HO227.out).2.2 | (with_reducible refine Kd.C_alloc ?_ _) | (with_reducible refine Kd.C_drewN ?_ _) | (with_reducible refine Kd.C_drew ?_))); (case side10 => exact (Kd.V_reads' HO227.out).2.1); rintro e w35 ⟨v230, rfl, ho0, hb⟩; refine ⟨_, rfl, ?_⟩; have n0_ := Aside0.mk (Kd.N_elder' HO213.out (Kd.R_base ho0) hb); have n1_ := Aside0.mk (Kd.V_elder' HO218.out (Kd.R_base ho0) hb); have n2_ := Aside0.mk (Kd.V_elder' HO221.out (Kd.R_base ho0) hb); have n3_ := Aside0.mk (Kd.V_elder' HO224.out (Kd.R_base ho0) hb); have n4_ := Aside0.mk (Kd.V_elder' HO227.out (Kd.R_base ho0) hb); have n5_ := Aside0.mk (Kd.R_lower ho0 (below_size HB.out)); have n6_ := Aside0.mk (blk_below BK204.out hb); have n7_ := Aside0.mk (blk_below BK228.out hb); have n8_ := Aside0.mk (below_step HB.out hb); clear HO213; clear HO218; clear HO221; clear HO224; clear HO227; clear BK204; clear BK228; clear HB; have HO213 := n0_; have HO218 := n1_; have HO221 := n2_; have HO224 := n3_; have HO227 := n4_; have HO231 := n5_; have BK204 := n6_; have BK228 := n7_; have HB := n8_; clear n0_ n1_ n2_ n3_ n4_ n5_ n6_ n7_ n8_; (try clear hb); (try clear hb2); (try clear hk); (try clear hi); (try clear ho0)) | ((with_reducible refine gate_dst (N := 29) rfl ?_); (try (refine gate_guard (by rfl) ?_; dsimp only)); refine Kd.R_lit (Kd.int .u8) _ 5 ?hg (N := 29) ?hd (xs := ([] : List Int)) (inner := []) (ok := fun _ => True) (okp := fun _ => True) ?hr ?hp (fun _ hk => hk) trivial (Below.refl _ _) (Nat.le_refl _) (by simp) ?_; (case hd => rfl); (case hg => rfl); (case hr => first | (go_simp; done) | (go_simp; simp only [IntKind.wrap_u8, IntKind.wrap_u16, IntKind.wrap_u32, IntKind.wrap_u64]; done) | (go_simp; simp only [IntKind.wrap_u8, IntKind.wrap_u16, IntKind.wrap_u32, IntKind.wrap_u64, Int.tmod_eq_emod_of_nonneg (Int.natCast_nonneg _), Int.emod_emod]; done) | (go_simp; rfl)); (case hp => exact (Reps.none _ _)); intro v234 w36 ho37 hb hg_ hnew_; clear hg_ hnew_; (first | rw [← Ny233.out] at ho37 | (simp only [Int.reduceToNat] at ho37; rw [← Ny233.out] at ho37)); have n0_ := Aside0.mk (Kd.N_elder' HO213.out (Kd.R_base ho37) hb); have n1_ := Aside0.mk (Kd.V_elder' HO218.out (Kd.R_base ho37) hb); have n2_ := Aside0.mk (Kd.V_elder' HO221.out (Kd.R_base ho37) hb); have n3_ := Aside0.mk (Kd.V_elder' HO224.out (Kd.R_base ho37) hb); have n4_ := Aside0.mk (Kd.V_elder' HO227.out (Kd.R_base ho37) hb); have n5_ := Aside0.mk (Kd.R_elder' HO231.out (Kd.R_base ho37) hb); have n6_ := Aside0.mk (Kd.R_lower (Kd.R_new' ho37 (Kd.R_lt HO231.out)) (below_size HB.out)); have n7_ := Aside0.mk (blk_below BK204.out hb); have n8_ := Aside0.mk (blk_below BK228.out hb); have n9_ := Aside0.mk (below_step HB.out hb); clear HO213; clear HO218; clear HO221; clear HO224; clear HO227; clear HO231; clear BK204; clear BK228; clear HB; have HO213 := n0_; have HO218 := n1_; have HO221 := n2_; have HO224 := n3_; have HO227 := n4_; have HO231 := n5_; have HO235 := n6_; have BK204 := n7_; have BK228 := n8_; have HB := n9_; clear n0_ n1_ n2_ n3_ n4_ n5_ n6_ n7_ n8_ n9_; clear hb ho37) | ((with_reducible refine gate_builtin (b := .append) (xs := #[.tmp 29, .tmp 30]) rfl ?_); (try (refine gate_guard (by rfl) ?_; dsimp only)); at_builtin; refine Kd.R_append_rows (Kd.int .u8) (w0 := w) w.heap.size rfl (.tmp 29) (.tmp 30) 23 5 (.int .u8 0) 1 rfl Try.underlying23 info5 rfl (by decide) (by omega) v234 y233 l1 _ _ _ (fun k_ => some k_ ≠ (v230 : Value).ownBlock) (fun _ => False) rfl rfl ?aO ?aR (fun _ _ h => h) (fun _ h => h.elim) ?aF ?aB ?aS ?aL ?_; (case aR => repeat (first | exact (Kd.C_below HR1.out HB.out) | (with_reducible refine Kd.C_alloc ?_ _) | (with_reducible refine Kd.C_drewN ?_ _) | (with_reducible refine Kd.C_drew ?_))); (case aB => exact HB.out); (case aF => exact (fun k_ hk => Kd.fresh' (Kd.R_lt HO231.out) k_ hk)); (case aO => exact (by exact Kd.R_mono HO235.out (fun _ hk => hk.2))); (case aS => exact (below_size HB.out)); (case aL => have := LMc21.out; omega); intro v237 w38 ho hb hg hat; rw [← Ny236.out] at ho; have n0_ := Aside0.mk (blk_grown BK204.out hg (Kd.R_ne HO235.out BK204.out (by decide))); have n1_ := Aside0.mk (Kd.N_afterv (ok := (fun k_ => some k_ ≠ (v230 : Value).ownBlock ∧ k_ ≠ gb204 ∧ k_ ≠ gb228)) (by exact Kd.N_mono HO213.out (fun _ hk => ⟨⟨hk.1.2, ⟨hk.1.1.1, hk.1.1.2⟩⟩, hk.2⟩)) hg hat); have n2_ := Aside0.mk (Kd.V_afterv (ok := (fun k_ => some k_ ≠ (.slice Ao29 t211.length co29 : Value).ownBlock ∧ some k_ ≠ (v230 : Value).ownBlock ∧ k_ ≠ gb204 ∧ k_ ≠ gb228)) (by exact Kd.V_mono HO218.out (fun _ hk => ⟨⟨hk.1.1.1, ⟨hk.1.2, ⟨hk.1.1.2.1, hk.1.1.2.2⟩⟩⟩, hk.2⟩)) hg hat); have n3_ := Aside0.mk (Kd.V_afterv (ok := (fun k_ => some k_ ≠ (.slice Ao29 t211.length co29 : Value).ownBlock ∧ some k_ ≠ (v230 : Value).ownBlock ∧ k_ ≠ gb204 ∧ k_ ≠ gb228)) (by exact Kd.V_mono HO221.out (fun _ hk => ⟨⟨hk.1.1.1, ⟨hk.1.2, ⟨hk.1.1.2.1, hk.1.1.2.2⟩⟩⟩, hk.2⟩)) hg hat); have n4_ := Aside0.mk (Kd.V_afterv (ok := (fun k_ => some k_ ≠ (.slice Ao29 t211.length co29 : Value).ownBlock ∧ some k_ ≠ (v230 : Value).ownBlock ∧ k_ ≠ gb204 ∧ k_ ≠ gb228)) (by exact Kd.V_mono HO224.out (fun _ hk => ⟨⟨hk.1.1.1, ⟨hk.1.2, ⟨hk.1.1.2.1, hk.1.1.2.2⟩⟩⟩, hk.2⟩)) hg hat); have n5_ := Aside0.mk (Kd.V_afterv (ok := (fun k_ => some k_ ≠ (.slice Ao29 t211.length co29 : Value).ownBlock ∧ some k_ ≠ (v230 : Value).ownBlock ∧ k_ ≠ gb204 ∧ k_ ≠ gb228)) (by exact Kd.V_mono HO227.out (fun _ hk => ⟨⟨hk.1.1.1, ⟨hk.1.2, ⟨hk.1.1.2.1, hk.1.1.2.2⟩⟩⟩, hk.2⟩)) hg hat); have n6_ := Aside0.mk (blk_grown BK228.out hg (Kd.R_ne HO235.out BK228.out (by decide))); have n7_ := Aside0.mk (Kd.R_after (ok := (fun _ => True)) HO231.out hg hat); have n8_ := Aside0.mk (hb); have n9_ := Aside0.mk (ho); clear BK204; clear HO213; clear HO218; clear HO221; clear HO224; clear HO227; clear BK228; clear HO231; clear HB; clear HO235; have BK204 := n0_; have HO213 := n1_; have HO218 := n2_; have HO221 := n3_; have HO224 := n4_; have HO227 := n5_; have BK228 := n6_; have HO231 := n7_; have HB := n8_; have HO238 := n9_; clear n0_ n1_ n2_ n3_ n4_ n5_ n6_ n7_ n8_ n9_; clear ho hb hg hat; obtain ⟨Ao39, co39, eo39⟩ := Kd.R_slice HO238.out; subst eo39) | ((with_reducible refine gate_callee (f := 33) rfl ?_); refine goesL_ (some 34) rfl rfl Try.func33 (by kernel_rfl) rfl #[.slice Ao39 y236.length co39] rfl (by (try simp only [List.map_toArray, List.map_cons, List.map_nil]); first | done | rfl | (simp only [List.length_drop, List.length_take]; rfl)) ?_; (with_reducible refine (pap_Get.calls kj2 _ _ y236 t239 t240 t241 t242 t245 t246 t247 t250 t253 t256 t259 _ ?side1 ?side2 A22.out).mono ?_); (case side1 => repeat (first | exact (Kd.R_reads' HO238.out).2.2 | (with_reducible refine Kd.C_alloc ?_ _) | (with_reducible refine Kd.C_drewN ?_ _) | (with_reducible refine Kd.C_drew ?_))); (case side2 => exact (Kd.R_reads' HO238.out).2.1); rintro e w40 ⟨v243, v248, v251, v254, v257, rfl, ho0, ho1, ho2, ho3, ho4, hb⟩; refine ⟨_, rfl, ?_⟩; have n0_ := Aside0.mk (Kd.N_mono (Kd.N_told (Kd.N_told (Kd.N_told (Kd.N_told (Kd.N_told (Kd.N_old HO213.out hb) (Kd.S_base ho0)) (Kd.R_base ho1)) (Kd.R_base ho2)) (Kd.R_base ho3)) (Kd.R_base ho4)) (fun _ h_ => h_.1)); have n1_ := Aside0.mk (Kd.V_mono (Kd.V_told (Kd.V_told (Kd.V_told (Kd.V_told (Kd.V_told (Kd.V_old HO218.out hb) (Kd.S_base ho0)) (Kd.R_base ho1)) (Kd.R_base ho2)) (Kd.R_base ho3)) (Kd.R_base ho4)) (fun _ h_ => h_.1)); have n2_ := Aside0.mk (Kd.V_mono (Kd.V_told (Kd.V_told (Kd.V_told (Kd.V_told (Kd.V_told (Kd.V_old HO221.out hb) (Kd.S_base ho0)) (Kd.R_base ho1)) (Kd.R_base ho2)) (Kd.R_base ho3)) (Kd.R_base ho4)) (fun _ h_ => h_.1)); have n3_ := Aside0.mk (Kd.V_mono (Kd.V_told (Kd.V_told (Kd.V_told (Kd.V_told (Kd.V_told (Kd.V_old HO224.out hb) (Kd.S_base ho0)) (Kd.R_base ho1)) (Kd.R_base ho2)) (Kd.R_base ho3)) (Kd.R_base ho4)) (fun _ h_ => h_.1)); have n4_ := Aside0.mk (Kd.V_mono (Kd.V_told (Kd.V_told (Kd.V_told (Kd.V_told (Kd.V_told (Kd.V_old HO227.out hb) (Kd.S_base ho0)) (Kd.R_base ho1)) (Kd.R_base ho2)) (Kd.R_base ho3)) (Kd.R_base ho4)) (fun _ h_ => h_.1)); have n5_ := Aside0.mk (Kd.R_mono (Kd.R_told (Kd.R_told (Kd.R_told (Kd.R_old HO231.out hb) (Kd.R_base ho1)) (Kd.R_base ho2)) (Kd.R_base ho3)) (fun _ h_ => h_.1)); have n6_ := Aside0.mk (Kd.R_mono (Kd.R_told (Kd.R_told (Kd.R_told (Kd.R_old HO238.out hb) (Kd.R_base ho1)) (Kd.R_base ho2)) (Kd.R_base ho3)) (fun _ h_ => h_.1)); have n7_ := Aside0.mk (Kd.N_lower (Kd.N_mono (ok' := fun k_ => some k_ ≠ (v248 : Value).ownBlock ∧ some k_ ≠ (v251 : Value).ownBlock ∧ some k_ ≠ (v254 : Value).ownBlock ∧ some k_ ≠ (v257 : Value).ownBlock ∧ some k_ ≠ (.slice Ao29 t211.length co29 : Value).ownBlock ∧ some k_ ≠ (v230 : Value).ownBlock ∧ some k_ ≠ (.slice Ao39 y236.length co39 : Value).ownBlock ∧ k_ ≠ gb204 ∧ k_ ≠ gb228) (Kd.S_N (Kd.S_bound (Kd.S_apart' ho0 (Kd.R_typed ho4) (by decide)))) (fun k_ hk_ => ⟨hk_.1.1.1, hk_.1.1.2.1, hk_.1.1.2.2, hk_.1.2, (Kd.fresh' (Kd.N_lt HO213.out) k_ hk_.2.1), (Kd.fresh' (Kd.R_lt HO231.out) k_ hk_.2.1), (Kd.fresh' (Kd.R_lt HO238.out) k_ hk_.2.1), (Kd.freshB BK204.out k_ hk_.2.1), (Kd.freshB BK228.out k_ hk_.2.1)⟩)) (below_size HB.out)); have n8_ := Aside0.mk (Kd.R_lower (Kd.R_new' (Kd.R_new' ho1 (Kd.R_lt HO231.out)) (Kd.R_lt HO238.out)) (below_size HB.out)); have n9_ := Aside0.mk (Kd.R_lower (Kd.R_new' (Kd.R_new' ho2 (Kd.R_lt HO231.out)) (Kd.R_lt HO238.out)) (below_size HB.out)); have n10_ := Aside0.mk (Kd.R_lower (Kd.R_new' (Kd.R_new' ho3 (Kd.R_lt HO231.out)) (Kd.R_lt HO238.out)) (below_size HB.out)); have n11_ := Aside0.mk (Kd.R_lower ho4 (below_size HB.out)); have n12_ := Aside0.mk (blk_below BK204.out hb); have n13_ := Aside0.mk (blk_below BK228.out hb); have n14_ := Aside0.mk (below_step HB.out hb); clear HO213; clear HO218; clear HO221; clear HO224; clear HO227; clear HO231; clear HO238; clear BK204; clear BK228; clear HB; have HO213 := n0_; have HO218 := n1_; have HO221 := n2_; have HO224 := n3_; have HO227 := n4_; have HO231 := n5_; have HO238 := n6_; have HO244 := n7_; have HO249 := n8_; have HO252 := n9_; have HO255 := n10_; have HO258 := n11_; have BK204 := n12_; have BK228 := n13_; have HB := n14_; clear n0_ n1_ n2_ n3_ n4_ n5_ n6_ n7_ n8_ n9_ n10_ n11_ n12_ n13_ n14_; (try clear hb); (try clear hb2); (try clear hk); (try clear hi); (try clear ho0); (try clear ho1); (try clear ho2); (try clear ho3); (try clear ho4)) | ((with_reducible refine gate_dst (N := 7) rfl ?_); (try (refine gate_guard (by rfl) ?_; dsimp only)); refine box_event ?hg (N := 7) ?hd (cs := #[.int .u16 0, .int .u8 0, .int .u8 0, .slice none 0 0, .int .u16 0, .int .u32 0, .slice none 0 0, .slice none 0 0, .slice none 0 0, .slice none 0 0]) (t := 47) ?hr ?_; (case hd => rfl); (case hg => rfl); (case hr => first | (go_simp; done) | (go_simp; simp only [IntKind.wrap_u8, IntKind.wrap_u16, IntKind.wrap_u32, IntKind.wrap_u64]; done) | (go_simp; simp only [IntKind.wrap_u8, IntKind.wrap_u16, IntKind.wrap_u32, IntKind.wrap_u64, Int.tmod_eq_emod_of_nonneg (Int.natCast_nonneg _), Int.emod_emod]; done) | (go_simp; rfl)); intro gb260 hg w41 hbox hb; have n0_ := Aside0.mk (Kd.N_below (Kd.N_elderB HO213.out gb260 (Nat.le_of_eq hg.symm)) hb); have n1_ := Aside0.mk (Kd.V_below (Kd.V_elderB HO218.out gb260 (Nat.le_of_eq hg.symm)) hb); have n2_ := Aside0.mk (Kd.V_below (Kd.V_elderB HO221.out gb260 (Nat.le_of_eq hg.symm)) hb); have n3_ := Aside0.mk (Kd.V_below (Kd.V_elderB HO224.out gb260 (Nat.le_of_eq hg.symm)) hb); have n4_ := Aside0.mk (Kd.V_below (Kd.V_elderB HO227.out gb260 (Nat.le_of_eq hg.symm)) hb); have n5_ := Aside0.mk (Kd.R_below HO231.out hb); have n6_ := Aside0.mk (Kd.R_below HO238.out hb); have n7_ := Aside0.mk (Kd.N_below (Kd.N_elderB HO244.out gb260 (Nat.le_of_eq hg.symm)) hb); have n8_ := Aside0.mk (Kd.R_below HO249.out hb); have n9_ := Aside0.mk (Kd.R_below HO252.out hb); have n10_ := Aside0.mk (Kd.R_below HO255.out hb); have n11_ := Aside0.mk (Kd.R_below HO258.out hb); have n12_ := Aside0.mk (blk_below BK204.out hb); have n13_ := Aside0.mk (blk_below BK228.out hb); have n14_ := Aside0.mk (below_step HB.out hb); have n15_ := Aside0.mk (hbox); have n16_ := Aside0.mk ((by rw [hg]; exact (below_size HB.out) : w.heap.size ≤ gb260)); have n17_ := Aside0.mk ((by rw [hg]; exact (below_size HB.out) : w.heap.size ≤ gb260)); have n18_ := Aside0.mk ((by rw [hg]; exact Nat.ne_of_lt (blk_lt BK204.out) : gb204 ≠ gb260)); have n19_ := Aside0.mk ((by rw [hg]; exact Nat.ne_of_gt (blk_lt BK204.out) : gb260 ≠ gb204)); have n20_ := Aside0.mk ((by rw [hg]; exact Nat.ne_of_lt (blk_lt BK228.out) : gb228 ≠ gb260)); have n21_ := Aside0.mk ((by rw [hg]; exact Nat.ne_of_gt (blk_lt BK228.out) : gb260 ≠ gb228)); clear HO213; clear HO218; clear HO221; clear HO224; clear HO227; clear HO231; clear HO238; clear HO244; clear HO249; clear HO252; clear HO255; clear HO258; clear BK204; clear BK228; clear HB; have HO213 := n0_; have HO218 := n1_; have HO221 := n2_; have HO224 := n3_; have HO227 := n4_; have HO231 := n5_; have HO238 := n6_; have HO244 := n7_; have HO249 := n8_; have HO252 := n9_; have HO255 := n10_; have HO258 := n11_; have BK204 := n12_; have BK228 := n13_; have HB := n14_; have BK260 := n15_; have GW260 := n16_; have GE260 := n17_; have NB204_260 := n18_; have NB260_204 := n19_; have NB228_260 := n20_; have NB260_228 := n21_; clear n0_ n1_ n2_ n3_ n4_ n5_ n6_ n7_ n8_ n9_ n10_ n11_ n12_ n13_ n14_ n15_ n16_ n17_ n18_ n19_ n20_ n21_; clear hb hbox hg; have hnb42 := NB260_204.out; have hnc42 := NB204_260.out; have hnb43 := NB260_228.out; have hnc43 := NB228_260.out; obtain ⟨⟨hcz44_0, hcz44_1, hcz44_2, hcz44_3, hcz44_4, hcz44_5, hcz44_6, hcz44_7, hcz44_8, hcz44_9⟩, hfz44_0, hfz44_1, hfz44_2, hfz44_3, hfz44_4, hfz44_5, hfz44_6, hfz44_7, hfz44_8, hfz44_9⟩ := cz10 BK260.out; obtain ⟨Ao45, co45, eo45⟩ := Kd.N_slice HO244.out; subst eo45; obtain ⟨Ao46, co46, eo46⟩ := Kd.R_slice HO249.out; subst eo46; obtain ⟨Ao47, co47, eo47⟩ := Kd.R_slice HO252.out; subst eo47; obtain ⟨Ao48, co48, eo48⟩ := Kd.R_slice HO255.out; subst eo48; obtain ⟨Ao49, co49, eo49⟩ := Kd.R_slice HO258.out; subst eo49) | ((with_reducible refine gate_callee (f := 33) rfl ?_); have n0_ : Aside0 (Kd.N k57 57 ((((((((((w41.setCell ⟨gb260, 0, none⟩ (.int .u16 t239)).setCell ⟨gb260, 1, none⟩ (.int .u8 t240)).setCell ⟨gb260, 2, none⟩ (.int .u8 t241)).setCell ⟨gb260, 3, none⟩ (.slice Ao45 t242.length co45)).setCell ⟨gb260, 4, none⟩ (.int .u16 t245)).setCell ⟨gb260, 5, none⟩ (.int .u32 t246)).setCell ⟨gb260, 6, none⟩ (.slice Ao46 t247.length co46)).setCell ⟨gb260, 7, none⟩ (.slice Ao47 t250.length co47)).setCell ⟨gb260, 8, none⟩ (.slice Ao48 t253.length co48)).setCell ⟨gb260, 9, none⟩ (.slice Ao49 t256.length co49)) w.heap.size (fun k_ => some k_ ≠ (v230 : Value).ownBlock ∧ some k_ ≠ (.slice Ao39 y236.length co39 : Value).ownBlock ∧ some k_ ≠ (.slice Ao45 t242.length co45 : Value).ownBlock ∧ some k_ ≠ (.slice Ao46 t247.length co46 : Value).ownBlock ∧ some k_ ≠ (.slice Ao47 t250.length co47 : Value).ownBlock ∧ some k_ ≠ (.slice Ao48 t253.length co48 : Value).ownBlock ∧ some k_ ≠ (.slice Ao49 t256.length co49 : Value).ownBlock ∧ k_ ≠ gb204 ∧ k_ ≠ gb228 ∧ k_ ≠ gb260) (.slice Ao29 t211.length co29) t211) := ⟨by exact Kd.N_mono (marlinelaw17_PapKeeps.farN9 (Kd.N_mono HO213.out (fun k_ hk => (⟨hk, hk.2⟩ : _ ∧ k_ ≠ gb260))) (fun _ hk => hk.2)) (fun _ hk => ⟨hk.1.1.1.1.1.1.1.1.1, ⟨hk.1.1.1.1.1.1.1.2, ⟨hk.1.1.1.1.1.1.2, ⟨hk.1.1.1.1.1.2, ⟨hk.1.1.1.1.2, ⟨hk.1.1.1.2, ⟨hk.1.1.2, ⟨hk.1.1.1.1.1.1.1.1.2.1, ⟨hk.1.1.1.1.1.1.1.1.2.2, hk.1.2⟩⟩⟩⟩⟩⟩⟩⟩⟩)⟩; have n1_ : Aside0 (Kd.V (Kd.int .u8) 5 ((((((((((w41.setCell ⟨gb260, 0, none⟩ (.int .u16 t239)).setCell ⟨gb260, 1, none⟩ (.int .u8 t240)).setCell ⟨gb260, 2, none⟩ (.int .u8 t241)).setCell ⟨gb260, 3, none⟩ (.slice Ao45 t242.length co45)).setCell ⟨gb260, 4, none⟩ (.int .u16 t245)).setCell ⟨gb260, 5, none⟩ (.int .u32 t246)).setCell ⟨gb260, 6, none⟩ (.slice Ao46 t247.length co46)).setCell ⟨gb260, 7, none⟩ (.slice Ao47 t250.length co47)).setCell ⟨gb260, 8, none⟩ (.slice Ao48 t253.length co48)).setCell ⟨gb260, 9, none⟩ (.slice Ao49 t256.length co49)) w.heap.size (fun k_ => some k_ ≠ (.slice Ao29 t211.length co29 : Value).ownBlock ∧ some k_ ≠ (v230 : Value).ownBlock ∧ some k_ ≠ (.slice Ao39 y236.length co39 : Value).ownBlock ∧ some k_ ≠ (.slice Ao45 t242.length co45 : Value).ownBlock ∧ some k_ ≠ (.slice Ao46 t247.length co46 : Value).ownBlock ∧ some k_ ≠ (.slice Ao47 t250.length co47 : Value).ownBlock ∧ some k_ ≠ (.slice Ao48 t253.length co48 : Value).ownBlock ∧ some k_ ≠ (.slice Ao49 t256.length co49 : Value).ownBlock ∧ k_ ≠ gb204 ∧ k_ ≠ gb228 ∧ k_ ≠ gb260) (.slice Ao30 t216.length co30) t216) := ⟨by exact Kd.V_mono (marlinelaw17_PapKeeps.farV9 (Kd.V_mono HO218.out (fun k_ hk => (⟨hk, hk.2⟩ : _ ∧ k_ ≠ gb260))) (fun _ hk => hk.2)) (fun _ hk => ⟨hk.1.1.1.1.1.1.1.1.1, ⟨hk.1.1.1.1.1.1.1.1.2.1, ⟨hk.1.1.1.1.1.1.1.2, ⟨hk.1.1.1.1.1.1.2, ⟨hk.1.1.1.1.1.2, ⟨hk.1.1.1.1.2, ⟨hk.1.1.1.2, ⟨hk.1.1.2, ⟨hk.1.1.1.1.1.1.1.1.2.2.1, ⟨hk.1.1.1.1.1.1.1.1.2.2.2, hk.1.2⟩⟩⟩⟩⟩⟩⟩⟩⟩⟩)⟩; have n2_ : Aside0 (Kd.V (Kd.int .u8) 5 ((((((((((w41.setCell ⟨gb260, 0, none⟩ (.int .u16 t239)).setCell ⟨gb260, 1, none⟩ (.int .u8 t240)).setCell ⟨gb260, 2, none⟩ (.int .u8 t241)).setCell ⟨gb260, 3, none⟩ (.slice Ao45 t242.length co45)).setCell ⟨gb260, 4, none⟩ (.int .u16 t245)).setCell ⟨gb260, 5, none⟩ (.int .u32 t246)).setCell ⟨gb260, 6, none⟩ (.slice Ao46 t247.length co46)).setCell ⟨gb260, 7, none⟩ (.slice Ao47 t250.length co47)).setCell ⟨gb260, 8, none⟩ (.slice Ao48 t253.length co48)).setCell ⟨gb260, 9, none⟩ (.slice Ao49 t256.length co49)) w.heap.size (fun k_ => some k_ ≠ (.slice Ao29 t211.length co29 : Value).ownBlock ∧ some k_ ≠ (v230 : Value).ownBlock ∧ some k_ ≠ (.slice Ao39 y236.length co39 : Value).ownBlock ∧ some k_ ≠ (.slice Ao45 t242.length co45 : Value).ownBlock ∧ some k_ ≠ (.slice Ao46 t247.length co46 : Value).ownBlock ∧ some k_ ≠ (.slice Ao47 t250.length co47 : Value).ownBlock ∧ some k_ ≠ (.slice Ao48 t253.length co48 : Value).ownBlock ∧ some k_ ≠ (.slice Ao49 t256.length co49 : Value).ownBlock ∧ k_ ≠ gb204 ∧ k_ ≠ gb228 ∧ k_ ≠ gb260) (.slice Ao31 t219.length co31) t219) := ⟨by exact Kd.V_mono (marlinelaw17_PapKeeps.farV9 (Kd.V_mono HO221.out (fun k_ hk => (⟨hk, hk.2⟩ : _ ∧ k_ ≠ gb260))) (fun _ hk => hk.2)) (fun _ hk => ⟨hk.1.1.1.1.1.1.1.1.1, ⟨hk.1.1.1.1.1.1.1.1.2.1, ⟨hk.1.1.1.1.1.1.1.2, ⟨hk.1.1.1.1.1.1.2, ⟨hk.1.1.1.1.1.2, ⟨hk.1.1.1.1.2, ⟨hk.1.1.1.2, ⟨hk.1.1.2, ⟨hk.1.1.1.1.1.1.1.1.2.2.1, ⟨hk.1.1.1.1.1.1.1.1.2.2.2, hk.1.2⟩⟩⟩⟩⟩⟩⟩⟩⟩⟩)⟩; have n3_ : Aside0 (Kd.V (Kd.int .u8) 5 ((((((((((w41.setCell ⟨gb260, 0, none⟩ (.int .u16 t239)).setCell ⟨gb260, 1, none⟩ (.int .u8 t240)).setCell ⟨gb260, 2, none⟩ (.int .u8 t241)).setCell ⟨gb260, 3, none⟩ (.slice Ao45 t242.length co45)).setCell ⟨gb260, 4, none⟩ (.int .u16 t245)).setCell ⟨gb260, 5, none⟩ (.int .u32 t246)).setCell ⟨gb260, 6, none⟩ (.slice Ao46 t247.length co46)).setCell ⟨gb260, 7, none⟩ (.slice Ao47 t250.length co47)).setCell ⟨gb260, 8, none⟩ (.slice Ao48 t253.length co48)).setCell ⟨gb260, 9, none⟩ (.slice Ao49 t256.length co49)) w.heap.size (fun k_ => some k_ ≠ (.slice Ao29 t211.length co29 : Value).ownBlock ∧ some k_ ≠ (v230 : Value).ownBlock ∧ some k_ ≠ (.slice Ao39 y236.length co39 : Value).ownBlock ∧ some k_ ≠ (.slice Ao45 t242.length co45 : Value).ownBlock ∧ some k_ ≠ (.slice Ao46 t247.length co46 : Value).ownBlock ∧ some k_ ≠ (.slice Ao47 t250.length co47 : Value).ownBlock ∧ some k_ ≠ (.slice Ao48 t253.length co48 : Value).ownBlock ∧ some k_ ≠ (.slice Ao49 t256.length co49 : Value).ownBlock ∧ k_ ≠ gb204 ∧ k_ ≠ gb228 ∧ k_ ≠ gb260) (.slice Ao32 t222.length co32) t222) := ⟨by exact Kd.V_mono (marlinelaw17_PapKeeps.farV9 (Kd.V_mono HO224.out (fun k_ hk => (⟨hk, hk.2⟩ : _ ∧ k_ ≠ gb260))) (fun _ hk => hk.2)) (fun _ hk => ⟨hk.1.1.1.1.1.1.1.1.1, ⟨hk.1.1.1.1.1.1.1.1.2.1, ⟨hk.1.1.1.1.1.1.1.2, ⟨hk.1.1.1.1.1.1.2, ⟨hk.1.1.1.1.1.2, ⟨hk.1.1.1.1.2, ⟨hk.1.1.1.2, ⟨hk.1.1.2, ⟨hk.1.1.1.1.1.1.1.1.2.2.1, ⟨hk.1.1.1.1.1.1.1.1.2.2.2, hk.1.2⟩⟩⟩⟩⟩⟩⟩⟩⟩⟩)⟩; have n4_ : Aside0 (Kd.V (Kd.int .u32) 41 ((((((((((w41.setCell ⟨gb260, 0, none⟩ (.int .u16 t239)).setCell ⟨gb260, 1, none⟩ (.int .u8 t240)).setCell ⟨gb260, 2, none⟩ (.int .u8 t241)).setCell ⟨gb260, 3, none⟩ (.slice Ao45 t242.length co45)).setCell ⟨gb260, 4, none⟩ (.int .u16 t245)).setCell ⟨gb260, 5, none⟩ (.int .u32 t246)).setCell ⟨gb260, 6, none⟩ (.slice Ao46 t247.length co46)).setCell ⟨gb260, 7, none⟩ (.slice Ao47 t250.length co47)).setCell ⟨gb260, 8, none⟩ (.slice Ao48 t253.length co48)).setCell ⟨gb260, 9, none⟩ (.slice Ao49 t256.length co49)) w.heap.size (fun k_ => some k_ ≠ (.slice Ao29 t211.length co29 : Value).ownBlock ∧ some k_ ≠ (v230 : Value).ownBlock ∧ some k_ ≠ (.slice Ao39 y236.length co39 : Value).ownBlock ∧ some k_ ≠ (.slice Ao45 t242.length co45 : Value).ownBlock ∧ some k_ ≠ (.slice Ao46 t247.length co46 : Value).ownBlock ∧ some k_ ≠ (.slice Ao47 t250.length co47 : Value).ownBlock ∧ some k_ ≠ (.slice Ao48 t253.length co48 : Value).ownBlock ∧ some k_ ≠ (.slice Ao49 t256.length co49 : Value).ownBlock ∧ k_ ≠ gb204 ∧ k_ ≠ gb228 ∧ k_ ≠ gb260) (.slice Ao33 t225.length co33) t225) := ⟨by exact Kd.V_mono (marlinelaw17_PapKeeps.farV9 (Kd.V_mono HO227.out (fun k_ hk => (⟨hk, hk.2⟩ : _ ∧ k_ ≠ gb260))) (fun _ hk => hk.2)) (fun _ hk => ⟨hk.1.1.1.1.1.1.1.1.1, ⟨hk.1.1.1.1.1.1.1.1.2.1, ⟨hk.1.1.1.1.1.1.1.2, ⟨hk.1.1.1.1.1.1.2, ⟨hk.1.1.1.1.1.2, ⟨hk.1.1.1.1.2, ⟨hk.1.1.1.2, ⟨hk.1.1.2, ⟨hk.1.1.1.1.1.1.1.1.2.2.1, ⟨hk.1.1.1.1.1.1.1.1.2.2.2, hk.1.2⟩⟩⟩⟩⟩⟩⟩⟩⟩⟩)⟩; have n5_ : Aside0 (Kd.R (Kd.int .u8) 5 ((((((((((w41.setCell ⟨gb260, 0, none⟩ (.int .u16 t239)).setCell ⟨gb260, 1, none⟩ (.int .u8 t240)).setCell ⟨gb260, 2, none⟩ (.int .u8 t241)).setCell ⟨gb260, 3, none⟩ (.slice Ao45 t242.length co45)).setCell ⟨gb260, 4, none⟩ (.int .u16 t245)).setCell ⟨gb260, 5, none⟩ (.int .u32 t246)).setCell ⟨gb260, 6, none⟩ (.slice Ao46 t247.length co46)).setCell ⟨gb260, 7, none⟩ (.slice Ao47 t250.length co47)).setCell ⟨gb260, 8, none⟩ (.slice Ao48 t253.length co48)).setCell ⟨gb260, 9, none⟩ (.slice Ao49 t256.length co49)) w.heap.size (fun k_ => some k_ ≠ (.slice Ao39 y236.length co39 : Value).ownBlock ∧ some k_ ≠ (.slice Ao46 t247.length co46 : Value).ownBlock ∧ some k_ ≠ (.slice Ao47 t250.length co47 : Value).ownBlock ∧ some k_ ≠ (.slice Ao48 t253.length co48 : Value).ownBlock) v230 t229) := ⟨by exact Kd.R_mono (marlinelaw17_PapKeeps.farR9 (Kd.R_types HO231.out BK260.out (by decide)) (fun _ hk => hk.2)) (fun _ hk => ⟨hk.1.1.1.1.2, ⟨hk.1.1.1.2, ⟨hk.1.1.2, hk.1.2⟩⟩⟩)⟩; have n6_ : Aside0 (Kd.R (Kd.int .u8) 5 ((((((((((w41.setCell ⟨gb260, 0, none⟩ (.int .u16 t239)).setCell ⟨gb260, 1, none⟩ (.int .u8 t240)).setCell ⟨gb260, 2, none⟩ (.int .u8 t241)).setCell ⟨gb260, 3, none⟩ (.slice Ao45 t242.length co45)).setCell ⟨gb260, 4, none⟩ (.int .u16 t245)).setCell ⟨gb260, 5, none⟩ (.int .u32 t246)).setCell ⟨gb260, 6, none⟩ (.slice Ao46 t247.length co46)).setCell ⟨gb260, 7, none⟩ (.slice Ao47 t250.length co47)).setCell ⟨gb260, 8, none⟩ (.slice Ao48 t253.length co48)).setCell ⟨gb260, 9, none⟩ (.slice Ao49 t256.length co49)) w.heap.size (fun k_ => some k_ ≠ (v230 : Value).ownBlock ∧ some k_ ≠ (.slice Ao46 t247.length co46 : Value).ownBlock ∧ some k_ ≠ (.slice Ao47 t250.length co47 : Value).ownBlock ∧ some k_ ≠ (.slice Ao48 t253.length co48 : Value).ownBlock) (.slice Ao39 y236.length co39) y236) := ⟨by exact Kd.R_mono (marlinelaw17_PapKeeps.farR9 (Kd.R_types HO238.out BK260.out (by decide)) (fun _ hk => hk.2)) (fun _ hk => ⟨hk.1.1.1.1, ⟨hk.1.1.1.2, ⟨hk.1.1.2, hk.1.2⟩⟩⟩)⟩; have n7_ : Aside0 (Kd.N k57 57 ((((((((((w41.setCell ⟨gb260, 0, none⟩ (.int .u16 t239)).setCell ⟨gb260, 1, none⟩ (.int .u8 t240)).setCell ⟨gb260, 2, none⟩ (.int .u8 t241)).setCell ⟨gb260, 3, none⟩ (.slice Ao45 t242.length co45)).setCell ⟨gb260, 4, none⟩ (.int .u16 t245)).setCell ⟨gb260, 5, none⟩ (.int .u32 t246)).setCell ⟨gb260, 6, none⟩ (.slice Ao46 t247.length co46)).setCell ⟨gb260, 7, none⟩ (.slice Ao47 t250.length co47)).setCell ⟨gb260, 8, none⟩ (.slice Ao48 t253.length co48)).setCell ⟨gb260, 9, none⟩ (.slice Ao49 t256.length co49)) w.heap.size (fun k_ => some k_ ≠ (.slice Ao29 t211.length co29 : Value).ownBlock ∧ some k_ ≠ (v230 : Value).ownBlock ∧ some k_ ≠ (.slice Ao39 y236.length co39 : Value).ownBlock ∧ some k_ ≠ (.slice Ao46 t247.length co46 : Value).ownBlock ∧ some k_ ≠ (.slice Ao47 t250.length co47 : Value).ownBlock ∧ some k_ ≠ (.slice Ao48 t253.length co48 : Value).ownBlock ∧ some k_ ≠ (.slice Ao49 t256.length co49 : Value).ownBlock ∧ k_ ≠ gb204 ∧ k_ ≠ gb228 ∧ k_ ≠ gb260) (.slice Ao45 t242.length co45) t242) := ⟨by exact Kd.N_mono (marlinelaw17_PapKeeps.farN9 (Kd.N_mono HO244.out (fun k_ hk => (⟨hk, hk.2⟩ : _ ∧ k_ ≠ gb260))) (fun _ hk => hk.2)) (fun _ hk => ⟨hk.1.1.2.2.2.2.1, ⟨hk.1.1.2.2.2.2.2.1, ⟨hk.1.1.2.2.2.2.2.2.1, ⟨hk.1.1.1, ⟨hk.1.1.2.1, ⟨hk.1.1.2.2.1, ⟨hk.1.1.2.2.2.1, ⟨hk.1.1.2.2.2.2.2.2.2.1, ⟨hk.1.1.2.2.2.2.2.2.2.2, hk.1.2⟩⟩⟩⟩⟩⟩⟩⟩⟩)⟩; have n8_ : Aside0 (Kd.R (Kd.int .u8) 5 ((((((((((w41.setCell ⟨gb260, 0, none⟩ (.int .u16 t239)).setCell ⟨gb260, 1, none⟩ (.int .u8 t240)).setCell ⟨gb260, 2, none⟩ (.int .u8 t241)).setCell ⟨gb260, 3, none⟩ (.slice Ao45 t242.length co45)).setCell ⟨gb260, 4, none⟩ (.int .u16 t245)).setCell ⟨gb260, 5, none⟩ (.int .u32 t246)).setCell ⟨gb260, 6, none⟩ (.slice Ao46 t247.length co46)).setCell ⟨gb260, 7, none⟩ (.slice Ao47 t250.length co47)).setCell ⟨gb260, 8, none⟩ (.slice Ao48 t253.length co48)).setCell ⟨gb260, 9, none⟩ (.slice Ao49 t256.length co49)) w.heap.size (fun k_ => some k_ ≠ (v230 : Value).ownBlock ∧ some k_ ≠ (.slice Ao39 y236.length co39 : Value).ownBlock ∧ some k_ ≠ (.slice Ao47 t250.length co47 : Value).ownBlock ∧ some k_ ≠ (.slice Ao48 t253.length co48 : Value).ownBlock) (.slice Ao46 t247.length co46) t247) := ⟨by exact Kd.R_mono (marlinelaw17_PapKeeps.farR9 (Kd.R_types HO249.out BK260.out (by decide)) (fun _ hk => hk.2)) (fun _ hk => ⟨hk.1.1.2, ⟨hk.1.2, ⟨hk.1.1.1.1, hk.1.1.1.2⟩⟩⟩)⟩; have n9_ : Aside0 (Kd.R (Kd.int .u8) 5 ((((((((((w41.setCell ⟨gb260, 0, none⟩ (.int .u16 t239)).setCell ⟨gb260, 1, none⟩ (.int .u8 t240)).setCell ⟨gb260, 2, none⟩ (.int .u8 t241)).setCell ⟨gb260, 3, none⟩ (.slice Ao45 t242.length co45)).setCell ⟨gb260, 4, none⟩ (.int .u16 t245)).setCell ⟨gb260, 5, none⟩ (.int .u32 t246)).setCell ⟨gb260, 6, none⟩ (.slice Ao46 t247.length co46)).setCell ⟨gb260, 7, none⟩ (.slice Ao47 t250.length co47)).setCell ⟨gb260, 8, none⟩ (.slice Ao48 t253.length co48)).setCell ⟨gb260, 9, none⟩ (.slice Ao49 t256.length co49)) w.heap.size (fun k_ => some k_ ≠ (v230 : Value).ownBlock ∧ some k_ ≠ (.slice Ao39 y236.length co39 : Value).ownBlock ∧ some k_ ≠ (.slice Ao46 t247.length co46 : Value).ownBlock ∧ some k_ ≠ (.slice Ao48 t253.length co48 : Value).ownBlock) (.slice Ao47 t250.length co47) t250) := ⟨by exact Kd.R_mono (marlinelaw17_PapKeeps.farR9 (Kd.R_types HO252.out BK260.out (by decide)) (fun _ hk => hk.2)) (fun _ hk => ⟨hk.1.1.2, ⟨hk.1.2, ⟨hk.1.1.1.1, hk.1.1.1.2⟩⟩⟩)⟩; have n10_ : Aside0 (Kd.R (Kd.int .u8) 5 ((((((((((w41.setCell ⟨gb260, 0, none⟩ (.int .u16 t239)).setCell ⟨gb260, 1, none⟩ (.int .u8 t240)).setCell ⟨gb260, 2, none⟩ (.int .u8 t241)).setCell ⟨gb260, 3, none⟩ (.slice Ao45 t242.length co45)).setCell ⟨gb260, 4, none⟩ (.int .u16 t245)).setCell ⟨gb260, 5, none⟩ (.int .u32 t246)).setCell ⟨gb260, 6, none⟩ (.slice Ao46 t247.length co46)).setCell ⟨gb260, 7, none⟩ (.slice Ao47 t250.length co47)).setCell ⟨gb260, 8, none⟩ (.slice Ao48 t253.length co48)).setCell ⟨gb260, 9, none⟩ (.slice Ao49 t256.length co49)) w.heap.size (fun k_ => some k_ ≠ (v230 : Value).ownBlock ∧ some k_ ≠ (.slice Ao39 y236.length co39 : Value).ownBlock ∧ some k_ ≠ (.slice Ao46 t247.length co46 : Value).ownBlock ∧ some k_ ≠ (.slice Ao47 t250.length co47 : Value).ownBlock) (.slice Ao48 t253.length co48) t253) := ⟨by exact Kd.R_mono (marlinelaw17_PapKeeps.farR9 (Kd.R_types HO255.out BK260.out (by decide)) (fun _ hk => hk.2)) (fun _ hk => ⟨hk.1.1.2, ⟨hk.1.2, ⟨hk.1.1.1.1, hk.1.1.1.2⟩⟩⟩)⟩; have n11_ : Aside0 (Kd.R (Kd.int .u32) 41 ((((((((((w41.setCell ⟨gb260, 0, none⟩ (.int .u16 t239)).setCell ⟨gb260, 1, none⟩ (.int .u8 t240)).setCell ⟨gb260, 2, none⟩ (.int .u8 t241)).setCell ⟨gb260, 3, none⟩ (.slice Ao45 t242.length co45)).setCell ⟨gb260, 4, none⟩ (.int .u16 t245)).setCell ⟨gb260, 5, none⟩ (.int .u32 t246)).setCell ⟨gb260, 6, none⟩ (.slice Ao46 t247.length co46)).setCell ⟨gb260, 7, none⟩ (.slice Ao47 t250.length co47)).setCell ⟨gb260, 8, none⟩ (.slice Ao48 t253.length co48)).setCell ⟨gb260, 9, none⟩ (.slice Ao49 t256.length co49)) w.heap.size (fun _ => True) (.slice Ao49 t256.length co49) t256) := ⟨by exact Kd.R_mono (marlinelaw17_PapKeeps.farR9 (Kd.R_types HO258.out BK260.out (by decide)) (fun _ hk => hk.2)) (fun _ hk => trivial)⟩; have n12_ : Aside0 (((((((((((w41.setCell ⟨gb260, 0, none⟩ (.int .u16 t239)).setCell ⟨gb260, 1, none⟩ (.int .u8 t240)).setCell ⟨gb260, 2, none⟩ (.int .u8 t241)).setCell ⟨gb260, 3, none⟩ (.slice Ao45 t242.length co45)).setCell ⟨gb260, 4, none⟩ (.int .u16 t245)).setCell ⟨gb260, 5, none⟩ (.int .u32 t246)).setCell ⟨gb260, 6, none⟩ (.slice Ao46 t247.length co46)).setCell ⟨gb260, 7, none⟩ (.slice Ao47 t250.length co47)).setCell ⟨gb260, 8, none⟩ (.slice Ao48 t253.length co48)).setCell ⟨gb260, 9, none⟩ (.slice Ao49 t256.length co49)).heap[gb204]? = some (.cells #[.int .u16 a0_0, .int .u8 a0_1, .int .u8 a0_2, .slice A0_3 l0_3.length c0_3, .int .u16 a0_4, .int .u32 a0_5, .slice A0_6 l0_6.length c0_6, .slice A0_7 l0_7.length c0_7, .slice A0_8 l0_8.length c0_8, .slice A0_9 l0_9.length c0_9] 44 (0, 0))) := ⟨by refine blk_far ?_ NB204_260.out _; refine blk_far ?_ NB204_260.out _; refine blk_far ?_ NB204_260.out _; refine blk_far ?_ NB204_260.out _; refine blk_far ?_ NB204_260.out _; refine blk_far ?_ NB204_260.out _; refine blk_far ?_ NB204_260.out _; refine blk_far ?_ NB204_260.out _; refine blk_far ?_ NB204_260.out _; refine blk_far ?_ NB204_260.out _; exact BK204.out⟩; have n13_ : Aside0 (((((((((((w41.setCell ⟨gb260, 0, none⟩ (.int .u16 t239)).setCell ⟨gb260, 1, none⟩ (.int .u8 t240)).setCell ⟨gb260, 2, none⟩ (.int .u8 t241)).setCell ⟨gb260, 3, none⟩ (.slice Ao45 t242.length co45)).setCell ⟨gb260, 4, none⟩ (.int .u16 t245)).setCell ⟨gb260, 5, none⟩ (.int .u32 t246)).setCell ⟨gb260, 6, none⟩ (.slice Ao46 t247.length co46)).setCell ⟨gb260, 7, none⟩ (.slice Ao47 t250.length co47)).setCell ⟨gb260, 8, none⟩ (.slice Ao48 t253.length co48)).setCell ⟨gb260, 9, none⟩ (.slice Ao49 t256.length co49)).heap[gb228]? = some (.cells #[.int .u16 t208, .int .u8 t209, .int .u8 t210, .slice Ao29 t211.length co29, .int .u16 t214, .int .u32 t215, .slice Ao30 t216.length co30, .slice Ao31 t219.length co31, .slice Ao32 t222.length co32, .slice Ao33 t225.length co33] 47 (0, 0))) := ⟨by refine blk_far ?_ NB228_260.out _; refine blk_far ?_ NB228_260.out _; refine blk_far ?_ NB228_260.out _; refine blk_far ?_ NB228_260.out _; refine blk_far ?_ NB228_260.out _; refine blk_far ?_ NB228_260.out _; refine blk_far ?_ NB228_260.out _; refine blk_far ?_ NB228_260.out _; refine blk_far ?_ NB228_260.out _; refine blk_far ?_ NB228_260.out _; exact BK228.out⟩; have n14_ : Aside0 (((((((((((w41.setCell ⟨gb260, 0, none⟩ (.int .u16 t239)).setCell ⟨gb260, 1, none⟩ (.int .u8 t240)).setCell ⟨gb260, 2, none⟩ (.int .u8 t241)).setCell ⟨gb260, 3, none⟩ (.slice Ao45 t242.length co45)).setCell ⟨gb260, 4, none⟩ (.int .u16 t245)).setCell ⟨gb260, 5, none⟩ (.int .u32 t246)).setCell ⟨gb260, 6, none⟩ (.slice Ao46 t247.length co46)).setCell ⟨gb260, 7, none⟩ (.slice Ao47 t250.length co47)).setCell ⟨gb260, 8, none⟩ (.slice Ao48 t253.length co48)).setCell ⟨gb260, 9, none⟩ (.slice Ao49 t256.length co49)).heap[gb260]? = some (.cells #[.int .u16 t239, .int .u8 t240, .int .u8 t241, .slice Ao45 t242.length co45, .int .u16 t245, .int .u32 t246, .slice Ao46 t247.length co46, .slice Ao47 t250.length co47, .slice Ao48 t253.length co48, .slice Ao49 t256.length co49] 47 (0, 0))) := ⟨by refine blk_put (cs := #[.int .u16 t239, .int .u8 t240, .int .u8 t241, .slice Ao45 t242.length co45, .int .u16 t245, .int .u32 t246, .slice Ao46 t247.length co46, .slice Ao47 t250.length co47, .slice Ao48 t253.length co48, .slice none 0 0]) ?_ 9 _ rfl; refine blk_put (cs := #[.int .u16 t239, .int .u8 t240, .int .u8 t241, .slice Ao45 t242.length co45, .int .u16 t245, .int .u32 t246, .slice Ao46 t247.length co46, .slice Ao47 t250.length co47, .slice none 0 0, .slice none 0 0]) ?_ 8 _ rfl; refine blk_put (cs := #[.int .u16 t239, .int .u8 t240, .int .u8 t241, .slice Ao45 t242.length co45, .int .u16 t245, .int .u32 t246, .slice Ao46 t247.length co46, .slice none 0 0, .slice none 0 0, .slice none 0 0]) ?_ 7 _ rfl; refine blk_put (cs := #[.int .u16 t239, .int .u8 t240, .int .u8 t241, .slice Ao45 t242.length co45, .int .u16 t245, .int .u32 t246, .slice none 0 0, .slice none 0 0, .slice none 0 0, .slice none 0 0]) ?_ 6 _ rfl; refine blk_put (cs := #[.int .u16 t239, .int .u8 t240, .int .u8 t241, .slice Ao45 t242.length co45, .int .u16 t245, .int .u32 0, .slice none 0 0, .slice none 0 0, .slice none 0 0, .slice none 0 0]) ?_ 5 _ rfl; refine blk_put (cs := #[.int .u16 t239, .int .u8 t240, .int .u8 t241, .slice Ao45 t242.length co45, .int .u16 0, .int .u32 0, .slice none 0 0, .slice none 0 0, .slice none 0 0, .slice none 0 0]) ?_ 4 _ rfl; refine blk_put (cs := #[.int .u16 t239, .int .u8 t240, .int .u8 t241, .slice none 0 0, .int .u16 0, .int .u32 0, .slice none 0 0, .slice none 0 0, .slice none 0 0, .slice none 0 0]) ?_ 3 _ rfl; refine blk_put (cs := #[.int .u16 t239, .int .u8 t240, .int .u8 0, .slice none 0 0, .int .u16 0, .int .u32 0, .slice none 0 0, .slice none 0 0, .slice none 0 0, .slice none 0 0]) ?_ 2 _ rfl; refine blk_put (cs := #[.int .u16 t239, .int .u8 0, .int .u8 0, .slice none 0 0, .int .u16 0, .int .u32 0, .slice none 0 0, .slice none 0 0, .slice none 0 0, .slice none 0 0]) ?_ 1 _ rfl; refine blk_put (cs := #[.int .u16 0, .int .u8 0, .int .u8 0, .slice none 0 0, .int .u16 0, .int .u32 0, .slice none 0 0, .slice none 0 0, .slice none 0 0, .slice none 0 0]) ?_ 0 _ rfl; exact BK260.out⟩; have n15_ : Aside0 (Below w.heap.size w ((((((((((w41.setCell ⟨gb260, 0, none⟩ (.int .u16 t239)).setCell ⟨gb260, 1, none⟩ (.int .u8 t240)).setCell ⟨gb260, 2, none⟩ (.int .u8 t241)).setCell ⟨gb260, 3, none⟩ (.slice Ao45 t242.length co45)).setCell ⟨gb260, 4, none⟩ (.int .u16 t245)).setCell ⟨gb260, 5, none⟩ (.int .u32 t246)).setCell ⟨gb260, 6, none⟩ (.slice Ao46 t247.length co46)).setCell ⟨gb260, 7, none⟩ (.slice Ao47 t250.length co47)).setCell ⟨gb260, 8, none⟩ (.slice Ao48 t253.length co48)).setCell ⟨gb260, 9, none⟩ (.slice Ao49 t256.length co49))) := ⟨by repeat (first | (with_reducible first | exact HB.out | apply below_alloc | apply pw_below_drewN | apply below_drew1 | refine below_set ?_ GE204.out | refine below_set ?_ GE228.out | refine below_set ?_ GE260.out) | exact HB.out)⟩; (try clear HO213); (try clear HO218); (try clear HO221); (try clear HO224); (try clear HO227); (try clear HO231); (try clear HO238); (try clear HO244); (try clear HO249); (try clear HO252); (try clear HO255); (try clear HO258); (try clear BK204); (try clear BK228); (try clear BK260); (try clear HB); generalize ((((((((((w41.setCell ⟨gb260, 0, none⟩ (.int .u16 t239)).setCell ⟨gb260, 1, none⟩ (.int .u8 t240)).setCell ⟨gb260, 2, none⟩ (.int .u8 t241)).setCell ⟨gb260, 3, none⟩ (.slice Ao45 t242.length co45)).setCell ⟨gb260, 4, none⟩ (.int .u16 t245)).setCell ⟨gb260, 5, none⟩ (.int .u32 t246)).setCell ⟨gb260, 6, none⟩ (.slice Ao46 t247.length co46)).setCell ⟨gb260, 7, none⟩ (.slice Ao47 t250.length co47)).setCell ⟨gb260, 8, none⟩ (.slice Ao48 t253.length co48)).setCell ⟨gb260, 9, none⟩ (.slice Ao49 t256.length co49)) = w50 at n0_ n1_ n2_ n3_ n4_ n5_ n6_ n7_ n8_ n9_ n10_ n11_ n12_ n13_ n14_ n15_ ⊢; have HO213 := n0_; have HO218 := n1_; have HO221 := n2_; have HO224 := n3_; have HO227 := n4_; have HO231 := n5_; have HO238 := n6_; have HO244 := n7_; have HO249 := n8_; have HO252 := n9_; have HO255 := n10_; have HO258 := n11_; have BK204 := n12_; have BK228 := n13_; have BK260 := n14_; have HB := n15_; clear n0_ n1_ n2_ n3_ n4_ n5_ n6_ n7_ n8_ n9_ n10_ n11_ n12_ n13_ n14_ n15_; refine goesL_ (some 39) rfl rfl Try.func33 (by kernel_rfl) rfl #[.slice A1 l1.length c1] rfl (by (try simp only [List.map_toArray, List.map_cons, List.map_nil]); first | done | rfl | (simp only [List.length_drop, List.length_take]; rfl)) ?_; (with_reducible refine (pap_Get.calls kj2 _ _ l1 t261 t262 t263 t264 t267 t268 t269 t272 t275 t278 t281 _ ?side1 ?side2 A23.out).mono ?_); (case side1 => repeat (first | exact (Kd.C_below HR1.out HB.out) | (with_reducible refine Kd.C_alloc ?_ _) | (with_reducible refine Kd.C_drewN ?_ _) | (with_reducible refine Kd.C_drew ?_))); (case side2 => exact HC1.out); rintro e w51 ⟨v265, v270, v273, v276, v279, rfl, ho0, ho1, ho2, ho3, ho4, hb⟩; refine ⟨_, rfl, ?_⟩; have n0_ := Aside0.mk (Kd.N_mono (Kd.N_told (Kd.N_told (Kd.N_told (Kd.N_told (Kd.N_told (Kd.N_old HO213.out hb) (Kd.S_base ho0)) (Kd.R_base ho1)) (Kd.R_base ho2)) (Kd.R_base ho3)) (Kd.R_base ho4)) (fun _ h_ => h_.1)); have n1_ := Aside0.mk (Kd.V_mono (Kd.V_told (Kd.V_told (Kd.V_told (Kd.V_told (Kd.V_told (Kd.V_old HO218.out hb) (Kd.S_base ho0)) (Kd.R_base ho1)) (Kd.R_base ho2)) (Kd.R_base ho3)) (Kd.R_base ho4)) (fun _ h_ => h_.1)); have n2_ := Aside0.mk (Kd.V_mono (Kd.V_told (Kd.V_told (Kd.V_told (Kd.V_told (Kd.V_told (Kd.V_old HO221.out hb) (Kd.S_base ho0)) (Kd.R_base ho1)) (Kd.R_base ho2)) (Kd.R_base ho3)) (Kd.R_base ho4)) (fun _ h_ => h_.1)); have n3_ := Aside0.mk (Kd.V_mono (Kd.V_told (Kd.V_told (Kd.V_told (Kd.V_told (Kd.V_told (Kd.V_old HO224.out hb) (Kd.S_base ho0)) (Kd.R_base ho1)) (Kd.R_base ho2)) (Kd.R_base ho3)) (Kd.R_base ho4)) (fun _ h_ => h_.1)); have n4_ := Aside0.mk (Kd.V_mono (Kd.V_told (Kd.V_told (Kd.V_told (Kd.V_told (Kd.V_told (Kd.V_old HO227.out hb) (Kd.S_base ho0)) (Kd.R_base ho1)) (Kd.R_base ho2)) (Kd.R_base ho3)) (Kd.R_base ho4)) (fun _ h_ => h_.1)); have n5_ := Aside0.mk (Kd.R_mono (Kd.R_told (Kd.R_told (Kd.R_told (Kd.R_old HO231.out hb) (Kd.R_base ho1)) (Kd.R_base ho2)) (Kd.R_base ho3)) (fun _ h_ => h_.1)); have n6_ := Aside0.mk (Kd.R_mono (Kd.R_told (Kd.R_told (Kd.R_told (Kd.R_old HO238.out hb) (Kd.R_base ho1)) (Kd.R_base ho2)) (Kd.R_base ho3)) (fun _ h_ => h_.1)); have n7_ := Aside0.mk (Kd.N_mono (Kd.N_told (Kd.N_told (Kd.N_told (Kd.N_told (Kd.N_told (Kd.N_old HO244.out hb) (Kd.S_base ho0)) (Kd.R_base ho1)) (Kd.R_base ho2)) (Kd.R_base ho3)) (Kd.R_base ho4)) (fun _ h_ => h_.1)); have n8_ := Aside0.mk (Kd.R_mono (Kd.R_told (Kd.R_told (Kd.R_told (Kd.R_old HO249.out hb) (Kd.R_base ho1)) (Kd.R_base ho2)) (Kd.R_base ho3)) (fun _ h_ => h_.1)); have n9_ := Aside0.mk (Kd.R_mono (Kd.R_told (Kd.R_told (Kd.R_told (Kd.R_old HO252.out hb) (Kd.R_base ho1)) (Kd.R_base ho2)) (Kd.R_base ho3)) (fun _ h_ => h_.1)); have n10_ := Aside0.mk (Kd.R_mono (Kd.R_told (Kd.R_told (Kd.R_told (Kd.R_old HO255.out hb) (Kd.R_base ho1)) (Kd.R_base ho2)) (Kd.R_base ho3)) (fun _ h_ => h_.1)); have n11_ := Aside0.mk (Kd.R_elder' HO258.out (Kd.R_base ho4) hb); have n12_ := Aside0.mk (Kd.N_lower (Kd.N_mono (ok' := fun k_ => some k_ ≠ (v270 : Value).ownBlock ∧ some k_ ≠ (v273 : Value).ownBlock ∧ some k_ ≠ (v276 : Value).ownBlock ∧ some k_ ≠ (v279 : Value).ownBlock ∧ some k_ ≠ (.slice Ao29 t211.length co29 : Value).ownBlock ∧ some k_ ≠ (v230 : Value).ownBlock ∧ some k_ ≠ (.slice Ao39 y236.length co39 : Value).ownBlock ∧ some k_ ≠ (.slice Ao45 t242.length co45 : Value).ownBlock ∧ some k_ ≠ (.slice Ao46 t247.length co46 : Value).ownBlock ∧ some k_ ≠ (.slice Ao47 t250.length co47 : Value).ownBlock ∧ some k_ ≠ (.slice Ao48 t253.length co48 : Value).ownBlock ∧ some k_ ≠ (.slice Ao49 t256.length co49 : Value).ownBlock ∧ k_ ≠ gb204 ∧ k_ ≠ gb228 ∧ k_ ≠ gb260) (Kd.S_N (Kd.S_bound (Kd.S_apart' ho0 (Kd.R_typed ho4) (by decide)))) (fun k_ hk_ => ⟨hk_.1.1.1, hk_.1.1.2.1, hk_.1.1.2.2, hk_.1.2, (Kd.fresh' (Kd.N_lt HO213.out) k_ hk_.2.1), (Kd.fresh' (Kd.R_lt HO231.out) k_ hk_.2.1), (Kd.fresh' (Kd.R_lt HO238.out) k_ hk_.2.1), (Kd.fresh' (Kd.N_lt HO244.out) k_ hk_.2.1), (Kd.fresh' (Kd.R_lt HO249.out) k_ hk_.2.1), (Kd.fresh' (Kd.R_lt HO252.out) k_ hk_.2.1), (Kd.fresh' (Kd.R_lt HO255.out) k_ hk_.2.1), (Kd.fresh' (Kd.R_lt HO258.out) k_ hk_.2.1), (Kd.freshB BK204.out k_ hk_.2.1), (Kd.freshB BK228.out k_ hk_.2.1), (Kd.freshB BK260.out k_ hk_.2.1)⟩)) (below_size HB.out)); have n13_ := Aside0.mk (Kd.R_lower (Kd.R_new' (Kd.R_new' (Kd.R_new' (Kd.R_new' (Kd.R_new' ho1 (Kd.R_lt HO231.out)) (Kd.R_lt HO238.out)) (Kd.R_lt HO249.out)) (Kd.R_lt HO252.out)) (Kd.R_lt HO255.out)) (below_size HB.out)); have n14_ := Aside0.mk (Kd.R_lower (Kd.R_new' (Kd.R_new' (Kd.R_new' (Kd.R_new' (Kd.R_new' ho2 (Kd.R_lt HO231.out)) (Kd.R_lt HO238.out)) (Kd.R_lt HO249.out)) (Kd.R_lt HO252.out)) (Kd.R_lt HO255.out)) (below_size HB.out)); have n15_ := Aside0.mk (Kd.R_lower (Kd.R_new' (Kd.R_new' (Kd.R_new' (Kd.R_new' (Kd.R_new' ho3 (Kd.R_lt HO231.out)) (Kd.R_lt HO238.out)) (Kd.R_lt HO249.out)) (Kd.R_lt HO252.out)) (Kd.R_lt HO255.out)) (below_size HB.out)); have n16_ := Aside0.mk (Kd.R_lower (Kd.R_new' ho4 (Kd.R_lt HO258.out)) (below_size HB.out)); have n17_ := Aside0.mk (blk_below BK204.out hb); have n18_ := Aside0.mk (blk_below BK228.out hb); have n19_ := Aside0.mk (blk_below BK260.out hb); have n20_ := Aside0.mk (below_step HB.out hb); clear HO213; clear HO218; clear HO221; clear HO224; clear HO227; clear HO231; clear HO238; clear HO244; clear HO249; clear HO252; clear HO255; clear HO258; clear BK204; clear BK228; clear BK260; clear HB; have HO213 := n0_; have HO218 := n1_; have HO221 := n2_; have HO224 := n3_; have HO227 := n4_; have HO231 := n5_; have HO238 := n6_; have HO244 := n7_; have HO249 := n8_; have HO252 := n9_; have HO255 := n10_; have HO258 := n11_; have HO266 := n12_; have HO271 := n13_; have HO274 := n14_; have HO277 := n15_; have HO280 := n16_; have BK204 := n17_; have BK228 := n18_; have BK260 := n19_; have HB := n20_; clear n0_ n1_ n2_ n3_ n4_ n5_ n6_ n7_ n8_ n9_ n10_ n11_ n12_ n13_ n14_ n15_ n16_ n17_ n18_ n19_ n20_; (try clear hb); (try clear hb2); (try clear hk); (try clear hi); (try clear ho0); (try clear ho1); (try clear ho2); (try clear ho3); (try clear ho4)) | ((with_reducible refine gate_dst (N := 9) rfl ?_); (try (refine gate_guard (by rfl) ?_; dsimp only)); refine box_event ?hg (N := 9) ?hd (cs := #[.int .u16 0, .int .u8 0, .int .u8 0, .slice none 0 0, .int .u16 0, .int .u32 0, .slice none 0 0, .slice none 0 0, .slice none 0 0, .slice none 0 0]) (t := 47) ?hr ?_; (case hd => rfl); (case hg => rfl); (case hr => first | (go_simp; done) | (go_simp; simp only [IntKind.wrap_u8, IntKind.wrap_u16, IntKind.wrap_u32, IntKind.wrap_u64]; done) | (go_simp; simp only [IntKind.wrap_u8, IntKind.wrap_u16, IntKind.wrap_u32, IntKind.wrap_u64, Int.tmod_eq_emod_of_nonneg (Int.natCast_nonneg _), Int.emod_emod]; done) | (go_simp; rfl)); intro gb282 hg w52 hbox hb; have n0_ := Aside0.mk (Kd.N_below (Kd.N_elderB HO213.out gb282 (Nat.le_of_eq hg.symm)) hb); have n1_ := Aside0.mk (Kd.V_below (Kd.V_elderB HO218.out gb282 (Nat.le_of_eq hg.symm)) hb); have n2_ := Aside0.mk (Kd.V_below (Kd.V_elderB HO221.out gb282 (Nat.le_of_eq hg.symm)) hb); have n3_ := Aside0.mk (Kd.V_below (Kd.V_elderB HO224.out gb282 (Nat.le_of_eq hg.symm)) hb); have n4_ := Aside0.mk (Kd.V_below (Kd.V_elderB HO227.out gb282 (Nat.le_of_eq hg.symm)) hb); have n5_ := Aside0.mk (Kd.R_below HO231.out hb); have n6_ := Aside0.mk (Kd.R_below HO238.out hb); have n7_ := Aside0.mk (Kd.N_below (Kd.N_elderB HO244.out gb282 (Nat.le_of_eq hg.symm)) hb); have n8_ := Aside0.mk (Kd.R_below HO249.out hb); have n9_ := Aside0.mk (Kd.R_below HO252.out hb); have n10_ := Aside0.mk (Kd.R_below HO255.out hb); have n11_ := Aside0.mk (Kd.R_below HO258.out hb); have n12_ := Aside0.mk (Kd.N_below (Kd.N_elderB HO266.out gb282 (Nat.le_of_eq hg.symm)) hb); have n13_ := Aside0.mk (Kd.R_below HO271.out hb); have n14_ := Aside0.mk (Kd.R_below HO274.out hb); have n15_ := Aside0.mk (Kd.R_below HO277.out hb); have n16_ := Aside0.mk (Kd.R_below HO280.out hb); have n17_ := Aside0.mk (blk_below BK204.out hb); have n18_ := Aside0.mk (blk_below BK228.out hb); have n19_ := Aside0.mk (blk_below BK260.out hb); have n20_ := Aside0.mk (below_step HB.out hb); have n21_ := Aside0.mk (hbox); have n22_ := Aside0.mk ((by rw [hg]; exact (below_size HB.out) : w.heap.size ≤ gb282)); have n23_ := Aside0.mk ((by rw [hg]; exact (below_size HB.out) : w.heap.size ≤ gb282)); have n24_ := Aside0.mk ((by rw [hg]; exact Nat.ne_of_lt (blk_lt BK204.out) : gb204 ≠ gb282)); have n25_ := Aside0.mk ((by rw [hg]; exact Nat.ne_of_gt (blk_lt BK204.out) : gb282 ≠ gb204)); have n26_ := Aside0.mk ((by rw [hg]; exact Nat.ne_of_lt (blk_lt BK228.out) : gb228 ≠ gb282)); have n27_ := Aside0.mk ((by rw [hg]; exact Nat.ne_of_gt (blk_lt BK228.out) : gb282 ≠ gb228)); have n28_ := Aside0.mk ((by rw [hg]; exact Nat.ne_of_lt (blk_lt BK260.out) : gb260 ≠ gb282)); have n29_ := Aside0.mk ((by rw [hg]; exact Nat.ne_of_gt (blk_lt BK260.out) : gb282 ≠ gb260)); clear HO213; clear HO218; clear HO221; clear HO224; clear HO227; clear HO231; clear HO238; clear HO244; clear HO249; clear HO252; clear HO255; clear HO258; clear HO266; clear HO271; clear HO274; clear HO277; clear HO280; clear BK204; clear BK228; clear BK260; clear HB; have HO213 := n0_; have HO218 := n1_; have HO221 := n2_; have HO224 := n3_; have HO227 := n4_; have HO231 := n5_; have HO238 := n6_; have HO244 := n7_; have HO249 := n8_; have HO252 := n9_; have HO255 := n10_; have HO258 := n11_; have HO266 := n12_; have HO271 := n13_; have HO274 := n14_; have HO277 := n15_; have HO280 := n16_; have BK204 := n17_; have BK228 := n18_; have BK260 := n19_; have HB := n20_; have BK282 := n21_; have GW282 := n22_; have GE282 := n23_; have NB204_282 := n24_; have NB282_204 := n25_; have NB228_282 := n26_; have NB282_228 := n27_; have NB260_282 := n28_; have NB282_260 := n29_; clear n0_ n1_ n2_ n3_ n4_ n5_ n6_ n7_ n8_ n9_ n10_ n11_ n12_ n13_ n14_ n15_ n16_ n17_ n18_ n19_ n20_ n21_ n22_ n23_ n24_ n25_ n26_ n27_ n28_ n29_; clear hb hbox hg; have hnb53 := NB282_204.out; have hnc53 := NB204_282.out; have hnb54 := NB282_228.out; have hnc54 := NB228_282.out; have hnb55 := NB282_260.out; have hnc55 := NB260_282.out; obtain ⟨⟨hcz56_0, hcz56_1, hcz56_2, hcz56_3, hcz56_4, hcz56_5, hcz56_6, hcz56_7, hcz56_8, hcz56_9⟩, hfz56_0, hfz56_1, hfz56_2, hfz56_3, hfz56_4, hfz56_5, hfz56_6, hfz56_7, hfz56_8, hfz56_9⟩ := cz10 BK282.out; obtain ⟨Ao57, co57, eo57⟩ := Kd.N_slice HO266.out; subst eo57; obtain ⟨Ao58, co58, eo58⟩ := Kd.R_slice HO271.out; subst eo58; obtain ⟨Ao59, co59, eo59⟩ := Kd.R_slice HO274.out; subst eo59; obtain ⟨Ao60, co60, eo60⟩ := Kd.R_slice HO277.out; subst eo60; obtain ⟨Ao61, co61, eo61⟩ := Kd.R_slice HO280.out; subst eo61))
       go_loopg [44] kj2 (fun kq v44 w' => ∃ (x6_2 : List Int) (x44_2 : Int), v44 = .int .i64 x44_2 ∧ Aside0 (marlinelaw17_PapKeeps.l0 kq x6_2 t259 (y236.length : Int) x44_2 a0_0 a0_1 a0_2 l0_3 a0_4 a0_5 l0_6 l0_7 l0_8 l0_9 t208 t209 t210 t211 t214 t215 t216 t219 t222 t225 t239 t240 t241 t242 t245 t246 t247 t250 t253 t256 t261 t262 t263 t264 t267 t268 t269 t272 t275 t278 = some r) ∧ Aside0 (kq ≤ kj2) ∧ Aside0 (Kd.R (Kd.int .u8) 5 w' w.heap.size (fun k_ => some k_ ≠ ((.slice Ao46 t247.length co46) : Value).ownBlock ∧ some k_ ≠ ((.slice Ao47 t250.length co47) : Value).ownBlock ∧ some k_ ≠ ((.slice Ao48 t253.length co48) : Value).ownBlock ∧ some k_ ≠ ((.slice Ao58 t269.length co58) : Value).ownBlock ∧ some k_ ≠ ((.slice Ao59 t272.length co59) : Value).ownBlock ∧ some k_ ≠ ((.slice Ao60 t275.length co60) : Value).ownBlock) (.slice Ao39 y236.length co39) x6_2) ∧ Aside0 (Kd.N k57 57 w' w.heap.size (fun k_ => some k_ ≠ ((.slice Ao39 y236.length co39) : Value).ownBlock ∧ some k_ ≠ ((.slice Ao45 t242.length co45) : Value).ownBlock ∧ some k_ ≠ ((.slice Ao46 t247.length co46) : Value).ownBlock ∧ some k_ ≠ ((.slice Ao47 t250.length co47) : Value).ownBlock ∧ some k_ ≠ ((.slice Ao48 t253.length co48) : Value).ownBlock ∧ some k_ ≠ ((.slice Ao49 t256.length co49) : Value).ownBlock ∧ some k_ ≠ ((.slice Ao57 t264.length co57) : Value).ownBlock ∧ some k_ ≠ ((.slice Ao58 t269.length co58) : Value).ownBlock ∧ some k_ ≠ ((.slice Ao59 t272.length co59) : Value).ownBlock ∧ some k_ ≠ ((.slice Ao60 t275.length co60) : Value).ownBlock ∧ some k_ ≠ ((.slice Ao61 t278.length co61) : Value).ownBlock ∧ k_ ≠ gb204 ∧ k_ ≠ gb228 ∧ k_ ≠ gb260 ∧ k_ ≠ gb282) (.slice Ao29 t211.length co29) t211) ∧ Aside0 (Kd.V (Kd.int .u8) 5 w' w.heap.size (fun k_ => some k_ ≠ ((.slice Ao39 y236.length co39) : Value).ownBlock ∧ some k_ ≠ ((.slice Ao29 t211.length co29) : Value).ownBlock ∧ some k_ ≠ ((.slice Ao45 t242.length co45) : Value).ownBlock ∧ some k_ ≠ ((.slice Ao46 t247.length co46) : Value).ownBlock ∧ some k_ ≠ ((.slice Ao47 t250.length co47) : Value).ownBlock ∧ some k_ ≠ ((.slice Ao48 t253.length co48) : Value).ownBlock ∧ some k_ ≠ ((.slice Ao49 t256.length co49) : Value).ownBlock ∧ some k_ ≠ ((.slice Ao57 t264.length co57) : Value).ownBlock ∧ some k_ ≠ ((.slice Ao58 t269.length co58) : Value).ownBlock ∧ some k_ ≠ ((.slice Ao59 t272.length co59) : Value).ownBlock ∧ some k_ ≠ ((.slice Ao60 t275.length co60) : Value).ownBlock ∧ some k_ ≠ ((.slice Ao61 t278.length co61) : Value).ownBlock ∧ k_ ≠ gb204 ∧ k_ ≠ gb228 ∧ k_ ≠ gb260 ∧ k_ ≠ gb282) (.slice Ao30 t216.length co30) t216) ∧ Aside0 (Kd.V (Kd.int .u8) 5 w' w.heap.size (fun k_ => some k_ ≠ ((.slice Ao39 y236.length co39) : Value).ownBlock ∧ some k_ ≠ ((.slice Ao29 t211.length co29) : Value).ownBlock ∧ some k_ ≠ ((.slice Ao45 t242.length co45) : Value).ownBlock ∧ some k_ ≠ ((.slice Ao46 t247.length co46) : Value).ownBlock ∧ some k_ ≠ ((.slice Ao47 t250.length co47) : Value).ownBlock ∧ some k_ ≠ ((.slice Ao48 t253.length co48) : Value).ownBlock ∧ some k_ ≠ ((.slice Ao49 t256.length co49) : Value).ownBlock ∧ some k_ ≠ ((.slice Ao57 t264.length co57) : Value).ownBlock ∧ some k_ ≠ ((.slice Ao58 t269.length co58) : Value).ownBlock ∧ some k_ ≠ ((.slice Ao59 t272.length co59) : Value).ownBlock ∧ some k_ ≠ ((.slice Ao60 t275.length co60) : Value).ownBlock ∧ some k_ ≠ ((.slice Ao61 t278.length co61) : Value).ownBlock ∧ k_ ≠ gb204 ∧ k_ ≠ gb228 ∧ k_ ≠ gb260 ∧ k_ ≠ gb282) (.slice Ao31 t219.length co31) t219) ∧ Aside0 (Kd.V (Kd.int .u8) 5 w' w.heap.size (fun k_ => some k_ ≠ ((.slice Ao39 y236.length co39) : Value).ownBlock ∧ some k_ ≠ ((.slice Ao29 t211.length co29) : Value).ownBlock ∧ some k_ ≠ ((.slice Ao45 t242.length co45) : Value).ownBlock ∧ some k_ ≠ ((.slice Ao46 t247.length co46) : Value).ownBlock ∧ some k_ ≠ ((.slice Ao47 t250.length co47) : Value).ownBlock ∧ some k_ ≠ ((.slice Ao48 t253.length co48) : Value).ownBlock ∧ some k_ ≠ ((.slice Ao49 t256.length co49) : Value).ownBlock ∧ some k_ ≠ ((.slice Ao57 t264.length co57) : Value).ownBlock ∧ some k_ ≠ ((.slice Ao58 t269.length co58) : Value).ownBlock ∧ some k_ ≠ ((.slice Ao59 t272.length co59) : Value).ownBlock ∧ some k_ ≠ ((.slice Ao60 t275.length co60) : Value).ownBlock ∧ some k_ ≠ ((.slice Ao61 t278.length co61) : Value).ownBlock ∧ k_ ≠ gb204 ∧ k_ ≠ gb228 ∧ k_ ≠ gb260 ∧ k_ ≠ gb282) (.slice Ao32 t222.length co32) t222) ∧ Aside0 (Kd.V (Kd.int .u32) 41 w' w.heap.size (fun k_ => some k_ ≠ ((.slice Ao39 y236.length co39) : Value).ownBlock ∧ some k_ ≠ ((.slice Ao29 t211.length co29) : Value).ownBlock ∧ some k_ ≠ ((.slice Ao45 t242.length co45) : Value).ownBlock ∧ some k_ ≠ ((.slice Ao46 t247.length co46) : Value).ownBlock ∧ some k_ ≠ ((.slice Ao47 t250.length co47) : Value).ownBlock ∧ some k_ ≠ ((.slice Ao48 t253.length co48) : Value).ownBlock ∧ some k_ ≠ ((.slice Ao49 t256.length co49) : Value).ownBlock ∧ some k_ ≠ ((.slice Ao57 t264.length co57) : Value).ownBlock ∧ some k_ ≠ ((.slice Ao58 t269.length co58) : Value).ownBlock ∧ some k_ ≠ ((.slice Ao59 t272.length co59) : Value).ownBlock ∧ some k_ ≠ ((.slice Ao60 t275.length co60) : Value).ownBlock ∧ some k_ ≠ ((.slice Ao61 t278.length co61) : Value).ownBlock ∧ k_ ≠ gb204 ∧ k_ ≠ gb228 ∧ k_ ≠ gb260 ∧ k_ ≠ gb282) (.slice Ao33 t225.length co33) t225) ∧ Aside0 (Kd.N k57 57 w' w.heap.size (fun k_ => some k_ ≠ ((.slice Ao39 y236.length co39) : Value).ownBlock ∧ some k_ ≠ ((.slice Ao29 t211.length co29) : Value).ownBlock ∧ some k_ ≠ ((.slice Ao46 t247.length co46) : Value).ownBlock ∧ some k_ ≠ ((.slice Ao47 t250.length co47) : Value).ownBlock ∧ some k_ ≠ ((.slice Ao48 t253.length co48) : Value).ownBlock ∧ some k_ ≠ ((.slice Ao49 t256.length co49) : Value).ownBlock ∧ some k_ ≠ ((.slice Ao57 t264.length co57) : Value).ownBlock ∧ some k_ ≠ ((.slice Ao58 t269.length co58) : Value).ownBlock ∧ some k_ ≠ ((.slice Ao59 t272.length co59) : Value).ownBlock ∧ some k_ ≠ ((.slice Ao60 t275.length co60) : Value).ownBlock ∧ some k_ ≠ ((.slice Ao61 t278.length co61) : Value).ownBlock ∧ k_ ≠ gb204 ∧ k_ ≠ gb228 ∧ k_ ≠ gb260 ∧ k_ ≠ gb282) (.slice Ao45 t242.length co45) t242) ∧ Aside0 (Kd.R (Kd.int .u8) 5 w' w.heap.size (fun k_ => some k_ ≠ ((.slice Ao39 y236.length co39) : Value).ownBlock ∧ some k_ ≠ ((.slice Ao47 t250.length co47) : Value).ownBlock ∧ some k_ ≠ ((.slice Ao48 t253.length co48) : Value).ownBlock ∧ some k_ ≠ ((.slice Ao58 t269.length co58) : Value).ownBlock ∧ some k_ ≠ ((.slice Ao59 t272.length co59) : Value).ownBlock ∧ some k_ ≠ ((.slice Ao60 t275.length co60) : Value).ownBlock) (.slice Ao46 t247.length co46) t247) ∧ Aside0 (Kd.R (Kd.int .u8) 5 w' w.heap.size (fun k_ => some k_ ≠ ((.slice Ao39 y236.length co39) : Value).ownBlock ∧ some k_ ≠ ((.slice Ao46 t247.length co46) : Value).ownBlock ∧ some k_ ≠ ((.slice Ao48 t253.length co48) : Value).ownBlock ∧ some k_ ≠ ((.slice Ao58 t269.length co58) : Value).ownBlock ∧ some k_ ≠ ((.slice Ao59 t272.length co59) : Value).ownBlock ∧ some k_ ≠ ((.slice Ao60 t275.length co60) : Value).ownBlock) (.slice Ao47 t250.length co47) t250) ∧ Aside0 (Kd.R (Kd.int .u8) 5 w' w.heap.size (fun k_ => some k_ ≠ ((.slice Ao39 y236.length co39) : Value).ownBlock ∧ some k_ ≠ ((.slice Ao46 t247.length co46) : Value).ownBlock ∧ some k_ ≠ ((.slice Ao47 t250.length co47) : Value).ownBlock ∧ some k_ ≠ ((.slice Ao58 t269.length co58) : Value).ownBlock ∧ some k_ ≠ ((.slice Ao59 t272.length co59) : Value).ownBlock ∧ some k_ ≠ ((.slice Ao60 t275.length co60) : Value).ownBlock) (.slice Ao48 t253.length co48) t253) ∧ Aside0 (Kd.R (Kd.int .u32) 41 w' w.heap.size (fun k_ => some k_ ≠ ((.slice Ao61 t278.length co61) : Value).ownBlock) (.slice Ao49 t256.length co49) t256) ∧ Aside0 (Kd.N k57 57 w' w.heap.size (fun k_ => some k_ ≠ ((.slice Ao39 y236.length co39) : Value).ownBlock ∧ some k_ ≠ ((.slice Ao29 t211.length co29) : Value).ownBlock ∧ some k_ ≠ ((.slice Ao45 t242.length co45) : Value).ownBlock ∧ some k_ ≠ ((.slice Ao46 t247.length co46) : Value).ownBlock ∧ some k_ ≠ ((.slice Ao47 t250.length co47) : Value).ownBlock ∧ some k_ ≠ ((.slice Ao48 t253.length co48) : Value).ownBlock ∧ some k_ ≠ ((.slice Ao49 t256.length co49) : Value).ownBlock ∧ some k_ ≠ ((.slice Ao58 t269.length co58) : Value).ownBlock ∧ some k_ ≠ ((.slice Ao59 t272.length co59) : Value).ownBlock ∧ some k_ ≠ ((.slice Ao60 t275.length co60) : Value).ownBlock ∧ some k_ ≠ ((.slice Ao61 t278.length co61) : Value).ownBlock ∧ k_ ≠ gb204 ∧ k_ ≠ gb228 ∧ k_ ≠ gb260 ∧ k_ ≠ gb282) (.slice Ao57 t264.length co57) t264) ∧ Aside0 (Kd.R (Kd.int .u8) 5 w' w.heap.size (fun k_ => some k_ ≠ ((.slice Ao39 y236.length co39) : Value).ownBlock ∧ some k_ ≠ ((.slice Ao46 t247.length co46) : Value).ownBlock ∧ some k_ ≠ ((.slice Ao47 t250.length co47) : Value).ownBlock ∧ some k_ ≠ ((.slice Ao48 t253.length co48) : Value).ownBlock ∧ some k_ ≠ ((.slice Ao59 t272.length co59) : Value).ownBlock ∧ some k_ ≠ ((.slice Ao60 t275.length co60) : Value).ownBlock) (.slice Ao58 t269.length co58) t269) ∧ Aside0 (Kd.R (Kd.int .u8) 5 w' w.heap.size (fun k_ => some k_ ≠ ((.slice Ao39 y236.length co39) : Value).ownBlock ∧ some k_ ≠ ((.slice Ao46 t247.length co46) : Value).ownBlock ∧ some k_ ≠ ((.slice Ao47 t250.length co47) : Value).ownBlock ∧ some k_ ≠ ((.slice Ao48 t253.length co48) : Value).ownBlock ∧ some k_ ≠ ((.slice Ao58 t269.length co58) : Value).ownBlock ∧ some k_ ≠ ((.slice Ao60 t275.length co60) : Value).ownBlock) (.slice Ao59 t272.length co59) t272) ∧ Aside0 (Kd.R (Kd.int .u8) 5 w' w.heap.size (fun k_ => some k_ ≠ ((.slice Ao39 y236.length co39) : Value).ownBlock ∧ some k_ ≠ ((.slice Ao46 t247.length co46) : Value).ownBlock ∧ some k_ ≠ ((.slice Ao47 t250.length co47) : Value).ownBlock ∧ some k_ ≠ ((.slice Ao48 t253.length co48) : Value).ownBlock ∧ some k_ ≠ ((.slice Ao58 t269.length co58) : Value).ownBlock ∧ some k_ ≠ ((.slice Ao59 t272.length co59) : Value).ownBlock) (.slice Ao60 t275.length co60) t275) ∧ Aside0 (Kd.R (Kd.int .u32) 41 w' w.heap.size (fun k_ => some k_ ≠ ((.slice Ao49 t256.length co49) : Value).ownBlock) (.slice Ao61 t278.length co61) t278) ∧ Aside0 (w'.heap[gb204]? = some (.cells #[.int .u16 a0_0, .int .u8 a0_1, .int .u8 a0_2, (.slice A0_3 l0_3.length c0_3), .int .u16 a0_4, .int .u32 a0_5, (.slice A0_6 l0_6.length c0_6), (.slice A0_7 l0_7.length c0_7), (.slice A0_8 l0_8.length c0_8), (.slice A0_9 l0_9.length c0_9)] 44 (0, 0))) ∧ Aside0 (w'.heap[gb228]? = some (.cells #[.int .u16 t208, .int .u8 t209, .int .u8 t210, (.slice Ao29 t211.length co29), .int .u16 t214, .int .u32 t215, (.slice Ao30 t216.length co30), (.slice Ao31 t219.length co31), (.slice Ao32 t222.length co32), (.slice Ao33 t225.length co33)] 47 (0, 0))) ∧ Aside0 (w'.heap[gb260]? = some (.cells #[.int .u16 t239, .int .u8 t240, .int .u8 t241, (.slice Ao45 t242.length co45), .int .u16 t245, .int .u32 t246, (.slice Ao46 t247.length co46), (.slice Ao47 t250.length co47), (.slice Ao48 t253.length co48), (.slice Ao49 t256.length co49)] 47 (0, 0))) ∧ Aside0 (w'.heap[gb282]? = some (.cells #[.int .u16 t261, .int .u8 t262, .int .u8 t263, (.slice Ao57 t264.length co57), .int .u16 t267, .int .u32 t268, (.slice Ao58 t269.length co58), (.slice Ao59 t272.length co59), (.slice Ao60 t275.length co60), (.slice Ao61 t278.length co61)] 47 (0, 0))) ∧ Aside0 (Below w.heap.size w w'))
       case atStart => exact ⟨(y236), (0), (by first | rfl | (simp; done) | (simp [*]; done)), H', ⟨Nat.le_refl _⟩, ⟨by exact Kd.R_mono (marlinelaw17_PapKeeps.farR9 (Kd.R_types HO238.out BK282.out (by decide)) (fun _ hk => hk.2)) (fun _ hk => ⟨hk.1.1.1.1.2.1, ⟨hk.1.1.1.1.2.2.1, ⟨hk.1.1.1.1.2.2.2, ⟨hk.1.1.1.2, ⟨hk.1.1.2, hk.1.2⟩⟩⟩⟩⟩)⟩, ⟨by exact Kd.N_mono (marlinelaw17_PapKeeps.farN9 (Kd.N_mono HO213.out (fun k_ hk => (⟨hk, hk.2⟩ : _ ∧ k_ ≠ gb282))) (fun _ hk => hk.2)) (fun _ hk => ⟨hk.1.1.1.1.1.1.1.2.1, ⟨hk.1.1.1.1.1.1.1.2.2.1, ⟨hk.1.1.1.1.1.1.1.2.2.2.1, ⟨hk.1.1.1.1.1.1.1.2.2.2.2.1, ⟨hk.1.1.1.1.1.1.1.2.2.2.2.2.1, ⟨hk.1.1.1.1.1.1.1.2.2.2.2.2.2.1, ⟨hk.1.1.1.1.1.1.2, ⟨hk.1.1.1.1.1.2, ⟨hk.1.1.1.1.2, ⟨hk.1.1.1.2, ⟨hk.1.1.2, ⟨hk.1.1.1.1.1.1.1.2.2.2.2.2.2.2.1, ⟨hk.1.1.1.1.1.1.1.2.2.2.2.2.2.2.2.1, ⟨hk.1.1.1.1.1.1.1.2.2.2.2.2.2.2.2.2, hk.1.2⟩⟩⟩⟩⟩⟩⟩⟩⟩⟩⟩⟩⟩⟩)⟩, ⟨by exact Kd.V_mono (marlinelaw17_PapKeeps.farV9 (Kd.V_mono HO218.out (fun k_ hk => (⟨hk, hk.2⟩ : _ ∧ k_ ≠ gb282))) (fun _ hk => hk.2)) (fun _ hk => ⟨hk.1.1.1.1.1.1.1.2.2.1, ⟨hk.1.1.1.1.1.1.1.1, ⟨hk.1.1.1.1.1.1.1.2.2.2.1, ⟨hk.1.1.1.1.1.1.1.2.2.2.2.1, ⟨hk.1.1.1.1.1.1.1.2.2.2.2.2.1, ⟨hk.1.1.1.1.1.1.1.2.2.2.2.2.2.1, ⟨hk.1.1.1.1.1.1.1.2.2.2.2.2.2.2.1, ⟨hk.1.1.1.1.1.1.2, ⟨hk.1.1.1.1.1.2, ⟨hk.1.1.1.1.2, ⟨hk.1.1.1.2, ⟨hk.1.1.2, ⟨hk.1.1.1.1.1.1.1.2.2.2.2.2.2.2.2.1, ⟨hk.1.1.1.1.1.1.1.2.2.2.2.2.2.2.2.2.1, ⟨hk.1.1.1.1.1.1.1.2.2.2.2.2.2.2.2.2.2, hk.1.2⟩⟩⟩⟩⟩⟩⟩⟩⟩⟩⟩⟩⟩⟩⟩)⟩, ⟨by exact Kd.V_mono (marlinelaw17_PapKeeps.farV9 (Kd.V_mono HO221.out (fun k_ hk => (⟨hk, hk.2⟩ : _ ∧ k_ ≠ gb282))) (fun _ hk => hk.2)) (fun _ hk => ⟨hk.1.1.1.1.1.1.1.2.2.1, ⟨hk.1.1.1.1.1.1.1.1, ⟨hk.1.1.1.1.1.1.1.2.2.2.1, ⟨hk.1.1.1.1.1.1.1.2.2.2.2.1, ⟨hk.1.1.1.1.1.1.1.2.2.2.2.2.1, ⟨hk.1.1.1.1.1.1.1.2.2.2.2.2.2.1, ⟨hk.1.1.1.1.1.1.1.2.2.2.2.2.2.2.1, ⟨hk.1.1.1.1.1.1.2, ⟨hk.1.1.1.1.1.2, ⟨hk.1.1.1.1.2, ⟨hk.1.1.1.2, ⟨hk.1.1.2, ⟨hk.1.1.1.1.1.1.1.2.2.2.2.2.2.2.2.1, ⟨hk.1.1.1.1.1.1.1.2.2.2.2.2.2.2.2.2.1, ⟨hk.1.1.1.1.1.1.1.2.2.2.2.2.2.2.2.2.2, hk.1.2⟩⟩⟩⟩⟩⟩⟩⟩⟩⟩⟩⟩⟩⟩⟩)⟩, ⟨by exact Kd.V_mono (marlinelaw17_PapKeeps.farV9 (Kd.V_mono HO224.out (fun k_ hk => (⟨hk, hk.2⟩ : _ ∧ k_ ≠ gb282))) (fun _ hk => hk.2)) (fun _ hk => ⟨hk.1.1.1.1.1.1.1.2.2.1, ⟨hk.1.1.1.1.1.1.1.1, ⟨hk.1.1.1.1.1.1.1.2.2.2.1, ⟨hk.1.1.1.1.1.1.1.2.2.2.2.1, ⟨hk.1.1.1.1.1.1.1.2.2.2.2.2.1, ⟨hk.1.1.1.1.1.1.1.2.2.2.2.2.2.1, ⟨hk.1.1.1.1.1.1.1.2.2.2.2.2.2.2.1, ⟨hk.1.1.1.1.1.1.2, ⟨hk.1.1.1.1.1.2, ⟨hk.1.1.1.1.2, ⟨hk.1.1.1.2, ⟨hk.1.1.2, ⟨hk.1.1.1.1.1.1.1.2.2.2.2.2.2.2.2.1, ⟨hk.1.1.1.1.1.1.1.2.2.2.2.2.2.2.2.2.1, ⟨hk.1.1.1.1.1.1.1.2.2.2.2.2.2.2.2.2.2, hk.1.2⟩⟩⟩⟩⟩⟩⟩⟩⟩⟩⟩⟩⟩⟩⟩)⟩, ⟨by exact Kd.V_mono (marlinelaw17_PapKeeps.farV9 (Kd.V_mono HO227.out (fun k_ hk => (⟨hk, hk.2⟩ : _ ∧ k_ ≠ gb282))) (fun _ hk => hk.2)) (fun _ hk => ⟨hk.1.1.1.1.1.1.1.2.2.1, ⟨hk.1.1.1.1.1.1.1.1, ⟨hk.1.1.1.1.1.1.1.2.2.2.1, ⟨hk.1.1.1.1.1.1.1.2.2.2.2.1, ⟨hk.1.1.1.1.1.1.1.2.2.2.2.2.1, ⟨hk.1.1.1.1.1.1.1.2.2.2.2.2.2.1, ⟨hk.1.1.1.1.1.1.1.2.2.2.2.2.2.2.1, ⟨hk.1.1.1.1.1.1.2, ⟨hk.1.1.1.1.1.2, ⟨hk.1.1.1.1.2, ⟨hk.1.1.1.2, ⟨hk.1.1.2, ⟨hk.1.1.1.1.1.1.1.2.2.2.2.2.2.2.2.1, ⟨hk.1.1.1.1.1.1.1.2.2.2.2.2.2.2.2.2.1, ⟨hk.1.1.1.1.1.1.1.2.2.2.2.2.2.2.2.2.2, hk.1.2⟩⟩⟩⟩⟩⟩⟩⟩⟩⟩⟩⟩⟩⟩⟩)⟩, ⟨by exact Kd.N_mono (marlinelaw17_PapKeeps.farN9 (Kd.N_mono HO244.out (fun k_ hk => (⟨hk, hk.2⟩ : _ ∧ k_ ≠ gb282))) (fun _ hk => hk.2)) (fun _ hk => ⟨hk.1.1.1.1.1.1.1.2.2.1, ⟨hk.1.1.1.1.1.1.1.1, ⟨hk.1.1.1.1.1.1.1.2.2.2.1, ⟨hk.1.1.1.1.1.1.1.2.2.2.2.1, ⟨hk.1.1.1.1.1.1.1.2.2.2.2.2.1, ⟨hk.1.1.1.1.1.1.1.2.2.2.2.2.2.1, ⟨hk.1.1.1.1.1.1.2, ⟨hk.1.1.1.1.1.2, ⟨hk.1.1.1.1.2, ⟨hk.1.1.1.2, ⟨hk.1.1.2, ⟨hk.1.1.1.1.1.1.1.2.2.2.2.2.2.2.1, ⟨hk.1.1.1.1.1.1.1.2.2.2.2.2.2.2.2.1, ⟨hk.1.1.1.1.1.1.1.2.2.2.2.2.2.2.2.2, hk.1.2⟩⟩⟩⟩⟩⟩⟩⟩⟩⟩⟩⟩⟩⟩)⟩, ⟨by exact Kd.R_mono (marlinelaw17_PapKeeps.farR9 (Kd.R_types HO249.out BK282.out (by decide)) (fun _ hk => hk.2)) (fun _ hk => ⟨hk.1.1.1.1.2.1, ⟨hk.1.1.1.1.2.2.1, ⟨hk.1.1.1.1.2.2.2, ⟨hk.1.1.1.2, ⟨hk.1.1.2, hk.1.2⟩⟩⟩⟩⟩)⟩, ⟨by exact Kd.R_mono (marlinelaw17_PapKeeps.farR9 (Kd.R_types HO252.out BK282.out (by decide)) (fun _ hk => hk.2)) (fun _ hk => ⟨hk.1.1.1.1.2.1, ⟨hk.1.1.1.1.2.2.1, ⟨hk.1.1.1.1.2.2.2, ⟨hk.1.1.1.2, ⟨hk.1.1.2, hk.1.2⟩⟩⟩⟩⟩)⟩, ⟨by exact Kd.R_mono (marlinelaw17_PapKeeps.farR9 (Kd.R_types HO255.out BK282.out (by decide)) (fun _ hk => hk.2)) (fun _ hk => ⟨hk.1.1.1.1.2.1, ⟨hk.1.1.1.1.2.2.1, ⟨hk.1.1.1.1.2.2.2, ⟨hk.1.1.1.2, ⟨hk.1.1.2, hk.1.2⟩⟩⟩⟩⟩)⟩, ⟨by exact Kd.R_mono (marlinelaw17_PapKeeps.farR9 (Kd.R_types HO258.out BK282.out (by decide)) (fun _ hk => hk.2)) (fun _ hk => hk.1.2)⟩, ⟨by exact Kd.N_mono (marlinelaw17_PapKeeps.farN9 (Kd.N_mono HO266.out (fun k_ hk => (⟨hk, hk.2⟩ : _ ∧ k_ ≠ gb282))) (fun _ hk => hk.2)) (fun _ hk => ⟨hk.1.1.2.2.2.2.2.2.1, ⟨hk.1.1.2.2.2.2.1, ⟨hk.1.1.2.2.2.2.2.2.2.1, ⟨hk.1.1.2.2.2.2.2.2.2.2.1, ⟨hk.1.1.2.2.2.2.2.2.2.2.2.1, ⟨hk.1.1.2.2.2.2.2.2.2.2.2.2.1, ⟨hk.1.1.2.2.2.2.2.2.2.2.2.2.2.1, ⟨hk.1.1.1, ⟨hk.1.1.2.1, ⟨hk.1.1.2.2.1, ⟨hk.1.1.2.2.2.1, ⟨hk.1.1.2.2.2.2.2.2.2.2.2.2.2.2.1, ⟨hk.1.1.2.2.2.2.2.2.2.2.2.2.2.2.2.1, ⟨hk.1.1.2.2.2.2.2.2.2.2.2.2.2.2.2.2, hk.1.2⟩⟩⟩⟩⟩⟩⟩⟩⟩⟩⟩⟩⟩⟩)⟩, ⟨by exact Kd.R_mono (marlinelaw17_PapKeeps.farR9 (Kd.R_types HO271.out BK282.out (by decide)) (fun _ hk => hk.2)) (fun _ hk => ⟨hk.1.1.1.1.2, ⟨hk.1.1.1.2, ⟨hk.1.1.2, ⟨hk.1.2, ⟨hk.1.1.1.1.1.1.1, hk.1.1.1.1.1.1.2⟩⟩⟩⟩⟩)⟩, ⟨by exact Kd.R_mono (marlinelaw17_PapKeeps.farR9 (Kd.R_types HO274.out BK282.out (by decide)) (fun _ hk => hk.2)) (fun _ hk => ⟨hk.1.1.1.1.2, ⟨hk.1.1.1.2, ⟨hk.1.1.2, ⟨hk.1.2, ⟨hk.1.1.1.1.1.1.1, hk.1.1.1.1.1.1.2⟩⟩⟩⟩⟩)⟩, ⟨by exact Kd.R_mono (marlinelaw17_PapKeeps.farR9 (Kd.R_types HO277.out BK282.out (by decide)) (fun _ hk => hk.2)) (fun _ hk => ⟨hk.1.1.1.1.2, ⟨hk.1.1.1.2, ⟨hk.1.1.2, ⟨hk.1.2, ⟨hk.1.1.1.1.1.1.1, hk.1.1.1.1.1.1.2⟩⟩⟩⟩⟩)⟩, ⟨by exact Kd.R_mono (marlinelaw17_PapKeeps.farR9 (Kd.R_types HO280.out BK282.out (by decide)) (fun _ hk => hk.2)) (fun _ hk => hk.1.2)⟩, ⟨by refine blk_far ?_ NB204_282.out _; refine blk_far ?_ NB204_282.out _; refine blk_far ?_ NB204_282.out _; refine blk_far ?_ NB204_282.out _; refine blk_far ?_ NB204_282.out _; refine blk_far ?_ NB204_282.out _; refine blk_far ?_ NB204_282.out _; refine blk_far ?_ NB204_282.out _; refine blk_far ?_ NB204_282.out _; refine blk_far ?_ NB204_282.out _; exact BK204.out⟩, ⟨by refine blk_far ?_ NB228_282.out _; refine blk_far ?_ NB228_282.out _; refine blk_far ?_ NB228_282.out _; refine blk_far ?_ NB228_282.out _; refine blk_far ?_ NB228_282.out _; refine blk_far ?_ NB228_282.out _; refine blk_far ?_ NB228_282.out _; refine blk_far ?_ NB228_282.out _; refine blk_far ?_ NB228_282.out _; refine blk_far ?_ NB228_282.out _; exact BK228.out⟩, ⟨by refine blk_far ?_ NB260_282.out _; refine blk_far ?_ NB260_282.out _; refine blk_far ?_ NB260_282.out _; refine blk_far ?_ NB260_282.out _; refine blk_far ?_ NB260_282.out _; refine blk_far ?_ NB260_282.out _; refine blk_far ?_ NB260_282.out _; refine blk_far ?_ NB260_282.out _; refine blk_far ?_ NB260_282.out _; refine blk_far ?_ NB260_282.out _; exact BK260.out⟩, ⟨by refine blk_put (cs := #[.int .u16 t261, .int .u8 t262, .int .u8 t263, .slice Ao57 t264.length co57, .int .u16 t267, .int .u32 t268, .slice Ao58 t269.length co58, .slice Ao59 t272.length co59, .slice Ao60 t275.length co60, .slice none 0 0]) ?_ 9 _ rfl; refine blk_put (cs := #[.int .u16 t261, .int .u8 t262, .int .u8 t263, .slice Ao57 t264.length co57, .int .u16 t267, .int .u32 t268, .slice Ao58 t269.length co58, .slice Ao59 t272.length co59, .slice none 0 0, .slice none 0 0]) ?_ 8 _ rfl; refine blk_put (cs := #[.int .u16 t261, .int .u8 t262, .int .u8 t263, .slice Ao57 t264.length co57, .int .u16 t267, .int .u32 t268, .slice Ao58 t269.length co58, .slice none 0 0, .slice none 0 0, .slice none 0 0]) ?_ 7 _ rfl; refine blk_put (cs := #[.int .u16 t261, .int .u8 t262, .int .u8 t263, .slice Ao57 t264.length co57, .int .u16 t267, .int .u32 t268, .slice none 0 0, .slice none 0 0, .slice none 0 0, .slice none 0 0]) ?_ 6 _ rfl; refine blk_put (cs := #[.int .u16 t261, .int .u8 t262, .int .u8 t263, .slice Ao57 t264.length co57, .int .u16 t267, .int .u32 0, .slice none 0 0, .slice none 0 0, .slice none 0 0, .slice none 0 0]) ?_ 5 _ rfl; refine blk_put (cs := #[.int .u16 t261, .int .u8 t262, .int .u8 t263, .slice Ao57 t264.length co57, .int .u16 0, .int .u32 0, .slice none 0 0, .slice none 0 0, .slice none 0 0, .slice none 0 0]) ?_ 4 _ rfl; refine blk_put (cs := #[.int .u16 t261, .int .u8 t262, .int .u8 t263, .slice none 0 0, .int .u16 0, .int .u32 0, .slice none 0 0, .slice none 0 0, .slice none 0 0, .slice none 0 0]) ?_ 3 _ rfl; refine blk_put (cs := #[.int .u16 t261, .int .u8 t262, .int .u8 0, .slice none 0 0, .int .u16 0, .int .u32 0, .slice none 0 0, .slice none 0 0, .slice none 0 0, .slice none 0 0]) ?_ 2 _ rfl; refine blk_put (cs := #[.int .u16 t261, .int .u8 0, .int .u8 0, .slice none 0 0, .int .u16 0, .int .u32 0, .slice none 0 0, .slice none 0 0, .slice none 0 0, .slice none 0 0]) ?_ 1 _ rfl; refine blk_put (cs := #[.int .u16 0, .int .u8 0, .int .u8 0, .slice none 0 0, .int .u16 0, .int .u32 0, .slice none 0 0, .slice none 0 0, .slice none 0 0, .slice none 0 0]) ?_ 0 _ rfl; exact BK282.out⟩, ⟨by repeat (first | (with_reducible first | exact HB.out | apply below_alloc | apply pw_below_drewN | apply below_drew1 | refine below_set ?_ GE204.out | refine below_set ?_ GE228.out | refine below_set ?_ GE260.out | refine below_set ?_ GE282.out) | exact HB.out)⟩⟩
       case round =>
        clear H'
        try clear c1
        try clear c2
        try clear p2
        try clear c3
        try clear c4
        try clear c5
        try clear c6
        try clear c8
        try clear c10
        try clear c16
        try clear c21
        try clear c25
        try clear c27
        try clear c30
        try clear c31
        try clear c33
        try clear c42
        try clear c43
        try clear c53
        try clear c54
        try clear c55
        try clear hcz10_0 hcz10_1 hcz10_2 hcz10_3 hcz10_4 hcz10_5 hcz10_6 hcz10_7 hcz10_8 hcz10_9 hfz10_0 hfz10_1 hfz10_2 hfz10_3 hfz10_4 hfz10_5 hfz10_6 hfz10_7 hfz10_8 hfz10_9
        try clear hcz13_0 hcz13_1 hcz13_2 hcz13_3 hcz13_4 hcz13_5 hcz13_6 hcz13_7 hcz13_8 hcz13_9 hfz13_0 hfz13_1 hfz13_2 hfz13_3 hfz13_4 hfz13_5 hfz13_6 hfz13_7 hfz13_8 hfz13_9
        try clear hcz24_0 hcz24_1 hcz24_2 hcz24_3 hcz24_4 hcz24_5 hcz24_6 hcz24_7 hcz24_8 hcz24_9 hfz24_0 hfz24_1 hfz24_2 hfz24_3 hfz24_4 hfz24_5 hfz24_6 hfz24_7 hfz24_8 hfz24_9
        try clear hcz28_0 hcz28_1 hcz28_2 hcz28_3 hcz28_4 hcz28_5 hcz28_6 hcz28_7 hcz28_8 hcz28_9 hfz28_0 hfz28_1 hfz28_2 hfz28_3 hfz28_4 hfz28_5 hfz28_6 hfz28_7 hfz28_8 hfz28_9
        try clear hcz44_0 hcz44_1 hcz44_2 hcz44_3 hcz44_4 hcz44_5 hcz44_6 hcz44_7 hcz44_8 hcz44_9 hfz44_0 hfz44_1 hfz44_2 hfz44_3 hfz44_4 hfz44_5 hfz44_6 hfz44_7 hfz44_8 hfz44_9
        try clear hcz56_0 hcz56_1 hcz56_2 hcz56_3 hcz56_4 hcz56_5 hcz56_6 hcz56_7 hcz56_8 hcz56_9 hfz56_0 hfz56_1 hfz56_2 hfz56_3 hfz56_4 hfz56_5 hfz56_6 hfz56_7 hfz56_8 hfz56_9
        try clear p2
        obtain ⟨x6_2, x44_2, rfl, HA, HK2, HO_6, HO_229003, HO_229006, HO_229007, HO_229008, HO_229009, HO_261003, HO_261006, HO_261007, HO_261008, HO_261009, HO_283003, HO_283006, HO_283007, HO_283008, HO_283009, BK204, BK228, BK260, BK282, HB⟩ := hrel
        have hl6_2 := (Kd.R_reads' HO_6.out).1
        rw [hl6_2] at HO_6
        (try simp only [hl6_2])
        (try simp only [hl6_2] at BK204)
        (try simp only [hl6_2] at BK228)
        (try simp only [hl6_2] at BK260)
        (try simp only [hl6_2] at BK282)
        (try simp only [hl6_2] at HO_229003)
        (try simp only [hl6_2] at HO_229006)
        (try simp only [hl6_2] at HO_229007)
        (try simp only [hl6_2] at HO_229008)
        (try simp only [hl6_2] at HO_229009)
        (try simp only [hl6_2] at HO_261003)
        (try simp only [hl6_2] at HO_261006)
        (try simp only [hl6_2] at HO_261007)
        (try simp only [hl6_2] at HO_261008)
        (try simp only [hl6_2] at HO_261009)
        (try simp only [hl6_2] at HO_283003)
        (try simp only [hl6_2] at HO_283006)
        (try simp only [hl6_2] at HO_283007)
        (try simp only [hl6_2] at HO_283008)
        (try simp only [hl6_2] at HO_283009)
        cases gk with
        | zero => exact absurd HA.out (by simp [marlinelaw17_PapKeeps.l0])
        | succ k2 =>
         have H := HA.out
         clear HA
         simp only [marlinelaw17_PapKeeps.l0] at H
         by_cases c62 : x44_2 < (y236.length : Int)
         · rw [if_pos c62] at H
           have c62b0 : decide (x44_2 < (y236.length : Int)) = true := decide_eq_true c62
           clear c62
           by_cases c63 : 0 ≤ x44_2
           · rw [if_pos c63] at H
             have c63b0 : decide (0 ≤ x44_2) = true := decide_eq_true c63
             clear c63
             by_cases c64 : x44_2 < (x6_2.length : Int)
             · rw [if_pos c64] at H
               have c64b0 : decide (x44_2 < (x6_2.length : Int)) = true := decide_eq_true c64
               clear c64
               obtain ⟨y284, hy284⟩ : ∃ y_ : List Int, y_ = (x6_2.set (x44_2 : Int).toNat (((rd x6_2 x44_2) + 1) % 256)) := ⟨_, rfl⟩
               replace H : (marlinelaw17_PapKeeps.l0 k2 y284 t259 (y236.length : Int) (wrap64 (x44_2 + 1)) a0_0 a0_1 a0_2 l0_3 a0_4 a0_5 l0_6 l0_7 l0_8 l0_9 t208 t209 t210 t211 t214 t215 t216 t219 t222 t225 t239 t240 t241 t242 t245 t246 t247 t250 t253 t256 t261 t262 t263 t264 t267 t268 t269 t272 t275 t278) = some r := by first | (rw [hy284]; with_reducible exact H) | (have H2_ := (Option.bind_some _ _).symm.trans H; rw [hy284]; with_reducible exact H2_) | (have H2_ := (Option.bind_some _ _).symm.trans H; with_reducible exact H2_) | with_reducible exact H | (rw [hy284]; exact H) | exact H
               have Ny284 := Aside0.mk hy284
               clear hy284
               have H' := Aside0.mk H
               clear H
               have p283 : 0 ≤ (x44_2 : Int) := of_decide_eq_true (by first | (with_reducible assumption) | assumption)
               have q283 : x44_2 < (x6_2.length : Int) := of_decide_eq_true (by first | (with_reducible assumption) | assumption)
               obtain ⟨ad283, e283, hx283_0⟩ := Kd.at_int (Kd.R_reads' HO_6.out).2.2 x44_2 p283 q283
               cases e283
               replace p283 := eq_true p283
               replace q283 := eq_true q283
               have p65 : 0 ≤ (x44_2 : Int) := of_decide_eq_true (by first | (with_reducible assumption) | assumption)
               have q65 : (x44_2 : Int) < ((x6_2.length : Int) : Int) := of_decide_eq_true (by first | (with_reducible assumption) | assumption)
               obtain ⟨go65, co65, eo65, gb65, gl65, cl65, HG65⟩ := Kd.R_form HO_6.out (by omega)
               (first | cases eo65 | (injection eo65 with ea_ en_ ec_; (first | subst ea_ | (injection ea_ with ea_; subst ea_)); subst ec_; clear en_))
               have GB65 := Aside0.mk gb65
               have GG65 := Aside0.mk HG65
               clear gb65 gl65 HG65
               (first | simp only [add_plain] at hx283_0 | skip)
               obtain ⟨hx65_0, hf65_0⟩ := Kd.R_celln 0 HO_6.out (x44_2 : Int) p65 q65
               replace p65 := eq_true p65
               replace q65 := eq_true q65
               have HP66 := Kd.R_putg HO_6.out (x44_2 : Int) (((rd x6_2 x44_2) + 1) % 256)
               go_wp2_with (first | ((with_reducible refine gate_store (t := 5) (p := 52) rfl ?_); refine store_event (t := 5) (p := 52) (v := ?vo_w67) (w1 := (wr.setCell ⟨go65, (x44_2 : Int).toNat, none⟩ (.int .u8 (((rd x6_2 x44_2) + 1) % 256)))) ?hg ?ho ?hn ?hr ?_; (case ho => rfl); (case hg => rfl); (case hn => rfl); (case hr => first | (go_simp; done) | (go_simp; simp only [IntKind.wrap_u8, IntKind.wrap_u16, IntKind.wrap_u32, IntKind.wrap_u64]; done) | (go_simp; simp only [IntKind.wrap_u8, IntKind.wrap_u16, IntKind.wrap_u32, IntKind.wrap_u64, Int.tmod_eq_emod_of_nonneg (Int.natCast_nonneg _), Int.emod_emod]; done) | (go_simp; rfl)); intro w67 hw; have hg : wr.grownBy w67 (some go65) := (by rw [hw]; exact HP66.2); have hp_ : Kd.R (Kd.int .u8) 5 w67 w.heap.size (fun k_ => some k_ ≠ (.slice Ao46 t247.length co46 : Value).ownBlock ∧ some k_ ≠ (.slice Ao47 t250.length co47 : Value).ownBlock ∧ some k_ ≠ (.slice Ao48 t253.length co48 : Value).ownBlock ∧ some k_ ≠ (.slice Ao58 t269.length co58 : Value).ownBlock ∧ some k_ ≠ (.slice Ao59 t272.length co59 : Value).ownBlock ∧ some k_ ≠ (.slice Ao60 t275.length co60 : Value).ownBlock) (.slice (some ⟨go65, 0, none⟩) x6_2.length co39) y284 := (by rw [hw, Ny284.out]; exact HP66.1); clear HP66; have n0_ := Aside0.mk (hp_); have n1_ := Aside0.mk (Kd.N_afterv (v := (.slice (some ⟨go65, 0, none⟩) x6_2.length co39)) (v1 := (.slice (some ⟨go65, 0, none⟩) x6_2.length co39)) (ok := (fun k_ => some k_ ≠ (.slice Ao45 t242.length co45 : Value).ownBlock ∧ some k_ ≠ (.slice Ao46 t247.length co46 : Value).ownBlock ∧ some k_ ≠ (.slice Ao47 t250.length co47 : Value).ownBlock ∧ some k_ ≠ (.slice Ao48 t253.length co48 : Value).ownBlock ∧ some k_ ≠ (.slice Ao49 t256.length co49 : Value).ownBlock ∧ some k_ ≠ (.slice Ao57 t264.length co57 : Value).ownBlock ∧ some k_ ≠ (.slice Ao58 t269.length co58 : Value).ownBlock ∧ some k_ ≠ (.slice Ao59 t272.length co59 : Value).ownBlock ∧ some k_ ≠ (.slice Ao60 t275.length co60 : Value).ownBlock ∧ some k_ ≠ (.slice Ao61 t278.length co61 : Value).ownBlock ∧ k_ ≠ gb204 ∧ k_ ≠ gb228 ∧ k_ ≠ gb260 ∧ k_ ≠ gb282)) (by exact Kd.N_mono HO_229003.out (fun _ hk => ⟨⟨hk.2.1, ⟨hk.2.2.1, ⟨hk.2.2.2.1, ⟨hk.2.2.2.2.1, ⟨hk.2.2.2.2.2.1, ⟨hk.2.2.2.2.2.2.1, ⟨hk.2.2.2.2.2.2.2.1, ⟨hk.2.2.2.2.2.2.2.2.1, ⟨hk.2.2.2.2.2.2.2.2.2.1, ⟨hk.2.2.2.2.2.2.2.2.2.2.1, ⟨hk.2.2.2.2.2.2.2.2.2.2.2.1, ⟨hk.2.2.2.2.2.2.2.2.2.2.2.2.1, ⟨hk.2.2.2.2.2.2.2.2.2.2.2.2.2.1, hk.2.2.2.2.2.2.2.2.2.2.2.2.2.2⟩⟩⟩⟩⟩⟩⟩⟩⟩⟩⟩⟩⟩, hk.1⟩)) hg (.inl rfl)); have n2_ := Aside0.mk (Kd.V_afterv (v := (.slice (some ⟨go65, 0, none⟩) x6_2.length co39)) (v1 := (.slice (some ⟨go65, 0, none⟩) x6_2.length co39)) (ok := (fun k_ => some k_ ≠ (.slice Ao29 t211.length co29 : Value).ownBlock ∧ some k_ ≠ (.slice Ao45 t242.length co45 : Value).ownBlock ∧ some k_ ≠ (.slice Ao46 t247.length co46 : Value).ownBlock ∧ some k_ ≠ (.slice Ao47 t250.length co47 : Value).ownBlock ∧ some k_ ≠ (.slice Ao48 t253.length co48 : Value).ownBlock ∧ some k_ ≠ (.slice Ao49 t256.length co49 : Value).ownBlock ∧ some k_ ≠ (.slice Ao57 t264.length co57 : Value).ownBlock ∧ some k_ ≠ (.slice Ao58 t269.length co58 : Value).ownBlock ∧ some k_ ≠ (.slice Ao59 t272.length co59 : Value).ownBlock ∧ some k_ ≠ (.slice Ao60 t275.length co60 : Value).ownBlock ∧ some k_ ≠ (.slice Ao61 t278.length co61 : Value).ownBlock ∧ k_ ≠ gb204 ∧ k_ ≠ gb228 ∧ k_ ≠ gb260 ∧ k_ ≠ gb282)) (by exact Kd.V_mono HO_229006.out (fun _ hk => ⟨⟨hk.2.1, ⟨hk.2.2.1, ⟨hk.2.2.2.1, ⟨hk.2.2.2.2.1, ⟨hk.2.2.2.2.2.1, ⟨hk.2.2.2.2.2.2.1, ⟨hk.2.2.2.2.2.2.2.1, ⟨hk.2.2.2.2.2.2.2.2.1, ⟨hk.2.2.2.2.2.2.2.2.2.1, ⟨hk.2.2.2.2.2.2.2.2.2.2.1, ⟨hk.2.2.2.2.2.2.2.2.2.2.2.1, ⟨hk.2.2.2.2.2.2.2.2.2.2.2.2.1, ⟨hk.2.2.2.2.2.2.2.2.2.2.2.2.2.1, ⟨hk.2.2.2.2.2.2.2.2.2.2.2.2.2.2.1, hk.2.2.2.2.2.2.2.2.2.2.2.2.2.2.2⟩⟩⟩⟩⟩⟩⟩⟩⟩⟩⟩⟩⟩⟩, hk.1⟩)) hg (.inl rfl)); have n3_ := Aside0.mk (Kd.V_afterv (v := (.slice (some ⟨go65, 0, none⟩) x6_2.length co39)) (v1 := (.slice (some ⟨go65, 0, none⟩) x6_2.length co39)) (ok := (fun k_ => some k_ ≠ (.slice Ao29 t211.length co29 : Value).ownBlock ∧ some k_ ≠ (.slice Ao45 t242.length co45 : Value).ownBlock ∧ some k_ ≠ (.slice Ao46 t247.length co46 : Value).ownBlock ∧ some k_ ≠ (.slice Ao47 t250.length co47 : Value).ownBlock ∧ some k_ ≠ (.slice Ao48 t253.length co48 : Value).ownBlock ∧ some k_ ≠ (.slice Ao49 t256.length co49 : Value).ownBlock ∧ some k_ ≠ (.slice Ao57 t264.length co57 : Value).ownBlock ∧ some k_ ≠ (.slice Ao58 t269.length co58 : Value).ownBlock ∧ some k_ ≠ (.slice Ao59 t272.length co59 : Value).ownBlock ∧ some k_ ≠ (.slice Ao60 t275.length co60 : Value).ownBlock ∧ some k_ ≠ (.slice Ao61 t278.length co61 : Value).ownBlock ∧ k_ ≠ gb204 ∧ k_ ≠ gb228 ∧ k_ ≠ gb260 ∧ k_ ≠ gb282)) (by exact Kd.V_mono HO_229007.out (fun _ hk => ⟨⟨hk.2.1, ⟨hk.2.2.1, ⟨hk.2.2.2.1, ⟨hk.2.2.2.2.1, ⟨hk.2.2.2.2.2.1, ⟨hk.2.2.2.2.2.2.1, ⟨hk.2.2.2.2.2.2.2.1, ⟨hk.2.2.2.2.2.2.2.2.1, ⟨hk.2.2.2.2.2.2.2.2.2.1, ⟨hk.2.2.2.2.2.2.2.2.2.2.1, ⟨hk.2.2.2.2.2.2.2.2.2.2.2.1, ⟨hk.2.2.2.2.2.2.2.2.2.2.2.2.1, ⟨hk.2.2.2.2.2.2.2.2.2.2.2.2.2.1, ⟨hk.2.2.2.2.2.2.2.2.2.2.2.2.2.2.1, hk.2.2.2.2.2.2.2.2.2.2.2.2.2.2.2⟩⟩⟩⟩⟩⟩⟩⟩⟩⟩⟩⟩⟩⟩, hk.1⟩)) hg (.inl rfl)); have n4_ := Aside0.mk (Kd.V_afterv (v := (.slice (some ⟨go65, 0, none⟩) x6_2.length co39)) (v1 := (.slice (some ⟨go65, 0, none⟩) x6_2.length co39)) (ok := (fun k_ => some k_ ≠ (.slice Ao29 t211.length co29 : Value).ownBlock ∧ some k_ ≠ (.slice Ao45 t242.length co45 : Value).ownBlock ∧ some k_ ≠ (.slice Ao46 t247.length co46 : Value).ownBlock ∧ some k_ ≠ (.slice Ao47 t250.length co47 : Value).ownBlock ∧ some k_ ≠ (.slice Ao48 t253.length co48 : Value).ownBlock ∧ some k_ ≠ (.slice Ao49 t256.length co49 : Value).ownBlock ∧ some k_ ≠ (.slice Ao57 t264.length co57 : Value).ownBlock ∧ some k_ ≠ (.slice Ao58 t269.length co58 : Value).ownBlock ∧ some k_ ≠ (.slice Ao59 t272.length co59 : Value).ownBlock ∧ some k_ ≠ (.slice Ao60 t275.length co60 : Value).ownBlock ∧ some k_ ≠ (.slice Ao61 t278.length co61 : Value).ownBlock ∧ k_ ≠ gb204 ∧ k_ ≠ gb228 ∧ k_ ≠ gb260 ∧ k_ ≠ gb282)) (by exact Kd.V_mono HO_229008.out (fun _ hk => ⟨⟨hk.2.1, ⟨hk.2.2.1, ⟨hk.2.2.2.1, ⟨hk.2.2.2.2.1, ⟨hk.2.2.2.2.2.1, ⟨hk.2.2.2.2.2.2.1, ⟨hk.2.2.2.2.2.2.2.1, ⟨hk.2.2.2.2.2.2.2.2.1, ⟨hk.2.2.2.2.2.2.2.2.2.1, ⟨hk.2.2.2.2.2.2.2.2.2.2.1, ⟨hk.2.2.2.2.2.2.2.2.2.2.2.1, ⟨hk.2.2.2.2.2.2.2.2.2.2.2.2.1, ⟨hk.2.2.2.2.2.2.2.2.2.2.2.2.2.1, ⟨hk.2.2.2.2.2.2.2.2.2.2.2.2.2.2.1, hk.2.2.2.2.2.2.2.2.2.2.2.2.2.2.2⟩⟩⟩⟩⟩⟩⟩⟩⟩⟩⟩⟩⟩⟩, hk.1⟩)) hg (.inl rfl)); have n5_ := Aside0.mk (Kd.V_afterv (v := (.slice (some ⟨go65, 0, none⟩) x6_2.length co39)) (v1 := (.slice (some ⟨go65, 0, none⟩) x6_2.length co39)) (ok := (fun k_ => some k_ ≠ (.slice Ao29 t211.length co29 : Value).ownBlock ∧ some k_ ≠ (.slice Ao45 t242.length co45 : Value).ownBlock ∧ some k_ ≠ (.slice Ao46 t247.length co46 : Value).ownBlock ∧ some k_ ≠ (.slice Ao47 t250.length co47 : Value).ownBlock ∧ some k_ ≠ (.slice Ao48 t253.length co48 : Value).ownBlock ∧ some k_ ≠ (.slice Ao49 t256.length co49 : Value).ownBlock ∧ some k_ ≠ (.slice Ao57 t264.length co57 : Value).ownBlock ∧ some k_ ≠ (.slice Ao58 t269.length co58 : Value).ownBlock ∧ some k_ ≠ (.slice Ao59 t272.length co59 : Value).ownBlock ∧ some k_ ≠ (.slice Ao60 t275.length co60 : Value).ownBlock ∧ some k_ ≠ (.slice Ao61 t278.length co61 : Value).ownBlock ∧ k_ ≠ gb204 ∧ k_ ≠ gb228 ∧ k_ ≠ gb260 ∧ k_ ≠ gb282)) (by exact Kd.V_mono HO_229009.out (fun _ hk => ⟨⟨hk.2.1, ⟨hk.2.2.1, ⟨hk.2.2.2.1, ⟨hk.2.2.2.2.1, ⟨hk.2.2.2.2.2.1, ⟨hk.2.2.2.2.2.2.1, ⟨hk.2.2.2.2.2.2.2.1, ⟨hk.2.2.2.2.2.2.2.2.1, ⟨hk.2.2.2.2.2.2.2.2.2.1, ⟨hk.2.2.2.2.2.2.2.2.2.2.1, ⟨hk.2.2.2.2.2.2.2.2.2.2.2.1, ⟨hk.2.2.2.2.2.2.2.2.2.2.2.2.1, ⟨hk.2.2.2.2.2.2.2.2.2.2.2.2.2.1, ⟨hk.2.2.2.2.2.2.2.2.2.2.2.2.2.2.1, hk.2.2.2.2.2.2.2.2.2.2.2.2.2.2.2⟩⟩⟩⟩⟩⟩⟩⟩⟩⟩⟩⟩⟩⟩, hk.1⟩)) hg (.inl rfl)); have n6_ := Aside0.mk (Kd.N_afterv (v := (.slice (some ⟨go65, 0, none⟩) x6_2.length co39)) (v1 := (.slice (some ⟨go65, 0, none⟩) x6_2.length co39)) (ok := (fun k_ => some k_ ≠ (.slice Ao29 t211.length co29 : Value).ownBlock ∧ some k_ ≠ (.slice Ao46 t247.length co46 : Value).ownBlock ∧ some k_ ≠ (.slice Ao47 t250.length co47 : Value).ownBlock ∧ some k_ ≠ (.slice Ao48 t253.length co48 : Value).ownBlock ∧ some k_ ≠ (.slice Ao49 t256.length co49 : Value).ownBlock ∧ some k_ ≠ (.slice Ao57 t264.length co57 : Value).ownBlock ∧ some k_ ≠ (.slice Ao58 t269.length co58 : Value).ownBlock ∧ some k_ ≠ (.slice Ao59 t272.length co59 : Value).ownBlock ∧ some k_ ≠ (.slice Ao60 t275.length co60 : Value).ownBlock ∧ some k_ ≠ (.slice Ao61 t278.length co61 : Value).ownBlock ∧ k_ ≠ gb204 ∧ k_ ≠ gb228 ∧ k_ ≠ gb260 ∧ k_ ≠ gb282)) (by exact Kd.N_mono HO_261003.out (fun _ hk => ⟨⟨hk.2.1, ⟨hk.2.2.1, ⟨hk.2.2.2.1, ⟨hk.2.2.2.2.1, ⟨hk.2.2.2.2.2.1, ⟨hk.2.2.2.2.2.2.1, ⟨hk.2.2.2.2.2.2.2.1, ⟨hk.2.2.2.2.2.2.2.2.1, ⟨hk.2.2.2.2.2.2.2.2.2.1, ⟨hk.2.2.2.2.2.2.2.2.2.2.1, ⟨hk.2.2.2.2.2.2.2.2.2.2.2.1, ⟨hk.2.2.2.2.2.2.2.2.2.2.2.2.1, ⟨hk.2.2.2.2.2.2.2.2.2.2.2.2.2.1, hk.2.2.2.2.2.2.2.2.2.2.2.2.2.2⟩⟩⟩⟩⟩⟩⟩⟩⟩⟩⟩⟩⟩, hk.1⟩)) hg (.inl rfl)); have n7_ := Aside0.mk (Kd.R_after (v := (.slice (some ⟨go65, 0, none⟩) x6_2.length co39)) (v1 := (.slice (some ⟨go65, 0, none⟩) x6_2.length co39)) (ok := (fun k_ => some k_ ≠ (.slice Ao47 t250.length co47 : Value).ownBlock ∧ some k_ ≠ (.slice Ao48 t253.length co48 : Value).ownBlock ∧ some k_ ≠ (.slice Ao58 t269.length co58 : Value).ownBlock ∧ some k_ ≠ (.slice Ao59 t272.length co59 : Value).ownBlock ∧ some k_ ≠ (.slice Ao60 t275.length co60 : Value).ownBlock)) (by exact Kd.R_mono HO_261006.out (fun _ hk => ⟨⟨hk.2.1, ⟨hk.2.2.1, ⟨hk.2.2.2.1, ⟨hk.2.2.2.2.1, hk.2.2.2.2.2⟩⟩⟩⟩, hk.1⟩)) hg (.inl rfl)); have n8_ := Aside0.mk (Kd.R_after (v := (.slice (some ⟨go65, 0, none⟩) x6_2.length co39)) (v1 := (.slice (some ⟨go65, 0, none⟩) x6_2.length co39)) (ok := (fun k_ => some k_ ≠ (.slice Ao46 t247.length co46 : Value).ownBlock ∧ some k_ ≠ (.slice Ao48 t253.length co48 : Value).ownBlock ∧ some k_ ≠ (.slice Ao58 t269.length co58 : Value).ownBlock ∧ some k_ ≠ (.slice Ao59 t272.length co59 : Value).ownBlock ∧ some k_ ≠ (.slice Ao60 t275.length co60 : Value).ownBlock)) (by exact Kd.R_mono HO_261007.out (fun _ hk => ⟨⟨hk.2.1, ⟨hk.2.2.1, ⟨hk.2.2.2.1, ⟨hk.2.2.2.2.1, hk.2.2.2.2.2⟩⟩⟩⟩, hk.1⟩)) hg (.inl rfl)); have n9_ := Aside0.mk (Kd.R_after (v := (.slice (some ⟨go65, 0, none⟩) x6_2.length co39)) (v1 := (.slice (some ⟨go65, 0, none⟩) x6_2.length co39)) (ok := (fun k_ => some k_ ≠ (.slice Ao46 t247.length co46 : Value).ownBlock ∧ some k_ ≠ (.slice Ao47 t250.length co47 : Value).ownBlock ∧ some k_ ≠ (.slice Ao58 t269.length co58 : Value).ownBlock ∧ some k_ ≠ (.slice Ao59 t272.length co59 : Value).ownBlock ∧ some k_ ≠ (.slice Ao60 t275.length co60 : Value).ownBlock)) (by exact Kd.R_mono HO_261008.out (fun _ hk => ⟨⟨hk.2.1, ⟨hk.2.2.1, ⟨hk.2.2.2.1, ⟨hk.2.2.2.2.1, hk.2.2.2.2.2⟩⟩⟩⟩, hk.1⟩)) hg (.inl rfl)); have n10_ := Aside0.mk (Kd.R_over' (v := (.slice (some ⟨go65, 0, none⟩) x6_2.length co39)) HO_261009.out (Kd.R_typed HO_6.out) (by decide) hg); have n11_ := Aside0.mk (Kd.N_afterv (v := (.slice (some ⟨go65, 0, none⟩) x6_2.length co39)) (v1 := (.slice (some ⟨go65, 0, none⟩) x6_2.length co39)) (ok := (fun k_ => some k_ ≠ (.slice Ao29 t211.length co29 : Value).ownBlock ∧ some k_ ≠ (.slice Ao45 t242.length co45 : Value).ownBlock ∧ some k_ ≠ (.slice Ao46 t247.length co46 : Value).ownBlock ∧ some k_ ≠ (.slice Ao47 t250.length co47 : Value).ownBlock ∧ some k_ ≠ (.slice Ao48 t253.length co48 : Value).ownBlock ∧ some k_ ≠ (.slice Ao49 t256.length co49 : Value).ownBlock ∧ some k_ ≠ (.slice Ao58 t269.length co58 : Value).ownBlock ∧ some k_ ≠ (.slice Ao59 t272.length co59 : Value).ownBlock ∧ some k_ ≠ (.slice Ao60 t275.length co60 : Value).ownBlock ∧ some k_ ≠ (.slice Ao61 t278.length co61 : Value).ownBlock ∧ k_ ≠ gb204 ∧ k_ ≠ gb228 ∧ k_ ≠ gb260 ∧ k_ ≠ gb282)) (by exact Kd.N_mono HO_283003.out (fun _ hk => ⟨⟨hk.2.1, ⟨hk.2.2.1, ⟨hk.2.2.2.1, ⟨hk.2.2.2.2.1, ⟨hk.2.2.2.2.2.1, ⟨hk.2.2.2.2.2.2.1, ⟨hk.2.2.2.2.2.2.2.1, ⟨hk.2.2.2.2.2.2.2.2.1, ⟨hk.2.2.2.2.2.2.2.2.2.1, ⟨hk.2.2.2.2.2.2.2.2.2.2.1, ⟨hk.2.2.2.2.2.2.2.2.2.2.2.1, ⟨hk.2.2.2.2.2.2.2.2.2.2.2.2.1, ⟨hk.2.2.2.2.2.2.2.2.2.2.2.2.2.1, hk.2.2.2.2.2.2.2.2.2.2.2.2.2.2⟩⟩⟩⟩⟩⟩⟩⟩⟩⟩⟩⟩⟩, hk.1⟩)) hg (.inl rfl)); have n12_ := Aside0.mk (Kd.R_after (v := (.slice (some ⟨go65, 0, none⟩) x6_2.length co39)) (v1 := (.slice (some ⟨go65, 0, none⟩) x6_2.length co39)) (ok := (fun k_ => some k_ ≠ (.slice Ao46 t247.length co46 : Value).ownBlock ∧ some k_ ≠ (.slice Ao47 t250.length co47 : Value).ownBlock ∧ some k_ ≠ (.slice Ao48 t253.length co48 : Value).ownBlock ∧ some k_ ≠ (.slice Ao59 t272.length co59 : Value).ownBlock ∧ some k_ ≠ (.slice Ao60 t275.length co60 : Value).ownBlock)) (by exact Kd.R_mono HO_283006.out (fun _ hk => ⟨⟨hk.2.1, ⟨hk.2.2.1, ⟨hk.2.2.2.1, ⟨hk.2.2.2.2.1, hk.2.2.2.2.2⟩⟩⟩⟩, hk.1⟩)) hg (.inl rfl)); have n13_ := Aside0.mk (Kd.R_after (v := (.slice (some ⟨go65, 0, none⟩) x6_2.length co39)) (v1 := (.slice (some ⟨go65, 0, none⟩) x6_2.length co39)) (ok := (fun k_ => some k_ ≠ (.slice Ao46 t247.length co46 : Value).ownBlock ∧ some k_ ≠ (.slice Ao47 t250.length co47 : Value).ownBlock ∧ some k_ ≠ (.slice Ao48 t253.length co48 : Value).ownBlock ∧ some k_ ≠ (.slice Ao58 t269.length co58 : Value).ownBlock ∧ some k_ ≠ (.slice Ao60 t275.length co60 : Value).ownBlock)) (by exact Kd.R_mono HO_283007.out (fun _ hk => ⟨⟨hk.2.1, ⟨hk.2.2.1, ⟨hk.2.2.2.1, ⟨hk.2.2.2.2.1, hk.2.2.2.2.2⟩⟩⟩⟩, hk.1⟩)) hg (.inl rfl)); have n14_ := Aside0.mk (Kd.R_after (v := (.slice (some ⟨go65, 0, none⟩) x6_2.length co39)) (v1 := (.slice (some ⟨go65, 0, none⟩) x6_2.length co39)) (ok := (fun k_ => some k_ ≠ (.slice Ao46 t247.length co46 : Value).ownBlock ∧ some k_ ≠ (.slice Ao47 t250.length co47 : Value).ownBlock ∧ some k_ ≠ (.slice Ao48 t253.length co48 : Value).ownBlock ∧ some k_ ≠ (.slice Ao58 t269.length co58 : Value).ownBlock ∧ some k_ ≠ (.slice Ao59 t272.length co59 : Value).ownBlock)) (by exact Kd.R_mono HO_283008.out (fun _ hk => ⟨⟨hk.2.1, ⟨hk.2.2.1, ⟨hk.2.2.2.1, ⟨hk.2.2.2.2.1, hk.2.2.2.2.2⟩⟩⟩⟩, hk.1⟩)) hg (.inl rfl)); have n15_ := Aside0.mk (Kd.R_over' (v := (.slice (some ⟨go65, 0, none⟩) x6_2.length co39)) HO_283009.out (Kd.R_typed HO_6.out) (by decide) hg); have n16_ := Aside0.mk (blk_grown BK204.out hg (Kd.R_ne HO_6.out BK204.out (by decide))); have n17_ := Aside0.mk (blk_grown BK228.out hg (Kd.R_ne HO_6.out BK228.out (by decide))); have n18_ := Aside0.mk (blk_grown BK260.out hg (Kd.R_ne HO_6.out BK260.out (by decide))); have n19_ := Aside0.mk (blk_grown BK282.out hg (Kd.R_ne HO_6.out BK282.out (by decide))); have n20_ := Aside0.mk ((by rw [hw]; exact below_set (HB.out) GB65.out : Below w.heap.size w w67)); clear HO_6; clear HO_229003; clear HO_229006; clear HO_229007; clear HO_229008; clear HO_229009; clear HO_261003; clear HO_261006; clear HO_261007; clear HO_261008; clear HO_261009; clear HO_283003; clear HO_283006; clear HO_283007; clear HO_283008; clear HO_283009; clear BK204; clear BK228; clear BK260; clear BK282; clear HB; have HO_6 := n0_; have HO_229003 := n1_; have HO_229006 := n2_; have HO_229007 := n3_; have HO_229008 := n4_; have HO_229009 := n5_; have HO_261003 := n6_; have HO_261006 := n7_; have HO_261007 := n8_; have HO_261008 := n9_; have HO_261009 := n10_; have HO_283003 := n11_; have HO_283006 := n12_; have HO_283007 := n13_; have HO_283008 := n14_; have HO_283009 := n15_; have BK204 := n16_; have BK228 := n17_; have BK260 := n18_; have BK282 := n19_; have HB := n20_; clear n0_ n1_ n2_ n3_ n4_ n5_ n6_ n7_ n8_ n9_ n10_ n11_ n12_ n13_ n14_ n15_ n16_ n17_ n18_ n19_ n20_; clear hg hw hp_))
               (try simp only [← hl6_2])
               go_roundg k2
               case measure => have := HJ2.out; have := HK2.out; omega
               case rel => exact ⟨(y284), (wrap64 (x44_2 + 1)), (by first | rfl | (simp; done) | (simp [*]; done)), H', ⟨by have := HJ2.out; have := HK2.out; omega⟩, ⟨by (try simp only [hl6_2]); exact HO_6.out⟩, ⟨by (try simp only [hl6_2]); exact Kd.N_mono HO_229003.out (fun _ hk => ⟨hk.2, ⟨hk.1.1, ⟨hk.1.2.1, ⟨hk.1.2.2.1, ⟨hk.1.2.2.2.1, ⟨hk.1.2.2.2.2.1, ⟨hk.1.2.2.2.2.2.1, ⟨hk.1.2.2.2.2.2.2.1, ⟨hk.1.2.2.2.2.2.2.2.1, ⟨hk.1.2.2.2.2.2.2.2.2.1, ⟨hk.1.2.2.2.2.2.2.2.2.2.1, ⟨hk.1.2.2.2.2.2.2.2.2.2.2.1, ⟨hk.1.2.2.2.2.2.2.2.2.2.2.2.1, ⟨hk.1.2.2.2.2.2.2.2.2.2.2.2.2.1, hk.1.2.2.2.2.2.2.2.2.2.2.2.2.2⟩⟩⟩⟩⟩⟩⟩⟩⟩⟩⟩⟩⟩⟩)⟩, ⟨by (try simp only [hl6_2]); exact Kd.V_mono HO_229006.out (fun _ hk => ⟨hk.2, ⟨hk.1.1, ⟨hk.1.2.1, ⟨hk.1.2.2.1, ⟨hk.1.2.2.2.1, ⟨hk.1.2.2.2.2.1, ⟨hk.1.2.2.2.2.2.1, ⟨hk.1.2.2.2.2.2.2.1, ⟨hk.1.2.2.2.2.2.2.2.1, ⟨hk.1.2.2.2.2.2.2.2.2.1, ⟨hk.1.2.2.2.2.2.2.2.2.2.1, ⟨hk.1.2.2.2.2.2.2.2.2.2.2.1, ⟨hk.1.2.2.2.2.2.2.2.2.2.2.2.1, ⟨hk.1.2.2.2.2.2.2.2.2.2.2.2.2.1, ⟨hk.1.2.2.2.2.2.2.2.2.2.2.2.2.2.1, hk.1.2.2.2.2.2.2.2.2.2.2.2.2.2.2⟩⟩⟩⟩⟩⟩⟩⟩⟩⟩⟩⟩⟩⟩⟩)⟩, ⟨by (try simp only [hl6_2]); exact Kd.V_mono HO_229007.out (fun _ hk => ⟨hk.2, ⟨hk.1.1, ⟨hk.1.2.1, ⟨hk.1.2.2.1, ⟨hk.1.2.2.2.1, ⟨hk.1.2.2.2.2.1, ⟨hk.1.2.2.2.2.2.1, ⟨hk.1.2.2.2.2.2.2.1, ⟨hk.1.2.2.2.2.2.2.2.1, ⟨hk.1.2.2.2.2.2.2.2.2.1, ⟨hk.1.2.2.2.2.2.2.2.2.2.1, ⟨hk.1.2.2.2.2.2.2.2.2.2.2.1, ⟨hk.1.2.2.2.2.2.2.2.2.2.2.2.1, ⟨hk.1.2.2.2.2.2.2.2.2.2.2.2.2.1, ⟨hk.1.2.2.2.2.2.2.2.2.2.2.2.2.2.1, hk.1.2.2.2.2.2.2.2.2.2.2.2.2.2.2⟩⟩⟩⟩⟩⟩⟩⟩⟩⟩⟩⟩⟩⟩⟩)⟩, ⟨by (try simp only [hl6_2]); exact Kd.V_mono HO_229008.out (fun _ hk => ⟨hk.2, ⟨hk.1.1, ⟨hk.1.2.1, ⟨hk.1.2.2.1, ⟨hk.1.2.2.2.1, ⟨hk.1.2.2.2.2.1, ⟨hk.1.2.2.2.2.2.1, ⟨hk.1.2.2.2.2.2.2.1, ⟨hk.1.2.2.2.2.2.2.2.1, ⟨hk.1.2.2.2.2.2.2.2.2.1, ⟨hk.1.2.2.2.2.2.2.2.2.2.1, ⟨hk.1.2.2.2.2.2.2.2.2.2.2.1, ⟨hk.1.2.2.2.2.2.2.2.2.2.2.2.1, ⟨hk.1.2.2.2.2.2.2.2.2.2.2.2.2.1, ⟨hk.1.2.2.2.2.2.2.2.2.2.2.2.2.2.1, hk.1.2.2.2.2.2.2.2.2.2.2.2.2.2.2⟩⟩⟩⟩⟩⟩⟩⟩⟩⟩⟩⟩⟩⟩⟩)⟩, ⟨by (try simp only [hl6_2]); exact Kd.V_mono HO_229009.out (fun _ hk => ⟨hk.2, ⟨hk.1.1, ⟨hk.1.2.1, ⟨hk.1.2.2.1, ⟨hk.1.2.2.2.1, ⟨hk.1.2.2.2.2.1, ⟨hk.1.2.2.2.2.2.1, ⟨hk.1.2.2.2.2.2.2.1, ⟨hk.1.2.2.2.2.2.2.2.1, ⟨hk.1.2.2.2.2.2.2.2.2.1, ⟨hk.1.2.2.2.2.2.2.2.2.2.1, ⟨hk.1.2.2.2.2.2.2.2.2.2.2.1, ⟨hk.1.2.2.2.2.2.2.2.2.2.2.2.1, ⟨hk.1.2.2.2.2.2.2.2.2.2.2.2.2.1, ⟨hk.1.2.2.2.2.2.2.2.2.2.2.2.2.2.1, hk.1.2.2.2.2.2.2.2.2.2.2.2.2.2.2⟩⟩⟩⟩⟩⟩⟩⟩⟩⟩⟩⟩⟩⟩⟩)⟩, ⟨by (try simp only [hl6_2]); exact Kd.N_mono HO_261003.out (fun _ hk => ⟨hk.2, ⟨hk.1.1, ⟨hk.1.2.1, ⟨hk.1.2.2.1, ⟨hk.1.2.2.2.1, ⟨hk.1.2.2.2.2.1, ⟨hk.1.2.2.2.2.2.1, ⟨hk.1.2.2.2.2.2.2.1, ⟨hk.1.2.2.2.2.2.2.2.1, ⟨hk.1.2.2.2.2.2.2.2.2.1, ⟨hk.1.2.2.2.2.2.2.2.2.2.1, ⟨hk.1.2.2.2.2.2.2.2.2.2.2.1, ⟨hk.1.2.2.2.2.2.2.2.2.2.2.2.1, ⟨hk.1.2.2.2.2.2.2.2.2.2.2.2.2.1, hk.1.2.2.2.2.2.2.2.2.2.2.2.2.2⟩⟩⟩⟩⟩⟩⟩⟩⟩⟩⟩⟩⟩⟩)⟩, ⟨by (try simp only [hl6_2]); exact Kd.R_mono HO_261006.out (fun _ hk => ⟨hk.2, ⟨hk.1.1, ⟨hk.1.2.1, ⟨hk.1.2.2.1, ⟨hk.1.2.2.2.1, hk.1.2.2.2.2⟩⟩⟩⟩⟩)⟩, ⟨by (try simp only [hl6_2]); exact Kd.R_mono HO_261007.out (fun _ hk => ⟨hk.2, ⟨hk.1.1, ⟨hk.1.2.1, ⟨hk.1.2.2.1, ⟨hk.1.2.2.2.1, hk.1.2.2.2.2⟩⟩⟩⟩⟩)⟩, ⟨by (try simp only [hl6_2]); exact Kd.R_mono HO_261008.out (fun _ hk => ⟨hk.2, ⟨hk.1.1, ⟨hk.1.2.1, ⟨hk.1.2.2.1, ⟨hk.1.2.2.2.1, hk.1.2.2.2.2⟩⟩⟩⟩⟩)⟩, ⟨by (try simp only [hl6_2]); exact HO_261009.out⟩, ⟨by (try simp only [hl6_2]); exact Kd.N_mono HO_283003.out (fun _ hk => ⟨hk.2, ⟨hk.1.1, ⟨hk.1.2.1, ⟨hk.1.2.2.1, ⟨hk.1.2.2.2.1, ⟨hk.1.2.2.2.2.1, ⟨hk.1.2.2.2.2.2.1, ⟨hk.1.2.2.2.2.2.2.1, ⟨hk.1.2.2.2.2.2.2.2.1, ⟨hk.1.2.2.2.2.2.2.2.2.1, ⟨hk.1.2.2.2.2.2.2.2.2.2.1, ⟨hk.1.2.2.2.2.2.2.2.2.2.2.1, ⟨hk.1.2.2.2.2.2.2.2.2.2.2.2.1, ⟨hk.1.2.2.2.2.2.2.2.2.2.2.2.2.1, hk.1.2.2.2.2.2.2.2.2.2.2.2.2.2⟩⟩⟩⟩⟩⟩⟩⟩⟩⟩⟩⟩⟩⟩)⟩, ⟨by (try simp only [hl6_2]); exact Kd.R_mono HO_283006.out (fun _ hk => ⟨hk.2, ⟨hk.1.1, ⟨hk.1.2.1, ⟨hk.1.2.2.1, ⟨hk.1.2.2.2.1, hk.1.2.2.2.2⟩⟩⟩⟩⟩)⟩, ⟨by (try simp only [hl6_2]); exact Kd.R_mono HO_283007.out (fun _ hk => ⟨hk.2, ⟨hk.1.1, ⟨hk.1.2.1, ⟨hk.1.2.2.1, ⟨hk.1.2.2.2.1, hk.1.2.2.2.2⟩⟩⟩⟩⟩)⟩, ⟨by (try simp only [hl6_2]); exact Kd.R_mono HO_283008.out (fun _ hk => ⟨hk.2, ⟨hk.1.1, ⟨hk.1.2.1, ⟨hk.1.2.2.1, ⟨hk.1.2.2.2.1, hk.1.2.2.2.2⟩⟩⟩⟩⟩)⟩, ⟨by (try simp only [hl6_2]); exact HO_283009.out⟩, ⟨by (try simp only [hl6_2]); exact BK204.out⟩, ⟨by (try simp only [hl6_2]); exact BK228.out⟩, ⟨by (try simp only [hl6_2]); exact BK260.out⟩, ⟨by (try simp only [hl6_2]); exact BK282.out⟩, ⟨by repeat (first | (with_reducible first | exact HB.out | apply below_alloc | apply pw_below_drewN | apply below_drew1 | refine below_set ?_ GE204.out | refine below_set ?_ GE228.out | refine below_set ?_ GE260.out | refine below_set ?_ GE282.out) | exact HB.out)⟩⟩
             · rw [if_neg c64] at H
               exact absurd H (by simp)
           · rw [if_neg c63] at H
             exact absurd H (by simp)
         · rw [if_neg c62] at H
           have c62b0 : decide (x44_2 < (y236.length : Int)) = false := decide_eq_false c62
           (try simp only [hl6_2] at c62b0)
           clear c62
           replace H := Option.bind_eq_some_iff.mp H
           obtain ⟨⟨t285, t286, t287, t288, t291, t292, t293, t296, t299, t302⟩, A680, H⟩ := H
           replace H : ((marlineref15_Same.f k2 t285 t286 t287 t288 t291 t292 t293 t296 t299 t302 a0_0 a0_1 a0_2 l0_3 a0_4 a0_5 l0_6 l0_7 l0_8 l0_9).bind fun t305 => (if t305 = true then (if t259 = 0 then ((marlinelaw15_To.f k2 t239 t240 t241 t242 t245 t246 t247 t250 t253 t256).bind fun bt306 => ((marlinelaw15_To.f k2 t261 t262 t263 t264 t267 t268 t269 t272 t275 t278).bind fun bt326 => ((marlineref15_Same.f k2 bt306.1 bt306.2.1 bt306.2.2.1 bt306.2.2.2.1 bt306.2.2.2.2.1 bt306.2.2.2.2.2.1 bt306.2.2.2.2.2.2.1 bt306.2.2.2.2.2.2.2.1 bt306.2.2.2.2.2.2.2.2.1 bt306.2.2.2.2.2.2.2.2.2 bt326.1 bt326.2.1 bt326.2.2.1 bt326.2.2.2.1 bt326.2.2.2.2.1 bt326.2.2.2.2.2.1 bt326.2.2.2.2.2.2.1 bt326.2.2.2.2.2.2.2.1 bt326.2.2.2.2.2.2.2.2.1 bt326.2.2.2.2.2.2.2.2.2).bind fun t346 => (some t346)))) else (some true)) else (none))) = some r := H
           have A68 := Aside0.mk A680
           clear A680
           replace H := Option.bind_eq_some_iff.mp H
           obtain ⟨t305, A690, H⟩ := H
           replace H : (if t305 = true then (if t259 = 0 then ((marlinelaw15_To.f k2 t239 t240 t241 t242 t245 t246 t247 t250 t253 t256).bind fun bt306 => ((marlinelaw15_To.f k2 t261 t262 t263 t264 t267 t268 t269 t272 t275 t278).bind fun bt326 => ((marlineref15_Same.f k2 bt306.1 bt306.2.1 bt306.2.2.1 bt306.2.2.2.1 bt306.2.2.2.2.1 bt306.2.2.2.2.2.1 bt306.2.2.2.2.2.2.1 bt306.2.2.2.2.2.2.2.1 bt306.2.2.2.2.2.2.2.2.1 bt306.2.2.2.2.2.2.2.2.2 bt326.1 bt326.2.1 bt326.2.2.1 bt326.2.2.2.1 bt326.2.2.2.2.1 bt326.2.2.2.2.2.1 bt326.2.2.2.2.2.2.1 bt326.2.2.2.2.2.2.2.1 bt326.2.2.2.2.2.2.2.2.1 bt326.2.2.2.2.2.2.2.2.2).bind fun t346 => (some t346)))) else (some true)) else (none)) = some r := H
           have A69 := Aside0.mk A690
           clear A690
           by_cases c70 : t305 = true
           · subst c70
             have H1 : (if t259 = 0 then ((marlinelaw15_To.f k2 t239 t240 t241 t242 t245 t246 t247 t250 t253 t256).bind fun bt306 => ((marlinelaw15_To.f k2 t261 t262 t263 t264 t267 t268 t269 t272 t275 t278).bind fun bt326 => ((marlineref15_Same.f k2 bt306.1 bt306.2.1 bt306.2.2.1 bt306.2.2.2.1 bt306.2.2.2.2.1 bt306.2.2.2.2.2.1 bt306.2.2.2.2.2.2.1 bt306.2.2.2.2.2.2.2.1 bt306.2.2.2.2.2.2.2.2.1 bt306.2.2.2.2.2.2.2.2.2 bt326.1 bt326.2.1 bt326.2.2.1 bt326.2.2.2.1 bt326.2.2.2.2.1 bt326.2.2.2.2.2.1 bt326.2.2.2.2.2.2.1 bt326.2.2.2.2.2.2.2.1 bt326.2.2.2.2.2.2.2.2.1 bt326.2.2.2.2.2.2.2.2.2).bind fun t346 => (some t346)))) else (some true)) = some r := by rw [if_pos rfl] at H; exact H
             clear H
             have H := H1
             clear H1
             by_cases c71 : t259 = 0
             · rw [if_pos c71] at H
               have c71b0 : (t259 == 0) = true := beq_iff_eq.mpr c71
               have c71b1 : (t259 != 0) = false := bne_eq_false_iff_eq.mpr c71
               clear c71
               replace H := Option.bind_eq_some_iff.mp H
               obtain ⟨⟨t306, t307, t308, t309, t312, t313, t314, t317, t320, t323⟩, A720, H⟩ := H
               replace H : ((marlinelaw15_To.f k2 t261 t262 t263 t264 t267 t268 t269 t272 t275 t278).bind fun bt326 => ((marlineref15_Same.f k2 t306 t307 t308 t309 t312 t313 t314 t317 t320 t323 bt326.1 bt326.2.1 bt326.2.2.1 bt326.2.2.2.1 bt326.2.2.2.2.1 bt326.2.2.2.2.2.1 bt326.2.2.2.2.2.2.1 bt326.2.2.2.2.2.2.2.1 bt326.2.2.2.2.2.2.2.2.1 bt326.2.2.2.2.2.2.2.2.2).bind fun t346 => (some t346))) = some r := H
               have A72 := Aside0.mk A720
               clear A720
               replace H := Option.bind_eq_some_iff.mp H
               obtain ⟨⟨t326, t327, t328, t329, t332, t333, t334, t337, t340, t343⟩, A730, H⟩ := H
               replace H : ((marlineref15_Same.f k2 t306 t307 t308 t309 t312 t313 t314 t317 t320 t323 t326 t327 t328 t329 t332 t333 t334 t337 t340 t343).bind fun t346 => (some t346)) = some r := H
               have A73 := Aside0.mk A730
               clear A730
               replace H := Option.bind_eq_some_iff.mp H
               obtain ⟨t346, A740, H⟩ := H
               replace H : (some t346) = some r := H
               have A74 := Aside0.mk A740
               clear A740
               obtain rfl := Option.some.inj H
               try go_wp2
               have n0_ := Aside0.mk (Kd.R_drew HO_6.out)
               have n1_ := Aside0.mk (Kd.N_drew HO_229003.out)
               have n2_ := Aside0.mk (Kd.V_drew HO_229006.out)
               have n3_ := Aside0.mk (Kd.V_drew HO_229007.out)
               have n4_ := Aside0.mk (Kd.V_drew HO_229008.out)
               have n5_ := Aside0.mk (Kd.V_drew HO_229009.out)
               have n6_ := Aside0.mk (Kd.N_drew HO_261003.out)
               have n7_ := Aside0.mk (Kd.R_drew HO_261006.out)
               have n8_ := Aside0.mk (Kd.R_drew HO_261007.out)
               have n9_ := Aside0.mk (Kd.R_drew HO_261008.out)
               have n10_ := Aside0.mk (Kd.R_drew HO_261009.out)
               have n11_ := Aside0.mk (Kd.N_drew HO_283003.out)
               have n12_ := Aside0.mk (Kd.R_drew HO_283006.out)
               have n13_ := Aside0.mk (Kd.R_drew HO_283007.out)
               have n14_ := Aside0.mk (Kd.R_drew HO_283008.out)
               have n15_ := Aside0.mk (Kd.R_drew HO_283009.out)
               have n16_ := Aside0.mk (blk_drew BK204.out)
               have n17_ := Aside0.mk (blk_drew BK228.out)
               have n18_ := Aside0.mk (blk_drew BK260.out)
               have n19_ := Aside0.mk (blk_drew BK282.out)
               have n20_ := Aside0.mk (below_drew1 HB.out)
               clear HO_6
               clear HO_229003
               clear HO_229006
               clear HO_229007
               clear HO_229008
               clear HO_229009
               clear HO_261003
               clear HO_261006
               clear HO_261007
               clear HO_261008
               clear HO_261009
               clear HO_283003
               clear HO_283006
               clear HO_283007
               clear HO_283008
               clear HO_283009
               clear BK204
               clear BK228
               clear BK260
               clear BK282
               clear HB
               have HO_6 := n0_
               have HO_229003 := n1_
               have HO_229006 := n2_
               have HO_229007 := n3_
               have HO_229008 := n4_
               have HO_229009 := n5_
               have HO_261003 := n6_
               have HO_261006 := n7_
               have HO_261007 := n8_
               have HO_261008 := n9_
               have HO_261009 := n10_
               have HO_283003 := n11_
               have HO_283006 := n12_
               have HO_283007 := n13_
               have HO_283008 := n14_
               have HO_283009 := n15_
               have BK204 := n16_
               have BK228 := n17_
               have BK260 := n18_
               have BK282 := n19_
               have HB := n20_
               clear n0_ n1_ n2_ n3_ n4_ n5_ n6_ n7_ n8_ n9_ n10_ n11_ n12_ n13_ n14_ n15_ n16_ n17_ n18_ n19_ n20_
               refine start_ (n := 16) (S := fun w' => w'.cell? ⟨gb228, 0, none⟩ = some (.int .u16 t208) ∧ w'.cell? ⟨gb228, 1, none⟩ = some (.int .u8 t209) ∧ w'.cell? ⟨gb228, 2, none⟩ = some (.int .u8 t210) ∧ w'.cell? ⟨gb228, 3, none⟩ = some (.slice Ao29 t211.length co29) ∧ w'.cell? ⟨gb228, 4, none⟩ = some (.int .u16 t214) ∧ w'.cell? ⟨gb228, 5, none⟩ = some (.int .u32 t215) ∧ w'.cell? ⟨gb228, 6, none⟩ = some (.slice Ao30 t216.length co30) ∧ w'.cell? ⟨gb228, 7, none⟩ = some (.slice Ao31 t219.length co31) ∧ w'.cell? ⟨gb228, 8, none⟩ = some (.slice Ao32 t222.length co32) ∧ w'.cell? ⟨gb228, 9, none⟩ = some (.slice Ao33 t225.length co33) ∧ w'.cell? ⟨gb204, 0, none⟩ = some (.int .u16 a0_0) ∧ w'.cell? ⟨gb204, 1, none⟩ = some (.int .u8 a0_1) ∧ w'.cell? ⟨gb204, 2, none⟩ = some (.int .u8 a0_2) ∧ w'.cell? ⟨gb204, 3, none⟩ = some (.slice A0_3 l0_3.length c0_3) ∧ w'.cell? ⟨gb204, 4, none⟩ = some (.int .u16 a0_4) ∧ w'.cell? ⟨gb204, 5, none⟩ = some (.int .u32 a0_5) ∧ w'.cell? ⟨gb204, 6, none⟩ = some (.slice A0_6 l0_6.length c0_6) ∧ w'.cell? ⟨gb204, 7, none⟩ = some (.slice A0_7 l0_7.length c0_7) ∧ w'.cell? ⟨gb204, 8, none⟩ = some (.slice A0_8 l0_8.length c0_8) ∧ w'.cell? ⟨gb204, 9, none⟩ = some (.slice A0_9 l0_9.length c0_9) ∧ w'.cell? ⟨gb260, 0, none⟩ = some (.int .u16 t239) ∧ w'.cell? ⟨gb260, 1, none⟩ = some (.int .u8 t240) ∧ w'.cell? ⟨gb260, 2, none⟩ = some (.int .u8 t241) ∧ w'.cell? ⟨gb260, 3, none⟩ = some (.slice Ao45 t242.length co45) ∧ w'.cell? ⟨gb260, 4, none⟩ = some (.int .u16 t245) ∧ w'.cell? ⟨gb260, 5, none⟩ = some (.int .u32 t246) ∧ w'.cell? ⟨gb260, 6, none⟩ = some (.slice Ao46 t247.length co46) ∧ w'.cell? ⟨gb260, 7, none⟩ = some (.slice Ao47 t250.length co47) ∧ w'.cell? ⟨gb260, 8, none⟩ = some (.slice Ao48 t253.length co48) ∧ w'.cell? ⟨gb260, 9, none⟩ = some (.slice Ao49 t256.length co49) ∧ w'.cell? ⟨gb282, 0, none⟩ = some (.int .u16 t261) ∧ w'.cell? ⟨gb282, 1, none⟩ = some (.int .u8 t262) ∧ w'.cell? ⟨gb282, 2, none⟩ = some (.int .u8 t263) ∧ w'.cell? ⟨gb282, 3, none⟩ = some (.slice Ao57 t264.length co57) ∧ w'.cell? ⟨gb282, 4, none⟩ = some (.int .u16 t267) ∧ w'.cell? ⟨gb282, 5, none⟩ = some (.int .u32 t268) ∧ w'.cell? ⟨gb282, 6, none⟩ = some (.slice Ao58 t269.length co58) ∧ w'.cell? ⟨gb282, 7, none⟩ = some (.slice Ao59 t272.length co59) ∧ w'.cell? ⟨gb282, 8, none⟩ = some (.slice Ao60 t275.length co60) ∧ w'.cell? ⟨gb282, 9, none⟩ = some (.slice Ao61 t278.length co61)) (ds := []) #[false, false, false, false, false, false, false, false, false, false, false, false, false, false, false, false] (by kernel_rfl) rfl rfl ⟨(blk_cell BK228.out 0).trans rfl, (blk_cell BK228.out 1).trans rfl, (blk_cell BK228.out 2).trans rfl, (blk_cell BK228.out 3).trans rfl, (blk_cell BK228.out 4).trans rfl, (blk_cell BK228.out 5).trans rfl, (blk_cell BK228.out 6).trans rfl, (blk_cell BK228.out 7).trans rfl, (blk_cell BK228.out 8).trans rfl, (blk_cell BK228.out 9).trans rfl, (blk_cell BK204.out 0).trans rfl, (blk_cell BK204.out 1).trans rfl, (blk_cell BK204.out 2).trans rfl, (blk_cell BK204.out 3).trans rfl, (blk_cell BK204.out 4).trans rfl, (blk_cell BK204.out 5).trans rfl, (blk_cell BK204.out 6).trans rfl, (blk_cell BK204.out 7).trans rfl, (blk_cell BK204.out 8).trans rfl, (blk_cell BK204.out 9).trans rfl, (blk_cell BK260.out 0).trans rfl, (blk_cell BK260.out 1).trans rfl, (blk_cell BK260.out 2).trans rfl, (blk_cell BK260.out 3).trans rfl, (blk_cell BK260.out 4).trans rfl, (blk_cell BK260.out 5).trans rfl, (blk_cell BK260.out 6).trans rfl, (blk_cell BK260.out 7).trans rfl, (blk_cell BK260.out 8).trans rfl, (blk_cell BK260.out 9).trans rfl, (blk_cell BK282.out 0).trans rfl, (blk_cell BK282.out 1).trans rfl, (blk_cell BK282.out 2).trans rfl, (blk_cell BK282.out 3).trans rfl, (blk_cell BK282.out 4).trans rfl, (blk_cell BK282.out 5).trans rfl, (blk_cell BK282.out 6).trans rfl, (blk_cell BK282.out 7).trans rfl, (blk_cell BK282.out 8).trans rfl, (blk_cell BK282.out 9).trans rfl⟩ (fun hHeld => ?_); refine with_tabW marlinelaw17_PapKeeps.tab13 marlinelaw17_PapKeeps.bits13 (fun HT_ HW_ => ?_)
               generalize wr.drew = w75 at HO_6 HO_229003 HO_229006 HO_229007 HO_229008 HO_229009 HO_261003 HO_261006 HO_261007 HO_261008 HO_261009 HO_283003 HO_283006 HO_283007 HO_283008 HO_283009 BK204 BK228 BK260 BK282 HB hHeld ⊢
               refine take_ (i := 0) (N := some 54) (v := ?_) (a' := ?_) #[true, false, false, false, false, false, false, false, false, false, false, false, false, false, false, false] rfl rfl (take_ofW HT_.out HW_.out (by kernel_rfl)) (fun _ _ _ h => h) (Or.inl ⟨by rfl, ?_⟩) hHeld ?_ ?_
               rotate_left
               · rintro w' ⟨s0, s1, s2, s3, s4, s5, s6, s7, s8, s9, s10, s11, s12, s13, s14, s15, s16, s17, s18, s19, s20, s21, s22, s23, s24, s25, s26, s27, s28, s29, s30, s31, s32, s33, s34, s35, s36, s37, s38, s39⟩
                 go_simp
                 with_reducible rfl
               rotate_left
               · simp only [Act.put, List.setIfInBounds_toArray, List.set_cons_zero, List.set_cons_succ, i64_w, i32_w]
                 rfl
               refine take_ (i := 2) (N := some 56) (v := ?_) (a' := ?_) #[true, false, true, false, false, false, false, false, false, false, false, false, false, false, false, false] rfl rfl (take_ofW HT_.out HW_.out (by kernel_rfl)) (fun _ _ _ h => h) (Or.inl ⟨by rfl, ?_⟩) hHeld ?_ ?_
               rotate_left
               · rintro w' ⟨s0, s1, s2, s3, s4, s5, s6, s7, s8, s9, s10, s11, s12, s13, s14, s15, s16, s17, s18, s19, s20, s21, s22, s23, s24, s25, s26, s27, s28, s29, s30, s31, s32, s33, s34, s35, s36, s37, s38, s39⟩
                 go_simp
                 with_reducible rfl
               rotate_left
               · simp only [Act.put, List.setIfInBounds_toArray, List.set_cons_zero, List.set_cons_succ, i64_w, i32_w]
                 rfl
               refine one_ (i := 1) (N := some 55) #[true, true, true, false, false, false, false, false, false, false, false, false, false, false, false, false] rfl rfl (one_of HT_.out (by kernel_rfl)) (by decide) (fun K hK => ?_)
               refine goes_ Try.func36 (by kernel_rfl) rfl #[.agg #[.int .u16 t208, .int .u8 t209, .int .u8 t210, .slice Ao29 t211.length co29, .int .u16 t214, .int .u32 t215, .slice Ao30 t216.length co30, .slice Ao31 t219.length co31, .slice Ao32 t222.length co32, .slice Ao33 t225.length co33]] (by rfl) rfl rfl (by (try simp only [List.map_toArray, List.map_cons, List.map_nil]); first | done | rfl | (simp only [List.length_drop, List.length_take]; rfl)) ?_
               with_reducible refine (marlinelaw15_To.calls k2 t208 t209 t210 (fun k_ => (some k_ ≠ (.slice Ao39 x6_2.length co39 : Value).ownBlock ∧ (some k_ ≠ (.slice Ao45 t242.length co45 : Value).ownBlock ∧ (some k_ ≠ (.slice Ao46 t247.length co46 : Value).ownBlock ∧ (some k_ ≠ (.slice Ao47 t250.length co47 : Value).ownBlock ∧ (some k_ ≠ (.slice Ao48 t253.length co48 : Value).ownBlock ∧ (some k_ ≠ (.slice Ao49 t256.length co49 : Value).ownBlock ∧ (some k_ ≠ (.slice Ao57 t264.length co57 : Value).ownBlock ∧ (some k_ ≠ (.slice Ao58 t269.length co58 : Value).ownBlock ∧ (some k_ ≠ (.slice Ao59 t272.length co59 : Value).ownBlock ∧ (some k_ ≠ (.slice Ao60 t275.length co60 : Value).ownBlock ∧ (some k_ ≠ (.slice Ao61 t278.length co61 : Value).ownBlock ∧ (k_ ≠ gb204 ∧ (k_ ≠ gb228 ∧ (k_ ≠ gb260 ∧ k_ ≠ gb282))))))))))))))) _ _ t211 t214 t215 (fun k_ => (some k_ ≠ (.slice Ao39 x6_2.length co39 : Value).ownBlock ∧ (some k_ ≠ (.slice Ao29 t211.length co29 : Value).ownBlock ∧ (some k_ ≠ (.slice Ao45 t242.length co45 : Value).ownBlock ∧ (some k_ ≠ (.slice Ao46 t247.length co46 : Value).ownBlock ∧ (some k_ ≠ (.slice Ao47 t250.length co47 : Value).ownBlock ∧ (some k_ ≠ (.slice Ao48 t253.length co48 : Value).ownBlock ∧ (some k_ ≠ (.slice Ao49 t256.length co49 : Value).ownBlock ∧ (some k_ ≠ (.slice Ao57 t264.length co57 : Value).ownBlock ∧ (some k_ ≠ (.slice Ao58 t269.length co58 : Value).ownBlock ∧ (some k_ ≠ (.slice Ao59 t272.length co59 : Value).ownBlock ∧ (some k_ ≠ (.slice Ao60 t275.length co60 : Value).ownBlock ∧ (some k_ ≠ (.slice Ao61 t278.length co61 : Value).ownBlock ∧ (k_ ≠ gb204 ∧ (k_ ≠ gb228 ∧ (k_ ≠ gb260 ∧ k_ ≠ gb282)))))))))))))))) _ _ t216 (fun k_ => (some k_ ≠ (.slice Ao39 x6_2.length co39 : Value).ownBlock ∧ (some k_ ≠ (.slice Ao29 t211.length co29 : Value).ownBlock ∧ (some k_ ≠ (.slice Ao45 t242.length co45 : Value).ownBlock ∧ (some k_ ≠ (.slice Ao46 t247.length co46 : Value).ownBlock ∧ (some k_ ≠ (.slice Ao47 t250.length co47 : Value).ownBlock ∧ (some k_ ≠ (.slice Ao48 t253.length co48 : Value).ownBlock ∧ (some k_ ≠ (.slice Ao49 t256.length co49 : Value).ownBlock ∧ (some k_ ≠ (.slice Ao57 t264.length co57 : Value).ownBlock ∧ (some k_ ≠ (.slice Ao58 t269.length co58 : Value).ownBlock ∧ (some k_ ≠ (.slice Ao59 t272.length co59 : Value).ownBlock ∧ (some k_ ≠ (.slice Ao60 t275.length co60 : Value).ownBlock ∧ (some k_ ≠ (.slice Ao61 t278.length co61 : Value).ownBlock ∧ (k_ ≠ gb204 ∧ (k_ ≠ gb228 ∧ (k_ ≠ gb260 ∧ k_ ≠ gb282)))))))))))))))) _ _ t219 (fun k_ => (some k_ ≠ (.slice Ao39 x6_2.length co39 : Value).ownBlock ∧ (some k_ ≠ (.slice Ao29 t211.length co29 : Value).ownBlock ∧ (some k_ ≠ (.slice Ao45 t242.length co45 : Value).ownBlock ∧ (some k_ ≠ (.slice Ao46 t247.length co46 : Value).ownBlock ∧ (some k_ ≠ (.slice Ao47 t250.length co47 : Value).ownBlock ∧ (some k_ ≠ (.slice Ao48 t253.length co48 : Value).ownBlock ∧ (some k_ ≠ (.slice Ao49 t256.length co49 : Value).ownBlock ∧ (some k_ ≠ (.slice Ao57 t264.length co57 : Value).ownBlock ∧ (some k_ ≠ (.slice Ao58 t269.length co58 : Value).ownBlock ∧ (some k_ ≠ (.slice Ao59 t272.length co59 : Value).ownBlock ∧ (some k_ ≠ (.slice Ao60 t275.length co60 : Value).ownBlock ∧ (some k_ ≠ (.slice Ao61 t278.length co61 : Value).ownBlock ∧ (k_ ≠ gb204 ∧ (k_ ≠ gb228 ∧ (k_ ≠ gb260 ∧ k_ ≠ gb282)))))))))))))))) _ _ t222 (fun k_ => (some k_ ≠ (.slice Ao39 x6_2.length co39 : Value).ownBlock ∧ (some k_ ≠ (.slice Ao29 t211.length co29 : Value).ownBlock ∧ (some k_ ≠ (.slice Ao45 t242.length co45 : Value).ownBlock ∧ (some k_ ≠ (.slice Ao46 t247.length co46 : Value).ownBlock ∧ (some k_ ≠ (.slice Ao47 t250.length co47 : Value).ownBlock ∧ (some k_ ≠ (.slice Ao48 t253.length co48 : Value).ownBlock ∧ (some k_ ≠ (.slice Ao49 t256.length co49 : Value).ownBlock ∧ (some k_ ≠ (.slice Ao57 t264.length co57 : Value).ownBlock ∧ (some k_ ≠ (.slice Ao58 t269.length co58 : Value).ownBlock ∧ (some k_ ≠ (.slice Ao59 t272.length co59 : Value).ownBlock ∧ (some k_ ≠ (.slice Ao60 t275.length co60 : Value).ownBlock ∧ (some k_ ≠ (.slice Ao61 t278.length co61 : Value).ownBlock ∧ (k_ ≠ gb204 ∧ (k_ ≠ gb228 ∧ (k_ ≠ gb260 ∧ k_ ≠ gb282)))))))))))))))) _ _ t225 t285 t286 t287 t288 t291 t292 t293 t296 t299 t302 _ ?side1 ?side2 ?side3 ?side4 ?side5 A68.out).mono ?_
               (case side1 => exact Kd.N_V (HO_229003.out))
               (case side2 => exact HO_229006.out)
               (case side3 => exact HO_229007.out)
               (case side4 => exact HO_229008.out)
               (case side5 => exact HO_229009.out)
               rintro e w76 ⟨v289, v294, v297, v300, v303, rfl, ho0, ho1, ho2, ho3, ho4, hb⟩
               refine ⟨_, rfl, ?_⟩
               have n0_ := Aside0.mk (Kd.R_below HO_6.out hb)
               have n1_ := Aside0.mk (Kd.N_elder' HO_229003.out (Kd.N_base ho0) hb)
               have n2_ := Aside0.mk (Kd.V_elder' HO_229006.out (Kd.N_base ho0) hb)
               have n3_ := Aside0.mk (Kd.V_elder' HO_229007.out (Kd.N_base ho0) hb)
               have n4_ := Aside0.mk (Kd.V_elder' HO_229008.out (Kd.N_base ho0) hb)
               have n5_ := Aside0.mk (Kd.V_elder' HO_229009.out (Kd.N_base ho0) hb)
               have n6_ := Aside0.mk (Kd.N_elder' HO_261003.out (Kd.N_base ho0) hb)
               have n7_ := Aside0.mk (Kd.R_below HO_261006.out hb)
               have n8_ := Aside0.mk (Kd.R_below HO_261007.out hb)
               have n9_ := Aside0.mk (Kd.R_below HO_261008.out hb)
               have n10_ := Aside0.mk (Kd.R_below HO_261009.out hb)
               have n11_ := Aside0.mk (Kd.N_elder' HO_283003.out (Kd.N_base ho0) hb)
               have n12_ := Aside0.mk (Kd.R_below HO_283006.out hb)
               have n13_ := Aside0.mk (Kd.R_below HO_283007.out hb)
               have n14_ := Aside0.mk (Kd.R_below HO_283008.out hb)
               have n15_ := Aside0.mk (Kd.R_below HO_283009.out hb)
               have Z_ := marlinelaw17_PapKeeps.okN (C := fun k_ => some k_ ≠ (.slice Ao39 x6_2.length co39 : Value).ownBlock ∧ some k_ ≠ (.slice Ao45 t242.length co45 : Value).ownBlock ∧ some k_ ≠ (.slice Ao46 t247.length co46 : Value).ownBlock ∧ some k_ ≠ (.slice Ao47 t250.length co47 : Value).ownBlock ∧ some k_ ≠ (.slice Ao48 t253.length co48 : Value).ownBlock ∧ some k_ ≠ (.slice Ao49 t256.length co49 : Value).ownBlock ∧ some k_ ≠ (.slice Ao57 t264.length co57 : Value).ownBlock ∧ some k_ ≠ (.slice Ao58 t269.length co58 : Value).ownBlock ∧ some k_ ≠ (.slice Ao59 t272.length co59 : Value).ownBlock ∧ some k_ ≠ (.slice Ao60 t275.length co60 : Value).ownBlock ∧ some k_ ≠ (.slice Ao61 t278.length co61 : Value).ownBlock) ho0 (fun k_ hk_ => Or.elim hk_ (fun hs_ => Or.elim hs_ (fun hs_ => ⟨hs_.1, hs_.2.1, hs_.2.2.1, hs_.2.2.2.1, hs_.2.2.2.2.1, hs_.2.2.2.2.2.1, hs_.2.2.2.2.2.2.1, hs_.2.2.2.2.2.2.2.1, hs_.2.2.2.2.2.2.2.2.1, hs_.2.2.2.2.2.2.2.2.2.1, hs_.2.2.2.2.2.2.2.2.2.2.1⟩) (fun hs_ => Or.elim hs_ (fun hs_ => ⟨hs_.1, hs_.2.2.1, hs_.2.2.2.1, hs_.2.2.2.2.1, hs_.2.2.2.2.2.1, hs_.2.2.2.2.2.2.1, hs_.2.2.2.2.2.2.2.1, hs_.2.2.2.2.2.2.2.2.1, hs_.2.2.2.2.2.2.2.2.2.1, hs_.2.2.2.2.2.2.2.2.2.2.1, hs_.2.2.2.2.2.2.2.2.2.2.2.1⟩) (fun hs_ => Or.elim hs_ (fun hs_ => ⟨hs_.1, hs_.2.2.1, hs_.2.2.2.1, hs_.2.2.2.2.1, hs_.2.2.2.2.2.1, hs_.2.2.2.2.2.2.1, hs_.2.2.2.2.2.2.2.1, hs_.2.2.2.2.2.2.2.2.1, hs_.2.2.2.2.2.2.2.2.2.1, hs_.2.2.2.2.2.2.2.2.2.2.1, hs_.2.2.2.2.2.2.2.2.2.2.2.1⟩) (fun hs_ => Or.elim hs_ (fun hs_ => ⟨hs_.1, hs_.2.2.1, hs_.2.2.2.1, hs_.2.2.2.2.1, hs_.2.2.2.2.2.1, hs_.2.2.2.2.2.2.1, hs_.2.2.2.2.2.2.2.1, hs_.2.2.2.2.2.2.2.2.1, hs_.2.2.2.2.2.2.2.2.2.1, hs_.2.2.2.2.2.2.2.2.2.2.1, hs_.2.2.2.2.2.2.2.2.2.2.2.1⟩) (fun hs_ => ⟨hs_.1, hs_.2.2.1, hs_.2.2.2.1, hs_.2.2.2.2.1, hs_.2.2.2.2.2.1, hs_.2.2.2.2.2.2.1, hs_.2.2.2.2.2.2.2.1, hs_.2.2.2.2.2.2.2.2.1, hs_.2.2.2.2.2.2.2.2.2.1, hs_.2.2.2.2.2.2.2.2.2.2.1, hs_.2.2.2.2.2.2.2.2.2.2.2.1⟩))))) (fun hn_ => ⟨(Kd.fresh' (Kd.R_lt HO_6.out) k_ hn_), (Kd.fresh' (Kd.N_lt HO_261003.out) k_ hn_), (Kd.fresh' (Kd.R_lt HO_261006.out) k_ hn_), (Kd.fresh' (Kd.R_lt HO_261007.out) k_ hn_), (Kd.fresh' (Kd.R_lt HO_261008.out) k_ hn_), (Kd.fresh' (Kd.R_lt HO_261009.out) k_ hn_), (Kd.fresh' (Kd.N_lt HO_283003.out) k_ hn_), (Kd.fresh' (Kd.R_lt HO_283006.out) k_ hn_), (Kd.fresh' (Kd.R_lt HO_283007.out) k_ hn_), (Kd.fresh' (Kd.R_lt HO_283008.out) k_ hn_), (Kd.fresh' (Kd.R_lt HO_283009.out) k_ hn_)⟩))
               have n16_ := Aside0.mk (Kd.N_lower (Kd.N_mono ho0 Z_) (below_size HB.out))
               have n17_ := Aside0.mk (Kd.V_lower (marlinelaw17_PapKeeps.okV ho1 Z_) (below_size HB.out))
               have n18_ := Aside0.mk (Kd.V_lower (marlinelaw17_PapKeeps.okV ho2 Z_) (below_size HB.out))
               have n19_ := Aside0.mk (Kd.V_lower (marlinelaw17_PapKeeps.okV ho3 Z_) (below_size HB.out))
               have n20_ := Aside0.mk (Kd.V_lower (marlinelaw17_PapKeeps.okV ho4 Z_) (below_size HB.out))
               clear Z_
               have n21_ := Aside0.mk (blk_below BK204.out hb)
               have n22_ := Aside0.mk (blk_below BK228.out hb)
               have n23_ := Aside0.mk (blk_below BK260.out hb)
               have n24_ := Aside0.mk (blk_below BK282.out hb)
               have n25_ := Aside0.mk (below_step HB.out hb)
               clear HO_6
               clear HO_229003
               clear HO_229006
               clear HO_229007
               clear HO_229008
               clear HO_229009
               clear HO_261003
               clear HO_261006
               clear HO_261007
               clear HO_261008
               clear HO_261009
               clear HO_283003
               clear HO_283006
               clear HO_283007
               clear HO_283008
               clear HO_283009
               clear BK204
               clear BK228
               clear BK260
               clear BK282
               clear HB
               have HO_6 := n0_
               have HO_229003 := n1_
               have HO_229006 := n2_
               have HO_229007 := n3_
               have HO_229008 := n4_
               have HO_229009 := n5_
               have HO_261003 := n6_
               have HO_261006 := n7_
               have HO_261007 := n8_
               have HO_261008 := n9_
               have HO_261009 := n10_
               have HO_283003 := n11_
               have HO_283006 := n12_
               have HO_283007 := n13_
               have HO_283008 := n14_
               have HO_283009 := n15_
               have HO290 := n16_
               have HO295 := n17_
               have HO298 := n18_
               have HO301 := n19_
               have HO304 := n20_
               have BK204 := n21_
               have BK228 := n22_
               have BK260 := n23_
               have BK282 := n24_
               have HB := n25_
               clear n0_ n1_ n2_ n3_ n4_ n5_ n6_ n7_ n8_ n9_ n10_ n11_ n12_ n13_ n14_ n15_ n16_ n17_ n18_ n19_ n20_ n21_ n22_ n23_ n24_ n25_
               (try clear hb)
               (try clear hb2)
               (try clear hk)
               (try clear hi)
               (try clear ho0)
               (try clear ho1)
               (try clear ho2)
               (try clear ho3)
               (try clear ho4)
               obtain ⟨Ao77, co77, eo77⟩ := Kd.N_slice HO290.out
               (first | subst eo77 | (injection eo77 with f1_ f2_ f3_; have f4_ := f1_.symm; have f5_ := f3_.symm; clear f1_ f2_ f3_; subst f4_; subst f5_))
               obtain ⟨Ao78, co78, eo78⟩ := Kd.V_slice HO295.out
               (first | subst eo78 | (injection eo78 with f1_ f2_ f3_; have f4_ := f1_.symm; have f5_ := f3_.symm; clear f1_ f2_ f3_; subst f4_; subst f5_))
               obtain ⟨Ao79, co79, eo79⟩ := Kd.V_slice HO298.out
               (first | subst eo79 | (injection eo79 with f1_ f2_ f3_; have f4_ := f1_.symm; have f5_ := f3_.symm; clear f1_ f2_ f3_; subst f4_; subst f5_))
               obtain ⟨Ao80, co80, eo80⟩ := Kd.V_slice HO301.out
               (first | subst eo80 | (injection eo80 with f1_ f2_ f3_; have f4_ := f1_.symm; have f5_ := f3_.symm; clear f1_ f2_ f3_; subst f4_; subst f5_))
               obtain ⟨Ao81, co81, eo81⟩ := Kd.V_slice HO304.out
               (first | subst eo81 | (injection eo81 with f1_ f2_ f3_; have f4_ := f1_.symm; have f5_ := f3_.symm; clear f1_ f2_ f3_; subst f4_; subst f5_))
               refine hK.out _ _ ⟨(blk_cell BK228.out 0).trans rfl, (blk_cell BK228.out 1).trans rfl, (blk_cell BK228.out 2).trans rfl, (blk_cell BK228.out 3).trans rfl, (blk_cell BK228.out 4).trans rfl, (blk_cell BK228.out 5).trans rfl, (blk_cell BK228.out 6).trans rfl, (blk_cell BK228.out 7).trans rfl, (blk_cell BK228.out 8).trans rfl, (blk_cell BK228.out 9).trans rfl, (blk_cell BK204.out 0).trans rfl, (blk_cell BK204.out 1).trans rfl, (blk_cell BK204.out 2).trans rfl, (blk_cell BK204.out 3).trans rfl, (blk_cell BK204.out 4).trans rfl, (blk_cell BK204.out 5).trans rfl, (blk_cell BK204.out 6).trans rfl, (blk_cell BK204.out 7).trans rfl, (blk_cell BK204.out 8).trans rfl, (blk_cell BK204.out 9).trans rfl, (blk_cell BK260.out 0).trans rfl, (blk_cell BK260.out 1).trans rfl, (blk_cell BK260.out 2).trans rfl, (blk_cell BK260.out 3).trans rfl, (blk_cell BK260.out 4).trans rfl, (blk_cell BK260.out 5).trans rfl, (blk_cell BK260.out 6).trans rfl, (blk_cell BK260.out 7).trans rfl, (blk_cell BK260.out 8).trans rfl, (blk_cell BK260.out 9).trans rfl, (blk_cell BK282.out 0).trans rfl, (blk_cell BK282.out 1).trans rfl, (blk_cell BK282.out 2).trans rfl, (blk_cell BK282.out 3).trans rfl, (blk_cell BK282.out 4).trans rfl, (blk_cell BK282.out 5).trans rfl, (blk_cell BK282.out 6).trans rfl, (blk_cell BK282.out 7).trans rfl, (blk_cell BK282.out 8).trans rfl, (blk_cell BK282.out 9).trans rfl⟩ (fun hHeld => ?_)
               clear hK K
               refine norm_ (a' := ?_) ?_ ?_
               rotate_left
               · show Act.put _ (some 55) _ = _
                 simp only [Act.put, List.setIfInBounds_toArray, List.set_cons_zero, List.set_cons_succ, i64_w, i32_w]
                 rfl
               refine one_ (i := 3) (N := some 57) #[true, true, true, true, false, false, false, false, false, false, false, false, false, false, false, false] rfl rfl (one_of HT_.out (by kernel_rfl)) (by decide) (fun K hK => ?_)
               refine goes_ Try.func35 (by kernel_rfl) rfl #[.agg #[.int .u16 t285, .int .u8 t286, .int .u8 t287, .slice Ao77 t288.length co77, .int .u16 t291, .int .u32 t292, .slice Ao78 t293.length co78, .slice Ao79 t296.length co79, .slice Ao80 t299.length co80, .slice Ao81 t302.length co81], .agg #[.int .u16 a0_0, .int .u8 a0_1, .int .u8 a0_2, .slice A0_3 l0_3.length c0_3, .int .u16 a0_4, .int .u32 a0_5, .slice A0_6 l0_6.length c0_6, .slice A0_7 l0_7.length c0_7, .slice A0_8 l0_8.length c0_8, .slice A0_9 l0_9.length c0_9]] (by rfl) rfl rfl (by (try simp only [List.map_toArray, List.map_cons, List.map_nil]); first | done | rfl | (simp only [List.length_drop, List.length_take]; rfl)) ?_
               with_reducible refine (marlineref15_Same.calls k2 t285 t286 t287 _ _ t288 t291 t292 _ _ t293 _ _ t296 _ _ t299 _ _ t302 a0_0 a0_1 a0_2 _ _ l0_3 a0_4 a0_5 _ _ l0_6 _ _ l0_7 _ _ l0_8 _ _ l0_9 true _ ?side1 ?side2 ?side3 ?side4 ?side5 ?side6 ?side7 ?side8 ?side9 ?side10 ?side11 ?side12 ?side13 ?side14 ?side15 ?side16 ?side17 ?side18 ?side19 ?side20 A69.out).mono ?_
               (case side1 => repeat (first | exact (Kd.N_reads' HO290.out).2.2 | (with_reducible refine Kd.C_alloc ?_ _) | (with_reducible refine Kd.C_drewN ?_ _) | (with_reducible refine Kd.C_drew ?_)))
               (case side2 => exact (Kd.N_reads' HO290.out).2.1)
               (case side3 => repeat (first | exact (Kd.V_reads' HO295.out).2.2 | (with_reducible refine Kd.C_alloc ?_ _) | (with_reducible refine Kd.C_drewN ?_ _) | (with_reducible refine Kd.C_drew ?_)))
               (case side4 => exact (Kd.V_reads' HO295.out).2.1)
               (case side5 => repeat (first | exact (Kd.V_reads' HO298.out).2.2 | (with_reducible refine Kd.C_alloc ?_ _) | (with_reducible refine Kd.C_drewN ?_ _) | (with_reducible refine Kd.C_drew ?_)))
               (case side6 => exact (Kd.V_reads' HO298.out).2.1)
               (case side7 => repeat (first | exact (Kd.V_reads' HO301.out).2.2 | (with_reducible refine Kd.C_alloc ?_ _) | (with_reducible refine Kd.C_drewN ?_ _) | (with_reducible refine Kd.C_drew ?_)))
               (case side8 => exact (Kd.V_reads' HO301.out).2.1)
               (case side9 => repeat (first | exact (Kd.V_reads' HO304.out).2.2 | (with_reducible refine Kd.C_alloc ?_ _) | (with_reducible refine Kd.C_drewN ?_ _) | (with_reducible refine Kd.C_drew ?_)))
               (case side10 => exact (Kd.V_reads' HO304.out).2.1)
               (case side11 => repeat (first | exact (Kd.C_below HR0_3.out HB.out) | (with_reducible refine Kd.C_alloc ?_ _) | (with_reducible refine Kd.C_drewN ?_ _) | (with_reducible refine Kd.C_drew ?_)))
               (case side12 => exact HC0_3.out)
               (case side13 => repeat (first | exact (Kd.C_below HR0_6.out HB.out) | (with_reducible refine Kd.C_alloc ?_ _) | (with_reducible refine Kd.C_drewN ?_ _) | (with_reducible refine Kd.C_drew ?_)))
               (case side14 => exact HC0_6.out)
               (case side15 => repeat (first | exact (Kd.C_below HR0_7.out HB.out) | (with_reducible refine Kd.C_alloc ?_ _) | (with_reducible refine Kd.C_drewN ?_ _) | (with_reducible refine Kd.C_drew ?_)))
               (case side16 => exact HC0_7.out)
               (case side17 => repeat (first | exact (Kd.C_below HR0_8.out HB.out) | (with_reducible refine Kd.C_alloc ?_ _) | (with_reducible refine Kd.C_drewN ?_ _) | (with_reducible refine Kd.C_drew ?_)))
               (case side18 => exact HC0_8.out)
               (case side19 => repeat (first | exact (Kd.C_below HR0_9.out HB.out) | (with_reducible refine Kd.C_alloc ?_ _) | (with_reducible refine Kd.C_drewN ?_ _) | (with_reducible refine Kd.C_drew ?_)))
               (case side20 => exact HC0_9.out)
               rintro e w82 ⟨rfl, hb⟩
               refine ⟨_, rfl, ?_⟩
               have n0_ := Aside0.mk (Kd.R_below HO_6.out hb)
               have n1_ := Aside0.mk (Kd.N_below HO_229003.out hb)
               have n2_ := Aside0.mk (Kd.V_below HO_229006.out hb)
               have n3_ := Aside0.mk (Kd.V_below HO_229007.out hb)
               have n4_ := Aside0.mk (Kd.V_below HO_229008.out hb)
               have n5_ := Aside0.mk (Kd.V_below HO_229009.out hb)
               have n6_ := Aside0.mk (Kd.N_below HO_261003.out hb)
               have n7_ := Aside0.mk (Kd.R_below HO_261006.out hb)
               have n8_ := Aside0.mk (Kd.R_below HO_261007.out hb)
               have n9_ := Aside0.mk (Kd.R_below HO_261008.out hb)
               have n10_ := Aside0.mk (Kd.R_below HO_261009.out hb)
               have n11_ := Aside0.mk (Kd.N_below HO_283003.out hb)
               have n12_ := Aside0.mk (Kd.R_below HO_283006.out hb)
               have n13_ := Aside0.mk (Kd.R_below HO_283007.out hb)
               have n14_ := Aside0.mk (Kd.R_below HO_283008.out hb)
               have n15_ := Aside0.mk (Kd.R_below HO_283009.out hb)
               have n16_ := Aside0.mk (Kd.N_below HO290.out hb)
               have n17_ := Aside0.mk (Kd.V_below HO295.out hb)
               have n18_ := Aside0.mk (Kd.V_below HO298.out hb)
               have n19_ := Aside0.mk (Kd.V_below HO301.out hb)
               have n20_ := Aside0.mk (Kd.V_below HO304.out hb)
               have n21_ := Aside0.mk (blk_below BK204.out hb)
               have n22_ := Aside0.mk (blk_below BK228.out hb)
               have n23_ := Aside0.mk (blk_below BK260.out hb)
               have n24_ := Aside0.mk (blk_below BK282.out hb)
               have n25_ := Aside0.mk (below_step HB.out hb)
               clear HO_6
               clear HO_229003
               clear HO_229006
               clear HO_229007
               clear HO_229008
               clear HO_229009
               clear HO_261003
               clear HO_261006
               clear HO_261007
               clear HO_261008
               clear HO_261009
               clear HO_283003
               clear HO_283006
               clear HO_283007
               clear HO_283008
               clear HO_283009
               clear HO290
               clear HO295
               clear HO298
               clear HO301
               clear HO304
               clear BK204
               clear BK228
               clear BK260
               clear BK282
               clear HB
               have HO_6 := n0_
               have HO_229003 := n1_
               have HO_229006 := n2_
               have HO_229007 := n3_
               have HO_229008 := n4_
               have HO_229009 := n5_
               have HO_261003 := n6_
               have HO_261006 := n7_
               have HO_261007 := n8_
               have HO_261008 := n9_
               have HO_261009 := n10_
               have HO_283003 := n11_
               have HO_283006 := n12_
               have HO_283007 := n13_
               have HO_283008 := n14_
               have HO_283009 := n15_
               have HO290 := n16_
               have HO295 := n17_
               have HO298 := n18_
               have HO301 := n19_
               have HO304 := n20_
               have BK204 := n21_
               have BK228 := n22_
               have BK260 := n23_
               have BK282 := n24_
               have HB := n25_
               clear n0_ n1_ n2_ n3_ n4_ n5_ n6_ n7_ n8_ n9_ n10_ n11_ n12_ n13_ n14_ n15_ n16_ n17_ n18_ n19_ n20_ n21_ n22_ n23_ n24_ n25_
               (try clear hb)
               (try clear hb2)
               (try clear hk)
               (try clear hi)
               refine hK.out _ _ ⟨(blk_cell BK228.out 0).trans rfl, (blk_cell BK228.out 1).trans rfl, (blk_cell BK228.out 2).trans rfl, (blk_cell BK228.out 3).trans rfl, (blk_cell BK228.out 4).trans rfl, (blk_cell BK228.out 5).trans rfl, (blk_cell BK228.out 6).trans rfl, (blk_cell BK228.out 7).trans rfl, (blk_cell BK228.out 8).trans rfl, (blk_cell BK228.out 9).trans rfl, (blk_cell BK204.out 0).trans rfl, (blk_cell BK204.out 1).trans rfl, (blk_cell BK204.out 2).trans rfl, (blk_cell BK204.out 3).trans rfl, (blk_cell BK204.out 4).trans rfl, (blk_cell BK204.out 5).trans rfl, (blk_cell BK204.out 6).trans rfl, (blk_cell BK204.out 7).trans rfl, (blk_cell BK204.out 8).trans rfl, (blk_cell BK204.out 9).trans rfl, (blk_cell BK260.out 0).trans rfl, (blk_cell BK260.out 1).trans rfl, (blk_cell BK260.out 2).trans rfl, (blk_cell BK260.out 3).trans rfl, (blk_cell BK260.out 4).trans rfl, (blk_cell BK260.out 5).trans rfl, (blk_cell BK260.out 6).trans rfl, (blk_cell BK260.out 7).trans rfl, (blk_cell BK260.out 8).trans rfl, (blk_cell BK260.out 9).trans rfl, (blk_cell BK282.out 0).trans rfl, (blk_cell BK282.out 1).trans rfl, (blk_cell BK282.out 2).trans rfl, (blk_cell BK282.out 3).trans rfl, (blk_cell BK282.out 4).trans rfl, (blk_cell BK282.out 5).trans rfl, (blk_cell BK282.out 6).trans rfl, (blk_cell BK282.out 7).trans rfl, (blk_cell BK282.out 8).trans rfl, (blk_cell BK282.out 9).trans rfl⟩ (fun hHeld => ?_)
               clear hK K
               refine norm_ (a' := ?_) ?_ ?_
               rotate_left
               · show Act.put _ (some 57) _ = _
                 simp only [Act.put, List.setIfInBounds_toArray, List.set_cons_zero, List.set_cons_succ, i64_w, i32_w]
                 rfl
               refine pure_ (i := 4) (N := some 58) (v := ?_) (a' := ?_) #[true, true, true, true, true, false, false, false, false, false, false, false, false, false, false, false] rfl rfl (any_of HT_.out (by kernel_rfl)) (fun _ _ _ h => h) (Or.inl ⟨by rfl, ?_⟩) ?_ ?_
               rotate_left
               · intro w'
                 go_simp
                 with_reducible rfl
               rotate_left
               · simp only [Act.put, List.setIfInBounds_toArray, List.set_cons_zero, List.set_cons_succ, i64_w, i32_w]
                 rfl
               refine pure_ (i := 5) (N := some 59) (v := ?_) (a' := ?_) #[true, true, true, true, true, true, false, false, false, false, false, false, false, false, false, false] rfl rfl (any_of HT_.out (by kernel_rfl)) (fun _ _ _ h => h) (Or.inl ⟨by rfl, ?_⟩) ?_ ?_
               rotate_left
               · intro w'
                 go_simp
                 with_reducible rfl
               rotate_left
               · simp only [Act.put, List.setIfInBounds_toArray, List.set_cons_zero, List.set_cons_succ, i64_w, i32_w]
                 rfl
               refine pure_ (i := 6) (N := some 60) (v := ?_) (a' := ?_) #[true, true, true, true, true, true, true, false, false, false, false, false, false, false, false, false] rfl rfl (any_of HT_.out (by kernel_rfl)) (fun _ _ _ h => h) (Or.inl ⟨by rfl, ?_⟩) ?_ ?_
               rotate_left
               · intro w'
                 go_simp
                 with_reducible rfl
               rotate_left
               · simp only [Act.put, List.setIfInBounds_toArray, List.set_cons_zero, List.set_cons_succ, i64_w, i32_w]
                 rfl
               refine pure_ (i := 7) (N := some 61) (v := ?_) (a' := ?_) #[true, true, true, true, true, true, true, true, false, false, false, false, false, false, false, false] rfl rfl (any_of HT_.out (by kernel_rfl)) (fun _ _ _ h => h) (Or.inl ⟨by rfl, ?_⟩) ?_ ?_
               rotate_left
               · intro w'
                 go_simp
                 with_reducible rfl
               rotate_left
               · simp only [Act.put, List.setIfInBounds_toArray, List.set_cons_zero, List.set_cons_succ, i64_w, i32_w]
                 rfl
               refine take_ (i := 8) (N := some 62) (v := ?_) (a' := ?_) #[true, true, true, true, true, true, true, true, true, false, false, false, false, false, false, false] rfl rfl (take_ofW HT_.out HW_.out (by kernel_rfl)) (fun _ _ _ h => h) (Or.inl ⟨by rfl, ?_⟩) hHeld ?_ ?_
               rotate_left
               · rintro w' ⟨s0, s1, s2, s3, s4, s5, s6, s7, s8, s9, s10, s11, s12, s13, s14, s15, s16, s17, s18, s19, s20, s21, s22, s23, s24, s25, s26, s27, s28, s29, s30, s31, s32, s33, s34, s35, s36, s37, s38, s39⟩
                 go_simp
                 with_reducible rfl
               rotate_left
               · simp only [Act.put, List.setIfInBounds_toArray, List.set_cons_zero, List.set_cons_succ, i64_w, i32_w]
                 rfl
               refine take_ (i := 10) (N := some 64) (v := ?_) (a' := ?_) #[true, true, true, true, true, true, true, true, true, false, true, false, false, false, false, false] rfl rfl (take_ofW HT_.out HW_.out (by kernel_rfl)) (fun _ _ _ h => h) (Or.inl ⟨by rfl, ?_⟩) hHeld ?_ ?_
               rotate_left
               · rintro w' ⟨s0, s1, s2, s3, s4, s5, s6, s7, s8, s9, s10, s11, s12, s13, s14, s15, s16, s17, s18, s19, s20, s21, s22, s23, s24, s25, s26, s27, s28, s29, s30, s31, s32, s33, s34, s35, s36, s37, s38, s39⟩
                 go_simp
                 with_reducible rfl
               rotate_left
               · simp only [Act.put, List.setIfInBounds_toArray, List.set_cons_zero, List.set_cons_succ, i64_w, i32_w]
                 rfl
               refine one_ (i := 9) (N := some 63) #[true, true, true, true, true, true, true, true, true, true, true, false, false, false, false, false] rfl rfl (one_of HT_.out (by kernel_rfl)) (by decide) (fun K hK => ?_)
               refine goes_ Try.func36 (by kernel_rfl) rfl #[.agg #[.int .u16 t239, .int .u8 t240, .int .u8 t241, .slice Ao45 t242.length co45, .int .u16 t245, .int .u32 t246, .slice Ao46 t247.length co46, .slice Ao47 t250.length co47, .slice Ao48 t253.length co48, .slice Ao49 t256.length co49]] (by rfl) rfl rfl (by (try simp only [List.map_toArray, List.map_cons, List.map_nil]); first | done | rfl | (simp only [List.length_drop, List.length_take]; rfl)) ?_
               with_reducible refine (marlinelaw15_To.calls k2 t239 t240 t241 (fun k_ => ((some k_ ≠ (.slice Ao39 x6_2.length co39 : Value).ownBlock ∧ (some k_ ≠ (.slice Ao29 t211.length co29 : Value).ownBlock ∧ (some k_ ≠ (.slice Ao46 t247.length co46 : Value).ownBlock ∧ (some k_ ≠ (.slice Ao47 t250.length co47 : Value).ownBlock ∧ (some k_ ≠ (.slice Ao48 t253.length co48 : Value).ownBlock ∧ (some k_ ≠ (.slice Ao49 t256.length co49 : Value).ownBlock ∧ (some k_ ≠ (.slice Ao57 t264.length co57 : Value).ownBlock ∧ (some k_ ≠ (.slice Ao58 t269.length co58 : Value).ownBlock ∧ (some k_ ≠ (.slice Ao59 t272.length co59 : Value).ownBlock ∧ (some k_ ≠ (.slice Ao60 t275.length co60 : Value).ownBlock ∧ (some k_ ≠ (.slice Ao61 t278.length co61 : Value).ownBlock ∧ (k_ ≠ gb204 ∧ (k_ ≠ gb228 ∧ (k_ ≠ gb260 ∧ k_ ≠ gb282)))))))))))))) ∧ some k_ ≠ (.slice Ao77 t288.length co77 : Value).ownBlock)) _ _ t242 t245 t246 (fun k_ => some k_ = (.slice Ao46 t247.length co46 : Value).ownBlock) _ _ t247 (fun k_ => some k_ = (.slice Ao47 t250.length co47 : Value).ownBlock) _ _ t250 (fun k_ => some k_ = (.slice Ao48 t253.length co48 : Value).ownBlock) _ _ t253 (fun k_ => some k_ = (.slice Ao49 t256.length co49 : Value).ownBlock) _ _ t256 t306 t307 t308 t309 t312 t313 t314 t317 t320 t323 _ ?side1 ?side2 ?side3 ?side4 ?side5 A72.out).mono ?_
               (case side1 => exact Kd.N_V (HO_261003.out))
               (case side2 => exact Kd.R_V (Kd.R_tight rfl (Kd.R_apart' (Kd.R_apart' (Kd.R_apart' (Kd.R_apart' (Kd.R_apart' (Kd.R_apart' (HO_261006.out) (Kd.N_typed HO_229003.out) (by decide)) (Kd.N_typed HO_261003.out) (by decide)) (Kd.R_typed HO_261009.out) (by decide)) (Kd.N_typed HO_283003.out) (by decide)) (Kd.R_typed HO_283009.out) (by decide)) (Kd.N_typed HO290.out) (by decide))))
               (case side3 => exact Kd.R_V (Kd.R_tight rfl (Kd.R_apart' (Kd.R_apart' (Kd.R_apart' (Kd.R_apart' (Kd.R_apart' (Kd.R_apart' (HO_261007.out) (Kd.N_typed HO_229003.out) (by decide)) (Kd.N_typed HO_261003.out) (by decide)) (Kd.R_typed HO_261009.out) (by decide)) (Kd.N_typed HO_283003.out) (by decide)) (Kd.R_typed HO_283009.out) (by decide)) (Kd.N_typed HO290.out) (by decide))))
               (case side4 => exact Kd.R_V (Kd.R_tight rfl (Kd.R_apart' (Kd.R_apart' (Kd.R_apart' (Kd.R_apart' (Kd.R_apart' (Kd.R_apart' (HO_261008.out) (Kd.N_typed HO_229003.out) (by decide)) (Kd.N_typed HO_261003.out) (by decide)) (Kd.R_typed HO_261009.out) (by decide)) (Kd.N_typed HO_283003.out) (by decide)) (Kd.R_typed HO_283009.out) (by decide)) (Kd.N_typed HO290.out) (by decide))))
               (case side5 => exact Kd.R_V (Kd.R_tight rfl (Kd.R_apart' (Kd.R_apart' (Kd.R_apart' (Kd.R_apart' (Kd.R_apart' (Kd.R_apart' (Kd.R_apart' (Kd.R_apart' (Kd.R_apart' (Kd.R_apart' (Kd.R_apart' (HO_261009.out) (Kd.R_typed HO_6.out) (by decide)) (Kd.N_typed HO_229003.out) (by decide)) (Kd.N_typed HO_261003.out) (by decide)) (Kd.R_typed HO_261006.out) (by decide)) (Kd.R_typed HO_261007.out) (by decide)) (Kd.R_typed HO_261008.out) (by decide)) (Kd.N_typed HO_283003.out) (by decide)) (Kd.R_typed HO_283006.out) (by decide)) (Kd.R_typed HO_283007.out) (by decide)) (Kd.R_typed HO_283008.out) (by decide)) (Kd.N_typed HO290.out) (by decide))))
               rintro e w83 ⟨v310, v315, v318, v321, v324, rfl, ho0, ho1, ho2, ho3, ho4, hb⟩
               refine ⟨_, rfl, ?_⟩
               have n0_ := Aside0.mk (Kd.R_below HO_6.out hb)
               have n1_ := Aside0.mk (Kd.N_elder' HO_229003.out (Kd.N_base ho0) hb)
               have n2_ := Aside0.mk (Kd.V_elder' HO_229006.out (Kd.N_base ho0) hb)
               have n3_ := Aside0.mk (Kd.V_elder' HO_229007.out (Kd.N_base ho0) hb)
               have n4_ := Aside0.mk (Kd.V_elder' HO_229008.out (Kd.N_base ho0) hb)
               have n5_ := Aside0.mk (Kd.V_elder' HO_229009.out (Kd.N_base ho0) hb)
               have n6_ := Aside0.mk (Kd.N_elder' HO_261003.out (Kd.N_base ho0) hb)
               have n7_ := Aside0.mk (Kd.R_below HO_261006.out hb)
               have n8_ := Aside0.mk (Kd.R_below HO_261007.out hb)
               have n9_ := Aside0.mk (Kd.R_below HO_261008.out hb)
               have n10_ := Aside0.mk (Kd.R_below HO_261009.out hb)
               have n11_ := Aside0.mk (Kd.N_elder' HO_283003.out (Kd.N_base ho0) hb)
               have n12_ := Aside0.mk (Kd.R_below HO_283006.out hb)
               have n13_ := Aside0.mk (Kd.R_below HO_283007.out hb)
               have n14_ := Aside0.mk (Kd.R_below HO_283008.out hb)
               have n15_ := Aside0.mk (Kd.R_below HO_283009.out hb)
               have n16_ := Aside0.mk (Kd.N_elder' HO290.out (Kd.N_base ho0) hb)
               have n17_ := Aside0.mk (Kd.V_elder' HO295.out (Kd.N_base ho0) hb)
               have n18_ := Aside0.mk (Kd.V_elder' HO298.out (Kd.N_base ho0) hb)
               have n19_ := Aside0.mk (Kd.V_elder' HO301.out (Kd.N_base ho0) hb)
               have n20_ := Aside0.mk (Kd.V_elder' HO304.out (Kd.N_base ho0) hb)
               have Z_ := marlinelaw17_PapKeeps.okN (C := fun k_ => some k_ ≠ (.slice Ao39 x6_2.length co39 : Value).ownBlock ∧ some k_ ≠ (.slice Ao29 t211.length co29 : Value).ownBlock ∧ some k_ ≠ (.slice Ao57 t264.length co57 : Value).ownBlock ∧ some k_ ≠ (.slice Ao58 t269.length co58 : Value).ownBlock ∧ some k_ ≠ (.slice Ao59 t272.length co59 : Value).ownBlock ∧ some k_ ≠ (.slice Ao60 t275.length co60 : Value).ownBlock ∧ some k_ ≠ (.slice Ao61 t278.length co61 : Value).ownBlock ∧ some k_ ≠ (.slice Ao77 t288.length co77 : Value).ownBlock) ho0 (fun k_ hk_ => Or.elim hk_ (fun hs_ => Or.elim hs_ (fun hs_ => ⟨hs_.1.1, hs_.1.2.1, hs_.1.2.2.2.2.2.2.1, hs_.1.2.2.2.2.2.2.2.1, hs_.1.2.2.2.2.2.2.2.2.1, hs_.1.2.2.2.2.2.2.2.2.2.1, hs_.1.2.2.2.2.2.2.2.2.2.2.1, hs_.2⟩) (fun hs_ => Or.elim hs_ (fun hs_ => (have q0_ := ((Kd.R_apart' (Kd.R_apart' (Kd.R_apart' (Kd.R_apart' (Kd.R_apart' (Kd.R_apart' (HO_261006.out) (Kd.N_typed HO_229003.out) (by decide)) (Kd.N_typed HO_261003.out) (by decide)) (Kd.R_typed HO_261009.out) (by decide)) (Kd.N_typed HO_283003.out) (by decide)) (Kd.R_typed HO_283009.out) (by decide)) (Kd.N_typed HO290.out) (by decide)).1 k_ hs_.symm); ⟨q0_.1.1.1.1.1.1.1, q0_.1.1.1.1.1.2, q0_.1.1.2, q0_.1.1.1.1.1.1.2.2.2.1, q0_.1.1.1.1.1.1.2.2.2.2.1, q0_.1.1.1.1.1.1.2.2.2.2.2, q0_.1.2, q0_.2⟩)) (fun hs_ => Or.elim hs_ (fun hs_ => (have q0_ := ((Kd.R_apart' (Kd.R_apart' (Kd.R_apart' (Kd.R_apart' (Kd.R_apart' (Kd.R_apart' (HO_261007.out) (Kd.N_typed HO_229003.out) (by decide)) (Kd.N_typed HO_261003.out) (by decide)) (Kd.R_typed HO_261009.out) (by decide)) (Kd.N_typed HO_283003.out) (by decide)) (Kd.R_typed HO_283009.out) (by decide)) (Kd.N_typed HO290.out) (by decide)).1 k_ hs_.symm); ⟨q0_.1.1.1.1.1.1.1, q0_.1.1.1.1.1.2, q0_.1.1.2, q0_.1.1.1.1.1.1.2.2.2.1, q0_.1.1.1.1.1.1.2.2.2.2.1, q0_.1.1.1.1.1.1.2.2.2.2.2, q0_.1.2, q0_.2⟩)) (fun hs_ => Or.elim hs_ (fun hs_ => (have q0_ := ((Kd.R_apart' (Kd.R_apart' (Kd.R_apart' (Kd.R_apart' (Kd.R_apart' (Kd.R_apart' (HO_261008.out) (Kd.N_typed HO_229003.out) (by decide)) (Kd.N_typed HO_261003.out) (by decide)) (Kd.R_typed HO_261009.out) (by decide)) (Kd.N_typed HO_283003.out) (by decide)) (Kd.R_typed HO_283009.out) (by decide)) (Kd.N_typed HO290.out) (by decide)).1 k_ hs_.symm); ⟨q0_.1.1.1.1.1.1.1, q0_.1.1.1.1.1.2, q0_.1.1.2, q0_.1.1.1.1.1.1.2.2.2.1, q0_.1.1.1.1.1.1.2.2.2.2.1, q0_.1.1.1.1.1.1.2.2.2.2.2, q0_.1.2, q0_.2⟩)) (fun hs_ => (have q0_ := ((Kd.R_apart' (Kd.R_apart' (Kd.R_apart' (Kd.R_apart' (Kd.R_apart' (Kd.R_apart' (Kd.R_apart' (Kd.R_apart' (Kd.R_apart' (Kd.R_apart' (Kd.R_apart' (HO_261009.out) (Kd.R_typed HO_6.out) (by decide)) (Kd.N_typed HO_229003.out) (by decide)) (Kd.N_typed HO_261003.out) (by decide)) (Kd.R_typed HO_261006.out) (by decide)) (Kd.R_typed HO_261007.out) (by decide)) (Kd.R_typed HO_261008.out) (by decide)) (Kd.N_typed HO_283003.out) (by decide)) (Kd.R_typed HO_283006.out) (by decide)) (Kd.R_typed HO_283007.out) (by decide)) (Kd.R_typed HO_283008.out) (by decide)) (Kd.N_typed HO290.out) (by decide)).1 k_ hs_.symm); ⟨q0_.1.1.1.1.1.1.1.1.1.1.2, q0_.1.1.1.1.1.1.1.1.1.2, q0_.1.1.1.1.2, q0_.1.1.1.2, q0_.1.1.2, q0_.1.2, q0_.1.1.1.1.1.1.1.1.1.1.1, q0_.2⟩)))))) (fun hn_ => ⟨(Kd.fresh' (Kd.R_lt HO_6.out) k_ hn_), (Kd.fresh' (Kd.N_lt HO_229003.out) k_ hn_), (Kd.fresh' (Kd.N_lt HO_283003.out) k_ hn_), (Kd.fresh' (Kd.R_lt HO_283006.out) k_ hn_), (Kd.fresh' (Kd.R_lt HO_283007.out) k_ hn_), (Kd.fresh' (Kd.R_lt HO_283008.out) k_ hn_), (Kd.fresh' (Kd.R_lt HO_283009.out) k_ hn_), (Kd.fresh' (Kd.N_lt HO290.out) k_ hn_)⟩))
               have n21_ := Aside0.mk (Kd.N_lower (Kd.N_mono ho0 Z_) (below_size HB.out))
               have n22_ := Aside0.mk (Kd.V_lower (marlinelaw17_PapKeeps.okV ho1 Z_) (below_size HB.out))
               have n23_ := Aside0.mk (Kd.V_lower (marlinelaw17_PapKeeps.okV ho2 Z_) (below_size HB.out))
               have n24_ := Aside0.mk (Kd.V_lower (marlinelaw17_PapKeeps.okV ho3 Z_) (below_size HB.out))
               have n25_ := Aside0.mk (Kd.V_lower (marlinelaw17_PapKeeps.okV ho4 Z_) (below_size HB.out))
               clear Z_
               have n26_ := Aside0.mk (blk_below BK204.out hb)
               have n27_ := Aside0.mk (blk_below BK228.out hb)
               have n28_ := Aside0.mk (blk_below BK260.out hb)
               have n29_ := Aside0.mk (blk_below BK282.out hb)
               have n30_ := Aside0.mk (below_step HB.out hb)
               clear HO_6
               clear HO_229003
               clear HO_229006
               clear HO_229007
               clear HO_229008
               clear HO_229009
               clear HO_261003
               clear HO_261006
               clear HO_261007
               clear HO_261008
               clear HO_261009
               clear HO_283003
               clear HO_283006
               clear HO_283007
               clear HO_283008
               clear HO_283009
               clear HO290
               clear HO295
               clear HO298
               clear HO301
               clear HO304
               clear BK204
               clear BK228
               clear BK260
               clear BK282
               clear HB
               have HO_6 := n0_
               have HO_229003 := n1_
               have HO_229006 := n2_
               have HO_229007 := n3_
               have HO_229008 := n4_
               have HO_229009 := n5_
               have HO_261003 := n6_
               have HO_261006 := n7_
               have HO_261007 := n8_
               have HO_261008 := n9_
               have HO_261009 := n10_
               have HO_283003 := n11_
               have HO_283006 := n12_
               have HO_283007 := n13_
               have HO_283008 := n14_
               have HO_283009 := n15_
               have HO290 := n16_
               have HO295 := n17_
               have HO298 := n18_
               have HO301 := n19_
               have HO304 := n20_
               have HO311 := n21_
               have HO316 := n22_
               have HO319 := n23_
               have HO322 := n24_
               have HO325 := n25_
               have BK204 := n26_
               have BK228 := n27_
               have BK260 := n28_
               have BK282 := n29_
               have HB := n30_
               clear n0_ n1_ n2_ n3_ n4_ n5_ n6_ n7_ n8_ n9_ n10_ n11_ n12_ n13_ n14_ n15_ n16_ n17_ n18_ n19_ n20_ n21_ n22_ n23_ n24_ n25_ n26_ n27_ n28_ n29_ n30_
               (try clear hb)
               (try clear hb2)
               (try clear hk)
               (try clear hi)
               (try clear ho0)
               (try clear ho1)
               (try clear ho2)
               (try clear ho3)
               (try clear ho4)
               refine hK.out _ _ ⟨(blk_cell BK228.out 0).trans rfl, (blk_cell BK228.out 1).trans rfl, (blk_cell BK228.out 2).trans rfl, (blk_cell BK228.out 3).trans rfl, (blk_cell BK228.out 4).trans rfl, (blk_cell BK228.out 5).trans rfl, (blk_cell BK228.out 6).trans rfl, (blk_cell BK228.out 7).trans rfl, (blk_cell BK228.out 8).trans rfl, (blk_cell BK228.out 9).trans rfl, (blk_cell BK204.out 0).trans rfl, (blk_cell BK204.out 1).trans rfl, (blk_cell BK204.out 2).trans rfl, (blk_cell BK204.out 3).trans rfl, (blk_cell BK204.out 4).trans rfl, (blk_cell BK204.out 5).trans rfl, (blk_cell BK204.out 6).trans rfl, (blk_cell BK204.out 7).trans rfl, (blk_cell BK204.out 8).trans rfl, (blk_cell BK204.out 9).trans rfl, (blk_cell BK260.out 0).trans rfl, (blk_cell BK260.out 1).trans rfl, (blk_cell BK260.out 2).trans rfl, (blk_cell BK260.out 3).trans rfl, (blk_cell BK260.out 4).trans rfl, (blk_cell BK260.out 5).trans rfl, (blk_cell BK260.out 6).trans rfl, (blk_cell BK260.out 7).trans rfl, (blk_cell BK260.out 8).trans rfl, (blk_cell BK260.out 9).trans rfl, (blk_cell BK282.out 0).trans rfl, (blk_cell BK282.out 1).trans rfl, (blk_cell BK282.out 2).trans rfl, (blk_cell BK282.out 3).trans rfl, (blk_cell BK282.out 4).trans rfl, (blk_cell BK282.out 5).trans rfl, (blk_cell BK282.out 6).trans rfl, (blk_cell BK282.out 7).trans rfl, (blk_cell BK282.out 8).trans rfl, (blk_cell BK282.out 9).trans rfl⟩ (fun hHeld => ?_)
               clear hK K
               refine norm_ (a' := ?_) ?_ ?_
               rotate_left
               · show Act.put _ (some 63) _ = _
                 simp only [Act.put, List.setIfInBounds_toArray, List.set_cons_zero, List.set_cons_succ, i64_w, i32_w]
                 rfl
               refine one_ (i := 11) (N := some 65) #[true, true, true, true, true, true, true, true, true, true, true, true, false, false, false, false] rfl rfl (one_of HT_.out (by kernel_rfl)) (by decide) (fun K hK => ?_)
               refine goes_ Try.func36 (by kernel_rfl) rfl #[.agg #[.int .u16 t261, .int .u8 t262, .int .u8 t263, .slice Ao57 t264.length co57, .int .u16 t267, .int .u32 t268, .slice Ao58 t269.length co58, .slice Ao59 t272.length co59, .slice Ao60 t275.length co60, .slice Ao61 t278.length co61]] (by rfl) rfl rfl (by (try simp only [List.map_toArray, List.map_cons, List.map_nil]); first | done | rfl | (simp only [List.length_drop, List.length_take]; rfl)) ?_
               with_reducible refine (marlinelaw15_To.calls k2 t261 t262 t263 (fun k_ => (((some k_ ≠ (.slice Ao39 x6_2.length co39 : Value).ownBlock ∧ (some k_ ≠ (.slice Ao29 t211.length co29 : Value).ownBlock ∧ (some k_ ≠ (.slice Ao45 t242.length co45 : Value).ownBlock ∧ (some k_ ≠ (.slice Ao46 t247.length co46 : Value).ownBlock ∧ (some k_ ≠ (.slice Ao47 t250.length co47 : Value).ownBlock ∧ (some k_ ≠ (.slice Ao48 t253.length co48 : Value).ownBlock ∧ (some k_ ≠ (.slice Ao49 t256.length co49 : Value).ownBlock ∧ (some k_ ≠ (.slice Ao58 t269.length co58 : Value).ownBlock ∧ (some k_ ≠ (.slice Ao59 t272.length co59 : Value).ownBlock ∧ (some k_ ≠ (.slice Ao60 t275.length co60 : Value).ownBlock ∧ (some k_ ≠ (.slice Ao61 t278.length co61 : Value).ownBlock ∧ (k_ ≠ gb204 ∧ (k_ ≠ gb228 ∧ (k_ ≠ gb260 ∧ k_ ≠ gb282)))))))))))))) ∧ some k_ ≠ (.slice Ao77 t288.length co77 : Value).ownBlock) ∧ some k_ ≠ (v310 : Value).ownBlock)) _ _ t264 t267 t268 (fun k_ => some k_ = (.slice Ao58 t269.length co58 : Value).ownBlock) _ _ t269 (fun k_ => some k_ = (.slice Ao59 t272.length co59 : Value).ownBlock) _ _ t272 (fun k_ => some k_ = (.slice Ao60 t275.length co60 : Value).ownBlock) _ _ t275 (fun k_ => some k_ = (.slice Ao61 t278.length co61 : Value).ownBlock) _ _ t278 t326 t327 t328 t329 t332 t333 t334 t337 t340 t343 _ ?side1 ?side2 ?side3 ?side4 ?side5 A73.out).mono ?_
               (case side1 => exact Kd.N_V (HO_283003.out))
               (case side2 => exact Kd.R_V (Kd.R_tight rfl (Kd.R_apart' (Kd.R_apart' (Kd.R_apart' (Kd.R_apart' (Kd.R_apart' (Kd.R_apart' (Kd.R_apart' (HO_283006.out) (Kd.N_typed HO_229003.out) (by decide)) (Kd.N_typed HO_261003.out) (by decide)) (Kd.R_typed HO_261009.out) (by decide)) (Kd.N_typed HO_283003.out) (by decide)) (Kd.R_typed HO_283009.out) (by decide)) (Kd.N_typed HO290.out) (by decide)) (Kd.N_typed HO311.out) (by decide))))
               (case side3 => exact Kd.R_V (Kd.R_tight rfl (Kd.R_apart' (Kd.R_apart' (Kd.R_apart' (Kd.R_apart' (Kd.R_apart' (Kd.R_apart' (Kd.R_apart' (HO_283007.out) (Kd.N_typed HO_229003.out) (by decide)) (Kd.N_typed HO_261003.out) (by decide)) (Kd.R_typed HO_261009.out) (by decide)) (Kd.N_typed HO_283003.out) (by decide)) (Kd.R_typed HO_283009.out) (by decide)) (Kd.N_typed HO290.out) (by decide)) (Kd.N_typed HO311.out) (by decide))))
               (case side4 => exact Kd.R_V (Kd.R_tight rfl (Kd.R_apart' (Kd.R_apart' (Kd.R_apart' (Kd.R_apart' (Kd.R_apart' (Kd.R_apart' (Kd.R_apart' (HO_283008.out) (Kd.N_typed HO_229003.out) (by decide)) (Kd.N_typed HO_261003.out) (by decide)) (Kd.R_typed HO_261009.out) (by decide)) (Kd.N_typed HO_283003.out) (by decide)) (Kd.R_typed HO_283009.out) (by decide)) (Kd.N_typed HO290.out) (by decide)) (Kd.N_typed HO311.out) (by decide))))
               (case side5 => exact Kd.R_V (Kd.R_tight rfl (Kd.R_apart' (Kd.R_apart' (Kd.R_apart' (Kd.R_apart' (Kd.R_apart' (Kd.R_apart' (Kd.R_apart' (Kd.R_apart' (Kd.R_apart' (Kd.R_apart' (Kd.R_apart' (Kd.R_apart' (HO_283009.out) (Kd.R_typed HO_6.out) (by decide)) (Kd.N_typed HO_229003.out) (by decide)) (Kd.N_typed HO_261003.out) (by decide)) (Kd.R_typed HO_261006.out) (by decide)) (Kd.R_typed HO_261007.out) (by decide)) (Kd.R_typed HO_261008.out) (by decide)) (Kd.N_typed HO_283003.out) (by decide)) (Kd.R_typed HO_283006.out) (by decide)) (Kd.R_typed HO_283007.out) (by decide)) (Kd.R_typed HO_283008.out) (by decide)) (Kd.N_typed HO290.out) (by decide)) (Kd.N_typed HO311.out) (by decide))))
               rintro e w84 ⟨v330, v335, v338, v341, v344, rfl, ho0, ho1, ho2, ho3, ho4, hb⟩
               refine ⟨_, rfl, ?_⟩
               have n0_ := Aside0.mk (Kd.R_below HO_6.out hb)
               have n1_ := Aside0.mk (Kd.N_elder' HO_229003.out (Kd.N_base ho0) hb)
               have n2_ := Aside0.mk (Kd.V_elder' HO_229006.out (Kd.N_base ho0) hb)
               have n3_ := Aside0.mk (Kd.V_elder' HO_229007.out (Kd.N_base ho0) hb)
               have n4_ := Aside0.mk (Kd.V_elder' HO_229008.out (Kd.N_base ho0) hb)
               have n5_ := Aside0.mk (Kd.V_elder' HO_229009.out (Kd.N_base ho0) hb)
               have n6_ := Aside0.mk (Kd.N_elder' HO_261003.out (Kd.N_base ho0) hb)
               have n7_ := Aside0.mk (Kd.R_below HO_261006.out hb)
               have n8_ := Aside0.mk (Kd.R_below HO_261007.out hb)
               have n9_ := Aside0.mk (Kd.R_below HO_261008.out hb)
               have n10_ := Aside0.mk (Kd.R_below HO_261009.out hb)
               have n11_ := Aside0.mk (Kd.N_elder' HO_283003.out (Kd.N_base ho0) hb)
               have n12_ := Aside0.mk (Kd.R_below HO_283006.out hb)
               have n13_ := Aside0.mk (Kd.R_below HO_283007.out hb)
               have n14_ := Aside0.mk (Kd.R_below HO_283008.out hb)
               have n15_ := Aside0.mk (Kd.R_below HO_283009.out hb)
               have n16_ := Aside0.mk (Kd.N_elder' HO290.out (Kd.N_base ho0) hb)
               have n17_ := Aside0.mk (Kd.V_elder' HO295.out (Kd.N_base ho0) hb)
               have n18_ := Aside0.mk (Kd.V_elder' HO298.out (Kd.N_base ho0) hb)
               have n19_ := Aside0.mk (Kd.V_elder' HO301.out (Kd.N_base ho0) hb)
               have n20_ := Aside0.mk (Kd.V_elder' HO304.out (Kd.N_base ho0) hb)
               have n21_ := Aside0.mk (Kd.N_elder' HO311.out (Kd.N_base ho0) hb)
               have n22_ := Aside0.mk (Kd.V_elder' HO316.out (Kd.N_base ho0) hb)
               have n23_ := Aside0.mk (Kd.V_elder' HO319.out (Kd.N_base ho0) hb)
               have n24_ := Aside0.mk (Kd.V_elder' HO322.out (Kd.N_base ho0) hb)
               have n25_ := Aside0.mk (Kd.V_elder' HO325.out (Kd.N_base ho0) hb)
               have Z_ := marlinelaw17_PapKeeps.okN (C := fun k_ => some k_ ≠ (.slice Ao39 x6_2.length co39 : Value).ownBlock ∧ some k_ ≠ (.slice Ao29 t211.length co29 : Value).ownBlock ∧ some k_ ≠ (.slice Ao45 t242.length co45 : Value).ownBlock ∧ some k_ ≠ (.slice Ao46 t247.length co46 : Value).ownBlock ∧ some k_ ≠ (.slice Ao47 t250.length co47 : Value).ownBlock ∧ some k_ ≠ (.slice Ao48 t253.length co48 : Value).ownBlock ∧ some k_ ≠ (.slice Ao49 t256.length co49 : Value).ownBlock ∧ some k_ ≠ (.slice Ao77 t288.length co77 : Value).ownBlock ∧ some k_ ≠ (v310 : Value).ownBlock) ho0 (fun k_ hk_ => Or.elim hk_ (fun hs_ => Or.elim hs_ (fun hs_ => ⟨hs_.1.1.1, hs_.1.1.2.1, hs_.1.1.2.2.1, hs_.1.1.2.2.2.1, hs_.1.1.2.2.2.2.1, hs_.1.1.2.2.2.2.2.1, hs_.1.1.2.2.2.2.2.2.1, hs_.1.2, hs_.2⟩) (fun hs_ => Or.elim hs_ (fun hs_ => (have q0_ := ((Kd.R_apart' (Kd.R_apart' (Kd.R_apart' (Kd.R_apart' (Kd.R_apart' (Kd.R_apart' (Kd.R_apart' (HO_283006.out) (Kd.N_typed HO_229003.out) (by decide)) (Kd.N_typed HO_261003.out) (by decide)) (Kd.R_typed HO_261009.out) (by decide)) (Kd.N_typed HO_283003.out) (by decide)) (Kd.R_typed HO_283009.out) (by decide)) (Kd.N_typed HO290.out) (by decide)) (Kd.N_typed HO311.out) (by decide)).1 k_ hs_.symm); ⟨q0_.1.1.1.1.1.1.1.1, q0_.1.1.1.1.1.1.2, q0_.1.1.1.1.1.2, q0_.1.1.1.1.1.1.1.2.1, q0_.1.1.1.1.1.1.1.2.2.1, q0_.1.1.1.1.1.1.1.2.2.2.1, q0_.1.1.1.1.2, q0_.1.2, q0_.2⟩)) (fun hs_ => Or.elim hs_ (fun hs_ => (have q0_ := ((Kd.R_apart' (Kd.R_apart' (Kd.R_apart' (Kd.R_apart' (Kd.R_apart' (Kd.R_apart' (Kd.R_apart' (HO_283007.out) (Kd.N_typed HO_229003.out) (by decide)) (Kd.N_typed HO_261003.out) (by decide)) (Kd.R_typed HO_261009.out) (by decide)) (Kd.N_typed HO_283003.out) (by decide)) (Kd.R_typed HO_283009.out) (by decide)) (Kd.N_typed HO290.out) (by decide)) (Kd.N_typed HO311.out) (by decide)).1 k_ hs_.symm); ⟨q0_.1.1.1.1.1.1.1.1, q0_.1.1.1.1.1.1.2, q0_.1.1.1.1.1.2, q0_.1.1.1.1.1.1.1.2.1, q0_.1.1.1.1.1.1.1.2.2.1, q0_.1.1.1.1.1.1.1.2.2.2.1, q0_.1.1.1.1.2, q0_.1.2, q0_.2⟩)) (fun hs_ => Or.elim hs_ (fun hs_ => (have q0_ := ((Kd.R_apart' (Kd.R_apart' (Kd.R_apart' (Kd.R_apart' (Kd.R_apart' (Kd.R_apart' (Kd.R_apart' (HO_283008.out) (Kd.N_typed HO_229003.out) (by decide)) (Kd.N_typed HO_261003.out) (by decide)) (Kd.R_typed HO_261009.out) (by decide)) (Kd.N_typed HO_283003.out) (by decide)) (Kd.R_typed HO_283009.out) (by decide)) (Kd.N_typed HO290.out) (by decide)) (Kd.N_typed HO311.out) (by decide)).1 k_ hs_.symm); ⟨q0_.1.1.1.1.1.1.1.1, q0_.1.1.1.1.1.1.2, q0_.1.1.1.1.1.2, q0_.1.1.1.1.1.1.1.2.1, q0_.1.1.1.1.1.1.1.2.2.1, q0_.1.1.1.1.1.1.1.2.2.2.1, q0_.1.1.1.1.2, q0_.1.2, q0_.2⟩)) (fun hs_ => (have q0_ := ((Kd.R_apart' (Kd.R_apart' (Kd.R_apart' (Kd.R_apart' (Kd.R_apart' (Kd.R_apart' (Kd.R_apart' (Kd.R_apart' (Kd.R_apart' (Kd.R_apart' (Kd.R_apart' (Kd.R_apart' (HO_283009.out) (Kd.R_typed HO_6.out) (by decide)) (Kd.N_typed HO_229003.out) (by decide)) (Kd.N_typed HO_261003.out) (by decide)) (Kd.R_typed HO_261006.out) (by decide)) (Kd.R_typed HO_261007.out) (by decide)) (Kd.R_typed HO_261008.out) (by decide)) (Kd.N_typed HO_283003.out) (by decide)) (Kd.R_typed HO_283006.out) (by decide)) (Kd.R_typed HO_283007.out) (by decide)) (Kd.R_typed HO_283008.out) (by decide)) (Kd.N_typed HO290.out) (by decide)) (Kd.N_typed HO311.out) (by decide)).1 k_ hs_.symm); ⟨q0_.1.1.1.1.1.1.1.1.1.1.1.2, q0_.1.1.1.1.1.1.1.1.1.1.2, q0_.1.1.1.1.1.1.1.1.1.2, q0_.1.1.1.1.1.1.1.1.2, q0_.1.1.1.1.1.1.1.2, q0_.1.1.1.1.1.1.2, q0_.1.1.1.1.1.1.1.1.1.1.1.1, q0_.1.2, q0_.2⟩)))))) (fun hn_ => ⟨(Kd.fresh' (Kd.R_lt HO_6.out) k_ hn_), (Kd.fresh' (Kd.N_lt HO_229003.out) k_ hn_), (Kd.fresh' (Kd.N_lt HO_261003.out) k_ hn_), (Kd.fresh' (Kd.R_lt HO_261006.out) k_ hn_), (Kd.fresh' (Kd.R_lt HO_261007.out) k_ hn_), (Kd.fresh' (Kd.R_lt HO_261008.out) k_ hn_), (Kd.fresh' (Kd.R_lt HO_261009.out) k_ hn_), (Kd.fresh' (Kd.N_lt HO290.out) k_ hn_), (Kd.fresh' (Kd.N_lt HO311.out) k_ hn_)⟩))
               have n26_ := Aside0.mk (Kd.N_lower (Kd.N_mono ho0 Z_) (below_size HB.out))
               have n27_ := Aside0.mk (Kd.V_lower (marlinelaw17_PapKeeps.okV ho1 Z_) (below_size HB.out))
               have n28_ := Aside0.mk (Kd.V_lower (marlinelaw17_PapKeeps.okV ho2 Z_) (below_size HB.out))
               have n29_ := Aside0.mk (Kd.V_lower (marlinelaw17_PapKeeps.okV ho3 Z_) (below_size HB.out))
               have n30_ := Aside0.mk (Kd.V_lower (marlinelaw17_PapKeeps.okV ho4 Z_) (below_size HB.out))
               clear Z_
               have n31_ := Aside0.mk (blk_below BK204.out hb)
               have n32_ := Aside0.mk (blk_below BK228.out hb)
               have n33_ := Aside0.mk (blk_below BK260.out hb)
               have n34_ := Aside0.mk (blk_below BK282.out hb)
               have n35_ := Aside0.mk (below_step HB.out hb)
               clear HO_6
               clear HO_229003
               clear HO_229006
               clear HO_229007
               clear HO_229008
               clear HO_229009
               clear HO_261003
               clear HO_261006
               clear HO_261007
               clear HO_261008
               clear HO_261009
               clear HO_283003
               clear HO_283006
               clear HO_283007
               clear HO_283008
               clear HO_283009
               clear HO290
               clear HO295
               clear HO298
               clear HO301
               clear HO304
               clear HO311
               clear HO316
               clear HO319
               clear HO322
               clear HO325
               clear BK204
               clear BK228
               clear BK260
               clear BK282
               clear HB
               have HO_6 := n0_
               have HO_229003 := n1_
               have HO_229006 := n2_
               have HO_229007 := n3_
               have HO_229008 := n4_
               have HO_229009 := n5_
               have HO_261003 := n6_
               have HO_261006 := n7_
               have HO_261007 := n8_
               have HO_261008 := n9_
               have HO_261009 := n10_
               have HO_283003 := n11_
               have HO_283006 := n12_
               have HO_283007 := n13_
               have HO_283008 := n14_
               have HO_283009 := n15_
               have HO290 := n16_
               have HO295 := n17_
               have HO298 := n18_
               have HO301 := n19_
               have HO304 := n20_
               have HO311 := n21_
               have HO316 := n22_
               have HO319 := n23_
               have HO322 := n24_
               have HO325 := n25_
               have HO331 := n26_
               have HO336 := n27_
               have HO339 := n28_
               have HO342 := n29_
               have HO345 := n30_
               have BK204 := n31_
               have BK228 := n32_
               have BK260 := n33_
               have BK282 := n34_
               have HB := n35_
               clear n0_ n1_ n2_ n3_ n4_ n5_ n6_ n7_ n8_ n9_ n10_ n11_ n12_ n13_ n14_ n15_ n16_ n17_ n18_ n19_ n20_ n21_ n22_ n23_ n24_ n25_ n26_ n27_ n28_ n29_ n30_ n31_ n32_ n33_ n34_ n35_
               (try clear hb)
               (try clear hb2)
               (try clear hk)
               (try clear hi)
               (try clear ho0)
               (try clear ho1)
               (try clear ho2)
               (try clear ho3)
               (try clear ho4)
               obtain ⟨Ao85, co85, eo85⟩ := Kd.N_slice HO311.out
               (first | subst eo85 | (injection eo85 with f1_ f2_ f3_; have f4_ := f1_.symm; have f5_ := f3_.symm; clear f1_ f2_ f3_; subst f4_; subst f5_))
               obtain ⟨Ao86, co86, eo86⟩ := Kd.V_slice HO316.out
               (first | subst eo86 | (injection eo86 with f1_ f2_ f3_; have f4_ := f1_.symm; have f5_ := f3_.symm; clear f1_ f2_ f3_; subst f4_; subst f5_))
               obtain ⟨Ao87, co87, eo87⟩ := Kd.V_slice HO319.out
               (first | subst eo87 | (injection eo87 with f1_ f2_ f3_; have f4_ := f1_.symm; have f5_ := f3_.symm; clear f1_ f2_ f3_; subst f4_; subst f5_))
               obtain ⟨Ao88, co88, eo88⟩ := Kd.V_slice HO322.out
               (first | subst eo88 | (injection eo88 with f1_ f2_ f3_; have f4_ := f1_.symm; have f5_ := f3_.symm; clear f1_ f2_ f3_; subst f4_; subst f5_))
               obtain ⟨Ao89, co89, eo89⟩ := Kd.V_slice HO325.out
               (first | subst eo89 | (injection eo89 with f1_ f2_ f3_; have f4_ := f1_.symm; have f5_ := f3_.symm; clear f1_ f2_ f3_; subst f4_; subst f5_))
               obtain ⟨Ao90, co90, eo90⟩ := Kd.N_slice HO331.out
               (first | subst eo90 | (injection eo90 with f1_ f2_ f3_; have f4_ := f1_.symm; have f5_ := f3_.symm; clear f1_ f2_ f3_; subst f4_; subst f5_))
               obtain ⟨Ao91, co91, eo91⟩ := Kd.V_slice HO336.out
               (first | subst eo91 | (injection eo91 with f1_ f2_ f3_; have f4_ := f1_.symm; have f5_ := f3_.symm; clear f1_ f2_ f3_; subst f4_; subst f5_))
               obtain ⟨Ao92, co92, eo92⟩ := Kd.V_slice HO339.out
               (first | subst eo92 | (injection eo92 with f1_ f2_ f3_; have f4_ := f1_.symm; have f5_ := f3_.symm; clear f1_ f2_ f3_; subst f4_; subst f5_))
               obtain ⟨Ao93, co93, eo93⟩ := Kd.V_slice HO342.out
               (first | subst eo93 | (injection eo93 with f1_ f2_ f3_; have f4_ := f1_.symm; have f5_ := f3_.symm; clear f1_ f2_ f3_; subst f4_; subst f5_))
               obtain ⟨Ao94, co94, eo94⟩ := Kd.V_slice HO345.out
               (first | subst eo94 | (injection eo94 with f1_ f2_ f3_; have f4_ := f1_.symm; have f5_ := f3_.symm; clear f1_ f2_ f3_; subst f4_; subst f5_))
               refine hK.out _ _ ⟨(blk_cell BK228.out 0).trans rfl, (blk_cell BK228.out 1).trans rfl, (blk_cell BK228.out 2).trans rfl, (blk_cell BK228.out 3).trans rfl, (blk_cell BK228.out 4).trans rfl, (blk_cell BK228.out 5).trans rfl, (blk_cell BK228.out 6).trans rfl, (blk_cell BK228.out 7).trans rfl, (blk_cell BK228.out 8).trans rfl, (blk_cell BK228.out 9).trans rfl, (blk_cell BK204.out 0).trans rfl, (blk_cell BK204.out 1).trans rfl, (blk_cell BK204.out 2).trans rfl, (blk_cell BK204.out 3).trans rfl, (blk_cell BK204.out 4).trans rfl, (blk_cell BK204.out 5).trans rfl, (blk_cell BK204.out 6).trans rfl, (blk_cell BK204.out 7).trans rfl, (blk_cell BK204.out 8).trans rfl, (blk_cell BK204.out 9).trans rfl, (blk_cell BK260.out 0).trans rfl, (blk_cell BK260.out 1).trans rfl, (blk_cell BK260.out 2).trans rfl, (blk_cell BK260.out 3).trans rfl, (blk_cell BK260.out 4).trans rfl, (blk_cell BK260.out 5).trans rfl, (blk_cell BK260.out 6).trans rfl, (blk_cell BK260.out 7).trans rfl, (blk_cell BK260.out 8).trans rfl, (blk_cell BK260.out 9).trans rfl, (blk_cell BK282.out 0).trans rfl, (blk_cell BK282.out 1).trans rfl, (blk_cell BK282.out 2).trans rfl, (blk_cell BK282.out 3).trans rfl, (blk_cell BK282.out 4).trans rfl, (blk_cell BK282.out 5).trans rfl, (blk_cell BK282.out 6).trans rfl, (blk_cell BK282.out 7).trans rfl, (blk_cell BK282.out 8).trans rfl, (blk_cell BK282.out 9).trans rfl⟩ (fun hHeld => ?_)
               clear hK K
               refine norm_ (a' := ?_) ?_ ?_
               rotate_left
               · show Act.put _ (some 65) _ = _
                 simp only [Act.put, List.setIfInBounds_toArray, List.set_cons_zero, List.set_cons_succ, i64_w, i32_w]
                 rfl
               refine one_ (i := 12) (N := some 66) #[true, true, true, true, true, true, true, true, true, true, true, true, true, false, false, false] rfl rfl (one_of HT_.out (by kernel_rfl)) (by decide) (fun K hK => ?_)
               refine goes_ Try.func35 (by kernel_rfl) rfl #[.agg #[.int .u16 t306, .int .u8 t307, .int .u8 t308, .slice Ao85 t309.length co85, .int .u16 t312, .int .u32 t313, .slice Ao86 t314.length co86, .slice Ao87 t317.length co87, .slice Ao88 t320.length co88, .slice Ao89 t323.length co89], .agg #[.int .u16 t326, .int .u8 t327, .int .u8 t328, .slice Ao90 t329.length co90, .int .u16 t332, .int .u32 t333, .slice Ao91 t334.length co91, .slice Ao92 t337.length co92, .slice Ao93 t340.length co93, .slice Ao94 t343.length co94]] (by rfl) rfl rfl (by (try simp only [List.map_toArray, List.map_cons, List.map_nil]); first | done | rfl | (simp only [List.length_drop, List.length_take]; rfl)) ?_
               with_reducible refine (marlineref15_Same.calls k2 t306 t307 t308 _ _ t309 t312 t313 _ _ t314 _ _ t317 _ _ t320 _ _ t323 t326 t327 t328 _ _ t329 t332 t333 _ _ t334 _ _ t337 _ _ t340 _ _ t343 t346 _ ?side1 ?side2 ?side3 ?side4 ?side5 ?side6 ?side7 ?side8 ?side9 ?side10 ?side11 ?side12 ?side13 ?side14 ?side15 ?side16 ?side17 ?side18 ?side19 ?side20 A74.out).mono ?_
               (case side1 => repeat (first | exact (Kd.N_reads' HO311.out).2.2 | (with_reducible refine Kd.C_alloc ?_ _) | (with_reducible refine Kd.C_drewN ?_ _) | (with_reducible refine Kd.C_drew ?_)))
               (case side2 => exact (Kd.N_reads' HO311.out).2.1)
               (case side3 => repeat (first | exact (Kd.V_reads' HO316.out).2.2 | (with_reducible refine Kd.C_alloc ?_ _) | (with_reducible refine Kd.C_drewN ?_ _) | (with_reducible refine Kd.C_drew ?_)))
               (case side4 => exact (Kd.V_reads' HO316.out).2.1)
               (case side5 => repeat (first | exact (Kd.V_reads' HO319.out).2.2 | (with_reducible refine Kd.C_alloc ?_ _) | (with_reducible refine Kd.C_drewN ?_ _) | (with_reducible refine Kd.C_drew ?_)))
               (case side6 => exact (Kd.V_reads' HO319.out).2.1)
               (case side7 => repeat (first | exact (Kd.V_reads' HO322.out).2.2 | (with_reducible refine Kd.C_alloc ?_ _) | (with_reducible refine Kd.C_drewN ?_ _) | (with_reducible refine Kd.C_drew ?_)))
               (case side8 => exact (Kd.V_reads' HO322.out).2.1)
               (case side9 => repeat (first | exact (Kd.V_reads' HO325.out).2.2 | (with_reducible refine Kd.C_alloc ?_ _) | (with_reducible refine Kd.C_drewN ?_ _) | (with_reducible refine Kd.C_drew ?_)))
               (case side10 => exact (Kd.V_reads' HO325.out).2.1)
               (case side11 => repeat (first | exact (Kd.N_reads' HO331.out).2.2 | (with_reducible refine Kd.C_alloc ?_ _) | (with_reducible refine Kd.C_drewN ?_ _) | (with_reducible refine Kd.C_drew ?_)))
               (case side12 => exact (Kd.N_reads' HO331.out).2.1)
               (case side13 => repeat (first | exact (Kd.V_reads' HO336.out).2.2 | (with_reducible refine Kd.C_alloc ?_ _) | (with_reducible refine Kd.C_drewN ?_ _) | (with_reducible refine Kd.C_drew ?_)))
               (case side14 => exact (Kd.V_reads' HO336.out).2.1)
               (case side15 => repeat (first | exact (Kd.V_reads' HO339.out).2.2 | (with_reducible refine Kd.C_alloc ?_ _) | (with_reducible refine Kd.C_drewN ?_ _) | (with_reducible refine Kd.C_drew ?_)))
               (case side16 => exact (Kd.V_reads' HO339.out).2.1)
               (case side17 => repeat (first | exact (Kd.V_reads' HO342.out).2.2 | (with_reducible refine Kd.C_alloc ?_ _) | (with_reducible refine Kd.C_drewN ?_ _) | (with_reducible refine Kd.C_drew ?_)))
               (case side18 => exact (Kd.V_reads' HO342.out).2.1)
               (case side19 => repeat (first | exact (Kd.V_reads' HO345.out).2.2 | (with_reducible refine Kd.C_alloc ?_ _) | (with_reducible refine Kd.C_drewN ?_ _) | (with_reducible refine Kd.C_drew ?_)))
               (case side20 => exact (Kd.V_reads' HO345.out).2.1)
               rintro e w95 ⟨rfl, hb⟩
               refine ⟨_, rfl, ?_⟩
               have n0_ := Aside0.mk (Kd.R_below HO_6.out hb)
               have n1_ := Aside0.mk (Kd.N_below HO_229003.out hb)
               have n2_ := Aside0.mk (Kd.V_below HO_229006.out hb)
               have n3_ := Aside0.mk (Kd.V_below HO_229007.out hb)
               have n4_ := Aside0.mk (Kd.V_below HO_229008.out hb)
               have n5_ := Aside0.mk (Kd.V_below HO_229009.out hb)
               have n6_ := Aside0.mk (Kd.N_below HO_261003.out hb)
               have n7_ := Aside0.mk (Kd.R_below HO_261006.out hb)
               have n8_ := Aside0.mk (Kd.R_below HO_261007.out hb)
               have n9_ := Aside0.mk (Kd.R_below HO_261008.out hb)
               have n10_ := Aside0.mk (Kd.R_below HO_261009.out hb)
               have n11_ := Aside0.mk (Kd.N_below HO_283003.out hb)
               have n12_ := Aside0.mk (Kd.R_below HO_283006.out hb)
               have n13_ := Aside0.mk (Kd.R_below HO_283007.out hb)
               have n14_ := Aside0.mk (Kd.R_below HO_283008.out hb)
               have n15_ := Aside0.mk (Kd.R_below HO_283009.out hb)
               have n16_ := Aside0.mk (Kd.N_below HO290.out hb)
               have n17_ := Aside0.mk (Kd.V_below HO295.out hb)
               have n18_ := Aside0.mk (Kd.V_below HO298.out hb)
               have n19_ := Aside0.mk (Kd.V_below HO301.out hb)
               have n20_ := Aside0.mk (Kd.V_below HO304.out hb)
               have n21_ := Aside0.mk (Kd.N_below HO311.out hb)
               have n22_ := Aside0.mk (Kd.V_below HO316.out hb)
               have n23_ := Aside0.mk (Kd.V_below HO319.out hb)
               have n24_ := Aside0.mk (Kd.V_below HO322.out hb)
               have n25_ := Aside0.mk (Kd.V_below HO325.out hb)
               have n26_ := Aside0.mk (Kd.N_below HO331.out hb)
               have n27_ := Aside0.mk (Kd.V_below HO336.out hb)
               have n28_ := Aside0.mk (Kd.V_below HO339.out hb)
               have n29_ := Aside0.mk (Kd.V_below HO342.out hb)
               have n30_ := Aside0.mk (Kd.V_below HO345.out hb)
               have n31_ := Aside0.mk (blk_below BK204.out hb)
               have n32_ := Aside0.mk (blk_below BK228.out hb)
               have n33_ := Aside0.mk (blk_below BK260.out hb)
               have n34_ := Aside0.mk (blk_below BK282.out hb)
               have n35_ := Aside0.mk (below_step HB.out hb)
               clear HO_6
               clear HO_229003
               clear HO_229006
               clear HO_229007
               clear HO_229008
               clear HO_229009
               clear HO_261003
               clear HO_261006
               clear HO_261007
               clear HO_261008
               clear HO_261009
               clear HO_283003
               clear HO_283006
               clear HO_283007
               clear HO_283008
               clear HO_283009
               clear HO290
               clear HO295
               clear HO298
               clear HO301
               clear HO304
               clear HO311
               clear HO316
               clear HO319
               clear HO322
               clear HO325
               clear HO331
               clear HO336
               clear HO339
               clear HO342
               clear HO345
               clear BK204
               clear BK228
               clear BK260
               clear BK282
               clear HB
               have HO_6 := n0_
               have HO_229003 := n1_
               have HO_229006 := n2_
               have HO_229007 := n3_
               have HO_229008 := n4_
               have HO_229009 := n5_
               have HO_261003 := n6_
               have HO_261006 := n7_
               have HO_261007 := n8_
               have HO_261008 := n9_
               have HO_261009 := n10_
               have HO_283003 := n11_
               have HO_283006 := n12_
               have HO_283007 := n13_
               have HO_283008 := n14_
               have HO_283009 := n15_
               have HO290 := n16_
               have HO295 := n17_
               have HO298 := n18_
               have HO301 := n19_
               have HO304 := n20_
               have HO311 := n21_
               have HO316 := n22_
               have HO319 := n23_
               have HO322 := n24_
               have HO325 := n25_
               have HO331 := n26_
               have HO336 := n27_
               have HO339 := n28_
               have HO342 := n29_
               have HO345 := n30_
               have BK204 := n31_
               have BK228 := n32_
               have BK260 := n33_
               have BK282 := n34_
               have HB := n35_
               clear n0_ n1_ n2_ n3_ n4_ n5_ n6_ n7_ n8_ n9_ n10_ n11_ n12_ n13_ n14_ n15_ n16_ n17_ n18_ n19_ n20_ n21_ n22_ n23_ n24_ n25_ n26_ n27_ n28_ n29_ n30_ n31_ n32_ n33_ n34_ n35_
               (try clear hb)
               (try clear hb2)
               (try clear hk)
               (try clear hi)
               refine hK.out _ _ ⟨(blk_cell BK228.out 0).trans rfl, (blk_cell BK228.out 1).trans rfl, (blk_cell BK228.out 2).trans rfl, (blk_cell BK228.out 3).trans rfl, (blk_cell BK228.out 4).trans rfl, (blk_cell BK228.out 5).trans rfl, (blk_cell BK228.out 6).trans rfl, (blk_cell BK228.out 7).trans rfl, (blk_cell BK228.out 8).trans rfl, (blk_cell BK228.out 9).trans rfl, (blk_cell BK204.out 0).trans rfl, (blk_cell BK204.out 1).trans rfl, (blk_cell BK204.out 2).trans rfl, (blk_cell BK204.out 3).trans rfl, (blk_cell BK204.out 4).trans rfl, (blk_cell BK204.out 5).trans rfl, (blk_cell BK204.out 6).trans rfl, (blk_cell BK204.out 7).trans rfl, (blk_cell BK204.out 8).trans rfl, (blk_cell BK204.out 9).trans rfl, (blk_cell BK260.out 0).trans rfl, (blk_cell BK260.out 1).trans rfl, (blk_cell BK260.out 2).trans rfl, (blk_cell BK260.out 3).trans rfl, (blk_cell BK260.out 4).trans rfl, (blk_cell BK260.out 5).trans rfl, (blk_cell BK260.out 6).trans rfl, (blk_cell BK260.out 7).trans rfl, (blk_cell BK260.out 8).trans rfl, (blk_cell BK260.out 9).trans rfl, (blk_cell BK282.out 0).trans rfl, (blk_cell BK282.out 1).trans rfl, (blk_cell BK282.out 2).trans rfl, (blk_cell BK282.out 3).trans rfl, (blk_cell BK282.out 4).trans rfl, (blk_cell BK282.out 5).trans rfl, (blk_cell BK282.out 6).trans rfl, (blk_cell BK282.out 7).trans rfl, (blk_cell BK282.out 8).trans rfl, (blk_cell BK282.out 9).trans rfl⟩ (fun hHeld => ?_)
               clear hK K
               refine norm_ (a' := ?_) ?_ ?_
               rotate_left
               · show Act.put _ (some 66) _ = _
                 simp only [Act.put, List.setIfInBounds_toArray, List.set_cons_zero, List.set_cons_succ, i64_w, i32_w]
                 rfl
               refine pure_ (i := 13) (N := some 67) (v := ?_) (a' := ?_) #[true, true, true, true, true, true, true, true, true, true, true, true, true, true, false, false] rfl rfl (any_of HT_.out (by kernel_rfl)) (fun _ _ _ h => h) (Or.inl ⟨by rfl, ?_⟩) ?_ ?_
               rotate_left
               · intro w'
                 go_simp
                 with_reducible rfl
               rotate_left
               · simp only [Act.put, List.setIfInBounds_toArray, List.set_cons_zero, List.set_cons_succ, i64_w, i32_w]
                 rfl
               refine pure_ (i := 14) (N := some 68) (v := ?_) (a' := ?_) #[true, true, true, true, true, true, true, true, true, true, true, true, true, true, true, false] rfl rfl (any_of HT_.out (by kernel_rfl)) (fun _ _ _ h => h) (Or.inl ⟨by rfl, ?_⟩) ?_ ?_
               rotate_left
               · intro w'
                 go_simp
                 with_reducible rfl
               rotate_left
               · simp only [Act.put, List.setIfInBounds_toArray, List.set_cons_zero, List.set_cons_succ, i64_w, i32_w]
                 rfl
               refine pure_ (i := 15) (N := some 4) (v := ?_) (a' := ?_) #[true, true, true, true, true, true, true, true, true, true, true, true, true, true, true, true] rfl rfl (any_of HT_.out (by kernel_rfl)) (fun _ _ _ h => h) (Or.inl ⟨by rfl, ?_⟩) ?_ ?_
               rotate_left
               · intro w'
                 go_simp
                 with_reducible rfl
               rotate_left
               · simp only [Act.put, List.setIfInBounds_toArray, List.set_cons_zero, List.set_cons_succ, i64_w, i32_w]
                 rfl
               refine done_ (done_of HT_.out (by kernel_rfl)) ?_
               try go_wp2
               go_ret
               exact ⟨by first | rfl | (simp [errW_none, errW_some] <;> rfl) | (simp [*, errW_none, errW_some] <;> rfl), by repeat (first | (with_reducible first | exact HB.out | apply below_alloc | apply pw_below_drewN | apply below_drew1 | refine below_set ?_ GE204.out | refine below_set ?_ GE228.out | refine below_set ?_ GE260.out | refine below_set ?_ GE282.out) | exact HB.out)⟩
             · rw [if_neg c71] at H
               have c71b0 : (t259 == 0) = false := beq_eq_false_iff_ne.mpr c71
               have c71b1 : (t259 != 0) = true := bne_iff_ne.mpr c71
               obtain rfl := Option.some.inj H
               try go_wp2
               have n0_ := Aside0.mk (Kd.R_drew HO_6.out)
               have n1_ := Aside0.mk (Kd.N_drew HO_229003.out)
               have n2_ := Aside0.mk (Kd.V_drew HO_229006.out)
               have n3_ := Aside0.mk (Kd.V_drew HO_229007.out)
               have n4_ := Aside0.mk (Kd.V_drew HO_229008.out)
               have n5_ := Aside0.mk (Kd.V_drew HO_229009.out)
               have n6_ := Aside0.mk (Kd.N_drew HO_261003.out)
               have n7_ := Aside0.mk (Kd.R_drew HO_261006.out)
               have n8_ := Aside0.mk (Kd.R_drew HO_261007.out)
               have n9_ := Aside0.mk (Kd.R_drew HO_261008.out)
               have n10_ := Aside0.mk (Kd.R_drew HO_261009.out)
               have n11_ := Aside0.mk (Kd.N_drew HO_283003.out)
               have n12_ := Aside0.mk (Kd.R_drew HO_283006.out)
               have n13_ := Aside0.mk (Kd.R_drew HO_283007.out)
               have n14_ := Aside0.mk (Kd.R_drew HO_283008.out)
               have n15_ := Aside0.mk (Kd.R_drew HO_283009.out)
               have n16_ := Aside0.mk (blk_drew BK204.out)
               have n17_ := Aside0.mk (blk_drew BK228.out)
               have n18_ := Aside0.mk (blk_drew BK260.out)
               have n19_ := Aside0.mk (blk_drew BK282.out)
               have n20_ := Aside0.mk (below_drew1 HB.out)
               clear HO_6
               clear HO_229003
               clear HO_229006
               clear HO_229007
               clear HO_229008
               clear HO_229009
               clear HO_261003
               clear HO_261006
               clear HO_261007
               clear HO_261008
               clear HO_261009
               clear HO_283003
               clear HO_283006
               clear HO_283007
               clear HO_283008
               clear HO_283009
               clear BK204
               clear BK228
               clear BK260
               clear BK282
               clear HB
               have HO_6 := n0_
               have HO_229003 := n1_
               have HO_229006 := n2_
               have HO_229007 := n3_
               have HO_229008 := n4_
               have HO_229009 := n5_
               have HO_261003 := n6_
               have HO_261006 := n7_
               have HO_261007 := n8_
               have HO_261008 := n9_
               have HO_261009 := n10_
               have HO_283003 := n11_
               have HO_283006 := n12_
               have HO_283007 := n13_
               have HO_283008 := n14_
               have HO_283009 := n15_
               have BK204 := n16_
               have BK228 := n17_
               have BK260 := n18_
               have BK282 := n19_
               have HB := n20_
               clear n0_ n1_ n2_ n3_ n4_ n5_ n6_ n7_ n8_ n9_ n10_ n11_ n12_ n13_ n14_ n15_ n16_ n17_ n18_ n19_ n20_
               refine start_ (n := 16) (S := fun w' => w'.cell? ⟨gb228, 0, none⟩ = some (.int .u16 t208) ∧ w'.cell? ⟨gb228, 1, none⟩ = some (.int .u8 t209) ∧ w'.cell? ⟨gb228, 2, none⟩ = some (.int .u8 t210) ∧ w'.cell? ⟨gb228, 3, none⟩ = some (.slice Ao29 t211.length co29) ∧ w'.cell? ⟨gb228, 4, none⟩ = some (.int .u16 t214) ∧ w'.cell? ⟨gb228, 5, none⟩ = some (.int .u32 t215) ∧ w'.cell? ⟨gb228, 6, none⟩ = some (.slice Ao30 t216.length co30) ∧ w'.cell? ⟨gb228, 7, none⟩ = some (.slice Ao31 t219.length co31) ∧ w'.cell? ⟨gb228, 8, none⟩ = some (.slice Ao32 t222.length co32) ∧ w'.cell? ⟨gb228, 9, none⟩ = some (.slice Ao33 t225.length co33) ∧ w'.cell? ⟨gb204, 0, none⟩ = some (.int .u16 a0_0) ∧ w'.cell? ⟨gb204, 1, none⟩ = some (.int .u8 a0_1) ∧ w'.cell? ⟨gb204, 2, none⟩ = some (.int .u8 a0_2) ∧ w'.cell? ⟨gb204, 3, none⟩ = some (.slice A0_3 l0_3.length c0_3) ∧ w'.cell? ⟨gb204, 4, none⟩ = some (.int .u16 a0_4) ∧ w'.cell? ⟨gb204, 5, none⟩ = some (.int .u32 a0_5) ∧ w'.cell? ⟨gb204, 6, none⟩ = some (.slice A0_6 l0_6.length c0_6) ∧ w'.cell? ⟨gb204, 7, none⟩ = some (.slice A0_7 l0_7.length c0_7) ∧ w'.cell? ⟨gb204, 8, none⟩ = some (.slice A0_8 l0_8.length c0_8) ∧ w'.cell? ⟨gb204, 9, none⟩ = some (.slice A0_9 l0_9.length c0_9)) (ds := []) #[false, false, false, false, false, false, false, false, false, false, false, false, false, false, false, false] (by kernel_rfl) rfl rfl ⟨(blk_cell BK228.out 0).trans rfl, (blk_cell BK228.out 1).trans rfl, (blk_cell BK228.out 2).trans rfl, (blk_cell BK228.out 3).trans rfl, (blk_cell BK228.out 4).trans rfl, (blk_cell BK228.out 5).trans rfl, (blk_cell BK228.out 6).trans rfl, (blk_cell BK228.out 7).trans rfl, (blk_cell BK228.out 8).trans rfl, (blk_cell BK228.out 9).trans rfl, (blk_cell BK204.out 0).trans rfl, (blk_cell BK204.out 1).trans rfl, (blk_cell BK204.out 2).trans rfl, (blk_cell BK204.out 3).trans rfl, (blk_cell BK204.out 4).trans rfl, (blk_cell BK204.out 5).trans rfl, (blk_cell BK204.out 6).trans rfl, (blk_cell BK204.out 7).trans rfl, (blk_cell BK204.out 8).trans rfl, (blk_cell BK204.out 9).trans rfl⟩ (fun hHeld => ?_); refine with_tabW marlinelaw17_PapKeeps.tab13 marlinelaw17_PapKeeps.bits13 (fun HT_ HW_ => ?_)
               generalize wr.drew = w96 at HO_6 HO_229003 HO_229006 HO_229007 HO_229008 HO_229009 HO_261003 HO_261006 HO_261007 HO_261008 HO_261009 HO_283003 HO_283006 HO_283007 HO_283008 HO_283009 BK204 BK228 BK260 BK282 HB hHeld ⊢
               refine take_ (i := 0) (N := some 54) (v := ?_) (a' := ?_) #[true, false, false, false, false, false, false, false, false, false, false, false, false, false, false, false] rfl rfl (take_ofW HT_.out HW_.out (by kernel_rfl)) (fun _ _ _ h => h) (Or.inl ⟨by rfl, ?_⟩) hHeld ?_ ?_
               rotate_left
               · rintro w' ⟨s0, s1, s2, s3, s4, s5, s6, s7, s8, s9, s10, s11, s12, s13, s14, s15, s16, s17, s18, s19⟩
                 go_simp
                 with_reducible rfl
               rotate_left
               · simp only [Act.put, List.setIfInBounds_toArray, List.set_cons_zero, List.set_cons_succ, i64_w, i32_w]
                 rfl
               refine take_ (i := 2) (N := some 56) (v := ?_) (a' := ?_) #[true, false, true, false, false, false, false, false, false, false, false, false, false, false, false, false] rfl rfl (take_ofW HT_.out HW_.out (by kernel_rfl)) (fun _ _ _ h => h) (Or.inl ⟨by rfl, ?_⟩) hHeld ?_ ?_
               rotate_left
               · rintro w' ⟨s0, s1, s2, s3, s4, s5, s6, s7, s8, s9, s10, s11, s12, s13, s14, s15, s16, s17, s18, s19⟩
                 go_simp
                 with_reducible rfl
               rotate_left
               · simp only [Act.put, List.setIfInBounds_toArray, List.set_cons_zero, List.set_cons_succ, i64_w, i32_w]
                 rfl
               refine one_ (i := 1) (N := some 55) #[true, true, true, false, false, false, false, false, false, false, false, false, false, false, false, false] rfl rfl (one_of HT_.out (by kernel_rfl)) (by decide) (fun K hK => ?_)
               refine goes_ Try.func36 (by kernel_rfl) rfl #[.agg #[.int .u16 t208, .int .u8 t209, .int .u8 t210, .slice Ao29 t211.length co29, .int .u16 t214, .int .u32 t215, .slice Ao30 t216.length co30, .slice Ao31 t219.length co31, .slice Ao32 t222.length co32, .slice Ao33 t225.length co33]] (by rfl) rfl rfl (by (try simp only [List.map_toArray, List.map_cons, List.map_nil]); first | done | rfl | (simp only [List.length_drop, List.length_take]; rfl)) ?_
               with_reducible refine (marlinelaw15_To.calls k2 t208 t209 t210 (fun k_ => (some k_ ≠ (.slice Ao39 x6_2.length co39 : Value).ownBlock ∧ (some k_ ≠ (.slice Ao45 t242.length co45 : Value).ownBlock ∧ (some k_ ≠ (.slice Ao46 t247.length co46 : Value).ownBlock ∧ (some k_ ≠ (.slice Ao47 t250.length co47 : Value).ownBlock ∧ (some k_ ≠ (.slice Ao48 t253.length co48 : Value).ownBlock ∧ (some k_ ≠ (.slice Ao49 t256.length co49 : Value).ownBlock ∧ (some k_ ≠ (.slice Ao57 t264.length co57 : Value).ownBlock ∧ (some k_ ≠ (.slice Ao58 t269.length co58 : Value).ownBlock ∧ (some k_ ≠ (.slice Ao59 t272.length co59 : Value).ownBlock ∧ (some k_ ≠ (.slice Ao60 t275.length co60 : Value).ownBlock ∧ (some k_ ≠ (.slice Ao61 t278.length co61 : Value).ownBlock ∧ (k_ ≠ gb204 ∧ (k_ ≠ gb228 ∧ (k_ ≠ gb260 ∧ k_ ≠ gb282))))))))))))))) _ _ t211 t214 t215 (fun k_ => (some k_ ≠ (.slice Ao39 x6_2.length co39 : Value).ownBlock ∧ (some k_ ≠ (.slice Ao29 t211.length co29 : Value).ownBlock ∧ (some k_ ≠ (.slice Ao45 t242.length co45 : Value).ownBlock ∧ (some k_ ≠ (.slice Ao46 t247.length co46 : Value).ownBlock ∧ (some k_ ≠ (.slice Ao47 t250.length co47 : Value).ownBlock ∧ (some k_ ≠ (.slice Ao48 t253.length co48 : Value).ownBlock ∧ (some k_ ≠ (.slice Ao49 t256.length co49 : Value).ownBlock ∧ (some k_ ≠ (.slice Ao57 t264.length co57 : Value).ownBlock ∧ (some k_ ≠ (.slice Ao58 t269.length co58 : Value).ownBlock ∧ (some k_ ≠ (.slice Ao59 t272.length co59 : Value).ownBlock ∧ (some k_ ≠ (.slice Ao60 t275.length co60 : Value).ownBlock ∧ (some k_ ≠ (.slice Ao61 t278.length co61 : Value).ownBlock ∧ (k_ ≠ gb204 ∧ (k_ ≠ gb228 ∧ (k_ ≠ gb260 ∧ k_ ≠ gb282)))))))))))))))) _ _ t216 (fun k_ => (some k_ ≠ (.slice Ao39 x6_2.length co39 : Value).ownBlock ∧ (some k_ ≠ (.slice Ao29 t211.length co29 : Value).ownBlock ∧ (some k_ ≠ (.slice Ao45 t242.length co45 : Value).ownBlock ∧ (some k_ ≠ (.slice Ao46 t247.length co46 : Value).ownBlock ∧ (some k_ ≠ (.slice Ao47 t250.length co47 : Value).ownBlock ∧ (some k_ ≠ (.slice Ao48 t253.length co48 : Value).ownBlock ∧ (some k_ ≠ (.slice Ao49 t256.length co49 : Value).ownBlock ∧ (some k_ ≠ (.slice Ao57 t264.length co57 : Value).ownBlock ∧ (some k_ ≠ (.slice Ao58 t269.length co58 : Value).ownBlock ∧ (some k_ ≠ (.slice Ao59 t272.length co59 : Value).ownBlock ∧ (some k_ ≠ (.slice Ao60 t275.length co60 : Value).ownBlock ∧ (some k_ ≠ (.slice Ao61 t278.length co61 : Value).ownBlock ∧ (k_ ≠ gb204 ∧ (k_ ≠ gb228 ∧ (k_ ≠ gb260 ∧ k_ ≠ gb282)))))))))))))))) _ _ t219 (fun k_ => (some k_ ≠ (.slice Ao39 x6_2.length co39 : Value).ownBlock ∧ (some k_ ≠ (.slice Ao29 t211.length co29 : Value).ownBlock ∧ (some k_ ≠ (.slice Ao45 t242.length co45 : Value).ownBlock ∧ (some k_ ≠ (.slice Ao46 t247.length co46 : Value).ownBlock ∧ (some k_ ≠ (.slice Ao47 t250.length co47 : Value).ownBlock ∧ (some k_ ≠ (.slice Ao48 t253.length co48 : Value).ownBlock ∧ (some k_ ≠ (.slice Ao49 t256.length co49 : Value).ownBlock ∧ (some k_ ≠ (.slice Ao57 t264.length co57 : Value).ownBlock ∧ (some k_ ≠ (.slice Ao58 t269.length co58 : Value).ownBlock ∧ (some k_ ≠ (.slice Ao59 t272.length co59 : Value).ownBlock ∧ (some k_ ≠ (.slice Ao60 t275.length co60 : Value).ownBlock ∧ (some k_ ≠ (.slice Ao61 t278.length co61 : Value).ownBlock ∧ (k_ ≠ gb204 ∧ (k_ ≠ gb228 ∧ (k_ ≠ gb260 ∧ k_ ≠ gb282)))))))))))))))) _ _ t222 (fun k_ => (some k_ ≠ (.slice Ao39 x6_2.length co39 : Value).ownBlock ∧ (some k_ ≠ (.slice Ao29 t211.length co29 : Value).ownBlock ∧ (some k_ ≠ (.slice Ao45 t242.length co45 : Value).ownBlock ∧ (some k_ ≠ (.slice Ao46 t247.length co46 : Value).ownBlock ∧ (some k_ ≠ (.slice Ao47 t250.length co47 : Value).ownBlock ∧ (some k_ ≠ (.slice Ao48 t253.length co48 : Value).ownBlock ∧ (some k_ ≠ (.slice Ao49 t256.length co49 : Value).ownBlock ∧ (some k_ ≠ (.slice Ao57 t264.length co57 : Value).ownBlock ∧ (some k_ ≠ (.slice Ao58 t269.length co58 : Value).ownBlock ∧ (some k_ ≠ (.slice Ao59 t272.length co59 : Value).ownBlock ∧ (some k_ ≠ (.slice Ao60 t275.length co60 : Value).ownBlock ∧ (some k_ ≠ (.slice Ao61 t278.length co61 : Value).ownBlock ∧ (k_ ≠ gb204 ∧ (k_ ≠ gb228 ∧ (k_ ≠ gb260 ∧ k_ ≠ gb282)))))))))))))))) _ _ t225 t285 t286 t287 t288 t291 t292 t293 t296 t299 t302 _ ?side1 ?side2 ?side3 ?side4 ?side5 A68.out).mono ?_
               (case side1 => exact Kd.N_V (HO_229003.out))
               (case side2 => exact HO_229006.out)
               (case side3 => exact HO_229007.out)
               (case side4 => exact HO_229008.out)
               (case side5 => exact HO_229009.out)
               rintro e w97 ⟨v289, v294, v297, v300, v303, rfl, ho0, ho1, ho2, ho3, ho4, hb⟩
               refine ⟨_, rfl, ?_⟩
               have n0_ := Aside0.mk (Kd.R_below HO_6.out hb)
               have n1_ := Aside0.mk (Kd.N_elder' HO_229003.out (Kd.N_base ho0) hb)
               have n2_ := Aside0.mk (Kd.V_elder' HO_229006.out (Kd.N_base ho0) hb)
               have n3_ := Aside0.mk (Kd.V_elder' HO_229007.out (Kd.N_base ho0) hb)
               have n4_ := Aside0.mk (Kd.V_elder' HO_229008.out (Kd.N_base ho0) hb)
               have n5_ := Aside0.mk (Kd.V_elder' HO_229009.out (Kd.N_base ho0) hb)
               have n6_ := Aside0.mk (Kd.N_elder' HO_261003.out (Kd.N_base ho0) hb)
               have n7_ := Aside0.mk (Kd.R_below HO_261006.out hb)
               have n8_ := Aside0.mk (Kd.R_below HO_261007.out hb)
               have n9_ := Aside0.mk (Kd.R_below HO_261008.out hb)
               have n10_ := Aside0.mk (Kd.R_below HO_261009.out hb)
               have n11_ := Aside0.mk (Kd.N_elder' HO_283003.out (Kd.N_base ho0) hb)
               have n12_ := Aside0.mk (Kd.R_below HO_283006.out hb)
               have n13_ := Aside0.mk (Kd.R_below HO_283007.out hb)
               have n14_ := Aside0.mk (Kd.R_below HO_283008.out hb)
               have n15_ := Aside0.mk (Kd.R_below HO_283009.out hb)
               have Z_ := marlinelaw17_PapKeeps.okN (C := fun k_ => some k_ ≠ (.slice Ao39 x6_2.length co39 : Value).ownBlock ∧ some k_ ≠ (.slice Ao45 t242.length co45 : Value).ownBlock ∧ some k_ ≠ (.slice Ao46 t247.length co46 : Value).ownBlock ∧ some k_ ≠ (.slice Ao47 t250.length co47 : Value).ownBlock ∧ some k_ ≠ (.slice Ao48 t253.length co48 : Value).ownBlock ∧ some k_ ≠ (.slice Ao49 t256.length co49 : Value).ownBlock ∧ some k_ ≠ (.slice Ao57 t264.length co57 : Value).ownBlock ∧ some k_ ≠ (.slice Ao58 t269.length co58 : Value).ownBlock ∧ some k_ ≠ (.slice Ao59 t272.length co59 : Value).ownBlock ∧ some k_ ≠ (.slice Ao60 t275.length co60 : Value).ownBlock ∧ some k_ ≠ (.slice Ao61 t278.length co61 : Value).ownBlock) ho0 (fun k_ hk_ => Or.elim hk_ (fun hs_ => Or.elim hs_ (fun hs_ => ⟨hs_.1, hs_.2.1, hs_.2.2.1, hs_.2.2.2.1, hs_.2.2.2.2.1, hs_.2.2.2.2.2.1, hs_.2.2.2.2.2.2.1, hs_.2.2.2.2.2.2.2.1, hs_.2.2.2.2.2.2.2.2.1, hs_.2.2.2.2.2.2.2.2.2.1, hs_.2.2.2.2.2.2.2.2.2.2.1⟩) (fun hs_ => Or.elim hs_ (fun hs_ => ⟨hs_.1, hs_.2.2.1, hs_.2.2.2.1, hs_.2.2.2.2.1, hs_.2.2.2.2.2.1, hs_.2.2.2.2.2.2.1, hs_.2.2.2.2.2.2.2.1, hs_.2.2.2.2.2.2.2.2.1, hs_.2.2.2.2.2.2.2.2.2.1, hs_.2.2.2.2.2.2.2.2.2.2.1, hs_.2.2.2.2.2.2.2.2.2.2.2.1⟩) (fun hs_ => Or.elim hs_ (fun hs_ => ⟨hs_.1, hs_.2.2.1, hs_.2.2.2.1, hs_.2.2.2.2.1, hs_.2.2.2.2.2.1, hs_.2.2.2.2.2.2.1, hs_.2.2.2.2.2.2.2.1, hs_.2.2.2.2.2.2.2.2.1, hs_.2.2.2.2.2.2.2.2.2.1, hs_.2.2.2.2.2.2.2.2.2.2.1, hs_.2.2.2.2.2.2.2.2.2.2.2.1⟩) (fun hs_ => Or.elim hs_ (fun hs_ => ⟨hs_.1, hs_.2.2.1, hs_.2.2.2.1, hs_.2.2.2.2.1, hs_.2.2.2.2.2.1, hs_.2.2.2.2.2.2.1, hs_.2.2.2.2.2.2.2.1, hs_.2.2.2.2.2.2.2.2.1, hs_.2.2.2.2.2.2.2.2.2.1, hs_.2.2.2.2.2.2.2.2.2.2.1, hs_.2.2.2.2.2.2.2.2.2.2.2.1⟩) (fun hs_ => ⟨hs_.1, hs_.2.2.1, hs_.2.2.2.1, hs_.2.2.2.2.1, hs_.2.2.2.2.2.1, hs_.2.2.2.2.2.2.1, hs_.2.2.2.2.2.2.2.1, hs_.2.2.2.2.2.2.2.2.1, hs_.2.2.2.2.2.2.2.2.2.1, hs_.2.2.2.2.2.2.2.2.2.2.1, hs_.2.2.2.2.2.2.2.2.2.2.2.1⟩))))) (fun hn_ => ⟨(Kd.fresh' (Kd.R_lt HO_6.out) k_ hn_), (Kd.fresh' (Kd.N_lt HO_261003.out) k_ hn_), (Kd.fresh' (Kd.R_lt HO_261006.out) k_ hn_), (Kd.fresh' (Kd.R_lt HO_261007.out) k_ hn_), (Kd.fresh' (Kd.R_lt HO_261008.out) k_ hn_), (Kd.fresh' (Kd.R_lt HO_261009.out) k_ hn_), (Kd.fresh' (Kd.N_lt HO_283003.out) k_ hn_), (Kd.fresh' (Kd.R_lt HO_283006.out) k_ hn_), (Kd.fresh' (Kd.R_lt HO_283007.out) k_ hn_), (Kd.fresh' (Kd.R_lt HO_283008.out) k_ hn_), (Kd.fresh' (Kd.R_lt HO_283009.out) k_ hn_)⟩))
               have n16_ := Aside0.mk (Kd.N_lower (Kd.N_mono ho0 Z_) (below_size HB.out))
               have n17_ := Aside0.mk (Kd.V_lower (marlinelaw17_PapKeeps.okV ho1 Z_) (below_size HB.out))
               have n18_ := Aside0.mk (Kd.V_lower (marlinelaw17_PapKeeps.okV ho2 Z_) (below_size HB.out))
               have n19_ := Aside0.mk (Kd.V_lower (marlinelaw17_PapKeeps.okV ho3 Z_) (below_size HB.out))
               have n20_ := Aside0.mk (Kd.V_lower (marlinelaw17_PapKeeps.okV ho4 Z_) (below_size HB.out))
               clear Z_
               have n21_ := Aside0.mk (blk_below BK204.out hb)
               have n22_ := Aside0.mk (blk_below BK228.out hb)
               have n23_ := Aside0.mk (blk_below BK260.out hb)
               have n24_ := Aside0.mk (blk_below BK282.out hb)
               have n25_ := Aside0.mk (below_step HB.out hb)
               clear HO_6
               clear HO_229003
               clear HO_229006
               clear HO_229007
               clear HO_229008
               clear HO_229009
               clear HO_261003
               clear HO_261006
               clear HO_261007
               clear HO_261008
               clear HO_261009
               clear HO_283003
               clear HO_283006
               clear HO_283007
               clear HO_283008
               clear HO_283009
               clear BK204
               clear BK228
               clear BK260
               clear BK282
               clear HB
               have HO_6 := n0_
               have HO_229003 := n1_
               have HO_229006 := n2_
               have HO_229007 := n3_
               have HO_229008 := n4_
               have HO_229009 := n5_
               have HO_261003 := n6_
               have HO_261006 := n7_
               have HO_261007 := n8_
               have HO_261008 := n9_
               have HO_261009 := n10_
               have HO_283003 := n11_
               have HO_283006 := n12_
               have HO_283007 := n13_
               have HO_283008 := n14_
               have HO_283009 := n15_
               have HO290 := n16_
               have HO295 := n17_
               have HO298 := n18_
               have HO301 := n19_
               have HO304 := n20_
               have BK204 := n21_
               have BK228 := n22_
               have BK260 := n23_
               have BK282 := n24_
               have HB := n25_
               clear n0_ n1_ n2_ n3_ n4_ n5_ n6_ n7_ n8_ n9_ n10_ n11_ n12_ n13_ n14_ n15_ n16_ n17_ n18_ n19_ n20_ n21_ n22_ n23_ n24_ n25_
               (try clear hb)
               (try clear hb2)
               (try clear hk)
               (try clear hi)
               (try clear ho0)
               (try clear ho1)
               (try clear ho2)
               (try clear ho3)
               (try clear ho4)
               obtain ⟨Ao98, co98, eo98⟩ := Kd.N_slice HO290.out
               (first | subst eo98 | (injection eo98 with f1_ f2_ f3_; have f4_ := f1_.symm; have f5_ := f3_.symm; clear f1_ f2_ f3_; subst f4_; subst f5_))
               obtain ⟨Ao99, co99, eo99⟩ := Kd.V_slice HO295.out
               (first | subst eo99 | (injection eo99 with f1_ f2_ f3_; have f4_ := f1_.symm; have f5_ := f3_.symm; clear f1_ f2_ f3_; subst f4_; subst f5_))
               obtain ⟨Ao100, co100, eo100⟩ := Kd.V_slice HO298.out
               (first | subst eo100 | (injection eo100 with f1_ f2_ f3_; have f4_ := f1_.symm; have f5_ := f3_.symm; clear f1_ f2_ f3_; subst f4_; subst f5_))
               obtain ⟨Ao101, co101, eo101⟩ := Kd.V_slice HO301.out
               (first | subst eo101 | (injection eo101 with f1_ f2_ f3_; have f4_ := f1_.symm; have f5_ := f3_.symm; clear f1_ f2_ f3_; subst f4_; subst f5_))
               obtain ⟨Ao102, co102, eo102⟩ := Kd.V_slice HO304.out
               (first | subst eo102 | (injection eo102 with f1_ f2_ f3_; have f4_ := f1_.symm; have f5_ := f3_.symm; clear f1_ f2_ f3_; subst f4_; subst f5_))
               refine hK.out _ _ ⟨(blk_cell BK228.out 0).trans rfl, (blk_cell BK228.out 1).trans rfl, (blk_cell BK228.out 2).trans rfl, (blk_cell BK228.out 3).trans rfl, (blk_cell BK228.out 4).trans rfl, (blk_cell BK228.out 5).trans rfl, (blk_cell BK228.out 6).trans rfl, (blk_cell BK228.out 7).trans rfl, (blk_cell BK228.out 8).trans rfl, (blk_cell BK228.out 9).trans rfl, (blk_cell BK204.out 0).trans rfl, (blk_cell BK204.out 1).trans rfl, (blk_cell BK204.out 2).trans rfl, (blk_cell BK204.out 3).trans rfl, (blk_cell BK204.out 4).trans rfl, (blk_cell BK204.out 5).trans rfl, (blk_cell BK204.out 6).trans rfl, (blk_cell BK204.out 7).trans rfl, (blk_cell BK204.out 8).trans rfl, (blk_cell BK204.out 9).trans rfl⟩ (fun hHeld => ?_)
               clear hK K
               refine norm_ (a' := ?_) ?_ ?_
               rotate_left
               · show Act.put _ (some 55) _ = _
                 simp only [Act.put, List.setIfInBounds_toArray, List.set_cons_zero, List.set_cons_succ, i64_w, i32_w]
                 rfl
               refine one_ (i := 3) (N := some 57) #[true, true, true, true, false, false, false, false, false, false, false, false, false, false, false, false] rfl rfl (one_of HT_.out (by kernel_rfl)) (by decide) (fun K hK => ?_)
               refine goes_ Try.func35 (by kernel_rfl) rfl #[.agg #[.int .u16 t285, .int .u8 t286, .int .u8 t287, .slice Ao98 t288.length co98, .int .u16 t291, .int .u32 t292, .slice Ao99 t293.length co99, .slice Ao100 t296.length co100, .slice Ao101 t299.length co101, .slice Ao102 t302.length co102], .agg #[.int .u16 a0_0, .int .u8 a0_1, .int .u8 a0_2, .slice A0_3 l0_3.length c0_3, .int .u16 a0_4, .int .u32 a0_5, .slice A0_6 l0_6.length c0_6, .slice A0_7 l0_7.length c0_7, .slice A0_8 l0_8.length c0_8, .slice A0_9 l0_9.length c0_9]] (by rfl) rfl rfl (by (try simp only [List.map_toArray, List.map_cons, List.map_nil]); first | done | rfl | (simp only [List.length_drop, List.length_take]; rfl)) ?_
               with_reducible refine (marlineref15_Same.calls k2 t285 t286 t287 _ _ t288 t291 t292 _ _ t293 _ _ t296 _ _ t299 _ _ t302 a0_0 a0_1 a0_2 _ _ l0_3 a0_4 a0_5 _ _ l0_6 _ _ l0_7 _ _ l0_8 _ _ l0_9 true _ ?side1 ?side2 ?side3 ?side4 ?side5 ?side6 ?side7 ?side8 ?side9 ?side10 ?side11 ?side12 ?side13 ?side14 ?side15 ?side16 ?side17 ?side18 ?side19 ?side20 A69.out).mono ?_
               (case side1 => repeat (first | exact (Kd.N_reads' HO290.out).2.2 | (with_reducible refine Kd.C_alloc ?_ _) | (with_reducible refine Kd.C_drewN ?_ _) | (with_reducible refine Kd.C_drew ?_)))
               (case side2 => exact (Kd.N_reads' HO290.out).2.1)
               (case side3 => repeat (first | exact (Kd.V_reads' HO295.out).2.2 | (with_reducible refine Kd.C_alloc ?_ _) | (with_reducible refine Kd.C_drewN ?_ _) | (with_reducible refine Kd.C_drew ?_)))
               (case side4 => exact (Kd.V_reads' HO295.out).2.1)
               (case side5 => repeat (first | exact (Kd.V_reads' HO298.out).2.2 | (with_reducible refine Kd.C_alloc ?_ _) | (with_reducible refine Kd.C_drewN ?_ _) | (with_reducible refine Kd.C_drew ?_)))
               (case side6 => exact (Kd.V_reads' HO298.out).2.1)
               (case side7 => repeat (first | exact (Kd.V_reads' HO301.out).2.2 | (with_reducible refine Kd.C_alloc ?_ _) | (with_reducible refine Kd.C_drewN ?_ _) | (with_reducible refine Kd.C_drew ?_)))
               (case side8 => exact (Kd.V_reads' HO301.out).2.1)
               (case side9 => repeat (first | exact (Kd.V_reads' HO304.out).2.2 | (with_reducible refine Kd.C_alloc ?_ _) | (with_reducible refine Kd.C_drewN ?_ _) | (with_reducible refine Kd.C_drew ?_)))
               (case side10 => exact (Kd.V_reads' HO304.out).2.1)
               (case side11 => repeat (first | exact (Kd.C_below HR0_3.out HB.out) | (with_reducible refine Kd.C_alloc ?_ _) | (with_reducible refine Kd.C_drewN ?_ _) | (with_reducible refine Kd.C_drew ?_)))
               (case side12 => exact HC0_3.out)
               (case side13 => repeat (first | exact (Kd.C_below HR0_6.out HB.out) | (with_reducible refine Kd.C_alloc ?_ _) | (with_reducible refine Kd.C_drewN ?_ _) | (with_reducible refine Kd.C_drew ?_)))
               (case side14 => exact HC0_6.out)
               (case side15 => repeat (first | exact (Kd.C_below HR0_7.out HB.out) | (with_reducible refine Kd.C_alloc ?_ _) | (with_reducible refine Kd.C_drewN ?_ _) | (with_reducible refine Kd.C_drew ?_)))
               (case side16 => exact HC0_7.out)
               (case side17 => repeat (first | exact (Kd.C_below HR0_8.out HB.out) | (with_reducible refine Kd.C_alloc ?_ _) | (with_reducible refine Kd.C_drewN ?_ _) | (with_reducible refine Kd.C_drew ?_)))
               (case side18 => exact HC0_8.out)
               (case side19 => repeat (first | exact (Kd.C_below HR0_9.out HB.out) | (with_reducible refine Kd.C_alloc ?_ _) | (with_reducible refine Kd.C_drewN ?_ _) | (with_reducible refine Kd.C_drew ?_)))
               (case side20 => exact HC0_9.out)
               rintro e w103 ⟨rfl, hb⟩
               refine ⟨_, rfl, ?_⟩
               have n0_ := Aside0.mk (Kd.R_below HO_6.out hb)
               have n1_ := Aside0.mk (Kd.N_below HO_229003.out hb)
               have n2_ := Aside0.mk (Kd.V_below HO_229006.out hb)
               have n3_ := Aside0.mk (Kd.V_below HO_229007.out hb)
               have n4_ := Aside0.mk (Kd.V_below HO_229008.out hb)
               have n5_ := Aside0.mk (Kd.V_below HO_229009.out hb)
               have n6_ := Aside0.mk (Kd.N_below HO_261003.out hb)
               have n7_ := Aside0.mk (Kd.R_below HO_261006.out hb)
               have n8_ := Aside0.mk (Kd.R_below HO_261007.out hb)
               have n9_ := Aside0.mk (Kd.R_below HO_261008.out hb)
               have n10_ := Aside0.mk (Kd.R_below HO_261009.out hb)
               have n11_ := Aside0.mk (Kd.N_below HO_283003.out hb)
               have n12_ := Aside0.mk (Kd.R_below HO_283006.out hb)
               have n13_ := Aside0.mk (Kd.R_below HO_283007.out hb)
               have n14_ := Aside0.mk (Kd.R_below HO_283008.out hb)
               have n15_ := Aside0.mk (Kd.R_below HO_283009.out hb)
               have n16_ := Aside0.mk (Kd.N_below HO290.out hb)
               have n17_ := Aside0.mk (Kd.V_below HO295.out hb)
               have n18_ := Aside0.mk (Kd.V_below HO298.out hb)
               have n19_ := Aside0.mk (Kd.V_below HO301.out hb)
               have n20_ := Aside0.mk (Kd.V_below HO304.out hb)
               have n21_ := Aside0.mk (blk_below BK204.out hb)
               have n22_ := Aside0.mk (blk_below BK228.out hb)
               have n23_ := Aside0.mk (blk_below BK260.out hb)
               have n24_ := Aside0.mk (blk_below BK282.out hb)
               have n25_ := Aside0.mk (below_step HB.out hb)
               clear HO_6
               clear HO_229003
               clear HO_229006
               clear HO_229007
               clear HO_229008
               clear HO_229009
               clear HO_261003
               clear HO_261006
               clear HO_261007
               clear HO_261008
               clear HO_261009
               clear HO_283003
               clear HO_283006
               clear HO_283007
               clear HO_283008
               clear HO_283009
               clear HO290
               clear HO295
               clear HO298
               clear HO301
               clear HO304
               clear BK204
               clear BK228
               clear BK260
               clear BK282
               clear HB
               have HO_6 := n0_
               have HO_229003 := n1_
               have HO_229006 := n2_
               have HO_229007 := n3_
               have HO_229008 := n4_
               have HO_229009 := n5_
               have HO_261003 := n6_
               have HO_261006 := n7_
               have HO_261007 := n8_
               have HO_261008 := n9_
               have HO_261009 := n10_
               have HO_283003 := n11_
               have HO_283006 := n12_
               have HO_283007 := n13_
               have HO_283008 := n14_
               have HO_283009 := n15_
               have HO290 := n16_
               have HO295 := n17_
               have HO298 := n18_
               have HO301 := n19_
               have HO304 := n20_
               have BK204 := n21_
               have BK228 := n22_
               have BK260 := n23_
               have BK282 := n24_
               have HB := n25_
               clear n0_ n1_ n2_ n3_ n4_ n5_ n6_ n7_ n8_ n9_ n10_ n11_ n12_ n13_ n14_ n15_ n16_ n17_ n18_ n19_ n20_ n21_ n22_ n23_ n24_ n25_
               (try clear hb)
               (try clear hb2)
               (try clear hk)
               (try clear hi)
               refine hK.out _ _ ⟨(blk_cell BK228.out 0).trans rfl, (blk_cell BK228.out 1).trans rfl, (blk_cell BK228.out 2).trans rfl, (blk_cell BK228.out 3).trans rfl, (blk_cell BK228.out 4).trans rfl, (blk_cell BK228.out 5).trans rfl, (blk_cell BK228.out 6).trans rfl, (blk_cell BK228.out 7).trans rfl, (blk_cell BK228.out 8).trans rfl, (blk_cell BK228.out 9).trans rfl, (blk_cell BK204.out 0).trans rfl, (blk_cell BK204.out 1).trans rfl, (blk_cell BK204.out 2).trans rfl, (blk_cell BK204.out 3).trans rfl, (blk_cell BK204.out 4).trans rfl, (blk_cell BK204.out 5).trans rfl, (blk_cell BK204.out 6).trans rfl, (blk_cell BK204.out 7).trans rfl, (blk_cell BK204.out 8).trans rfl, (blk_cell BK204.out 9).trans rfl⟩ (fun hHeld => ?_)
               clear hK K
               refine norm_ (a' := ?_) ?_ ?_
               rotate_left
               · show Act.put _ (some 57) _ = _
                 simp only [Act.put, List.setIfInBounds_toArray, List.set_cons_zero, List.set_cons_succ, i64_w, i32_w]
                 rfl
               refine pure_ (i := 4) (N := some 58) (v := ?_) (a' := ?_) #[true, true, true, true, true, false, false, false, false, false, false, false, false, false, false, false] rfl rfl (any_of HT_.out (by kernel_rfl)) (fun _ _ _ h => h) (Or.inl ⟨by rfl, ?_⟩) ?_ ?_
               rotate_left
               · intro w'
                 go_simp
                 with_reducible rfl
               rotate_left
               · simp only [Act.put, List.setIfInBounds_toArray, List.set_cons_zero, List.set_cons_succ, i64_w, i32_w]
                 rfl
               refine pure_ (i := 5) (N := some 59) (v := ?_) (a' := ?_) #[true, true, true, true, true, true, false, false, false, false, false, false, false, false, false, false] rfl rfl (any_of HT_.out (by kernel_rfl)) (fun _ _ _ h => h) (Or.inl ⟨by rfl, ?_⟩) ?_ ?_
               rotate_left
               · intro w'
                 go_simp
                 with_reducible rfl
               rotate_left
               · simp only [Act.put, List.setIfInBounds_toArray, List.set_cons_zero, List.set_cons_succ, i64_w, i32_w]
                 rfl
               refine pure_ (i := 6) (N := some 60) (v := ?_) (a' := ?_) #[true, true, true, true, true, true, true, false, false, false, false, false, false, false, false, false] rfl rfl (any_of HT_.out (by kernel_rfl)) (fun _ _ _ h => h) (Or.inl ⟨by rfl, ?_⟩) ?_ ?_
               rotate_left
               · intro w'
                 go_simp
                 with_reducible rfl
               rotate_left
               · simp only [Act.put, List.setIfInBounds_toArray, List.set_cons_zero, List.set_cons_succ, i64_w, i32_w]
                 rfl
               refine pure_ (i := 7) (N := some 61) (v := ?_) (a' := ?_) #[true, true, true, true, true, true, true, true, false, false, false, false, false, false, false, false] rfl rfl (any_of HT_.out (by kernel_rfl)) (fun _ _ _ h => h) (Or.inl ⟨by rfl, ?_⟩) ?_ ?_
               rotate_left
               · intro w'
                 go_simp
                 with_reducible rfl
               rotate_left
               · simp only [Act.put, List.setIfInBounds_toArray, List.set_cons_zero, List.set_cons_succ, i64_w, i32_w]
                 rfl
               refine pure_ (i := 8) (N := some 62) (v := undef) (a' := ?_) #[true, true, true, true, true, true, true, true, true, false, false, false, false, false, false, false] rfl rfl (any_of HT_.out (by kernel_rfl)) (fun _ _ _ h => h) (Or.inr ⟨by rfl, rfl⟩) ?_ ?_
               rotate_left
               · simp only [Act.put, List.setIfInBounds_toArray, List.set_cons_zero, List.set_cons_succ, i64_w, i32_w]
                 rfl
               refine pure_ (i := 9) (N := some 63) (v := undef) (a' := ?_) #[true, true, true, true, true, true, true, true, true, true, false, false, false, false, false, false] rfl rfl (any_of HT_.out (by kernel_rfl)) (fun _ _ _ h => h) (Or.inr ⟨by rfl, rfl⟩) ?_ ?_
               rotate_left
               · simp only [Act.put, List.setIfInBounds_toArray, List.set_cons_zero, List.set_cons_succ, i64_w, i32_w]
                 rfl
               refine pure_ (i := 10) (N := some 64) (v := undef) (a' := ?_) #[true, true, true, true, true, true, true, true, true, true, true, false, false, false, false, false] rfl rfl (any_of HT_.out (by kernel_rfl)) (fun _ _ _ h => h) (Or.inr ⟨by rfl, rfl⟩) ?_ ?_
               rotate_left
               · simp only [Act.put, List.setIfInBounds_toArray, List.set_cons_zero, List.set_cons_succ, i64_w, i32_w]
                 rfl
               refine pure_ (i := 11) (N := some 65) (v := undef) (a' := ?_) #[true, true, true, true, true, true, true, true, true, true, true, true, false, false, false, false] rfl rfl (any_of HT_.out (by kernel_rfl)) (fun _ _ _ h => h) (Or.inr ⟨by rfl, rfl⟩) ?_ ?_
               rotate_left
               · simp only [Act.put, List.setIfInBounds_toArray, List.set_cons_zero, List.set_cons_succ, i64_w, i32_w]
                 rfl
               refine pure_ (i := 12) (N := some 66) (v := undef) (a' := ?_) #[true, true, true, true, true, true, true, true, true, true, true, true, true, false, false, false] rfl rfl (any_of HT_.out (by kernel_rfl)) (fun _ _ _ h => h) (Or.inr ⟨by rfl, rfl⟩) ?_ ?_
               rotate_left
               · simp only [Act.put, List.setIfInBounds_toArray, List.set_cons_zero, List.set_cons_succ, i64_w, i32_w]
                 rfl
               refine pure_ (i := 13) (N := some 67) (v := ?_) (a' := ?_) #[true, true, true, true, true, true, true, true, true, true, true, true, true, true, false, false] rfl rfl (any_of HT_.out (by kernel_rfl)) (fun _ _ _ h => h) (Or.inl ⟨by rfl, ?_⟩) ?_ ?_
               rotate_left
               · intro w'
                 go_simp
                 with_reducible rfl
               rotate_left
               · simp only [Act.put, List.setIfInBounds_toArray, List.set_cons_zero, List.set_cons_succ, i64_w, i32_w]
                 rfl
               refine pure_ (i := 14) (N := some 68) (v := ?_) (a' := ?_) #[true, true, true, true, true, true, true, true, true, true, true, true, true, true, true, false] rfl rfl (any_of HT_.out (by kernel_rfl)) (fun _ _ _ h => h) (Or.inl ⟨by rfl, ?_⟩) ?_ ?_
               rotate_left
               · intro w'
                 go_simp
                 with_reducible rfl
               rotate_left
               · simp only [Act.put, List.setIfInBounds_toArray, List.set_cons_zero, List.set_cons_succ, i64_w, i32_w]
                 rfl
               refine pure_ (i := 15) (N := some 4) (v := ?_) (a' := ?_) #[true, true, true, true, true, true, true, true, true, true, true, true, true, true, true, true] rfl rfl (any_of HT_.out (by kernel_rfl)) (fun _ _ _ h => h) (Or.inl ⟨by rfl, ?_⟩) ?_ ?_
               rotate_left
               · intro w'
                 go_simp
                 with_reducible rfl
               rotate_left
               · simp only [Act.put, List.setIfInBounds_toArray, List.set_cons_zero, List.set_cons_succ, i64_w, i32_w]
                 rfl
               refine done_ (done_of HT_.out (by kernel_rfl)) ?_
               try go_wp2
               go_ret
               exact ⟨by first | rfl | (simp [errW_none, errW_some] <;> rfl) | (simp [*, errW_none, errW_some] <;> rfl), by repeat (first | (with_reducible first | exact HB.out | apply below_alloc | apply pw_below_drewN | apply below_drew1 | refine below_set ?_ GE204.out | refine below_set ?_ GE228.out | refine below_set ?_ GE260.out | refine below_set ?_ GE282.out) | exact HB.out)⟩
           · replace c70 := Bool.eq_false_iff.mpr c70
             subst c70
             have H1 : (none) = some r := by rw [if_neg (show ¬ (false = true) by decide)] at H; exact H
             clear H
             have H := H1
             clear H1
             exact absurd H (by simp)
     · rw [if_neg c21] at H
       exact absurd H (by simp)
def marlinelaw17_PapKeeps.Pure : Prop := ∀ (a0_0 : Int) (a0_1 : Int) (a0_2 : Int) (l0_3 : List (S56)) (a0_4 : Int) (a0_5 : Int) (l0_6 : List Int) (l0_7 : List Int) (l0_8 : List Int) (l0_9 : List Int) (l1 : List Int), (Lit.int .u16 a0_0).wf = true → (Lit.int .u8 a0_1).wf = true → (Lit.int .u8 a0_2).wf = true → ((l0_3.length ≤ 9223372036854775807 ∧ l0_3.length * 32 ≤ 140737488351232) ∧ ∀ y0_ ∈ l0_3, ((Lit.int .u8 y0_.f0).wf = true ∧ ((y0_.f1.length ≤ 9223372036854775807 ∧ y0_.f1.length * 1 ≤ 140737488351232) ∧ ∀ y1_ ∈ y0_.f1, (Lit.int .u8 y1_).wf = true))) → (Lit.int .u16 a0_4).wf = true → (Lit.int .u32 a0_5).wf = true → ((l0_6.length ≤ 9223372036854775807 ∧ l0_6.length * 1 ≤ 140737488351232) ∧ ∀ y0_ ∈ l0_6, (Lit.int .u8 y0_).wf = true) → ((l0_7.length ≤ 9223372036854775807 ∧ l0_7.length * 1 ≤ 140737488351232) ∧ ∀ y0_ ∈ l0_7, (Lit.int .u8 y0_).wf = true) → ((l0_8.length ≤ 9223372036854775807 ∧ l0_8.length * 1 ≤ 140737488351232) ∧ ∀ y0_ ∈ l0_8, (Lit.int .u8 y0_).wf = true) → ((l0_9.length ≤ 9223372036854775807 ∧ l0_9.length * 4 ≤ 140737488351232) ∧ ∀ y0_ ∈ l0_9, (Lit.int .u32 y0_).wf = true) → l1.length ≤ maxLen → l1.length * 1 ≤ 140737488351232 → (∀ x ∈ l1, (Lit.int .u8 x).wf = true) → ∃ k, marlinelaw17_PapKeeps.f k a0_0 a0_1 a0_2 l0_3 a0_4 a0_5 l0_6 l0_7 l0_8 l0_9 l1 = some true
theorem marlinelaw17_PapKeeps.walk (P : marlinelaw17_PapKeeps.Pure) (a0_0 : Int) (a0_1 : Int) (a0_2 : Int) (A0_3 : Option Addr) (c0_3 : Nat) (l0_3 : List (S56)) (a0_4 : Int) (a0_5 : Int) (A0_6 : Option Addr) (c0_6 : Nat) (l0_6 : List Int) (A0_7 : Option Addr) (c0_7 : Nat) (l0_7 : List Int) (A0_8 : Option Addr) (c0_8 : Nat) (l0_8 : List Int) (A0_9 : Option Addr) (c0_9 : Nat) (l0_9 : List Int) (A1 : Option Addr) (c1 : Nat) (l1 : List Int) (w : World) (hw0_0 : (Lit.int .u16 a0_0).wf = true) (hw0_1 : (Lit.int .u8 a0_1).wf = true) (hw0_2 : (Lit.int .u8 a0_2).wf = true) (hr0_3 : Kd.C k56 w A0_3 l0_3.length l0_3) (hc0_3 : l0_3.length ≤ c0_3) (hw0_3 : ((l0_3.length ≤ 9223372036854775807 ∧ l0_3.length * 32 ≤ 140737488351232) ∧ ∀ y0_ ∈ l0_3, ((Lit.int .u8 y0_.f0).wf = true ∧ ((y0_.f1.length ≤ 9223372036854775807 ∧ y0_.f1.length * 1 ≤ 140737488351232) ∧ ∀ y1_ ∈ y0_.f1, (Lit.int .u8 y1_).wf = true)))) (hw0_4 : (Lit.int .u16 a0_4).wf = true) (hw0_5 : (Lit.int .u32 a0_5).wf = true) (hr0_6 : Kd.C (Kd.int .u8) w A0_6 l0_6.length l0_6) (hc0_6 : l0_6.length ≤ c0_6) (hw0_6 : ((l0_6.length ≤ 9223372036854775807 ∧ l0_6.length * 1 ≤ 140737488351232) ∧ ∀ y0_ ∈ l0_6, (Lit.int .u8 y0_).wf = true)) (hr0_7 : Kd.C (Kd.int .u8) w A0_7 l0_7.length l0_7) (hc0_7 : l0_7.length ≤ c0_7) (hw0_7 : ((l0_7.length ≤ 9223372036854775807 ∧ l0_7.length * 1 ≤ 140737488351232) ∧ ∀ y0_ ∈ l0_7, (Lit.int .u8 y0_).wf = true)) (hr0_8 : Kd.C (Kd.int .u8) w A0_8 l0_8.length l0_8) (hc0_8 : l0_8.length ≤ c0_8) (hw0_8 : ((l0_8.length ≤ 9223372036854775807 ∧ l0_8.length * 1 ≤ 140737488351232) ∧ ∀ y0_ ∈ l0_8, (Lit.int .u8 y0_).wf = true)) (hr0_9 : Kd.C (Kd.int .u32) w A0_9 l0_9.length l0_9) (hc0_9 : l0_9.length ≤ c0_9) (hw0_9 : ((l0_9.length ≤ 9223372036854775807 ∧ l0_9.length * 4 ≤ 140737488351232) ∧ ∀ y0_ ∈ l0_9, (Lit.int .u32 y0_).wf = true)) (hr1 : Kd.C (Kd.int .u8) w A1 l1.length l1) (hc1 : l1.length ≤ c1) (hm1 : l1.length ≤ maxLen) (y1 : l1.length * 1 ≤ 140737488351232) (hw1 : ∀ x ∈ l1, (Lit.int .u8 x).wf = true) :
 Calls Try.prog 10 #[.agg #[.int .u16 a0_0, .int .u8 a0_1, .int .u8 a0_2, .slice A0_3 l0_3.length c0_3, .int .u16 a0_4, .int .u32 a0_5, .slice A0_6 l0_6.length c0_6, .slice A0_7 l0_7.length c0_7, .slice A0_8 l0_8.length c0_8, .slice A0_9 l0_9.length c0_9], .slice A1 l1.length c1] w fun e w' => e = .returned (.bool true) ∧ Below w.heap.size w w' := by
 obtain ⟨k, h⟩ := P a0_0 a0_1 a0_2 l0_3 a0_4 a0_5 l0_6 l0_7 l0_8 l0_9 l1 hw0_0 hw0_1 hw0_2 hw0_3 hw0_4 hw0_5 hw0_6 hw0_7 hw0_8 hw0_9 hm1 y1 hw1
 refine (marlinelaw17_PapKeeps.calls k a0_0 a0_1 a0_2 _ _ l0_3 a0_4 a0_5 _ _ l0_6 _ _ l0_7 _ _ l0_8 _ _ l0_9 _ _ l1 true w hr0_3 hc0_3 hr0_6 hc0_6 hr0_7 hc0_7 hr0_8 hc0_8 hr0_9 hc0_9 hr1 hc1 h).mono ?_
 rintro e w' ⟨rfl, hd⟩
 exact ⟨rfl, hd⟩
end Go.Proofs.Ytgjeahgagciagaa.Print
