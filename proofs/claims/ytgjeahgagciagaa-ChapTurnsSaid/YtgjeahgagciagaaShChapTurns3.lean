/- Texts of this claim, several in one, told shortly by a program of this claim (wip/x/shrink.py): what Go functions come to, and plain words on it. -/
import Derived.Test.YtgjeahgagciagaaShChapTurns2
namespace Go.Proofs.Ytgjeahgagciagaa.Print
open Go.RowKit Go.Proofs.YtgjeahgagciagaaW.PrintWords Go.Proofs.YtgjeahgagciagaaW.PrintLast Go.Proofs.YtgjeahgagciagaaW.PrintMore
attribute [local go_sem] max2_int min2_int max_two min_two max_three min_three max_four min_four
set_option linter.unusedVariables false
set_option linter.unusedSimpArgs false
mutual
def chap_Put.j0 : Nat → Int → Int → Int → Int → List (S57) → Int → Int → List Int → List Int → List Int → List Int → Option (List Int × Int)
 | 0, _, _, _, _, _, _, _, _, _, _, _ => none
 | k + 1, x4, x295000, x295001, x295002, x295003, x295004, x295005, x295006, x295007, x295008, x295009 => if x295000 = 49699 then (if x4 > 0 then (chap_Put.j1 k true x295000 x295001 x295002 x295003 x295004 x295005 x295006 x295007 x295008 x295009) else (if x295004 = 0 then (chap_Put.j1 k (x295005 != 0) x295000 x295001 x295002 x295003 x295004 x295005 x295006 x295007 x295008 x295009) else (chap_Put.j1 k true x295000 x295001 x295002 x295003 x295004 x295005 x295006 x295007 x295008 x295009))) else (some (([] : List Int), 8))
def chap_Put.j1 : Nat → Bool → Int → Int → Int → List (S57) → Int → Int → List Int → List Int → List Int → List Int → Option (List Int × Int)
 | 0, _, _, _, _, _, _, _, _, _, _, _ => none
 | k + 1, x33, x295000, x295001, x295002, x295003, x295004, x295005, x295006, x295007, x295008, x295009 => if x33 = true then (some (([] : List Int), 9)) else ((chap_valued.f x295001).bind fun t296 => (if t296 = true then (if (x295006.length : Int) = 0 then (some (([] : List Int), 4)) else (if (x295006.length : Int) > 255 then (some (([] : List Int), 3)) else ((slices_Concat_byte_byte.f k (([(([((x295006.length : Int)) % 256] : List Int)), x295006, x295007] : List (List Int)))).bind fun t307 => ((ctl_Put.f k x295001 x295002 t307).bind fun bt310 => (some (bt310.1, bt310.2)))))) else ((ctl_Put.f k x295001 x295002 x295008).bind fun bt297 => (some (bt297.1, bt297.2)))))
end
def chap_Put.f (k : Nat) (a0_0 : Int) (a0_1 : Int) (a0_2 : Int) (l0_3 : List (S57)) (a0_4 : Int) (a0_5 : Int) (l0_6 : List Int) (l0_7 : List Int) (l0_8 : List Int) (l0_9 : List Int) : Option (List Int × Int) := (chap_valued.f a0_1).bind fun t295 => (if t295 = true then (chap_Put.j0 k (wrap64 ((wrap64 ((l0_3.length : Int) + (l0_9.length : Int))) + (l0_8.length : Int))) a0_0 a0_1 a0_2 l0_3 a0_4 a0_5 l0_6 l0_7 l0_8 l0_9) else (chap_Put.j0 k (wrap64 ((wrap64 ((l0_3.length : Int) + (l0_9.length : Int))) + (wrap64 ((l0_6.length : Int) + (l0_7.length : Int))))) a0_0 a0_1 a0_2 l0_3 a0_4 a0_5 l0_6 l0_7 l0_8 l0_9))
def chap_Put.T15 : Bool × List (List Nat × List Nat) := (true, [([], []), ([0], [0]), ([], []), ([2], [2]), ([], []), ([4], [4]), ([5], [5]), ([6], [6]), ([7], [7]), ([], []), ([9], [9]), ([], []), ([11], [11]), ([8, 10, 12], [8, 10, 12]), ([13], [13]), ([1, 3, 14, 14], [1, 3, 14]), ([15], [15]), ([15], [15]), ([16, 15, 0, 1, 2, 3, 4, 5, 6, 7, 8, 9, 10, 11, 12, 13, 14, 15, 16, 17], [16]), ([17, 18, 0, 1, 2, 3, 4, 5, 6, 7, 8, 9, 10, 11, 12, 13, 14, 15, 16, 17, 18], [17])])
def chap_Put.B15 : List Nat := [0, 1, 0, 4, 0, 16, 48, 112, 240, 0, 512, 0, 2048, 8176, 16368, 32767, 65535, 65535, 262143, 524287]
theorem chap_Put.tab15 : rtab .any (opsOf Try.f37 15) = chap_Put.T15 := by kernel_rfl
theorem chap_Put.bits15 : waitsOk chap_Put.T15.2 chap_Put.B15 = true := by kernel_rfl
set_option maxHeartbeats 8000000 in
set_option maxRecDepth 100000 in
theorem chap_Put.calls (k : Nat) (a0_0 : Int) (a0_1 : Int) (a0_2 : Int) (A0_3 : Option Addr) (c0_3 : Nat) (l0_3 : List (S57)) (a0_4 : Int) (a0_5 : Int) (P0_6_ : Nat → Prop) (A0_6 : Option Addr) (c0_6 : Nat) (l0_6 : List Int) (P0_7_ : Nat → Prop) (A0_7 : Option Addr) (c0_7 : Nat) (l0_7 : List Int) (A0_8 : Option Addr) (c0_8 : Nat) (l0_8 : List Int) (A0_9 : Option Addr) (c0_9 : Nat) (l0_9 : List Int) (r1 : List Int) (r2 : Int) (w : World) (hr0_3 : Kd.C k57 w A0_3 l0_3.length l0_3) (hc0_3 : l0_3.length ≤ c0_3) (hs0_6 : Kd.V (Kd.int .u8) 5 w w.heap.size (fun k_ => P0_6_ k_) (.slice A0_6 l0_6.length c0_6) l0_6) (hs0_7 : Kd.V (Kd.int .u8) 5 w w.heap.size (fun k_ => P0_7_ k_) (.slice A0_7 l0_7.length c0_7) l0_7) (hr0_8 : Kd.C (Kd.int .u8) w A0_8 l0_8.length l0_8) (hc0_8 : l0_8.length ≤ c0_8) (hr0_9 : Kd.C (Kd.int .u32) w A0_9 l0_9.length l0_9) (hc0_9 : l0_9.length ≤ c0_9) (h : chap_Put.f k a0_0 a0_1 a0_2 l0_3 a0_4 a0_5 l0_6 l0_7 l0_8 l0_9 = some (r1, r2)) :
 Calls Try.prog 37 #[.agg #[.int .u16 a0_0, .int .u8 a0_1, .int .u8 a0_2, .slice A0_3 l0_3.length c0_3, .int .u16 a0_4, .int .u32 a0_5, .slice A0_6 l0_6.length c0_6, .slice A0_7 l0_7.length c0_7, .slice A0_8 l0_8.length c0_8, .slice A0_9 l0_9.length c0_9]] w fun e w' => ∃ v0_ : Value, e = .returned (.tuple #[v0_, .int .i64 r2]) ∧ Kd.R (Kd.int .u8) 5 w' w.heap.size (fun k_ => (w.heap.size ≤ k_)) v0_ r1 ∧ Below w.heap.size w w' := by
 have hu47 := Try.underlying47
 have HR0_3 := Aside0.mk hr0_3
 have HC0_3 := Aside0.mk hc0_3
 clear hr0_3 hc0_3
 have HO0_6 := Aside0.mk (show Kd.V (Kd.int .u8) 5 w w.heap.size (fun k_ => ((P0_6_ k_ ∨ P0_7_ k_) ∨ w.heap.size ≤ k_)) (.slice A0_6 l0_6.length c0_6) l0_6 from Kd.V_mono hs0_6 (fun k_ hk => .inl (.inl hk)))
 have HO0_7 := Aside0.mk (show Kd.V (Kd.int .u8) 5 w w.heap.size (fun k_ => ((P0_6_ k_ ∨ P0_7_ k_) ∨ w.heap.size ≤ k_)) (.slice A0_7 l0_7.length c0_7) l0_7 from Kd.V_mono hs0_7 (fun k_ hk => .inl (.inr hk)))
 have HR0_8 := Aside0.mk hr0_8
 have HC0_8 := Aside0.mk hc0_8
 clear hr0_8 hc0_8
 have HR0_9 := Aside0.mk hr0_9
 have HC0_9 := Aside0.mk hc0_9
 clear hr0_9 hc0_9
 have HB := Aside0.mk (Below.refl w.heap.size w)
 have H : ((chap_valued.f a0_1).bind fun t295 => (if t295 = true then (chap_Put.j0 k (wrap64 ((wrap64 ((l0_3.length : Int) + (l0_9.length : Int))) + (l0_8.length : Int))) a0_0 a0_1 a0_2 l0_3 a0_4 a0_5 l0_6 l0_7 l0_8 l0_9) else (chap_Put.j0 k (wrap64 ((wrap64 ((l0_3.length : Int) + (l0_9.length : Int))) + (wrap64 ((l0_6.length : Int) + (l0_7.length : Int))))) a0_0 a0_1 a0_2 l0_3 a0_4 a0_5 l0_6 l0_7 l0_8 l0_9))) = some (r1, r2) := h
 clear h
 replace H := Option.bind_eq_some_iff.mp H
 obtain ⟨t295, A20, H⟩ := H
 replace H : (if t295 = true then (chap_Put.j0 k (wrap64 ((wrap64 ((l0_3.length : Int) + (l0_9.length : Int))) + (l0_8.length : Int))) a0_0 a0_1 a0_2 l0_3 a0_4 a0_5 l0_6 l0_7 l0_8 l0_9) else (chap_Put.j0 k (wrap64 ((wrap64 ((l0_3.length : Int) + (l0_9.length : Int))) + (wrap64 ((l0_6.length : Int) + (l0_7.length : Int))))) a0_0 a0_1 a0_2 l0_3 a0_4 a0_5 l0_6 l0_7 l0_8 l0_9)) = some (r1, r2) := H
 have A2 := Aside0.mk A20
 clear A20
 have HC3 := Aside0.mk H
 clear H
 go_enter Try.func37, Try.ntmps37
 go_upto_if 14 with (first | ((with_reducible refine gate_dst (N := 1) rfl ?_); refine box_event ?hg (N := 1) ?hd (cs := #[.int .u16 a0_0, .int .u8 a0_1, .int .u8 a0_2, .slice A0_3 l0_3.length c0_3, .int .u16 a0_4, .int .u32 a0_5, .slice A0_6 l0_6.length c0_6, .slice A0_7 l0_7.length c0_7, .slice A0_8 l0_8.length c0_8, .slice A0_9 l0_9.length c0_9]) (t := 47) ?hr ?_; (case hd => rfl); (case hg => rfl); (case hr => first | (go_simp; done) | (go_simp; simp only [IntKind.wrap_u8, IntKind.wrap_u16, IntKind.wrap_u32, IntKind.wrap_u64]; done) | (go_simp; simp only [IntKind.wrap_u8, IntKind.wrap_u16, IntKind.wrap_u32, IntKind.wrap_u64, Int.tmod_eq_emod_of_nonneg (Int.natCast_nonneg _), Int.emod_emod]; done) | (go_simp; rfl)); intro gb294 hg w4 hbox hb; have n0_ := Aside0.mk (Kd.V_below (Kd.V_elderB (by (with_reducible repeat (first | apply Kd.V_alloc | apply Kd.V_drewN | apply Kd.V_drew)); exact HO0_6.out) gb294 (Nat.le_of_eq hg.symm)) hb); have n1_ := Aside0.mk (Kd.V_below (Kd.V_elderB (by (with_reducible repeat (first | apply Kd.V_alloc | apply Kd.V_drewN | apply Kd.V_drew)); exact HO0_7.out) gb294 (Nat.le_of_eq hg.symm)) hb); have n2_ := Aside0.mk (below_step (by repeat (first | (with_reducible first | exact HB.out | apply below_alloc | apply pw_below_drewN | apply below_drew1) | exact HB.out)) hb); have n3_ := Aside0.mk (hbox); have n4_ := Aside0.mk ((by rw [hg]; exact (below_size (by repeat (first | (with_reducible first | exact HB.out | apply below_alloc | apply pw_below_drewN | apply below_drew1) | exact HB.out))) : w.heap.size ≤ gb294)); have n5_ := Aside0.mk ((by rw [hg]; exact (below_size (by repeat (first | (with_reducible first | exact HB.out | apply below_alloc | apply pw_below_drewN | apply below_drew1) | exact HB.out))) : w.heap.size ≤ gb294)); clear HO0_6; clear HO0_7; clear HB; have HO0_6 := n0_; have HO0_7 := n1_; have HB := n2_; have BK294 := n3_; have GW294 := n4_; have GE294 := n5_; clear n0_ n1_ n2_ n3_ n4_ n5_; clear hb hbox hg; obtain ⟨⟨hcz5_0, hcz5_1, hcz5_2, hcz5_3, hcz5_4, hcz5_5, hcz5_6, hcz5_7, hcz5_8, hcz5_9⟩, hfz5_0, hfz5_1, hfz5_2, hfz5_3, hfz5_4, hfz5_5, hfz5_6, hfz5_7, hfz5_8, hfz5_9⟩ := cz10 BK294.out) | ((with_reducible refine gate_callee (f := 57) rfl ?_); refine goesL_ (some 14) rfl rfl Try.func57 (by kernel_rfl) rfl #[.int .u8 a0_1] rfl (by (try simp only [List.map_toArray, List.map_cons, List.map_nil]); first | done | rfl | (simp only [List.length_drop, List.length_take]; rfl)) ?_; (with_reducible refine (chap_valued.calls a0_1 t295 _ A2.out).mono ?_); rintro e w' ⟨rfl, ⟨nd, rfl⟩⟩; refine ⟨_, rfl, ?_⟩))
 (try simp only [Act.put, List.setIfInBounds_toArray, List.set_cons_zero, List.set_cons_succ])
 go_cut [4] (fun v4 wc => ∃ (kq : Nat) (x4_2 : Int), v4 = .int .i64 x4_2 ∧ Aside0 (chap_Put.j0 kq x4_2 a0_0 a0_1 a0_2 l0_3 a0_4 a0_5 l0_6 l0_7 l0_8 l0_9 = some (r1, r2)) ∧ Aside0 (kq ≤ k) ∧ Aside0 (Kd.V (Kd.int .u8) 5 wc w.heap.size (fun k_ => ((P0_6_ k_ ∨ P0_7_ k_) ∨ w.heap.size ≤ k_) ∧ k_ ≠ gb294) (.slice A0_6 l0_6.length c0_6) l0_6) ∧ Aside0 (Kd.V (Kd.int .u8) 5 wc w.heap.size (fun k_ => ((P0_6_ k_ ∨ P0_7_ k_) ∨ w.heap.size ≤ k_) ∧ k_ ≠ gb294) (.slice A0_7 l0_7.length c0_7) l0_7) ∧ Aside0 (wc.heap[gb294]? = some (.cells #[.int .u16 a0_0, .int .u8 a0_1, .int .u8 a0_2, (.slice A0_3 l0_3.length c0_3), .int .u16 a0_4, .int .u32 a0_5, (.slice A0_6 l0_6.length c0_6), (.slice A0_7 l0_7.length c0_7), (.slice A0_8 l0_8.length c0_8), (.slice A0_9 l0_9.length c0_9)] 47 (0, 0))) ∧ Aside0 (Below w.heap.size w wc))
 case first =>
  have H := HC3.out
  clear HC3
  by_cases c6 : t295 = true
  · subst c6
    have H1 : (chap_Put.j0 k (wrap64 ((wrap64 ((l0_3.length : Int) + (l0_9.length : Int))) + (l0_8.length : Int))) a0_0 a0_1 a0_2 l0_3 a0_4 a0_5 l0_6 l0_7 l0_8 l0_9) = some (r1, r2) := by rw [if_pos rfl] at H; exact H
    clear H
    have H := H1
    clear H1
    have H' := Aside0.mk H
    clear H
    obtain ⟨⟨hcz7_0, hcz7_1, hcz7_2, hcz7_3, hcz7_4, hcz7_5, hcz7_6, hcz7_7, hcz7_8, hcz7_9⟩, hfz7_0, hfz7_1, hfz7_2, hfz7_3, hfz7_4, hfz7_5, hfz7_6, hfz7_7, hfz7_8, hfz7_9⟩ := cz10 BK294.out
    go_wp2
    go_meet
    case rel => exact ⟨_, (wrap64 ((wrap64 ((l0_3.length : Int) + (l0_9.length : Int))) + (l0_8.length : Int))), (by first | rfl | (simp; done) | (simp [*]; done)), H', ⟨by first | omega | exact Nat.le_refl _⟩, ⟨by (with_reducible repeat (first | apply Kd.V_alloc | apply Kd.V_drewN | apply Kd.V_drew)); exact HO0_6.out⟩, ⟨by (with_reducible repeat (first | apply Kd.V_alloc | apply Kd.V_drewN | apply Kd.V_drew)); exact HO0_7.out⟩, ⟨by (with_reducible repeat (first | refine blk_drewN ?_ _ | refine blk_drew ?_ | refine blk_alloc ?_ _)); exact BK294.out⟩, ⟨by repeat (first | (with_reducible first | exact HB.out | apply below_alloc | apply pw_below_drewN | apply below_drew1 | refine below_set ?_ GE294.out) | exact HB.out)⟩⟩
  · replace c6 := Bool.eq_false_iff.mpr c6
    subst c6
    have H1 : (chap_Put.j0 k (wrap64 ((wrap64 ((l0_3.length : Int) + (l0_9.length : Int))) + (wrap64 ((l0_6.length : Int) + (l0_7.length : Int))))) a0_0 a0_1 a0_2 l0_3 a0_4 a0_5 l0_6 l0_7 l0_8 l0_9) = some (r1, r2) := by rw [if_neg (show ¬ (false = true) by decide)] at H; exact H
    clear H
    have H := H1
    clear H1
    have H' := Aside0.mk H
    clear H
    obtain ⟨⟨hcz8_0, hcz8_1, hcz8_2, hcz8_3, hcz8_4, hcz8_5, hcz8_6, hcz8_7, hcz8_8, hcz8_9⟩, hfz8_0, hfz8_1, hfz8_2, hfz8_3, hfz8_4, hfz8_5, hfz8_6, hfz8_7, hfz8_8, hfz8_9⟩ := cz10 BK294.out
    go_wp2
    go_meet
    case rel => exact ⟨_, (wrap64 ((wrap64 ((l0_3.length : Int) + (l0_9.length : Int))) + (wrap64 ((l0_6.length : Int) + (l0_7.length : Int))))), (by first | rfl | (simp; done) | (simp [*]; done)), H', ⟨by first | omega | exact Nat.le_refl _⟩, ⟨by (with_reducible repeat (first | apply Kd.V_alloc | apply Kd.V_drewN | apply Kd.V_drew)); exact HO0_6.out⟩, ⟨by (with_reducible repeat (first | apply Kd.V_alloc | apply Kd.V_drewN | apply Kd.V_drew)); exact HO0_7.out⟩, ⟨by (with_reducible repeat (first | refine blk_drewN ?_ _ | refine blk_drew ?_ | refine blk_alloc ?_ _)); exact BK294.out⟩, ⟨by repeat (first | (with_reducible first | exact HB.out | apply below_alloc | apply pw_below_drewN | apply below_drew1 | refine below_set ?_ GE294.out) | exact HB.out)⟩⟩
 case rest =>
  clear HC3
  try clear p2
  try clear c3
  try clear c5
  try clear c6
  try clear p6
  try clear hcz5_0 hcz5_1 hcz5_2 hcz5_3 hcz5_4 hcz5_5 hcz5_6 hcz5_7 hcz5_8 hcz5_9 hfz5_0 hfz5_1 hfz5_2 hfz5_3 hfz5_4 hfz5_5 hfz5_6 hfz5_7 hfz5_8 hfz5_9
  try clear hcz7_0 hcz7_1 hcz7_2 hcz7_3 hcz7_4 hcz7_5 hcz7_6 hcz7_7 hcz7_8 hcz7_9 hfz7_0 hfz7_1 hfz7_2 hfz7_3 hfz7_4 hfz7_5 hfz7_6 hfz7_7 hfz7_8 hfz7_9
  try clear hcz8_0 hcz8_1 hcz8_2 hcz8_3 hcz8_4 hcz8_5 hcz8_6 hcz8_7 hcz8_8 hcz8_9 hfz8_0 hfz8_1 hfz8_2 hfz8_3 hfz8_4 hfz8_5 hfz8_6 hfz8_7 hfz8_8 hfz8_9
  obtain ⟨kq, x4_2, rfl, HA, HJ2, HO_295006, HO_295007, BK294, HB⟩ := hcut
  cases kq with
  | zero => exact absurd HA.out (by simp [chap_Put.j0])
  | succ kj2 =>
   have H := HA.out
   clear HA
   simp only [chap_Put.j0] at H
   by_cases c9 : a0_0 = 49699
   · rw [if_pos c9] at H
     have c9b0 : (a0_0 == 49699) = true := beq_iff_eq.mpr c9
     have c9b1 : (a0_0 != 49699) = false := bne_eq_false_iff_eq.mpr c9
     clear c9
     have HC10 := Aside0.mk H
     clear H
     obtain ⟨⟨hcz11_0, hcz11_1, hcz11_2, hcz11_3, hcz11_4, hcz11_5, hcz11_6, hcz11_7, hcz11_8, hcz11_9⟩, hfz11_0, hfz11_1, hfz11_2, hfz11_3, hfz11_4, hfz11_5, hfz11_6, hfz11_7, hfz11_8, hfz11_9⟩ := cz10 BK294.out
     go_upto_region 7 with (fail)
     go_cut [33] (fun v33 wc => ∃ (kq : Nat) (x33_9 : Bool), v33 = .bool x33_9 ∧ Aside0 (chap_Put.j1 kq x33_9 a0_0 a0_1 a0_2 l0_3 a0_4 a0_5 l0_6 l0_7 l0_8 l0_9 = some (r1, r2)) ∧ Aside0 (kq ≤ kj2) ∧ Aside0 (Kd.V (Kd.int .u8) 5 wc w.heap.size (fun k_ => ((P0_6_ k_ ∨ P0_7_ k_) ∨ w.heap.size ≤ k_) ∧ k_ ≠ gb294) (.slice A0_6 l0_6.length c0_6) l0_6) ∧ Aside0 (Kd.V (Kd.int .u8) 5 wc w.heap.size (fun k_ => ((P0_6_ k_ ∨ P0_7_ k_) ∨ w.heap.size ≤ k_) ∧ k_ ≠ gb294) (.slice A0_7 l0_7.length c0_7) l0_7) ∧ Aside0 (wc.heap[gb294]? = some (.cells #[.int .u16 a0_0, .int .u8 a0_1, .int .u8 a0_2, (.slice A0_3 l0_3.length c0_3), .int .u16 a0_4, .int .u32 a0_5, (.slice A0_6 l0_6.length c0_6), (.slice A0_7 l0_7.length c0_7), (.slice A0_8 l0_8.length c0_8), (.slice A0_9 l0_9.length c0_9)] 47 (0, 0))) ∧ Aside0 (Below w.heap.size w wc))
     case first =>
      have H := HC10.out
      clear HC10
      by_cases c12 : x4_2 > 0
      · rw [if_pos c12] at H
        have c12b0 : decide (0 < x4_2) = true := decide_eq_true c12
        clear c12
        (first | rw [c12b0] | (simp only [i64_w, i32_w]; rw [c12b0]) | skip)
        have H' := Aside0.mk H
        clear H
        go_wp2
        go_meet
        case rel => exact ⟨_, (true), (by first | rfl | (simp; done) | (simp [*]; done)), H', ⟨by have := HJ2.out; first | omega | exact Nat.le_refl _⟩, ⟨by (with_reducible repeat (first | apply Kd.V_alloc | apply Kd.V_drewN | apply Kd.V_drew)); exact HO_295006.out⟩, ⟨by (with_reducible repeat (first | apply Kd.V_alloc | apply Kd.V_drewN | apply Kd.V_drew)); exact HO_295007.out⟩, ⟨by (with_reducible repeat (first | refine blk_drewN ?_ _ | refine blk_drew ?_ | refine blk_alloc ?_ _)); exact BK294.out⟩, ⟨by repeat (first | (with_reducible first | exact HB.out | apply below_alloc | apply pw_below_drewN | apply below_drew1 | refine below_set ?_ GE294.out) | exact HB.out)⟩⟩
      · rw [if_neg c12] at H
        have c12b0 : decide (0 < x4_2) = false := decide_eq_false c12
        clear c12
        (first | rw [c12b0] | (simp only [i64_w, i32_w]; rw [c12b0]) | skip)
        by_cases c13 : a0_4 = 0
        · rw [if_pos c13] at H
          have c13b0 : (a0_4 == 0) = true := beq_iff_eq.mpr c13
          have c13b1 : (a0_4 != 0) = false := bne_eq_false_iff_eq.mpr c13
          clear c13
          have H' := Aside0.mk H
          clear H
          obtain ⟨⟨hcz14_0, hcz14_1, hcz14_2, hcz14_3, hcz14_4, hcz14_5, hcz14_6, hcz14_7, hcz14_8, hcz14_9⟩, hfz14_0, hfz14_1, hfz14_2, hfz14_3, hfz14_4, hfz14_5, hfz14_6, hfz14_7, hfz14_8, hfz14_9⟩ := cz10 BK294.out
          go_wp2
          go_meet
          case rel => exact ⟨_, ((a0_5 != 0)), (by first | rfl | (simp; done) | (simp [*]; done)), H', ⟨by have := HJ2.out; first | omega | exact Nat.le_refl _⟩, ⟨by (with_reducible repeat (first | apply Kd.V_alloc | apply Kd.V_drewN | apply Kd.V_drew)); exact HO_295006.out⟩, ⟨by (with_reducible repeat (first | apply Kd.V_alloc | apply Kd.V_drewN | apply Kd.V_drew)); exact HO_295007.out⟩, ⟨by (with_reducible repeat (first | refine blk_drewN ?_ _ | refine blk_drew ?_ | refine blk_alloc ?_ _)); exact BK294.out⟩, ⟨by repeat (first | (with_reducible first | exact HB.out | apply below_alloc | apply pw_below_drewN | apply below_drew1 | refine below_set ?_ GE294.out) | exact HB.out)⟩⟩
        · rw [if_neg c13] at H
          have c13b0 : (a0_4 == 0) = false := beq_eq_false_iff_ne.mpr c13
          have c13b1 : (a0_4 != 0) = true := bne_iff_ne.mpr c13
          have H' := Aside0.mk H
          clear H
          obtain ⟨⟨hcz15_0, hcz15_1, hcz15_2, hcz15_3, hcz15_4, hcz15_5, hcz15_6, hcz15_7, hcz15_8, hcz15_9⟩, hfz15_0, hfz15_1, hfz15_2, hfz15_3, hfz15_4, hfz15_5, hfz15_6, hfz15_7, hfz15_8, hfz15_9⟩ := cz10 BK294.out
          go_wp2
          go_meet
          case rel => exact ⟨_, (true), (by first | rfl | (simp; done) | (simp [*]; done)), H', ⟨by have := HJ2.out; first | omega | exact Nat.le_refl _⟩, ⟨by (with_reducible repeat (first | apply Kd.V_alloc | apply Kd.V_drewN | apply Kd.V_drew)); exact HO_295006.out⟩, ⟨by (with_reducible repeat (first | apply Kd.V_alloc | apply Kd.V_drewN | apply Kd.V_drew)); exact HO_295007.out⟩, ⟨by (with_reducible repeat (first | refine blk_drewN ?_ _ | refine blk_drew ?_ | refine blk_alloc ?_ _)); exact BK294.out⟩, ⟨by repeat (first | (with_reducible first | exact HB.out | apply below_alloc | apply pw_below_drewN | apply below_drew1 | refine below_set ?_ GE294.out) | exact HB.out)⟩⟩
     case rest =>
      clear HC10
      try clear c1
      try clear p2
      try clear c3
      try clear c5
      try clear c6
      try clear p6
      try clear c9
      try clear c9b0
      try clear c9b1
      try clear c12
      try clear c12b0
      try clear c13
      try clear c13b0
      try clear c13b1
      try clear hcz11_0 hcz11_1 hcz11_2 hcz11_3 hcz11_4 hcz11_5 hcz11_6 hcz11_7 hcz11_8 hcz11_9 hfz11_0 hfz11_1 hfz11_2 hfz11_3 hfz11_4 hfz11_5 hfz11_6 hfz11_7 hfz11_8 hfz11_9
      try clear hcz14_0 hcz14_1 hcz14_2 hcz14_3 hcz14_4 hcz14_5 hcz14_6 hcz14_7 hcz14_8 hcz14_9 hfz14_0 hfz14_1 hfz14_2 hfz14_3 hfz14_4 hfz14_5 hfz14_6 hfz14_7 hfz14_8 hfz14_9
      try clear hcz15_0 hcz15_1 hcz15_2 hcz15_3 hcz15_4 hcz15_5 hcz15_6 hcz15_7 hcz15_8 hcz15_9 hfz15_0 hfz15_1 hfz15_2 hfz15_3 hfz15_4 hfz15_5 hfz15_6 hfz15_7 hfz15_8 hfz15_9
      try clear hcz5_0 hcz5_1 hcz5_2 hcz5_3 hcz5_4 hcz5_5 hcz5_6 hcz5_7 hcz5_8 hcz5_9 hfz5_0 hfz5_1 hfz5_2 hfz5_3 hfz5_4 hfz5_5 hfz5_6 hfz5_7 hfz5_8 hfz5_9
      try clear hcz7_0 hcz7_1 hcz7_2 hcz7_3 hcz7_4 hcz7_5 hcz7_6 hcz7_7 hcz7_8 hcz7_9 hfz7_0 hfz7_1 hfz7_2 hfz7_3 hfz7_4 hfz7_5 hfz7_6 hfz7_7 hfz7_8 hfz7_9
      try clear hcz8_0 hcz8_1 hcz8_2 hcz8_3 hcz8_4 hcz8_5 hcz8_6 hcz8_7 hcz8_8 hcz8_9 hfz8_0 hfz8_1 hfz8_2 hfz8_3 hfz8_4 hfz8_5 hfz8_6 hfz8_7 hfz8_8 hfz8_9
      try clear p2
      try clear p6
      obtain ⟨kq, x33_9, rfl, HA, HJ9, HO_295006, HO_295007, BK294, HB⟩ := hcut
      cases kq with
      | zero => exact absurd HA.out (by simp [chap_Put.j1])
      | succ kj9 =>
       have H := HA.out
       clear HA
       simp only [chap_Put.j1] at H
       by_cases c16 : x33_9 = true
       · subst c16
         have H1 : (some (([] : List Int), 9)) = some (r1, r2) := by rw [if_pos rfl] at H; exact H
         clear H
         have H := H1
         clear H1
         simp only [Option.some.injEq, Prod.mk.injEq] at H
         obtain ⟨rfl, rfl⟩ := H
         go_wp2
         go_ret2
         exact ⟨_, by first | rfl | (simp [errW_none, errW_some] <;> rfl) | (simp [*, errW_none, errW_some] <;> rfl), by first | exact Kd.R_nil _ _ _ _ _ | exact Kd.N_nil _ _ _ _ _ | exact Kd.V_nil _ _ _ _ _ | exact Kd.Q_nil _ _ _ _ _ | exact Kd.S_nil _ _ _ _ _, by repeat (first | (with_reducible first | exact HB.out | apply below_alloc | apply pw_below_drewN | apply below_drew1 | refine below_set ?_ GE294.out) | exact HB.out)⟩
       · replace c16 := Bool.eq_false_iff.mpr c16
         subst c16
         have H1 : ((chap_valued.f a0_1).bind fun t296 => (if t296 = true then (if (l0_6.length : Int) = 0 then (some (([] : List Int), 4)) else (if (l0_6.length : Int) > 255 then (some (([] : List Int), 3)) else ((slices_Concat_byte_byte.f kj9 (([(([((l0_6.length : Int)) % 256] : List Int)), l0_6, l0_7] : List (List Int)))).bind fun t307 => ((ctl_Put.f kj9 a0_1 a0_2 t307).bind fun bt310 => (some (bt310.1, bt310.2)))))) else ((ctl_Put.f kj9 a0_1 a0_2 l0_8).bind fun bt297 => (some (bt297.1, bt297.2))))) = some (r1, r2) := by rw [if_neg (show ¬ (false = true) by decide)] at H; exact H
         clear H
         have H := H1
         clear H1
         replace H := Option.bind_eq_some_iff.mp H
         obtain ⟨t296, A170, H⟩ := H
         replace H : (if t296 = true then (if (l0_6.length : Int) = 0 then (some (([] : List Int), 4)) else (if (l0_6.length : Int) > 255 then (some (([] : List Int), 3)) else ((slices_Concat_byte_byte.f kj9 (([(([((l0_6.length : Int)) % 256] : List Int)), l0_6, l0_7] : List (List Int)))).bind fun t307 => ((ctl_Put.f kj9 a0_1 a0_2 t307).bind fun bt310 => (some (bt310.1, bt310.2)))))) else ((ctl_Put.f kj9 a0_1 a0_2 l0_8).bind fun bt297 => (some (bt297.1, bt297.2)))) = some (r1, r2) := H
         have A17 := Aside0.mk A170
         clear A170
         by_cases c18 : t296 = true
         · subst c18
           have H1 : (if (l0_6.length : Int) = 0 then (some (([] : List Int), 4)) else (if (l0_6.length : Int) > 255 then (some (([] : List Int), 3)) else ((slices_Concat_byte_byte.f kj9 (([(([((l0_6.length : Int)) % 256] : List Int)), l0_6, l0_7] : List (List Int)))).bind fun t307 => ((ctl_Put.f kj9 a0_1 a0_2 t307).bind fun bt310 => (some (bt310.1, bt310.2)))))) = some (r1, r2) := by rw [if_pos rfl] at H; exact H
           clear H
           have H := H1
           clear H1
           by_cases c19 : (l0_6.length : Int) = 0
           · rw [if_pos c19] at H
             have c19b0 : ((l0_6.length : Int) == 0) = true := beq_iff_eq.mpr c19
             have c19b1 : ((l0_6.length : Int) != 0) = false := bne_eq_false_iff_eq.mpr c19
             clear c19
             simp only [Option.some.injEq, Prod.mk.injEq] at H
             obtain ⟨rfl, rfl⟩ := H
             obtain ⟨⟨hcz20_0, hcz20_1, hcz20_2, hcz20_3, hcz20_4, hcz20_5, hcz20_6, hcz20_7, hcz20_8, hcz20_9⟩, hfz20_0, hfz20_1, hfz20_2, hfz20_3, hfz20_4, hfz20_5, hfz20_6, hfz20_7, hfz20_8, hfz20_9⟩ := cz10 BK294.out
             go_wp2_with (first | ((with_reducible refine gate_callee (f := 57) rfl ?_); refine goesL_ (some 49) rfl rfl Try.func57 (by kernel_rfl) rfl #[.int .u8 a0_1] rfl (by (try simp only [List.map_toArray, List.map_cons, List.map_nil]); first | done | rfl | (simp only [List.length_drop, List.length_take]; rfl)) ?_; (with_reducible refine (chap_valued.calls a0_1 true _ A17.out).mono ?_); rintro e w' ⟨rfl, ⟨nd, rfl⟩⟩; refine ⟨_, rfl, ?_⟩))
             go_ret2
             exact ⟨_, by first | rfl | (simp [errW_none, errW_some] <;> rfl) | (simp [*, errW_none, errW_some] <;> rfl), by first | exact Kd.R_nil _ _ _ _ _ | exact Kd.N_nil _ _ _ _ _ | exact Kd.V_nil _ _ _ _ _ | exact Kd.Q_nil _ _ _ _ _ | exact Kd.S_nil _ _ _ _ _, by repeat (first | (with_reducible first | exact HB.out | apply below_alloc | apply pw_below_drewN | apply below_drew1 | refine below_set ?_ GE294.out) | exact HB.out)⟩
           · rw [if_neg c19] at H
             have c19b0 : ((l0_6.length : Int) == 0) = false := beq_eq_false_iff_ne.mpr c19
             have c19b1 : ((l0_6.length : Int) != 0) = true := bne_iff_ne.mpr c19
             have c19b2 : ¬ (l0_6 = []) := fun h_ => c19 (by rw [h_]; rfl)
             by_cases c21 : (l0_6.length : Int) > 255
             · rw [if_pos c21] at H
               have c21b0 : decide (255 < (l0_6.length : Int)) = true := decide_eq_true c21
               have c21b1 : decide (255 < l0_6.length) = true := decide_eq_true (by omega)
               clear c21
               simp only [Option.some.injEq, Prod.mk.injEq] at H
               obtain ⟨rfl, rfl⟩ := H
               obtain ⟨⟨hcz22_0, hcz22_1, hcz22_2, hcz22_3, hcz22_4, hcz22_5, hcz22_6, hcz22_7, hcz22_8, hcz22_9⟩, hfz22_0, hfz22_1, hfz22_2, hfz22_3, hfz22_4, hfz22_5, hfz22_6, hfz22_7, hfz22_8, hfz22_9⟩ := cz10 BK294.out
               go_wp2_with (first | ((with_reducible refine gate_callee (f := 57) rfl ?_); refine goesL_ (some 49) rfl rfl Try.func57 (by kernel_rfl) rfl #[.int .u8 a0_1] rfl (by (try simp only [List.map_toArray, List.map_cons, List.map_nil]); first | done | rfl | (simp only [List.length_drop, List.length_take]; rfl)) ?_; (with_reducible refine (chap_valued.calls a0_1 true _ A17.out).mono ?_); rintro e w' ⟨rfl, ⟨nd, rfl⟩⟩; refine ⟨_, rfl, ?_⟩))
               go_ret2
               exact ⟨_, by first | rfl | (simp [errW_none, errW_some] <;> rfl) | (simp [*, errW_none, errW_some] <;> rfl), by first | exact Kd.R_nil _ _ _ _ _ | exact Kd.N_nil _ _ _ _ _ | exact Kd.V_nil _ _ _ _ _ | exact Kd.Q_nil _ _ _ _ _ | exact Kd.S_nil _ _ _ _ _, by repeat (first | (with_reducible first | exact HB.out | apply below_alloc | apply pw_below_drewN | apply below_drew1 | refine below_set ?_ GE294.out) | exact HB.out)⟩
             · rw [if_neg c21] at H
               have c21b0 : decide (255 < (l0_6.length : Int)) = false := decide_eq_false c21
               have c21b1 : decide (255 < l0_6.length) = false := decide_eq_false (by omega)
               clear c21
               obtain ⟨y301, hy301⟩ : ∃ y_ : List Int, y_ = (([((l0_6.length : Int)) % 256] : List Int)) := ⟨_, rfl⟩
               replace H : ((slices_Concat_byte_byte.f kj9 (([y301, l0_6, l0_7] : List (List Int)))).bind fun t307 => ((ctl_Put.f kj9 a0_1 a0_2 t307).bind fun bt310 => (some (bt310.1, bt310.2)))) = some (r1, r2) := by first | (rw [hy301]; with_reducible exact H) | (have H2_ := (Option.bind_some _ _).symm.trans H; rw [hy301]; with_reducible exact H2_) | (have H2_ := (Option.bind_some _ _).symm.trans H; with_reducible exact H2_) | with_reducible exact H | (rw [hy301]; exact H) | exact H
               have Ny301 := Aside0.mk hy301
               clear hy301
               obtain ⟨y304, hy304⟩ : ∃ y_ : List (List Int), y_ = (([y301, l0_6, l0_7] : List (List Int))) := ⟨_, rfl⟩
               replace H : ((slices_Concat_byte_byte.f kj9 y304).bind fun t307 => ((ctl_Put.f kj9 a0_1 a0_2 t307).bind fun bt310 => (some (bt310.1, bt310.2)))) = some (r1, r2) := by first | (rw [hy304]; with_reducible exact H) | (have H2_ := (Option.bind_some _ _).symm.trans H; rw [hy304]; with_reducible exact H2_) | (have H2_ := (Option.bind_some _ _).symm.trans H; with_reducible exact H2_) | with_reducible exact H | (rw [hy304]; exact H) | exact H
               have Ny304 := Aside0.mk hy304
               clear hy304
               replace H := Option.bind_eq_some_iff.mp H
               obtain ⟨t307, A230, H⟩ := H
               replace H : ((ctl_Put.f kj9 a0_1 a0_2 t307).bind fun bt310 => (some (bt310.1, bt310.2))) = some (r1, r2) := H
               have A23 := Aside0.mk A230
               clear A230
               replace H := Option.bind_eq_some_iff.mp H
               obtain ⟨⟨t310, t311⟩, A240, H⟩ := H
               replace H : (some (t310, t311)) = some (r1, r2) := H
               have A24 := Aside0.mk A240
               clear A240
               simp only [Option.some.injEq, Prod.mk.injEq] at H
               obtain ⟨rfl, rfl⟩ := H
               obtain ⟨⟨hcz25_0, hcz25_1, hcz25_2, hcz25_3, hcz25_4, hcz25_5, hcz25_6, hcz25_7, hcz25_8, hcz25_9⟩, hfz25_0, hfz25_1, hfz25_2, hfz25_3, hfz25_4, hfz25_5, hfz25_6, hfz25_7, hfz25_8, hfz25_9⟩ := cz10 BK294.out
               try go_wp2_with (first | ((with_reducible refine gate_callee (f := 57) rfl ?_); refine goesL_ (some 49) rfl rfl Try.func57 (by kernel_rfl) rfl #[.int .u8 a0_1] rfl (by (try simp only [List.map_toArray, List.map_cons, List.map_nil]); first | done | rfl | (simp only [List.length_drop, List.length_take]; rfl)) ?_; (with_reducible refine (chap_valued.calls a0_1 true _ A17.out).mono ?_); rintro e w' ⟨rfl, ⟨nd, rfl⟩⟩; refine ⟨_, rfl, ?_⟩))
               (try (rw [drewN_self wc]; generalize hq_ : World.drewN wc _ = wc; have n0_ : Aside0 (Kd.V (Kd.int .u8) 5 wc w.heap.size (fun k_ => ((P0_6_ k_ ∨ P0_7_ k_) ∨ w.heap.size ≤ k_) ∧ k_ ≠ gb294) (.slice A0_6 l0_6.length c0_6) l0_6) := ⟨by rw [← hq_]; exact (by (with_reducible repeat (first | apply Kd.V_alloc | apply Kd.V_drewN | apply Kd.V_drew)); exact HO_295006.out)⟩; have n1_ : Aside0 (Kd.V (Kd.int .u8) 5 wc w.heap.size (fun k_ => ((P0_6_ k_ ∨ P0_7_ k_) ∨ w.heap.size ≤ k_) ∧ k_ ≠ gb294) (.slice A0_7 l0_7.length c0_7) l0_7) := ⟨by rw [← hq_]; exact (by (with_reducible repeat (first | apply Kd.V_alloc | apply Kd.V_drewN | apply Kd.V_drew)); exact HO_295007.out)⟩; have n2_ : Aside0 (wc.heap[gb294]? = some (.cells #[.int .u16 a0_0, .int .u8 a0_1, .int .u8 a0_2, .slice A0_3 l0_3.length c0_3, .int .u16 a0_4, .int .u32 a0_5, .slice A0_6 l0_6.length c0_6, .slice A0_7 l0_7.length c0_7, .slice A0_8 l0_8.length c0_8, .slice A0_9 l0_9.length c0_9] 47 (0, 0))) := ⟨by rw [← hq_]; exact (by (with_reducible repeat (first | refine blk_drewN ?_ _ | refine blk_drew ?_ | refine blk_alloc ?_ _)); exact BK294.out)⟩; have n3_ : Aside0 (Below w.heap.size w wc) := ⟨by rw [← hq_]; exact (by repeat (first | (with_reducible first | exact HB.out | apply below_alloc | apply pw_below_drewN | apply below_drew1 | refine below_set ?_ GE294.out) | exact HB.out))⟩; clear HO_295006 HO_295007 BK294 HB hq_; have HO_295006 := n0_; have HO_295007 := n1_; have BK294 := n2_; have HB := n3_; clear n0_ n1_ n2_ n3_))
               have n0_ := Aside0.mk (Kd.V_drew HO_295006.out)
               have n1_ := Aside0.mk (Kd.V_drew HO_295007.out)
               have n2_ := Aside0.mk (blk_drew BK294.out)
               have n3_ := Aside0.mk (below_drew1 HB.out)
               clear HO_295006
               clear HO_295007
               clear BK294
               clear HB
               have HO_295006 := n0_
               have HO_295007 := n1_
               have BK294 := n2_
               have HB := n3_
               clear n0_ n1_ n2_ n3_
               refine start_ (n := 20) (S := fun w' => w'.cell? ⟨gb294, 0, none⟩ = some (.int .u16 a0_0) ∧ w'.cell? ⟨gb294, 1, none⟩ = some (.int .u8 a0_1) ∧ w'.cell? ⟨gb294, 2, none⟩ = some (.int .u8 a0_2) ∧ w'.cell? ⟨gb294, 3, none⟩ = some (.slice A0_3 l0_3.length c0_3) ∧ w'.cell? ⟨gb294, 4, none⟩ = some (.int .u16 a0_4) ∧ w'.cell? ⟨gb294, 5, none⟩ = some (.int .u32 a0_5) ∧ w'.cell? ⟨gb294, 6, none⟩ = some (.slice A0_6 l0_6.length c0_6) ∧ w'.cell? ⟨gb294, 7, none⟩ = some (.slice A0_7 l0_7.length c0_7) ∧ w'.cell? ⟨gb294, 8, none⟩ = some (.slice A0_8 l0_8.length c0_8) ∧ w'.cell? ⟨gb294, 9, none⟩ = some (.slice A0_9 l0_9.length c0_9)) (ds := []) #[false, false, false, false, false, false, false, false, false, false, false, false, false, false, false, false, false, false, false, false] (by kernel_rfl) rfl rfl ⟨(blk_cell BK294.out 0).trans rfl, (blk_cell BK294.out 1).trans rfl, (blk_cell BK294.out 2).trans rfl, (blk_cell BK294.out 3).trans rfl, (blk_cell BK294.out 4).trans rfl, (blk_cell BK294.out 5).trans rfl, (blk_cell BK294.out 6).trans rfl, (blk_cell BK294.out 7).trans rfl, (blk_cell BK294.out 8).trans rfl, (blk_cell BK294.out 9).trans rfl⟩ (fun hHeld => ?_); refine with_tabW chap_Put.tab15 chap_Put.bits15 (fun HT_ HW_ => ?_)
               generalize wc.drew = w26 at HO_295006 HO_295007 BK294 HB hHeld ⊢
               refine pure_ (i := 0) (N := some 70) (v := ?_) (a' := ?_) #[true, false, false, false, false, false, false, false, false, false, false, false, false, false, false, false, false, false, false, false] rfl rfl (any_of HT_.out (by kernel_rfl)) (fun _ _ _ h => h) (Or.inl ⟨by rfl, ?_⟩) ?_ ?_
               rotate_left
               · intro w'
                 go_simp
                 with_reducible rfl
               rotate_left
               · simp only [Act.put, List.setIfInBounds_toArray, List.set_cons_zero, List.set_cons_succ, i64_w, i32_w]
                 rfl
               refine pure_ (i := 2) (N := some 72) (v := ?_) (a' := ?_) #[true, false, true, false, false, false, false, false, false, false, false, false, false, false, false, false, false, false, false, false] rfl rfl (any_of HT_.out (by kernel_rfl)) (fun _ _ _ h => h) (Or.inl ⟨by rfl, ?_⟩) ?_ ?_
               rotate_left
               · intro w'
                 go_simp
                 with_reducible rfl
               rotate_left
               · simp only [Act.put, List.setIfInBounds_toArray, List.set_cons_zero, List.set_cons_succ, i64_w, i32_w]
                 rfl
               refine pure_ (i := 4) (N := some 74) (v := ?_) (a' := ?_) #[true, false, true, false, true, false, false, false, false, false, false, false, false, false, false, false, false, false, false, false] rfl rfl (any_of HT_.out (by kernel_rfl)) (fun _ _ _ h => h) (Or.inl ⟨by rfl, ?_⟩) ?_ ?_
               rotate_left
               · intro w'
                 go_simp
                 with_reducible rfl
               rotate_left
               · simp only [Act.put, List.setIfInBounds_toArray, List.set_cons_zero, List.set_cons_succ, i64_w, i32_w]
                 rfl
               refine pure_ (i := 9) (N := some 79) (v := ?_) (a' := ?_) #[true, false, true, false, true, false, false, false, false, true, false, false, false, false, false, false, false, false, false, false] rfl rfl (any_of HT_.out (by kernel_rfl)) (fun _ _ _ h => h) (Or.inl ⟨by rfl, ?_⟩) ?_ ?_
               rotate_left
               · intro w'
                 go_simp
                 with_reducible rfl
               rotate_left
               · simp only [Act.put, List.setIfInBounds_toArray, List.set_cons_zero, List.set_cons_succ, i64_w, i32_w]
                 rfl
               refine pure_ (i := 11) (N := some 81) (v := ?_) (a' := ?_) #[true, false, true, false, true, false, false, false, false, true, false, true, false, false, false, false, false, false, false, false] rfl rfl (any_of HT_.out (by kernel_rfl)) (fun _ _ _ h => h) (Or.inl ⟨by rfl, ?_⟩) ?_ ?_
               rotate_left
               · intro w'
                 go_simp
                 with_reducible rfl
               rotate_left
               · simp only [Act.put, List.setIfInBounds_toArray, List.set_cons_zero, List.set_cons_succ, i64_w, i32_w]
                 rfl
               refine take_ (i := 1) (N := some 71) (v := ?_) (a' := ?_) #[true, true, true, false, true, false, false, false, false, true, false, true, false, false, false, false, false, false, false, false] rfl rfl (take_ofW HT_.out HW_.out (by kernel_rfl)) (fun _ _ _ h => h) (Or.inl ⟨by rfl, ?_⟩) hHeld ?_ ?_
               rotate_left
               · rintro w' ⟨s0, s1, s2, s3, s4, s5, s6, s7, s8, s9⟩
                 go_simp
                 with_reducible rfl
               rotate_left
               · simp only [Act.put, List.setIfInBounds_toArray, List.set_cons_zero, List.set_cons_succ, i64_w, i32_w]
                 rfl
               refine take_ (i := 3) (N := some 73) (v := ?_) (a' := ?_) #[true, true, true, true, true, false, false, false, false, true, false, true, false, false, false, false, false, false, false, false] rfl rfl (take_ofW HT_.out HW_.out (by kernel_rfl)) (fun _ _ _ h => h) (Or.inl ⟨by rfl, ?_⟩) hHeld ?_ ?_
               rotate_left
               · rintro w' ⟨s0, s1, s2, s3, s4, s5, s6, s7, s8, s9⟩
                 go_simp
                 with_reducible rfl
               rotate_left
               · simp only [Act.put, List.setIfInBounds_toArray, List.set_cons_zero, List.set_cons_succ, i64_w, i32_w]
                 rfl
               refine take_ (i := 5) (N := some 75) (v := ?_) (a' := ?_) #[true, true, true, true, true, true, false, false, false, true, false, true, false, false, false, false, false, false, false, false] rfl rfl (take_ofW HT_.out HW_.out (by kernel_rfl)) (fun _ _ _ h => h) (Or.inl ⟨by rfl, ?_⟩) hHeld ?_ ?_
               rotate_left
               · rintro w' ⟨s0, s1, s2, s3, s4, s5, s6, s7, s8, s9⟩
                 go_simp
                 with_reducible rfl
               rotate_left
               · simp only [Act.put, List.setIfInBounds_toArray, List.set_cons_zero, List.set_cons_succ, i64_w, i32_w]
                 rfl
               refine pure_ (i := 6) (N := some 76) (v := ?_) (a' := ?_) #[true, true, true, true, true, true, true, false, false, true, false, true, false, false, false, false, false, false, false, false] rfl rfl (any_of HT_.out (by kernel_rfl)) (fun _ _ _ h => h) (Or.inl ⟨by rfl, ?_⟩) ?_ ?_
               rotate_left
               · intro w'
                 go_simp
                 with_reducible rfl
               rotate_left
               · simp only [Act.put, List.setIfInBounds_toArray, List.set_cons_zero, List.set_cons_succ, i64_w, i32_w]
                 rfl
               refine pure_ (i := 7) (N := some 77) (v := ?_) (a' := ?_) #[true, true, true, true, true, true, true, true, false, true, false, true, false, false, false, false, false, false, false, false] rfl rfl (any_of HT_.out (by kernel_rfl)) (fun _ _ _ h => h) (Or.inl ⟨by rfl, ?_⟩) ?_ ?_
               rotate_left
               · intro w'
                 go_simp
                 with_reducible rfl
               rotate_left
               · simp only [Act.put, List.setIfInBounds_toArray, List.set_cons_zero, List.set_cons_succ, i64_w, i32_w]
                 rfl
               refine take_ (i := 10) (N := some 80) (v := ?_) (a' := ?_) #[true, true, true, true, true, true, true, true, false, true, true, true, false, false, false, false, false, false, false, false] rfl rfl (take_ofW HT_.out HW_.out (by kernel_rfl)) (fun _ _ _ h => h) (Or.inl ⟨by rfl, ?_⟩) hHeld ?_ ?_
               rotate_left
               · rintro w' ⟨s0, s1, s2, s3, s4, s5, s6, s7, s8, s9⟩
                 go_simp
                 with_reducible rfl
               rotate_left
               · simp only [Act.put, List.setIfInBounds_toArray, List.set_cons_zero, List.set_cons_succ, i64_w, i32_w]
                 rfl
               refine take_ (i := 12) (N := some 82) (v := ?_) (a' := ?_) #[true, true, true, true, true, true, true, true, false, true, true, true, true, false, false, false, false, false, false, false] rfl rfl (take_ofW HT_.out HW_.out (by kernel_rfl)) (fun _ _ _ h => h) (Or.inl ⟨by rfl, ?_⟩) hHeld ?_ ?_
               rotate_left
               · rintro w' ⟨s0, s1, s2, s3, s4, s5, s6, s7, s8, s9⟩
                 go_simp
                 with_reducible rfl
               rotate_left
               · simp only [Act.put, List.setIfInBounds_toArray, List.set_cons_zero, List.set_cons_succ, i64_w, i32_w]
                 rfl
               refine one_ (i := 8) (N := some 78) #[true, true, true, true, true, true, true, true, true, true, true, true, true, false, false, false, false, false, false, false] rfl rfl (one_of HT_.out (by kernel_rfl)) (by decide) (fun K hK => ?_)
               refine Kd.R_lit_step (Kd.int .u8) _ 5 ?hg (N := 78) ?hd (xs := ([((l0_6.length : Int)) % 256] : List Int)) (inner := [.int .u8 (((l0_6.length : Int)) % 256)]) (ok := fun _ => True) (okp := fun _ => True) ?hr ?hp (fun _ hk => hk) trivial (Below.refl _ _) (Nat.le_refl _) (by simp) ?_; (case hd => rfl); (case hg => rfl); (case hr => first | (go_simp; done) | (go_simp; simp only [IntKind.wrap_u8, IntKind.wrap_u16, IntKind.wrap_u32, IntKind.wrap_u64]; done) | (go_simp; simp only [IntKind.wrap_u8, IntKind.wrap_u16, IntKind.wrap_u32, IntKind.wrap_u64, Int.tmod_eq_emod_of_nonneg (Int.natCast_nonneg _), Int.emod_emod]; done) | (go_simp; rfl)); (case hp => exact (Reps.one (show Kd.M (Kd.int .u8) _ _ _ (((l0_6.length : Int)) % 256) [.int .u8 (((l0_6.length : Int)) % 256)] from rfl) (Reps.none _ _)))
               intro v302 w27 ho28 hb hg_ hnew_
               clear hg_ hnew_
               (first | rw [← Ny301.out] at ho28 | (simp only [Int.reduceToNat] at ho28; rw [← Ny301.out] at ho28))
               have n0_ := Aside0.mk (Kd.V_elder' (by (with_reducible repeat (first | apply Kd.V_alloc | apply Kd.V_drewN | apply Kd.V_drew)); exact HO_295006.out) (Kd.R_base ho28) hb)
               have n1_ := Aside0.mk (Kd.V_elder' (by (with_reducible repeat (first | apply Kd.V_alloc | apply Kd.V_drewN | apply Kd.V_drew)); exact HO_295007.out) (Kd.R_base ho28) hb)
               have n2_ := Aside0.mk (Kd.R_lower (Kd.R_newM (M := fun k_ => (w.heap.size ≤ k_)) ho28 (below_size (by repeat (first | (with_reducible first | exact HB.out | apply below_alloc | apply pw_below_drewN | apply below_drew1 | refine below_set ?_ GE294.out) | exact HB.out))) (fun k_ h_ => h_)) (below_size (by repeat (first | (with_reducible first | exact HB.out | apply below_alloc | apply pw_below_drewN | apply below_drew1 | refine below_set ?_ GE294.out) | exact HB.out))))
               have n3_ := Aside0.mk (blk_below (g := gb294) (o := .cells #[.int .u16 a0_0, .int .u8 a0_1, .int .u8 a0_2, .slice A0_3 l0_3.length c0_3, .int .u16 a0_4, .int .u32 a0_5, .slice A0_6 l0_6.length c0_6, .slice A0_7 l0_7.length c0_7, .slice A0_8 l0_8.length c0_8, .slice A0_9 l0_9.length c0_9] 47 (0, 0)) (by (with_reducible repeat (first | refine blk_drewN ?_ _ | refine blk_drew ?_ | refine blk_alloc ?_ _)); exact BK294.out) hb)
               have n4_ := Aside0.mk (below_step (by repeat (first | (with_reducible first | exact HB.out | apply below_alloc | apply pw_below_drewN | apply below_drew1 | refine below_set ?_ GE294.out) | exact HB.out)) hb)
               clear HO_295006
               clear HO_295007
               clear BK294
               clear HB
               have HO_295006 := n0_
               have HO_295007 := n1_
               have HO303 := n2_
               have BK294 := n3_
               have HB := n4_
               clear n0_ n1_ n2_ n3_ n4_
               clear hb ho28
               obtain ⟨Ao29, co29, eo29⟩ := Kd.R_slice HO303.out
               (first | subst eo29 | (injection eo29 with f1_ f2_ f3_; have f4_ := f1_.symm; have f5_ := f3_.symm; clear f1_ f2_ f3_; subst f4_; subst f5_))
               refine hK.out _ _ ⟨(blk_cell BK294.out 0).trans rfl, (blk_cell BK294.out 1).trans rfl, (blk_cell BK294.out 2).trans rfl, (blk_cell BK294.out 3).trans rfl, (blk_cell BK294.out 4).trans rfl, (blk_cell BK294.out 5).trans rfl, (blk_cell BK294.out 6).trans rfl, (blk_cell BK294.out 7).trans rfl, (blk_cell BK294.out 8).trans rfl, (blk_cell BK294.out 9).trans rfl⟩ (fun hHeld => ?_)
               clear hK K
               refine norm_ (a' := ?_) ?_ ?_
               rotate_left
               · show Act.put _ (some 78) _ = _
                 simp only [Act.put, List.setIfInBounds_toArray, List.set_cons_zero, List.set_cons_succ, i64_w, i32_w]
                 rfl
               refine one_ (i := 13) (N := some 83) #[true, true, true, true, true, true, true, true, true, true, true, true, true, true, false, false, false, false, false, false] rfl rfl (one_of HT_.out (by kernel_rfl)) (by decide) (fun K hK => ?_)
               refine Kd.N_lit_step (Kd.slice 5 (Kd.int .u8)) _ 23 ?hg (N' := 83) ?hd (xs := ([y301, l0_6, l0_7] : List (List Int))) (inner := [.slice Ao29 y301.length co29, .slice A0_6 l0_6.length c0_6, .slice A0_7 l0_7.length c0_7]) (ok := (fun k_ => ((P0_6_ k_ ∨ P0_7_ k_) ∨ w.heap.size ≤ k_) ∧ k_ ≠ gb294)) (okp := (fun k_ => ((P0_6_ k_ ∨ P0_7_ k_) ∨ w.heap.size ≤ k_) ∧ k_ ≠ gb294)) ?hr ?hp (fun _ hk => hk) ((show ∀ k_, w27.heap.size ≤ k_ → (fun k_ => ((P0_6_ k_ ∨ P0_7_ k_) ∨ w.heap.size ≤ k_) ∧ k_ ≠ gb294) k_ from fun k_ hk => ⟨(.inr (Nat.le_trans (below_size (by repeat (first | (with_reducible first | exact HB.out | apply below_alloc | apply pw_below_drewN | apply below_drew1 | refine below_set ?_ GE294.out) | exact HB.out))) hk)), Kd.freshB (g := gb294) (o := .cells #[.int .u16 a0_0, .int .u8 a0_1, .int .u8 a0_2, .slice A0_3 l0_3.length c0_3, .int .u16 a0_4, .int .u32 a0_5, .slice A0_6 l0_6.length c0_6, .slice A0_7 l0_7.length c0_7, .slice A0_8 l0_8.length c0_8, .slice A0_9 l0_9.length c0_9] 47 (0, 0)) (by (with_reducible repeat (first | refine blk_drewN ?_ _ | refine blk_drew ?_ | refine blk_alloc ?_ _)); exact BK294.out) k_ hk⟩) _ (Nat.le_refl _)) (Below.refl _ _) (Nat.le_refl _) (by simp) ?_; (case hd => rfl); (case hg => rfl); (case hr => first | (go_simp; done) | (go_simp; simp only [IntKind.wrap_u8, IntKind.wrap_u16, IntKind.wrap_u32, IntKind.wrap_u64]; done) | (go_simp; simp only [IntKind.wrap_u8, IntKind.wrap_u16, IntKind.wrap_u32, IntKind.wrap_u64, Int.tmod_eq_emod_of_nonneg (Int.natCast_nonneg _), Int.emod_emod]; done) | (go_simp; rfl)); (case hp => exact (Reps.one (show Kd.FK (Kd.slice 5 (Kd.int .u8)) _ _ y301 [.slice Ao29 y301.length co29] from (Kd.FK_slice_mk (Kd.R_reads' (Kd.R_mono (ok' := (fun k_ => ((P0_6_ k_ ∨ P0_7_ k_) ∨ w.heap.size ≤ k_) ∧ k_ ≠ gb294)) (Kd.R_types (HO303.out) BK294.out (by decide)) (fun k_ hk => ⟨(.inr (hk.1.1)), hk.2⟩))).2.1 (Kd.R_F (Kd.R_mono (ok' := (fun k_ => ((P0_6_ k_ ∨ P0_7_ k_) ∨ w.heap.size ≤ k_) ∧ k_ ≠ gb294)) (Kd.R_types (HO303.out) BK294.out (by decide)) (fun k_ hk => ⟨(.inr (hk.1.1)), hk.2⟩))))) (Reps.one (show Kd.FK (Kd.slice 5 (Kd.int .u8)) _ _ l0_6 [.slice A0_6 l0_6.length c0_6] from (Kd.FK_slice_mk (Kd.V_reads' (Kd.V_mono (ok' := (fun k_ => ((P0_6_ k_ ∨ P0_7_ k_) ∨ w.heap.size ≤ k_) ∧ k_ ≠ gb294)) (HO_295006.out) (fun k_ hk => ⟨hk.1.1, hk.1.2⟩))).2.1 (Kd.V_F (Kd.V_mono (ok' := (fun k_ => ((P0_6_ k_ ∨ P0_7_ k_) ∨ w.heap.size ≤ k_) ∧ k_ ≠ gb294)) (HO_295006.out) (fun k_ hk => ⟨hk.1.1, hk.1.2⟩))))) (Reps.one (show Kd.FK (Kd.slice 5 (Kd.int .u8)) _ _ l0_7 [.slice A0_7 l0_7.length c0_7] from (Kd.FK_slice_mk (Kd.V_reads' (Kd.V_mono (ok' := (fun k_ => ((P0_6_ k_ ∨ P0_7_ k_) ∨ w.heap.size ≤ k_) ∧ k_ ≠ gb294)) (HO_295007.out) (fun k_ hk => ⟨hk.1.1, hk.1.2⟩))).2.1 (Kd.V_F (Kd.V_mono (ok' := (fun k_ => ((P0_6_ k_ ∨ P0_7_ k_) ∨ w.heap.size ≤ k_) ∧ k_ ≠ gb294)) (HO_295007.out) (fun k_ hk => ⟨hk.1.1, hk.1.2⟩))))) (Reps.none _ _)))))
               intro v305 w30 ho31 hb hg_ hnew_
               clear hg_ hnew_
               (first | rw [← Ny304.out] at ho31 | (simp only [Int.reduceToNat] at ho31; rw [← Ny304.out] at ho31))
               have n0_ := Aside0.mk (Kd.V_elder' (by (with_reducible repeat (first | apply Kd.V_alloc | apply Kd.V_drewN | apply Kd.V_drew)); exact HO_295006.out) (Kd.N_base ho31) hb)
               have n1_ := Aside0.mk (Kd.V_elder' (by (with_reducible repeat (first | apply Kd.V_alloc | apply Kd.V_drewN | apply Kd.V_drew)); exact HO_295007.out) (Kd.N_base ho31) hb)
               have n2_ := Aside0.mk (Kd.N_lower ho31 (below_size (by repeat (first | (with_reducible first | exact HB.out | apply below_alloc | apply pw_below_drewN | apply below_drew1 | refine below_set ?_ GE294.out) | exact HB.out))))
               have n3_ := Aside0.mk (blk_below (g := gb294) (o := .cells #[.int .u16 a0_0, .int .u8 a0_1, .int .u8 a0_2, .slice A0_3 l0_3.length c0_3, .int .u16 a0_4, .int .u32 a0_5, .slice A0_6 l0_6.length c0_6, .slice A0_7 l0_7.length c0_7, .slice A0_8 l0_8.length c0_8, .slice A0_9 l0_9.length c0_9] 47 (0, 0)) (by (with_reducible repeat (first | refine blk_drewN ?_ _ | refine blk_drew ?_ | refine blk_alloc ?_ _)); exact BK294.out) hb)
               have n4_ := Aside0.mk (below_step (by repeat (first | (with_reducible first | exact HB.out | apply below_alloc | apply pw_below_drewN | apply below_drew1 | refine below_set ?_ GE294.out) | exact HB.out)) hb)
               clear HO_295006
               clear HO_295007
               clear BK294
               clear HB
               clear HO303
               have HO_295006 := n0_
               have HO_295007 := n1_
               have HO306 := n2_
               have BK294 := n3_
               have HB := n4_
               clear n0_ n1_ n2_ n3_ n4_
               clear hb ho31
               obtain ⟨Ao32, co32, eo32⟩ := Kd.N_slice HO306.out
               (first | subst eo32 | (injection eo32 with f1_ f2_ f3_; have f4_ := f1_.symm; have f5_ := f3_.symm; clear f1_ f2_ f3_; subst f4_; subst f5_))
               refine hK.out _ _ ⟨(blk_cell BK294.out 0).trans rfl, (blk_cell BK294.out 1).trans rfl, (blk_cell BK294.out 2).trans rfl, (blk_cell BK294.out 3).trans rfl, (blk_cell BK294.out 4).trans rfl, (blk_cell BK294.out 5).trans rfl, (blk_cell BK294.out 6).trans rfl, (blk_cell BK294.out 7).trans rfl, (blk_cell BK294.out 8).trans rfl, (blk_cell BK294.out 9).trans rfl⟩ (fun hHeld => ?_)
               clear hK K
               refine norm_ (a' := ?_) ?_ ?_
               rotate_left
               · show Act.put _ (some 83) _ = _
                 simp only [Act.put, List.setIfInBounds_toArray, List.set_cons_zero, List.set_cons_succ, i64_w, i32_w]
                 rfl
               refine one_ (i := 14) (N := some 84) #[true, true, true, true, true, true, true, true, true, true, true, true, true, true, true, false, false, false, false, false] rfl rfl (one_of HT_.out (by kernel_rfl)) (by decide) (fun K hK => ?_)
               refine goes_ Try.func58 (by kernel_rfl) rfl #[.slice Ao32 y304.length co32] (by rfl) rfl rfl (by (try simp only [List.map_toArray, List.map_cons, List.map_nil]); first | done | rfl | (simp only [List.length_drop, List.length_take]; rfl)) ?_
               with_reducible refine (slices_Concat_byte_byte.calls kj9 _ _ y304 t307 _ ?side1 ?side2 A23.out).mono ?_
               (case side1 => repeat (first | exact (Kd.N_reads' HO306.out).2.2 | (with_reducible refine Kd.C_alloc ?_ _) | (with_reducible refine Kd.C_drewN ?_ _) | (with_reducible refine Kd.C_drew ?_)))
               (case side2 => exact (Kd.N_reads' HO306.out).2.1)
               rintro e w33 ⟨v308, rfl, ho0, hb⟩
               refine ⟨_, rfl, ?_⟩
               have n0_ := Aside0.mk (Kd.V_elder' (by (with_reducible repeat (first | apply Kd.V_alloc | apply Kd.V_drewN | apply Kd.V_drew)); exact HO_295006.out) (Kd.R_base ho0) hb)
               have n1_ := Aside0.mk (Kd.V_elder' (by (with_reducible repeat (first | apply Kd.V_alloc | apply Kd.V_drewN | apply Kd.V_drew)); exact HO_295007.out) (Kd.R_base ho0) hb)
               have n2_ := Aside0.mk (Kd.N_elder' (by (with_reducible repeat (first | apply Kd.N_alloc | apply Kd.N_drewN | apply Kd.N_drew)); exact HO306.out) (Kd.R_base ho0) hb)
               have n3_ := Aside0.mk (Kd.R_lower (Kd.R_newM (M := fun k_ => (w.heap.size ≤ k_)) ho0 (below_size (by repeat (first | (with_reducible first | exact HB.out | apply below_alloc | apply pw_below_drewN | apply below_drew1 | refine below_set ?_ GE294.out) | exact HB.out))) (fun k_ h_ => h_)) (below_size (by repeat (first | (with_reducible first | exact HB.out | apply below_alloc | apply pw_below_drewN | apply below_drew1 | refine below_set ?_ GE294.out) | exact HB.out))))
               have n4_ := Aside0.mk (blk_below (g := gb294) (o := .cells #[.int .u16 a0_0, .int .u8 a0_1, .int .u8 a0_2, .slice A0_3 l0_3.length c0_3, .int .u16 a0_4, .int .u32 a0_5, .slice A0_6 l0_6.length c0_6, .slice A0_7 l0_7.length c0_7, .slice A0_8 l0_8.length c0_8, .slice A0_9 l0_9.length c0_9] 47 (0, 0)) (by (with_reducible repeat (first | refine blk_drewN ?_ _ | refine blk_drew ?_ | refine blk_alloc ?_ _)); exact BK294.out) hb)
               have n5_ := Aside0.mk (below_step (by repeat (first | (with_reducible first | exact HB.out | apply below_alloc | apply pw_below_drewN | apply below_drew1 | refine below_set ?_ GE294.out) | exact HB.out)) hb)
               clear HO_295006
               clear HO_295007
               clear HO306
               clear BK294
               clear HB
               have HO_295006 := n0_
               have HO_295007 := n1_
               have HO306 := n2_
               have HO309 := n3_
               have BK294 := n4_
               have HB := n5_
               clear n0_ n1_ n2_ n3_ n4_ n5_
               (try clear hb)
               (try clear hb2)
               (try clear hk)
               (try clear hi)
               (try clear ho0)
               obtain ⟨Ao34, co34, eo34⟩ := Kd.R_slice HO309.out
               (first | subst eo34 | (injection eo34 with f1_ f2_ f3_; have f4_ := f1_.symm; have f5_ := f3_.symm; clear f1_ f2_ f3_; subst f4_; subst f5_))
               refine hK.out _ _ ⟨(blk_cell BK294.out 0).trans rfl, (blk_cell BK294.out 1).trans rfl, (blk_cell BK294.out 2).trans rfl, (blk_cell BK294.out 3).trans rfl, (blk_cell BK294.out 4).trans rfl, (blk_cell BK294.out 5).trans rfl, (blk_cell BK294.out 6).trans rfl, (blk_cell BK294.out 7).trans rfl, (blk_cell BK294.out 8).trans rfl, (blk_cell BK294.out 9).trans rfl⟩ (fun hHeld => ?_)
               clear hK K
               refine norm_ (a' := ?_) ?_ ?_
               rotate_left
               · show Act.put _ (some 84) _ = _
                 simp only [Act.put, List.setIfInBounds_toArray, List.set_cons_zero, List.set_cons_succ, i64_w, i32_w]
                 rfl
               refine one_ (i := 15) (N := some 85) #[true, true, true, true, true, true, true, true, true, true, true, true, true, true, true, true, false, false, false, false] rfl rfl (one_of HT_.out (by kernel_rfl)) (by decide) (fun K hK => ?_)
               refine goes_ Try.func51 (by kernel_rfl) rfl #[.int .u8 a0_1, .int .u8 a0_2, .slice Ao34 t307.length co34] (by rfl) rfl rfl (by (try simp only [List.map_toArray, List.map_cons, List.map_nil]); first | done | rfl | (simp only [List.length_drop, List.length_take]; rfl)) ?_
               with_reducible refine (ctl_Put.calls kj9 a0_1 a0_2 _ _ t307 t310 t311 _ ?side1 ?side2 A24.out).mono ?_
               (case side1 => repeat (first | exact (Kd.R_reads' HO309.out).2.2 | (with_reducible refine Kd.C_alloc ?_ _) | (with_reducible refine Kd.C_drewN ?_ _) | (with_reducible refine Kd.C_drew ?_)))
               (case side2 => exact (Kd.R_reads' HO309.out).2.1)
               rintro e w35 ⟨v312, rfl, ho0, hb⟩
               refine ⟨_, rfl, ?_⟩
               have n0_ := Aside0.mk (Kd.V_elder' (by (with_reducible repeat (first | apply Kd.V_alloc | apply Kd.V_drewN | apply Kd.V_drew)); exact HO_295006.out) (Kd.R_base ho0) hb)
               have n1_ := Aside0.mk (Kd.V_elder' (by (with_reducible repeat (first | apply Kd.V_alloc | apply Kd.V_drewN | apply Kd.V_drew)); exact HO_295007.out) (Kd.R_base ho0) hb)
               have n2_ := Aside0.mk (Kd.N_elder' (by (with_reducible repeat (first | apply Kd.N_alloc | apply Kd.N_drewN | apply Kd.N_drew)); exact HO306.out) (Kd.R_base ho0) hb)
               have n3_ := Aside0.mk (Kd.R_elder' (by (with_reducible repeat (first | apply Kd.R_alloc | apply Kd.R_drewN | apply Kd.R_drew)); exact HO309.out) (Kd.R_base ho0) hb)
               have n4_ := Aside0.mk (Kd.R_lower (Kd.R_new' (Kd.R_newM (M := fun k_ => (w.heap.size ≤ k_)) ho0 (below_size (by repeat (first | (with_reducible first | exact HB.out | apply below_alloc | apply pw_below_drewN | apply below_drew1 | refine below_set ?_ GE294.out) | exact HB.out))) (fun k_ h_ => h_)) (Kd.R_lt (by (with_reducible repeat (first | apply Kd.R_alloc | apply Kd.R_drewN | apply Kd.R_drew)); exact HO309.out))) (below_size (by repeat (first | (with_reducible first | exact HB.out | apply below_alloc | apply pw_below_drewN | apply below_drew1 | refine below_set ?_ GE294.out) | exact HB.out))))
               have n5_ := Aside0.mk (blk_below (g := gb294) (o := .cells #[.int .u16 a0_0, .int .u8 a0_1, .int .u8 a0_2, .slice A0_3 l0_3.length c0_3, .int .u16 a0_4, .int .u32 a0_5, .slice A0_6 l0_6.length c0_6, .slice A0_7 l0_7.length c0_7, .slice A0_8 l0_8.length c0_8, .slice A0_9 l0_9.length c0_9] 47 (0, 0)) (by (with_reducible repeat (first | refine blk_drewN ?_ _ | refine blk_drew ?_ | refine blk_alloc ?_ _)); exact BK294.out) hb)
               have n6_ := Aside0.mk (below_step (by repeat (first | (with_reducible first | exact HB.out | apply below_alloc | apply pw_below_drewN | apply below_drew1 | refine below_set ?_ GE294.out) | exact HB.out)) hb)
               clear HO_295006
               clear HO_295007
               clear HO306
               clear HO309
               clear BK294
               clear HB
               have HO_295006 := n0_
               have HO_295007 := n1_
               have HO306 := n2_
               have HO309 := n3_
               have HO313 := n4_
               have BK294 := n5_
               have HB := n6_
               clear n0_ n1_ n2_ n3_ n4_ n5_ n6_
               (try clear hb)
               (try clear hb2)
               (try clear hk)
               (try clear hi)
               (try clear ho0)
               refine hK.out _ _ ⟨(blk_cell BK294.out 0).trans rfl, (blk_cell BK294.out 1).trans rfl, (blk_cell BK294.out 2).trans rfl, (blk_cell BK294.out 3).trans rfl, (blk_cell BK294.out 4).trans rfl, (blk_cell BK294.out 5).trans rfl, (blk_cell BK294.out 6).trans rfl, (blk_cell BK294.out 7).trans rfl, (blk_cell BK294.out 8).trans rfl, (blk_cell BK294.out 9).trans rfl⟩ (fun hHeld => ?_)
               clear hK K
               refine norm_ (a' := ?_) ?_ ?_
               rotate_left
               · show Act.put _ (some 85) _ = _
                 simp only [Act.put, List.setIfInBounds_toArray, List.set_cons_zero, List.set_cons_succ, i64_w, i32_w]
                 rfl
               refine pure_ (i := 16) (N := some 86) (v := ?_) (a' := ?_) #[true, true, true, true, true, true, true, true, true, true, true, true, true, true, true, true, true, false, false, false] rfl rfl (any_of HT_.out (by kernel_rfl)) (fun _ _ _ h => h) (Or.inl ⟨by rfl, ?_⟩) ?_ ?_
               rotate_left
               · intro w'
                 go_simp
                 with_reducible rfl
               rotate_left
               · simp only [Act.put, List.setIfInBounds_toArray, List.set_cons_zero, List.set_cons_succ, i64_w, i32_w]
                 rfl
               refine pure_ (i := 17) (N := some 87) (v := ?_) (a' := ?_) #[true, true, true, true, true, true, true, true, true, true, true, true, true, true, true, true, true, true, false, false] rfl rfl (any_of HT_.out (by kernel_rfl)) (fun _ _ _ h => h) (Or.inl ⟨by rfl, ?_⟩) ?_ ?_
               rotate_left
               · intro w'
                 go_simp
                 with_reducible rfl
               rotate_left
               · simp only [Act.put, List.setIfInBounds_toArray, List.set_cons_zero, List.set_cons_succ, i64_w, i32_w]
                 rfl
               refine pure_ (i := 18) (N := some 2) (v := ?_) (a' := ?_) #[true, true, true, true, true, true, true, true, true, true, true, true, true, true, true, true, true, true, true, false] rfl rfl (any_of HT_.out (by kernel_rfl)) (fun _ _ _ h => h) (Or.inl ⟨by rfl, ?_⟩) ?_ ?_
               rotate_left
               · intro w'
                 go_simp
                 with_reducible rfl
               rotate_left
               · simp only [Act.put, List.setIfInBounds_toArray, List.set_cons_zero, List.set_cons_succ, i64_w, i32_w]
                 rfl
               refine pure_ (i := 19) (N := some 3) (v := ?_) (a' := ?_) #[true, true, true, true, true, true, true, true, true, true, true, true, true, true, true, true, true, true, true, true] rfl rfl (any_of HT_.out (by kernel_rfl)) (fun _ _ _ h => h) (Or.inl ⟨by rfl, ?_⟩) ?_ ?_
               rotate_left
               · intro w'
                 go_simp
                 with_reducible rfl
               rotate_left
               · simp only [Act.put, List.setIfInBounds_toArray, List.set_cons_zero, List.set_cons_succ, i64_w, i32_w]
                 rfl
               refine done_ (done_of HT_.out (by kernel_rfl)) ?_
               try go_wp2
               go_ret2
               exact ⟨_, by first | rfl | (simp [errW_none, errW_some] <;> rfl) | (simp [*, errW_none, errW_some] <;> rfl), by (with_reducible repeat (first | apply Kd.R_alloc | apply Kd.R_drewN | apply Kd.R_drew)); exact Kd.R_mono HO313.out (fun _ hk => hk.1.1), by repeat (first | (with_reducible first | exact HB.out | apply below_alloc | apply pw_below_drewN | apply below_drew1 | refine below_set ?_ GE294.out) | exact HB.out)⟩
         · replace c18 := Bool.eq_false_iff.mpr c18
           subst c18
           have H1 : ((ctl_Put.f kj9 a0_1 a0_2 l0_8).bind fun bt297 => (some (bt297.1, bt297.2))) = some (r1, r2) := by rw [if_neg (show ¬ (false = true) by decide)] at H; exact H
           clear H
           have H := H1
           clear H1
           replace H := Option.bind_eq_some_iff.mp H
           obtain ⟨⟨t297, t298⟩, A360, H⟩ := H
           replace H : (some (t297, t298)) = some (r1, r2) := H
           have A36 := Aside0.mk A360
           clear A360
           simp only [Option.some.injEq, Prod.mk.injEq] at H
           obtain ⟨rfl, rfl⟩ := H
           obtain ⟨⟨hcz37_0, hcz37_1, hcz37_2, hcz37_3, hcz37_4, hcz37_5, hcz37_6, hcz37_7, hcz37_8, hcz37_9⟩, hfz37_0, hfz37_1, hfz37_2, hfz37_3, hfz37_4, hfz37_5, hfz37_6, hfz37_7, hfz37_8, hfz37_9⟩ := cz10 BK294.out
           go_wp2_with (first | ((with_reducible refine gate_callee (f := 57) rfl ?_); refine goesL_ (some 49) rfl rfl Try.func57 (by kernel_rfl) rfl #[.int .u8 a0_1] rfl (by (try simp only [List.map_toArray, List.map_cons, List.map_nil]); first | done | rfl | (simp only [List.length_drop, List.length_take]; rfl)) ?_; (with_reducible refine (chap_valued.calls a0_1 false _ A17.out).mono ?_); rintro e w' ⟨rfl, ⟨nd, rfl⟩⟩; refine ⟨_, rfl, ?_⟩) | ((with_reducible refine gate_callee (f := 51) rfl ?_); refine goesL_ (some 57) rfl rfl Try.func51 (by kernel_rfl) rfl #[.int .u8 a0_1, .int .u8 a0_2, .slice A0_8 l0_8.length c0_8] rfl (by (try simp only [List.map_toArray, List.map_cons, List.map_nil]); first | done | rfl | (simp only [List.length_drop, List.length_take]; rfl)) ?_; (with_reducible refine (ctl_Put.calls kj9 a0_1 a0_2 _ _ l0_8 t297 t298 _ ?side1 ?side2 A36.out).mono ?_); (case side1 => repeat (first | exact (Kd.C_below HR0_8.out (by repeat (first | (with_reducible first | exact HB.out | apply below_alloc | apply pw_below_drewN | apply below_drew1 | refine below_set ?_ GE294.out) | exact HB.out))) | (with_reducible refine Kd.C_alloc ?_ _) | (with_reducible refine Kd.C_drewN ?_ _) | (with_reducible refine Kd.C_drew ?_))); (case side2 => exact HC0_8.out); rintro e w38 ⟨v299, rfl, ho0, hb⟩; refine ⟨_, rfl, ?_⟩; have n0_ := Aside0.mk (Kd.V_elder' (by (with_reducible repeat (first | apply Kd.V_alloc | apply Kd.V_drewN | apply Kd.V_drew)); exact HO_295006.out) (Kd.R_base ho0) hb); have n1_ := Aside0.mk (Kd.V_elder' (by (with_reducible repeat (first | apply Kd.V_alloc | apply Kd.V_drewN | apply Kd.V_drew)); exact HO_295007.out) (Kd.R_base ho0) hb); have n2_ := Aside0.mk (Kd.R_lower (Kd.R_newM (M := fun k_ => (w.heap.size ≤ k_)) ho0 (below_size (by repeat (first | (with_reducible first | exact HB.out | apply below_alloc | apply pw_below_drewN | apply below_drew1 | refine below_set ?_ GE294.out) | exact HB.out))) (fun k_ h_ => h_)) (below_size (by repeat (first | (with_reducible first | exact HB.out | apply below_alloc | apply pw_below_drewN | apply below_drew1 | refine below_set ?_ GE294.out) | exact HB.out)))); have n3_ := Aside0.mk (blk_below (g := gb294) (o := .cells #[.int .u16 a0_0, .int .u8 a0_1, .int .u8 a0_2, .slice A0_3 l0_3.length c0_3, .int .u16 a0_4, .int .u32 a0_5, .slice A0_6 l0_6.length c0_6, .slice A0_7 l0_7.length c0_7, .slice A0_8 l0_8.length c0_8, .slice A0_9 l0_9.length c0_9] 47 (0, 0)) (by (with_reducible repeat (first | refine blk_drewN ?_ _ | refine blk_drew ?_ | refine blk_alloc ?_ _)); exact BK294.out) hb); have n4_ := Aside0.mk (below_step (by repeat (first | (with_reducible first | exact HB.out | apply below_alloc | apply pw_below_drewN | apply below_drew1 | refine below_set ?_ GE294.out) | exact HB.out)) hb); clear HO_295006; clear HO_295007; clear BK294; clear HB; have HO_295006 := n0_; have HO_295007 := n1_; have HO300 := n2_; have BK294 := n3_; have HB := n4_; clear n0_ n1_ n2_ n3_ n4_; (try clear hb); (try clear hb2); (try clear hk); (try clear hi); (try clear ho0)))
           go_ret2
           exact ⟨_, by first | rfl | (simp [errW_none, errW_some] <;> rfl) | (simp [*, errW_none, errW_some] <;> rfl), by (with_reducible repeat (first | apply Kd.R_alloc | apply Kd.R_drewN | apply Kd.R_drew)); exact Kd.R_mono HO300.out (fun _ hk => hk.1), by repeat (first | (with_reducible first | exact HB.out | apply below_alloc | apply pw_below_drewN | apply below_drew1 | refine below_set ?_ GE294.out) | exact HB.out)⟩
   · rw [if_neg c9] at H
     have c9b0 : (a0_0 == 49699) = false := beq_eq_false_iff_ne.mpr c9
     have c9b1 : (a0_0 != 49699) = true := bne_iff_ne.mpr c9
     simp only [Option.some.injEq, Prod.mk.injEq] at H
     obtain ⟨rfl, rfl⟩ := H
     obtain ⟨⟨hcz39_0, hcz39_1, hcz39_2, hcz39_3, hcz39_4, hcz39_5, hcz39_6, hcz39_7, hcz39_8, hcz39_9⟩, hfz39_0, hfz39_1, hfz39_2, hfz39_3, hfz39_4, hfz39_5, hfz39_6, hfz39_7, hfz39_8, hfz39_9⟩ := cz10 BK294.out
     go_wp2
     go_ret2
     exact ⟨_, by first | rfl | (simp [errW_none, errW_some] <;> rfl) | (simp [*, errW_none, errW_some] <;> rfl), by first | exact Kd.R_nil _ _ _ _ _ | exact Kd.N_nil _ _ _ _ _ | exact Kd.V_nil _ _ _ _ _ | exact Kd.Q_nil _ _ _ _ _ | exact Kd.S_nil _ _ _ _ _, by repeat (first | (with_reducible first | exact HB.out | apply below_alloc | apply pw_below_drewN | apply below_drew1 | refine below_set ?_ GE294.out) | exact HB.out)⟩
end Go.Proofs.Ytgjeahgagciagaa.Print
namespace Go.Proofs.Ytgjeahgagciagaa.Print
open Go.RowKit Go.Proofs.YtgjeahgagciagaaW.PrintWords Go.Proofs.YtgjeahgagciagaaW.PrintLast Go.Proofs.YtgjeahgagciagaaW.PrintMore
attribute [local go_sem] max2_int min2_int max_two min_two max_three min_three max_four min_four
set_option linter.unusedVariables false
set_option linter.unusedSimpArgs false
def chap_Get.f (k : Nat) (l0 : List Int) : Option (Int × Int × Int × (List (S57)) × Int × Int × List Int × List Int × List Int × List Int × Int) := (ctl_Get.f k l0).bind fun bt940 => (if bt940.2.2.2 = 0 then ((chap_valued.f bt940.1).bind fun t947 => (if t947 = true then (if (bt940.2.2.1.length : Int) = 0 then (some (0, 0, 0, ([] : List (S57)), 0, 0, ([] : List Int), ([] : List Int), ([] : List Int), ([] : List Int), 2)) else (if 0 < (bt940.2.2.1.length : Int) then (if (rd bt940.2.2.1 0) = 0 then (some (0, 0, 0, ([] : List (S57)), 0, 0, ([] : List Int), ([] : List Int), ([] : List Int), ([] : List Int), 4)) else (if (wrap64 (1 + (wrap64 (rd bt940.2.2.1 0)))) > (bt940.2.2.1.length : Int) then (some (0, 0, 0, ([] : List (S57)), 0, 0, ([] : List Int), ([] : List Int), ([] : List Int), ([] : List Int), 2)) else (if 1 ≤ (wrap64 (1 + (wrap64 (rd bt940.2.2.1 0)))) then (if (wrap64 (1 + (wrap64 (rd bt940.2.2.1 0)))) ≤ (bt940.2.2.1.length : Int) then ((slices_Clone_byte_byte.f ((bt940.2.2.1.take ((wrap64 (1 + (wrap64 (rd bt940.2.2.1 0)))) : Int).toNat).drop 1)).bind fun t954 => (if 0 ≤ (wrap64 (1 + (wrap64 (rd bt940.2.2.1 0)))) then ((slices_Clone_byte_byte.f (bt940.2.2.1.drop ((wrap64 (1 + (wrap64 (rd bt940.2.2.1 0)))) : Int).toNat)).bind fun t961 => (some (49699, bt940.1, bt940.2.1, ([] : List (S57)), 0, 0, t954, t961, ([] : List Int), ([] : List Int), 0))) else (none))) else (none)) else (none)))) else (none))) else (some (49699, bt940.1, bt940.2.1, ([] : List (S57)), 0, 0, ([] : List Int), ([] : List Int), bt940.2.2.1, ([] : List Int), 0)))) else (some (0, 0, 0, ([] : List (S57)), 0, 0, ([] : List Int), ([] : List Int), ([] : List Int), ([] : List Int), bt940.2.2.2)))
end Go.Proofs.Ytgjeahgagciagaa.Print
namespace Go.Proofs.Ytgjeahgagciagaa.Print
open Go.RowKit Go.Proofs.YtgjeahgagciagaaW.PrintWords Go.Proofs.YtgjeahgagciagaaW.PrintLast Go.Proofs.YtgjeahgagciagaaW.PrintMore
attribute [local go_sem] max2_int min2_int max_two min_two max_three min_three max_four min_four
set_option linter.unusedVariables false
set_option linter.unusedSimpArgs false
mutual
def chap_Answers.j0 : Nat → Bool → Int → Int → Int → List (S57) → Int → Int → List Int → List Int → List Int → List Int → Int → Int → Int → List (S57) → Int → Int → List Int → List Int → List Int → List Int → Option (Bool)
 | 0, _, _, _, _, _, _, _, _, _, _, _, _, _, _, _, _, _, _, _, _, _ => none
 | k + 1, x19, x322000, x322001, x322002, x322003, x322004, x322005, x322006, x322007, x322008, x322009, x323000, x323001, x323002, x323003, x323004, x323005, x323006, x323007, x323008, x323009 => if x19 = true then (some false) else (if x322001 = 2 then (some (x323001 == 1)) else (if x322001 = 3 then (chap_Answers.j1 k (x322001 == 3) x323000 x323001 x323002 x323003 x323004 x323005 x323006 x323007 x323008 x323009) else (chap_Answers.j1 k (x322001 == 4) x323000 x323001 x323002 x323003 x323004 x323005 x323006 x323007 x323008 x323009)))
def chap_Answers.j1 : Nat → Bool → Int → Int → Int → List (S57) → Int → Int → List Int → List Int → List Int → List Int → Option (Bool)
 | 0, _, _, _, _, _, _, _, _, _, _, _ => none
 | k + 1, x27, x323000, x323001, x323002, x323003, x323004, x323005, x323006, x323007, x323008, x323009 => if x27 = true then (some (x323001 == 2)) else (some false)
end
def chap_Answers.f (k : Nat) (a0_0 : Int) (a0_1 : Int) (a0_2 : Int) (l0_3 : List (S57)) (a0_4 : Int) (a0_5 : Int) (l0_6 : List Int) (l0_7 : List Int) (l0_8 : List Int) (l0_9 : List Int) (a1_0 : Int) (a1_1 : Int) (a1_2 : Int) (l1_3 : List (S57)) (a1_4 : Int) (a1_5 : Int) (l1_6 : List Int) (l1_7 : List Int) (l1_8 : List Int) (l1_9 : List Int) : Option (Bool) := if a0_0 = 49699 then (if a1_0 = 49699 then (chap_Answers.j0 k (a0_2 != a1_2) a0_0 a0_1 a0_2 l0_3 a0_4 a0_5 l0_6 l0_7 l0_8 l0_9 a1_0 a1_1 a1_2 l1_3 a1_4 a1_5 l1_6 l1_7 l1_8 l1_9) else (chap_Answers.j0 k true a0_0 a0_1 a0_2 l0_3 a0_4 a0_5 l0_6 l0_7 l0_8 l0_9 a1_0 a1_1 a1_2 l1_3 a1_4 a1_5 l1_6 l1_7 l1_8 l1_9)) else (chap_Answers.j0 k true a0_0 a0_1 a0_2 l0_3 a0_4 a0_5 l0_6 l0_7 l0_8 l0_9 a1_0 a1_1 a1_2 l1_3 a1_4 a1_5 l1_6 l1_7 l1_8 l1_9)
end Go.Proofs.Ytgjeahgagciagaa.Print
namespace Go.Proofs.Ytgjeahgagciagaa.Print
open Go.RowKit Go.Proofs.YtgjeahgagciagaaW.PrintWords Go.Proofs.YtgjeahgagciagaaW.PrintLast Go.Proofs.YtgjeahgagciagaaW.PrintMore
attribute [local go_sem] max2_int min2_int max_two min_two max_three min_three max_four min_four
set_option linter.unusedVariables false
set_option linter.unusedSimpArgs false
def marlineref17_Text.f (l0 : List Int) (a1 : Int) : Option (List Int × Int) := if a1 ≥ (l0.length : Int) then (some (([] : List Int), (-1))) else (if 0 ≤ a1 then (if a1 < (l0.length : Int) then (if (wrap64 ((wrap64 (a1 + 1)) + (wrap64 (rd l0 a1)))) > (l0.length : Int) then (some (([] : List Int), (-1))) else (if 0 ≤ (wrap64 (a1 + 1)) then (if (wrap64 (a1 + 1)) ≤ (wrap64 ((wrap64 (a1 + 1)) + (wrap64 (rd l0 a1)))) then (if (wrap64 ((wrap64 (a1 + 1)) + (wrap64 (rd l0 a1)))) ≤ (l0.length : Int) then (some (((l0.take ((wrap64 ((wrap64 (a1 + 1)) + (wrap64 (rd l0 a1)))) : Int).toNat).drop ((wrap64 (a1 + 1)) : Int).toNat), wrap64 ((wrap64 (a1 + 1)) + (wrap64 (rd l0 a1))))) else (none)) else (none)) else (none))) else (none)) else (none))
end Go.Proofs.Ytgjeahgagciagaa.Print
namespace Go.Proofs.Ytgjeahgagciagaa.Print
open Go.RowKit Go.Proofs.YtgjeahgagciagaaW.PrintWords Go.Proofs.YtgjeahgagciagaaW.PrintLast Go.Proofs.YtgjeahgagciagaaW.PrintMore
attribute [local go_sem] max2_int min2_int max_two min_two max_three min_three max_four min_four
set_option linter.unusedVariables false
set_option linter.unusedSimpArgs false
mutual
def marlineref18_Put.j0 : Nat → Bool → Int → Int → Int → List (S56) → Int → Int → List Int → List Int → List Int → List Int → Option (List Int × Int)
 | 0, _, _, _, _, _, _, _, _, _, _, _ => none
 | k + 1, x4, x1097000, x1097001, x1097002, x1097003, x1097004, x1097005, x1097006, x1097007, x1097008, x1097009 => if (x1097003.length : Int) > 0 then (marlineref18_Put.j1 k x4 true x1097000 x1097001 x1097002 x1097003 x1097004 x1097005 x1097006 x1097007 x1097008 x1097009) else (if x1097004 = 0 then (if x1097005 = 0 then (if (x1097009.length : Int) > 0 then (marlineref18_Put.j1 k x4 true x1097000 x1097001 x1097002 x1097003 x1097004 x1097005 x1097006 x1097007 x1097008 x1097009) else (if x4 = true then (if (x1097008.length : Int) > 0 then (marlineref18_Put.j1 k x4 true x1097000 x1097001 x1097002 x1097003 x1097004 x1097005 x1097006 x1097007 x1097008 x1097009) else (marlineref18_Put.j1 k x4 false x1097000 x1097001 x1097002 x1097003 x1097004 x1097005 x1097006 x1097007 x1097008 x1097009)) else (if (x1097006.length : Int) > 0 then (marlineref18_Put.j1 k x4 true x1097000 x1097001 x1097002 x1097003 x1097004 x1097005 x1097006 x1097007 x1097008 x1097009) else (marlineref18_Put.j1 k x4 (decide ((x1097007.length : Int) > 0)) x1097000 x1097001 x1097002 x1097003 x1097004 x1097005 x1097006 x1097007 x1097008 x1097009)))) else (marlineref18_Put.j1 k x4 true x1097000 x1097001 x1097002 x1097003 x1097004 x1097005 x1097006 x1097007 x1097008 x1097009)) else (marlineref18_Put.j1 k x4 true x1097000 x1097001 x1097002 x1097003 x1097004 x1097005 x1097006 x1097007 x1097008 x1097009))
def marlineref18_Put.j1 : Nat → Bool → Bool → Int → Int → Int → List (S56) → Int → Int → List Int → List Int → List Int → List Int → Option (List Int × Int)
 | 0, _, _, _, _, _, _, _, _, _, _, _, _ => none
 | k + 1, x4, x61, x1097000, x1097001, x1097002, x1097003, x1097004, x1097005, x1097006, x1097007, x1097008, x1097009 => if x61 = true then (some (([] : List Int), 9)) else (if x4 = true then (marlineref18_Put.j2 k x4 ((x1097006.length : Int) == 0) x1097000 x1097001 x1097002 x1097003 x1097004 x1097005 x1097006 x1097007 x1097008 x1097009) else (marlineref18_Put.j2 k x4 false x1097000 x1097001 x1097002 x1097003 x1097004 x1097005 x1097006 x1097007 x1097008 x1097009))
def marlineref18_Put.j2 : Nat → Bool → Bool → Int → Int → Int → List (S56) → Int → Int → List Int → List Int → List Int → List Int → Option (List Int × Int)
 | 0, _, _, _, _, _, _, _, _, _, _, _, _ => none
 | k + 1, x4, x68, x1097000, x1097001, x1097002, x1097003, x1097004, x1097005, x1097006, x1097007, x1097008, x1097009 => if x68 = true then (some (([] : List Int), 4)) else (if (x1097006.length : Int) > 255 then (some (([] : List Int), 3)) else ((some (([] : List Int) : List Int)).bind fun y1097 => (if y1097.length + x1097008.length < 140737488355328 then ((some (y1097 ++ x1097008 : List Int)).bind fun y1100 => (if x4 = true then (if y1100.length < 140737488355328 then ((some (y1100 ++ [((x1097006.length : Int)) % 256] : List Int)).bind fun y1103 => (if y1103.length + x1097006.length < 140737488355328 then ((some (y1103 ++ x1097006 : List Int)).bind fun y1106 => (if y1106.length + x1097007.length < 140737488355328 then (marlineref18_Put.j3 k (y1106 ++ x1097007) x1097000 x1097001 x1097002 x1097003 x1097004 x1097005 x1097006 x1097007 x1097008 x1097009) else (none))) else (none))) else (none)) else (marlineref18_Put.j3 k y1100 x1097000 x1097001 x1097002 x1097003 x1097004 x1097005 x1097006 x1097007 x1097008 x1097009))) else (none))))
def marlineref18_Put.j3 : Nat → List Int → Int → Int → Int → List (S56) → Int → Int → List Int → List Int → List Int → List Int → Option (List Int × Int)
 | 0, _, _, _, _, _, _, _, _, _, _, _ => none
 | k + 1, x5, x1097000, x1097001, x1097002, x1097003, x1097004, x1097005, x1097006, x1097007, x1097008, x1097009 => (marlineref13_Put.f x1097001 x1097002 x5).bind fun bt1112 => (some (bt1112.1, bt1112.2))
end
def marlineref18_Put.f (k : Nat) (a0_0 : Int) (a0_1 : Int) (a0_2 : Int) (l0_3 : List (S56)) (a0_4 : Int) (a0_5 : Int) (l0_6 : List Int) (l0_7 : List Int) (l0_8 : List Int) (l0_9 : List Int) : Option (List Int × Int) := if a0_0 = 49699 then (if a0_1 = 1 then (marlineref18_Put.j0 k true a0_0 a0_1 a0_2 l0_3 a0_4 a0_5 l0_6 l0_7 l0_8 l0_9) else (marlineref18_Put.j0 k (a0_1 == 2) a0_0 a0_1 a0_2 l0_3 a0_4 a0_5 l0_6 l0_7 l0_8 l0_9)) else (some (([] : List Int), 8))
end Go.Proofs.Ytgjeahgagciagaa.Print
namespace Go.Proofs.Ytgjeahgagciagaa.Print
open Go.RowKit Go.Proofs.YtgjeahgagciagaaW.PrintWords Go.Proofs.YtgjeahgagciagaaW.PrintLast Go.Proofs.YtgjeahgagciagaaW.PrintMore
attribute [local go_sem] max2_int min2_int max_two min_two max_three min_three max_four min_four
set_option linter.unusedVariables false
set_option linter.unusedSimpArgs false
mutual
def marlineref18_Get.j0 : Nat → List Int → Bool → Int → Int → Int → Int → Int → Option (Int × Int × Int × (List (S56)) × Int × Int × List Int × List Int × List Int × List Int × Int)
 | 0, _, _, _, _, _, _, _ => none
 | k + 1, x6, x32, x1125000, x1125001, x1125002, x1125004, x1125005 => if x32 = true then (some (x1125000, x1125001, x1125002, ([] : List (S56)), x1125004, x1125005, ([] : List Int), ([] : List Int), x6, ([] : List Int), 0)) else (if (x6.length : Int) > 0 then (if 0 < (x6.length : Int) then (marlineref18_Get.j1 k x6 ((rd x6 0) == 0) x1125000 x1125001 x1125002 x1125004 x1125005) else (none)) else (marlineref18_Get.j1 k x6 false x1125000 x1125001 x1125002 x1125004 x1125005))
def marlineref18_Get.j1 : Nat → List Int → Bool → Int → Int → Int → Int → Int → Option (Int × Int × Int × (List (S56)) × Int × Int × List Int × List Int × List Int × List Int × Int)
 | 0, _, _, _, _, _, _, _ => none
 | k + 1, x6, x44, x1125000, x1125001, x1125002, x1125004, x1125005 => if x44 = true then (some (0, 0, 0, ([] : List (S56)), 0, 0, ([] : List Int), ([] : List Int), ([] : List Int), ([] : List Int), 4)) else ((marlineref17_Text.f x6 0).bind fun bt1126 => (if bt1126.2 < 0 then (some (0, 0, 0, ([] : List (S56)), 0, 0, ([] : List Int), ([] : List Int), ([] : List Int), ([] : List Int), 2)) else (if 0 ≤ bt1126.2 then (if bt1126.2 ≤ (x6.length : Int) then (some (x1125000, x1125001, x1125002, ([] : List (S56)), x1125004, x1125005, bt1126.1, (x6.drop (bt1126.2 : Int).toNat), ([] : List Int), ([] : List Int), 0)) else (none)) else (none))))
end
def marlineref18_Get.f (k : Nat) (l0 : List Int) : Option (Int × Int × Int × (List (S56)) × Int × Int × List Int × List Int × List Int × List Int × Int) := (marlineref13_Get.f l0).bind fun bt1117 => (if bt1117.2.2.2.2 = 0 then (if bt1117.1 = 1 then (marlineref18_Get.j0 k bt1117.2.2.1 false 49699 bt1117.1 bt1117.2.1 0 0) else (marlineref18_Get.j0 k bt1117.2.2.1 (bt1117.1 != 2) 49699 bt1117.1 bt1117.2.1 0 0)) else (some (0, 0, 0, ([] : List (S56)), 0, 0, ([] : List Int), ([] : List Int), ([] : List Int), ([] : List Int), bt1117.2.2.2.2)))
end Go.Proofs.Ytgjeahgagciagaa.Print
namespace Go.Proofs.Ytgjeahgagciagaa.Print
open Go.RowKit Go.Proofs.YtgjeahgagciagaaW.PrintWords Go.Proofs.YtgjeahgagciagaaW.PrintLast Go.Proofs.YtgjeahgagciagaaW.PrintMore
attribute [local go_sem] max2_int min2_int max_two min_two max_three min_three max_four min_four
set_option linter.unusedVariables false
set_option linter.unusedSimpArgs false
def marlineref18_Answers.f (a0_0 : Int) (a0_1 : Int) (a0_2 : Int) (l0_3 : List (S56)) (a0_4 : Int) (a0_5 : Int) (l0_6 : List Int) (l0_7 : List Int) (l0_8 : List Int) (l0_9 : List Int) (a1_0 : Int) (a1_1 : Int) (a1_2 : Int) (l1_3 : List (S56)) (a1_4 : Int) (a1_5 : Int) (l1_6 : List Int) (l1_7 : List Int) (l1_8 : List Int) (l1_9 : List Int) : Option (Bool) := if a0_0 = 49699 then (if a1_0 = 49699 then (if a0_2 = a1_2 then (if a0_1 = 2 then (if a1_1 = 1 then (some true) else (if a0_1 = 3 then (some (a1_1 == 2)) else (if a0_1 = 4 then (some (a1_1 == 2)) else (some false)))) else (if a0_1 = 3 then (some (a1_1 == 2)) else (if a0_1 = 4 then (some (a1_1 == 2)) else (some false)))) else (some false)) else (some false)) else (some false)
end Go.Proofs.Ytgjeahgagciagaa.Print
namespace Go.Proofs.Ytgjeahgagciagaa.Print
open Go.RowKit Go.Proofs.YtgjeahgagciagaaW.PrintWords Go.Proofs.YtgjeahgagciagaaW.PrintLast Go.Proofs.YtgjeahgagciagaaW.PrintMore
attribute [local go_sem] max2_int min2_int max_two min_two max_three min_three max_four min_four
set_option linter.unusedVariables false
set_option linter.unusedSimpArgs false
def marlinelaw18_speaks.f (k : Nat) : Option Bool := (chap_Put.f k 49699 1 0 [] 0 0 [7] [97] [] []).bind fun b => if b.2 = 0 then marlineref01_Equal.f k b.1 [1, 0, 0, 7, 1, 7, 97] else some false
theorem marlinelaw18_speaks.C_row (W : World) (b : Nat) (cs : Array Value) (e : Nat) (m : Nat × Nat) (xs : List Int) (hW : W.heap[b]? = some (.cells cs e m)) (hc : cs = (xs.map (Value.int .u8)).toArray) (hl : xs.length ≤ 1000) : Kd.C (Kd.int .u8) W (some ⟨b, 0, none⟩) xs.length xs := by
 refine ⟨rfl, by omega, fun _ => ⟨_, rfl, fun j p hj => ⟨[.int .u8 p], rfl, rfl, fun i u hu => ?_⟩⟩⟩
 cases i with
 | succ i => simp at hu
 | zero =>
  simp only [List.getElem?_cons_zero, Option.some.injEq] at hu
  subst hu
  have h1 : cs[j]? = some (Value.int .u8 p) := by rw [hc]; simp [hj]
  have ea : Addr.add ⟨b, 0, none⟩ (j * 1 + 0) = ⟨b, j, none⟩ := by
   by_cases h0 : j = 0
   · subst h0; rfl
   · simp [Addr.add, h0]
  show W.cell? (Addr.add ⟨b, 0, none⟩ (j * 1 + 0)) = _
  rw [ea, cell_of_row W b j cs e m hW]
  exact h1
set_option maxHeartbeats 8000000 in
set_option maxRecDepth 100000 in
theorem marlinelaw18_speaks.calls (k : Nat) (r : Bool) (w : World) (h : marlinelaw18_speaks.f k = some r) :
 Calls Try.prog 23 #[] w fun e w' => e = .returned (.bool r) ∧ Below w.heap.size w w' := by
 have hu47 := Try.underlying47
 obtain ⟨⟨t1, t2⟩, A0, H⟩ := Option.bind_eq_some_iff.mp h
 have A1 := Aside0.mk A0
 have HB := Aside0.mk (Below.refl w.heap.size w)
 clear h A0
 have hcv : (convert 23 23 (.slice (some ⟨w.heap.size + 1, 0, none⟩) 1 1)).run Try.prog ((w.alloc (.cells #[.int .u8 7] 5)).alloc (.cells #[.int .u8 97] 5)) = .ok (.slice (some ⟨w.heap.size + 1, 0, none⟩) 1 1) ((w.alloc (.cells #[.int .u8 7] 5)).alloc (.cells #[.int .u8 97] 5 (1, 2))) := by
  have h := Lib.run_convert_bytes_const (P := Try.prog) (w.alloc (.cells #[.int .u8 7] 5)) 23 5 #[.int .u8 97] 1 1 Try.underlying23 Try.underlying5
  have hs : (w.alloc (.cells #[.int .u8 7] 5)).heap.size = w.heap.size + 1 := by show (w.heap.push _).size = _; simp
  rw [hs] at h
  exact h
 have hb0 : Below w.heap.size w ((w.alloc (.cells #[.int .u8 7] 5)).alloc (.cells #[.int .u8 97] 5 (1, 2))) := below_alloc (below_alloc (Below.refl _ _) _) _
 have hC7 : Kd.C (Kd.int .u8) ((w.alloc (.cells #[.int .u8 7] 5)).alloc (.cells #[.int .u8 97] 5 (1, 2))) (some ⟨w.heap.size, 0, none⟩) [(7 : Int)].length [7] := marlinelaw18_speaks.C_row _ _ #[.int .u8 7] 5 (0, 0) [7] (by show ((w.heap.push _).push _)[w.heap.size]? = _; simp [Array.getElem?_push]) rfl (by decide)
 have hC97 : Kd.C (Kd.int .u8) ((w.alloc (.cells #[.int .u8 7] 5)).alloc (.cells #[.int .u8 97] 5 (1, 2))) (some ⟨w.heap.size + 1, 0, none⟩) [(97 : Int)].length [97] := marlinelaw18_speaks.C_row _ _ #[.int .u8 97] 5 (1, 2) [97] (by show ((w.heap.push _).push _)[w.heap.size + 1]? = _; rw [show w.heap.size + 1 = (w.heap.push (.cells #[.int .u8 7] 5)).size by simp]; exact Array.getElem?_push_size) rfl (by decide)
 generalize hW : ((w.alloc (.cells #[.int .u8 7] 5)).alloc (.cells #[.int .u8 97] 5 (1, 2))) = W at hcv hb0 hC7 hC97
 have HC7 := Aside0.mk hC7
 have HC97 := Aside0.mk hC97
 have HB1 := Aside0.mk hb0
 clear hC7 hC97 hb0 hW HB
 go_enter Try.func23, Try.ntmps23
 by_cases h2 : t2 = 0
 · subst h2
   replace H : marlineref01_Equal.f k t1 [1, 0, 0, 7, 1, 7, 97] = some r := by rw [if_pos rfl] at H; exact H
   have H1 := Aside0.mk H
   clear H
   obtain ⟨y2, hy2⟩ : ∃ y_ : List Int, y_ = ([1, 0, 0, 7, 1, 7, 97] : List Int) := ⟨_, rfl⟩
   have Ny2 := Aside0.mk hy2
   clear hy2
   go_wp2_with (first | (go_at_call 37; refine (calls_of_args rfl (chap_Put.calls k 49699 1 0 none 0 [] 0 0 (fun k_ => k_ < W.heap.size) (some ⟨w.heap.size, 0, none⟩) 1 [7] (fun k_ => k_ < W.heap.size) (some ⟨w.heap.size + 1, 0, none⟩) 1 [97] none 0 [] none 0 [] t1 0 W (Kd.C_nil _ _) (Nat.le_refl _) (Kd.V_mk (Nat.le_refl 1) (Kd.C_F (Kd.heap_int .u8) HC7.out)) (Kd.V_mk (Nat.le_refl 1) (Kd.C_F (Kd.heap_int .u8) HC97.out)) (Kd.C_nil _ _) (Nat.le_refl _) (Kd.C_nil _ _) (Nat.le_refl _) A1.out)).mono ?_; rintro e w5 ⟨v1, rfl, ho, hb⟩; have HB2 := Aside0.mk (below_step HB1.out hb); have HO := Aside0.mk (Kd.R_lower ho (below_size HB1.out)); clear ho hb; obtain ⟨A3, c3, e3⟩ := Kd.R_slice HO.out; subst e3) | (go_at_call 22; refine (calls_of_args rfl (marlineref01_Equal.calls k A3 c3 t1 (some ⟨w5.heap.size, 0, none⟩) 7 [1, 0, 0, 7, 1, 7, 97] r (w5.alloc (.cells #[.int .u8 1, .int .u8 0, .int .u8 0, .int .u8 7, .int .u8 1, .int .u8 7, .int .u8 97] 5)) (Kd.C_alloc (Kd.R_reads' HO.out).2.2 _) (Kd.R_reads' HO.out).2.1 (marlinelaw18_speaks.C_row _ _ #[.int .u8 1, .int .u8 0, .int .u8 0, .int .u8 7, .int .u8 1, .int .u8 7, .int .u8 97] 5 (0, 0) [1, 0, 0, 7, 1, 7, 97] (by show (w5.heap.push _)[w5.heap.size]? = _; exact Array.getElem?_push_size) rfl (by decide)) (Nat.le_refl _) H1.out)).mono ?_; rintro e w6 ⟨rfl, ⟨nd, rfl⟩⟩))
   go_ret
   exact ⟨rfl, by repeat (first | exact HB2.out | apply below_alloc | apply pw_below_drewN)⟩
 · replace H : some false = some r := by rw [if_neg h2] at H; exact H
   obtain rfl := Option.some.inj H
   have e2 : (t2 == 0) = false := beq_eq_false_iff_ne.mpr h2
   clear H
   go_wp2_with (first | (go_at_call 37; refine (calls_of_args rfl (chap_Put.calls k 49699 1 0 none 0 [] 0 0 (fun k_ => k_ < W.heap.size) (some ⟨w.heap.size, 0, none⟩) 1 [7] (fun k_ => k_ < W.heap.size) (some ⟨w.heap.size + 1, 0, none⟩) 1 [97] none 0 [] none 0 [] t1 t2 W (Kd.C_nil _ _) (Nat.le_refl _) (Kd.V_mk (Nat.le_refl 1) (Kd.C_F (Kd.heap_int .u8) HC7.out)) (Kd.V_mk (Nat.le_refl 1) (Kd.C_F (Kd.heap_int .u8) HC97.out)) (Kd.C_nil _ _) (Nat.le_refl _) (Kd.C_nil _ _) (Nat.le_refl _) A1.out)).mono ?_; rintro e w5 ⟨v1, rfl, ho, hb⟩; have HB2 := Aside0.mk (below_step HB1.out hb); have HO := Aside0.mk (Kd.R_lower ho (below_size HB1.out)); clear ho hb; obtain ⟨A3, c3, e3⟩ := Kd.R_slice HO.out; subst e3))
   go_ret
   exact ⟨rfl, HB2.out⟩
end Go.Proofs.Ytgjeahgagciagaa.Print
