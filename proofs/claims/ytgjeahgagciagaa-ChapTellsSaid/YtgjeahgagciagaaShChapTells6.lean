/- Texts of this claim, several in one, told shortly by a program of this claim (wip/x/shrink.py): what Go functions come to, and plain words on it. -/
import Derived.Test.YtgjeahgagciagaaShChapTells5
namespace Go.Proofs.Ytgjeahgagciagaa.Print
open Go.RowKit Go.Proofs.YtgjeahgagciagaaW.PrintWords Go.Proofs.YtgjeahgagciagaaW.PrintLast Go.Proofs.YtgjeahgagciagaaW.PrintMore
attribute [local go_sem] max2_int min2_int max_two min_two max_three min_three max_four min_four
set_option linter.unusedVariables false
set_option linter.unusedSimpArgs false
def marlinelaw18_ChapTells.j0 : Nat → List Int → Bool → Int → Int → Int → List (S56) → Int → Int → List Int → List Int → List Int → List Int → Int → Int → Int → List (S56) → Int → Int → List Int → List Int → List Int → List Int → Option (Bool)
 | 0, _, _, _, _, _, _, _, _, _, _, _, _, _, _, _, _, _, _, _, _, _, _ => none
 | k + 1, x2, x31, x813000, x813001, x813002, x813003, x813004, x813005, x813006, x813007, x813008, x813009, x814000, x814001, x814002, x814003, x814004, x814005, x814006, x814007, x814008, x814009 => if x31 = true then ((marlinelaw18_speaks.f k).bind fun t817 => (some t817)) else ((marlinelaw15_Of.f k x813000 x813001 x813002 x813003 x813004 x813005 x813006 x813007 x813008 x813009).bind fun bt818 => ((chap_Put.f k bt818.1 bt818.2.1 bt818.2.2.1 bt818.2.2.2.1 bt818.2.2.2.2.1 bt818.2.2.2.2.2.1 bt818.2.2.2.2.2.2.1 bt818.2.2.2.2.2.2.2.1 bt818.2.2.2.2.2.2.2.2.1 bt818.2.2.2.2.2.2.2.2.2).bind fun bt838 => ((marlineref18_Put.f k x813000 x813001 x813002 x813003 x813004 x813005 x813006 x813007 x813008 x813009).bind fun bt842 => ((chap_Get.f k x2).bind fun bt846 => ((marlineref18_Get.f k x2).bind fun bt868 => (if bt838.2 = bt842.2 then ((marlineref01_Equal.f k bt838.1 bt842.1).bind fun t890 => (if t890 = true then (if bt846.2.2.2.2.2.2.2.2.2.2 = bt868.2.2.2.2.2.2.2.2.2.2 then ((marlinelaw15_To.f k bt846.1 bt846.2.1 bt846.2.2.1 bt846.2.2.2.1 bt846.2.2.2.2.1 bt846.2.2.2.2.2.1 bt846.2.2.2.2.2.2.1 bt846.2.2.2.2.2.2.2.1 bt846.2.2.2.2.2.2.2.2.1 bt846.2.2.2.2.2.2.2.2.2.1).bind fun bt891 => ((marlineref15_Same.f k bt891.1 bt891.2.1 bt891.2.2.1 bt891.2.2.2.1 bt891.2.2.2.2.1 bt891.2.2.2.2.2.1 bt891.2.2.2.2.2.2.1 bt891.2.2.2.2.2.2.2.1 bt891.2.2.2.2.2.2.2.2.1 bt891.2.2.2.2.2.2.2.2.2 bt868.1 bt868.2.1 bt868.2.2.1 bt868.2.2.2.1 bt868.2.2.2.2.1 bt868.2.2.2.2.2.1 bt868.2.2.2.2.2.2.1 bt868.2.2.2.2.2.2.2.1 bt868.2.2.2.2.2.2.2.2.1 bt868.2.2.2.2.2.2.2.2.2.1).bind fun t911 => (if t911 = true then ((marlinelaw15_Of.f k x813000 x813001 x813002 x813003 x813004 x813005 x813006 x813007 x813008 x813009).bind fun bt912 => ((marlinelaw15_Of.f k x814000 x814001 x814002 x814003 x814004 x814005 x814006 x814007 x814008 x814009).bind fun bt932 => ((chap_Answers.f k bt912.1 bt912.2.1 bt912.2.2.1 bt912.2.2.2.1 bt912.2.2.2.2.1 bt912.2.2.2.2.2.1 bt912.2.2.2.2.2.2.1 bt912.2.2.2.2.2.2.2.1 bt912.2.2.2.2.2.2.2.2.1 bt912.2.2.2.2.2.2.2.2.2 bt932.1 bt932.2.1 bt932.2.2.1 bt932.2.2.2.1 bt932.2.2.2.2.1 bt932.2.2.2.2.2.1 bt932.2.2.2.2.2.2.1 bt932.2.2.2.2.2.2.2.1 bt932.2.2.2.2.2.2.2.2.1 bt932.2.2.2.2.2.2.2.2.2).bind fun t952 => ((marlineref18_Answers.f x813000 x813001 x813002 x813003 x813004 x813005 x813006 x813007 x813008 x813009 x814000 x814001 x814002 x814003 x814004 x814005 x814006 x814007 x814008 x814009).bind fun t953 => (some (t952 == t953)))))) else (none)))) else (none)) else (none))) else (none)))))))
def marlinelaw18_ChapTells.f (k : Nat) (a0_0 : Int) (a0_1 : Int) (a0_2 : Int) (l0_3 : List (S56)) (a0_4 : Int) (a0_5 : Int) (l0_6 : List Int) (l0_7 : List Int) (l0_8 : List Int) (l0_9 : List Int) (a1_0 : Int) (a1_1 : Int) (a1_2 : Int) (l1_3 : List (S56)) (a1_4 : Int) (a1_5 : Int) (l1_6 : List Int) (l1_7 : List Int) (l1_8 : List Int) (l1_9 : List Int) (l2 : List Int) : Option (Bool) := (marlinelaw18_speaks.f k).bind fun t814 => (if t814 = true then ((marlinelaw15_Few.f k a0_0 a0_1 a0_2 l0_3 a0_4 a0_5 l0_6 l0_7 l0_8 l0_9).bind fun t815 => (if t815 = true then ((marlinelaw15_Few.f k a1_0 a1_1 a1_2 l1_3 a1_4 a1_5 l1_6 l1_7 l1_8 l1_9).bind fun t816 => (if t816 = true then (marlinelaw18_ChapTells.j0 k l2 (decide ((l2.length : Int) > 600)) a0_0 a0_1 a0_2 l0_3 a0_4 a0_5 l0_6 l0_7 l0_8 l0_9 a1_0 a1_1 a1_2 l1_3 a1_4 a1_5 l1_6 l1_7 l1_8 l1_9) else (marlinelaw18_ChapTells.j0 k l2 true a0_0 a0_1 a0_2 l0_3 a0_4 a0_5 l0_6 l0_7 l0_8 l0_9 a1_0 a1_1 a1_2 l1_3 a1_4 a1_5 l1_6 l1_7 l1_8 l1_9))) else (marlinelaw18_ChapTells.j0 k l2 true a0_0 a0_1 a0_2 l0_3 a0_4 a0_5 l0_6 l0_7 l0_8 l0_9 a1_0 a1_1 a1_2 l1_3 a1_4 a1_5 l1_6 l1_7 l1_8 l1_9))) else (marlinelaw18_ChapTells.j0 k l2 true a0_0 a0_1 a0_2 l0_3 a0_4 a0_5 l0_6 l0_7 l0_8 l0_9 a1_0 a1_1 a1_2 l1_3 a1_4 a1_5 l1_6 l1_7 l1_8 l1_9))
def marlinelaw18_ChapTells.T7 : Bool × List (List Nat × List Nat) := (true, [([], []), ([], []), ([0, 1], [0, 1]), ([2], [2]), ([3], [3]), ([3], [3]), ([4, 5, 3, 3], [3, 4, 5]), ([3, 6], [3, 6]), ([7, 6], [7]), ([8], [8]), ([8], [8]), ([9, 10, 8], [8, 9, 10]), ([8, 11], [8, 11]), ([12, 8], [12]), ([13], [13]), ([14, 13, 13], [13, 14]), ([13], [13]), ([15, 16, 15, 13], [13, 15, 16]), ([13, 17], [13, 17]), ([18, 17], [18]), ([19], [19]), ([20, 19, 19], [19, 20]), ([19], [19]), ([22, 21, 19], [19, 22]), ([21, 23, 23, 19], [19, 21, 23]), ([19], [19]), ([19], [19]), ([25, 26, 24, 19], [19, 25, 26]), ([24, 27, 19], [19, 24, 27]), ([19, 28], [19, 28]), ([29, 27, 0, 1, 2, 3, 4, 5, 6, 7, 8, 9, 10, 11, 12, 13, 14, 15, 16, 17, 18, 19, 20, 21, 22, 23, 24, 25, 26, 27, 28, 29], [29])])
def marlinelaw18_ChapTells.B7 : List Nat := [0, 0, 3, 7, 15, 15, 63, 127, 255, 511, 511, 2047, 4095, 8191, 16383, 32767, 16383, 131071, 262143, 524287, 1048575, 2097151, 1048575, 8388607, 16777215, 1048575, 1048575, 134217727, 268435455, 536870911, 1073741823]
theorem marlinelaw18_ChapTells.tab7 : rtab .any (opsOf Try.f12 7) = marlinelaw18_ChapTells.T7 := by kernel_rfl
theorem marlinelaw18_ChapTells.bits7 : waitsOk marlinelaw18_ChapTells.T7.2 marlinelaw18_ChapTells.B7 = true := by kernel_rfl
set_option maxHeartbeats 8000000 in
set_option maxRecDepth 100000 in
theorem marlinelaw18_ChapTells.calls (k : Nat) (a0_0 : Int) (a0_1 : Int) (a0_2 : Int) (A0_3 : Option Addr) (c0_3 : Nat) (l0_3 : List (S56)) (a0_4 : Int) (a0_5 : Int) (A0_6 : Option Addr) (c0_6 : Nat) (l0_6 : List Int) (A0_7 : Option Addr) (c0_7 : Nat) (l0_7 : List Int) (A0_8 : Option Addr) (c0_8 : Nat) (l0_8 : List Int) (A0_9 : Option Addr) (c0_9 : Nat) (l0_9 : List Int) (a1_0 : Int) (a1_1 : Int) (a1_2 : Int) (A1_3 : Option Addr) (c1_3 : Nat) (l1_3 : List (S56)) (a1_4 : Int) (a1_5 : Int) (A1_6 : Option Addr) (c1_6 : Nat) (l1_6 : List Int) (A1_7 : Option Addr) (c1_7 : Nat) (l1_7 : List Int) (A1_8 : Option Addr) (c1_8 : Nat) (l1_8 : List Int) (A1_9 : Option Addr) (c1_9 : Nat) (l1_9 : List Int) (A2 : Option Addr) (c2 : Nat) (l2 : List Int) (r : Bool) (w : World) (hr0_3 : Kd.C k56 w A0_3 l0_3.length l0_3) (hc0_3 : l0_3.length ≤ c0_3) (hr0_6 : Kd.C (Kd.int .u8) w A0_6 l0_6.length l0_6) (hc0_6 : l0_6.length ≤ c0_6) (hr0_7 : Kd.C (Kd.int .u8) w A0_7 l0_7.length l0_7) (hc0_7 : l0_7.length ≤ c0_7) (hr0_8 : Kd.C (Kd.int .u8) w A0_8 l0_8.length l0_8) (hc0_8 : l0_8.length ≤ c0_8) (hr0_9 : Kd.C (Kd.int .u32) w A0_9 l0_9.length l0_9) (hc0_9 : l0_9.length ≤ c0_9) (hr1_3 : Kd.C k56 w A1_3 l1_3.length l1_3) (hc1_3 : l1_3.length ≤ c1_3) (hr1_6 : Kd.C (Kd.int .u8) w A1_6 l1_6.length l1_6) (hc1_6 : l1_6.length ≤ c1_6) (hr1_7 : Kd.C (Kd.int .u8) w A1_7 l1_7.length l1_7) (hc1_7 : l1_7.length ≤ c1_7) (hr1_8 : Kd.C (Kd.int .u8) w A1_8 l1_8.length l1_8) (hc1_8 : l1_8.length ≤ c1_8) (hr1_9 : Kd.C (Kd.int .u32) w A1_9 l1_9.length l1_9) (hc1_9 : l1_9.length ≤ c1_9) (hr2 : Kd.C (Kd.int .u8) w A2 l2.length l2) (hc2 : l2.length ≤ c2) (h : marlinelaw18_ChapTells.f k a0_0 a0_1 a0_2 l0_3 a0_4 a0_5 l0_6 l0_7 l0_8 l0_9 a1_0 a1_1 a1_2 l1_3 a1_4 a1_5 l1_6 l1_7 l1_8 l1_9 l2 = some r) :
 Calls Try.prog 12 #[.agg #[.int .u16 a0_0, .int .u8 a0_1, .int .u8 a0_2, .slice A0_3 l0_3.length c0_3, .int .u16 a0_4, .int .u32 a0_5, .slice A0_6 l0_6.length c0_6, .slice A0_7 l0_7.length c0_7, .slice A0_8 l0_8.length c0_8, .slice A0_9 l0_9.length c0_9], .agg #[.int .u16 a1_0, .int .u8 a1_1, .int .u8 a1_2, .slice A1_3 l1_3.length c1_3, .int .u16 a1_4, .int .u32 a1_5, .slice A1_6 l1_6.length c1_6, .slice A1_7 l1_7.length c1_7, .slice A1_8 l1_8.length c1_8, .slice A1_9 l1_9.length c1_9], .slice A2 l2.length c2] w fun e w' => e = .returned (.bool r) ∧ Below w.heap.size w w' := by
 have hu44 := Try.underlying44
 have hu47 := Try.underlying47
 have HR0_3 := Aside0.mk hr0_3
 have HC0_3 := Aside0.mk hc0_3
 clear hr0_3 hc0_3
 have HR0_6 := Aside0.mk hr0_6
 have HC0_6 := Aside0.mk hc0_6
 clear hr0_6 hc0_6
 have HR0_7 := Aside0.mk hr0_7
 have HC0_7 := Aside0.mk hc0_7
 clear hr0_7 hc0_7
 have HR0_8 := Aside0.mk hr0_8
 have HC0_8 := Aside0.mk hc0_8
 clear hr0_8 hc0_8
 have HR0_9 := Aside0.mk hr0_9
 have HC0_9 := Aside0.mk hc0_9
 clear hr0_9 hc0_9
 have HR1_3 := Aside0.mk hr1_3
 have HC1_3 := Aside0.mk hc1_3
 clear hr1_3 hc1_3
 have HR1_6 := Aside0.mk hr1_6
 have HC1_6 := Aside0.mk hc1_6
 clear hr1_6 hc1_6
 have HR1_7 := Aside0.mk hr1_7
 have HC1_7 := Aside0.mk hc1_7
 clear hr1_7 hc1_7
 have HR1_8 := Aside0.mk hr1_8
 have HC1_8 := Aside0.mk hc1_8
 clear hr1_8 hc1_8
 have HR1_9 := Aside0.mk hr1_9
 have HC1_9 := Aside0.mk hc1_9
 clear hr1_9 hc1_9
 have HR2 := Aside0.mk hr2
 have HC2 := Aside0.mk hc2
 clear hr2 hc2
 have HB := Aside0.mk (Below.refl w.heap.size w)
 have H : ((marlinelaw18_speaks.f k).bind fun t814 => (if t814 = true then ((marlinelaw15_Few.f k a0_0 a0_1 a0_2 l0_3 a0_4 a0_5 l0_6 l0_7 l0_8 l0_9).bind fun t815 => (if t815 = true then ((marlinelaw15_Few.f k a1_0 a1_1 a1_2 l1_3 a1_4 a1_5 l1_6 l1_7 l1_8 l1_9).bind fun t816 => (if t816 = true then (marlinelaw18_ChapTells.j0 k l2 (decide ((l2.length : Int) > 600)) a0_0 a0_1 a0_2 l0_3 a0_4 a0_5 l0_6 l0_7 l0_8 l0_9 a1_0 a1_1 a1_2 l1_3 a1_4 a1_5 l1_6 l1_7 l1_8 l1_9) else (marlinelaw18_ChapTells.j0 k l2 true a0_0 a0_1 a0_2 l0_3 a0_4 a0_5 l0_6 l0_7 l0_8 l0_9 a1_0 a1_1 a1_2 l1_3 a1_4 a1_5 l1_6 l1_7 l1_8 l1_9))) else (marlinelaw18_ChapTells.j0 k l2 true a0_0 a0_1 a0_2 l0_3 a0_4 a0_5 l0_6 l0_7 l0_8 l0_9 a1_0 a1_1 a1_2 l1_3 a1_4 a1_5 l1_6 l1_7 l1_8 l1_9))) else (marlinelaw18_ChapTells.j0 k l2 true a0_0 a0_1 a0_2 l0_3 a0_4 a0_5 l0_6 l0_7 l0_8 l0_9 a1_0 a1_1 a1_2 l1_3 a1_4 a1_5 l1_6 l1_7 l1_8 l1_9))) = some r := h
 clear h
 have HC4 := Aside0.mk H
 clear H
 go_enter Try.func12, Try.ntmps12
 go_upto_region 1 with (first | ((with_reducible refine gate_dst (N := 3) rfl ?_); (try (refine gate_guard (by rfl) ?_; dsimp only)); refine box_event ?hg (N := 3) ?hd (cs := #[.int .u16 a0_0, .int .u8 a0_1, .int .u8 a0_2, .slice A0_3 l0_3.length c0_3, .int .u16 a0_4, .int .u32 a0_5, .slice A0_6 l0_6.length c0_6, .slice A0_7 l0_7.length c0_7, .slice A0_8 l0_8.length c0_8, .slice A0_9 l0_9.length c0_9]) (t := 44) ?hr ?_; (case hd => rfl); (case hg => rfl); (case hr => first | (go_simp; done) | (go_simp; simp only [IntKind.wrap_u8, IntKind.wrap_u16, IntKind.wrap_u32, IntKind.wrap_u64]; done) | (go_simp; rfl)); intro gb812 hg w5 hbox hb; have n0_ := Aside0.mk (below_step (by repeat (first | (with_reducible first | exact HB.out | apply below_alloc | apply pw_below_drewN | apply below_drew1) | exact HB.out)) hb); have n1_ := Aside0.mk (hbox); have n2_ := Aside0.mk ((by rw [hg]; exact (below_size (by repeat (first | (with_reducible first | exact HB.out | apply below_alloc | apply pw_below_drewN | apply below_drew1) | exact HB.out))) : w.heap.size ≤ gb812)); have n3_ := Aside0.mk ((by rw [hg]; exact (below_size (by repeat (first | (with_reducible first | exact HB.out | apply below_alloc | apply pw_below_drewN | apply below_drew1) | exact HB.out))) : w.heap.size ≤ gb812)); clear HB; have HB := n0_; have BK812 := n1_; have GW812 := n2_; have GE812 := n3_; clear n0_ n1_ n2_ n3_; clear hb hbox hg) | ((with_reducible refine gate_dst (N := 4) rfl ?_); (try (refine gate_guard (by rfl) ?_; dsimp only)); refine box_event ?hg (N := 4) ?hd (cs := #[.int .u16 a1_0, .int .u8 a1_1, .int .u8 a1_2, .slice A1_3 l1_3.length c1_3, .int .u16 a1_4, .int .u32 a1_5, .slice A1_6 l1_6.length c1_6, .slice A1_7 l1_7.length c1_7, .slice A1_8 l1_8.length c1_8, .slice A1_9 l1_9.length c1_9]) (t := 44) ?hr ?_; (case hd => rfl); (case hg => rfl); (case hr => first | (go_simp; done) | (go_simp; simp only [IntKind.wrap_u8, IntKind.wrap_u16, IntKind.wrap_u32, IntKind.wrap_u64]; done) | (go_simp; rfl)); intro gb813 hg w6 hbox hb; have n0_ := Aside0.mk (blk_below (g := gb812) (o := .cells #[.int .u16 a0_0, .int .u8 a0_1, .int .u8 a0_2, .slice A0_3 l0_3.length c0_3, .int .u16 a0_4, .int .u32 a0_5, .slice A0_6 l0_6.length c0_6, .slice A0_7 l0_7.length c0_7, .slice A0_8 l0_8.length c0_8, .slice A0_9 l0_9.length c0_9] 44 (0, 0)) (by (with_reducible repeat (first | refine blk_drewN ?_ _ | refine blk_drew ?_ | refine blk_alloc ?_ _)); exact BK812.out) hb); have n1_ := Aside0.mk (below_step (by repeat (first | (with_reducible first | exact HB.out | apply below_alloc | apply pw_below_drewN | apply below_drew1 | refine below_set ?_ GE812.out) | exact HB.out)) hb); have n2_ := Aside0.mk (hbox); have n3_ := Aside0.mk ((by rw [hg]; exact (below_size (by repeat (first | (with_reducible first | exact HB.out | apply below_alloc | apply pw_below_drewN | apply below_drew1 | refine below_set ?_ GE812.out) | exact HB.out))) : w.heap.size ≤ gb813)); have n4_ := Aside0.mk ((by rw [hg]; exact (below_size (by repeat (first | (with_reducible first | exact HB.out | apply below_alloc | apply pw_below_drewN | apply below_drew1 | refine below_set ?_ GE812.out) | exact HB.out))) : w.heap.size ≤ gb813)); have n5_ := Aside0.mk ((by rw [hg]; exact Nat.ne_of_lt (blk_lt (g := gb812) (o := .cells #[.int .u16 a0_0, .int .u8 a0_1, .int .u8 a0_2, .slice A0_3 l0_3.length c0_3, .int .u16 a0_4, .int .u32 a0_5, .slice A0_6 l0_6.length c0_6, .slice A0_7 l0_7.length c0_7, .slice A0_8 l0_8.length c0_8, .slice A0_9 l0_9.length c0_9] 44 (0, 0)) (by (with_reducible repeat (first | refine blk_drewN ?_ _ | refine blk_drew ?_ | refine blk_alloc ?_ _)); exact BK812.out)) : gb812 ≠ gb813)); have n6_ := Aside0.mk ((by rw [hg]; exact Nat.ne_of_gt (blk_lt (g := gb812) (o := .cells #[.int .u16 a0_0, .int .u8 a0_1, .int .u8 a0_2, .slice A0_3 l0_3.length c0_3, .int .u16 a0_4, .int .u32 a0_5, .slice A0_6 l0_6.length c0_6, .slice A0_7 l0_7.length c0_7, .slice A0_8 l0_8.length c0_8, .slice A0_9 l0_9.length c0_9] 44 (0, 0)) (by (with_reducible repeat (first | refine blk_drewN ?_ _ | refine blk_drew ?_ | refine blk_alloc ?_ _)); exact BK812.out)) : gb813 ≠ gb812)); clear BK812; clear HB; have BK812 := n0_; have HB := n1_; have BK813 := n2_; have GW813 := n3_; have GE813 := n4_; have NB812_813 := n5_; have NB813_812 := n6_; clear n0_ n1_ n2_ n3_ n4_ n5_ n6_; clear hb hbox hg))
 (try simp only [Act.put, List.setIfInBounds_toArray, List.set_cons_zero, List.set_cons_succ])
 go_cut [31] (fun v31 wc => ∃ (kq : Nat) (x31_3 : Bool), v31 = .bool x31_3 ∧ Aside0 (marlinelaw18_ChapTells.j0 kq l2 x31_3 a0_0 a0_1 a0_2 l0_3 a0_4 a0_5 l0_6 l0_7 l0_8 l0_9 a1_0 a1_1 a1_2 l1_3 a1_4 a1_5 l1_6 l1_7 l1_8 l1_9 = some r) ∧ Aside0 (kq ≤ k) ∧ Aside0 (wc.heap[gb812]? = some (.cells #[.int .u16 a0_0, .int .u8 a0_1, .int .u8 a0_2, (.slice A0_3 l0_3.length c0_3), .int .u16 a0_4, .int .u32 a0_5, (.slice A0_6 l0_6.length c0_6), (.slice A0_7 l0_7.length c0_7), (.slice A0_8 l0_8.length c0_8), (.slice A0_9 l0_9.length c0_9)] 44 (0, 0))) ∧ Aside0 (wc.heap[gb813]? = some (.cells #[.int .u16 a1_0, .int .u8 a1_1, .int .u8 a1_2, (.slice A1_3 l1_3.length c1_3), .int .u16 a1_4, .int .u32 a1_5, (.slice A1_6 l1_6.length c1_6), (.slice A1_7 l1_7.length c1_7), (.slice A1_8 l1_8.length c1_8), (.slice A1_9 l1_9.length c1_9)] 44 (0, 0))) ∧ Aside0 (Below w.heap.size w wc))
 case first =>
  have H := HC4.out
  clear HC4
  replace H := Option.bind_eq_some_iff.mp H
  obtain ⟨t814, A70, H⟩ := H
  replace H : (if t814 = true then ((marlinelaw15_Few.f k a0_0 a0_1 a0_2 l0_3 a0_4 a0_5 l0_6 l0_7 l0_8 l0_9).bind fun t815 => (if t815 = true then ((marlinelaw15_Few.f k a1_0 a1_1 a1_2 l1_3 a1_4 a1_5 l1_6 l1_7 l1_8 l1_9).bind fun t816 => (if t816 = true then (marlinelaw18_ChapTells.j0 k l2 (decide ((l2.length : Int) > 600)) a0_0 a0_1 a0_2 l0_3 a0_4 a0_5 l0_6 l0_7 l0_8 l0_9 a1_0 a1_1 a1_2 l1_3 a1_4 a1_5 l1_6 l1_7 l1_8 l1_9) else (marlinelaw18_ChapTells.j0 k l2 true a0_0 a0_1 a0_2 l0_3 a0_4 a0_5 l0_6 l0_7 l0_8 l0_9 a1_0 a1_1 a1_2 l1_3 a1_4 a1_5 l1_6 l1_7 l1_8 l1_9))) else (marlinelaw18_ChapTells.j0 k l2 true a0_0 a0_1 a0_2 l0_3 a0_4 a0_5 l0_6 l0_7 l0_8 l0_9 a1_0 a1_1 a1_2 l1_3 a1_4 a1_5 l1_6 l1_7 l1_8 l1_9))) else (marlinelaw18_ChapTells.j0 k l2 true a0_0 a0_1 a0_2 l0_3 a0_4 a0_5 l0_6 l0_7 l0_8 l0_9 a1_0 a1_1 a1_2 l1_3 a1_4 a1_5 l1_6 l1_7 l1_8 l1_9)) = some r := H
  have A7 := Aside0.mk A70
  clear A70
  by_cases c8 : t814 = true
  ·subst c8
   have H1 : ((marlinelaw15_Few.f k a0_0 a0_1 a0_2 l0_3 a0_4 a0_5 l0_6 l0_7 l0_8 l0_9).bind fun t815 => (if t815 = true then ((marlinelaw15_Few.f k a1_0 a1_1 a1_2 l1_3 a1_4 a1_5 l1_6 l1_7 l1_8 l1_9).bind fun t816 => (if t816 = true then (marlinelaw18_ChapTells.j0 k l2 (decide ((l2.length : Int) > 600)) a0_0 a0_1 a0_2 l0_3 a0_4 a0_5 l0_6 l0_7 l0_8 l0_9 a1_0 a1_1 a1_2 l1_3 a1_4 a1_5 l1_6 l1_7 l1_8 l1_9) else (marlinelaw18_ChapTells.j0 k l2 true a0_0 a0_1 a0_2 l0_3 a0_4 a0_5 l0_6 l0_7 l0_8 l0_9 a1_0 a1_1 a1_2 l1_3 a1_4 a1_5 l1_6 l1_7 l1_8 l1_9))) else (marlinelaw18_ChapTells.j0 k l2 true a0_0 a0_1 a0_2 l0_3 a0_4 a0_5 l0_6 l0_7 l0_8 l0_9 a1_0 a1_1 a1_2 l1_3 a1_4 a1_5 l1_6 l1_7 l1_8 l1_9))) = some r := by rw [if_pos rfl] at H; exact H
   clear H
   have H := H1
   clear H1
   replace H := Option.bind_eq_some_iff.mp H
   obtain ⟨t815, A90, H⟩ := H
   replace H : (if t815 = true then ((marlinelaw15_Few.f k a1_0 a1_1 a1_2 l1_3 a1_4 a1_5 l1_6 l1_7 l1_8 l1_9).bind fun t816 => (if t816 = true then (marlinelaw18_ChapTells.j0 k l2 (decide ((l2.length : Int) > 600)) a0_0 a0_1 a0_2 l0_3 a0_4 a0_5 l0_6 l0_7 l0_8 l0_9 a1_0 a1_1 a1_2 l1_3 a1_4 a1_5 l1_6 l1_7 l1_8 l1_9) else (marlinelaw18_ChapTells.j0 k l2 true a0_0 a0_1 a0_2 l0_3 a0_4 a0_5 l0_6 l0_7 l0_8 l0_9 a1_0 a1_1 a1_2 l1_3 a1_4 a1_5 l1_6 l1_7 l1_8 l1_9))) else (marlinelaw18_ChapTells.j0 k l2 true a0_0 a0_1 a0_2 l0_3 a0_4 a0_5 l0_6 l0_7 l0_8 l0_9 a1_0 a1_1 a1_2 l1_3 a1_4 a1_5 l1_6 l1_7 l1_8 l1_9)) = some r := H
   have A9 := Aside0.mk A90
   clear A90
   by_cases c10 : t815 = true
   ·subst c10
    have H1 : ((marlinelaw15_Few.f k a1_0 a1_1 a1_2 l1_3 a1_4 a1_5 l1_6 l1_7 l1_8 l1_9).bind fun t816 => (if t816 = true then (marlinelaw18_ChapTells.j0 k l2 (decide ((l2.length : Int) > 600)) a0_0 a0_1 a0_2 l0_3 a0_4 a0_5 l0_6 l0_7 l0_8 l0_9 a1_0 a1_1 a1_2 l1_3 a1_4 a1_5 l1_6 l1_7 l1_8 l1_9) else (marlinelaw18_ChapTells.j0 k l2 true a0_0 a0_1 a0_2 l0_3 a0_4 a0_5 l0_6 l0_7 l0_8 l0_9 a1_0 a1_1 a1_2 l1_3 a1_4 a1_5 l1_6 l1_7 l1_8 l1_9))) = some r := by rw [if_pos rfl] at H; exact H
    clear H
    have H := H1
    clear H1
    replace H := Option.bind_eq_some_iff.mp H
    obtain ⟨t816, A110, H⟩ := H
    replace H : (if t816 = true then (marlinelaw18_ChapTells.j0 k l2 (decide ((l2.length : Int) > 600)) a0_0 a0_1 a0_2 l0_3 a0_4 a0_5 l0_6 l0_7 l0_8 l0_9 a1_0 a1_1 a1_2 l1_3 a1_4 a1_5 l1_6 l1_7 l1_8 l1_9) else (marlinelaw18_ChapTells.j0 k l2 true a0_0 a0_1 a0_2 l0_3 a0_4 a0_5 l0_6 l0_7 l0_8 l0_9 a1_0 a1_1 a1_2 l1_3 a1_4 a1_5 l1_6 l1_7 l1_8 l1_9)) = some r := H
    have A11 := Aside0.mk A110
    clear A110
    by_cases c12 : t816 = true
    ·subst c12
     have H1 : (marlinelaw18_ChapTells.j0 k l2 (decide ((l2.length : Int) > 600)) a0_0 a0_1 a0_2 l0_3 a0_4 a0_5 l0_6 l0_7 l0_8 l0_9 a1_0 a1_1 a1_2 l1_3 a1_4 a1_5 l1_6 l1_7 l1_8 l1_9) = some r := by rw [if_pos rfl] at H; exact H
     clear H
     have H := H1
     clear H1
     have H' := Aside0.mk H
     clear H
     go_wp2_with (first | ((with_reducible refine gate_callee (f := 23) rfl ?_); refine goesL_ (some 15) rfl rfl Try.func23 (by kernel_rfl) rfl #[] rfl (by (try simp only [List.map_toArray, List.map_cons, List.map_nil]); first | done | rfl | (simp only [List.length_drop, List.length_take]; rfl)) ?_; (with_reducible refine (marlinelaw18_speaks.calls k  true _ A7.out).mono ?_); rintro e w13 ⟨rfl, hb⟩; refine ⟨_, rfl, ?_⟩; have n0_ := Aside0.mk (blk_below (g := gb812) (o := .cells #[.int .u16 a0_0, .int .u8 a0_1, .int .u8 a0_2, .slice A0_3 l0_3.length c0_3, .int .u16 a0_4, .int .u32 a0_5, .slice A0_6 l0_6.length c0_6, .slice A0_7 l0_7.length c0_7, .slice A0_8 l0_8.length c0_8, .slice A0_9 l0_9.length c0_9] 44 (0, 0)) (by (with_reducible repeat (first | refine blk_drewN ?_ _ | refine blk_drew ?_ | refine blk_alloc ?_ _)); exact BK812.out) hb); have n1_ := Aside0.mk (blk_below (g := gb813) (o := .cells #[.int .u16 a1_0, .int .u8 a1_1, .int .u8 a1_2, .slice A1_3 l1_3.length c1_3, .int .u16 a1_4, .int .u32 a1_5, .slice A1_6 l1_6.length c1_6, .slice A1_7 l1_7.length c1_7, .slice A1_8 l1_8.length c1_8, .slice A1_9 l1_9.length c1_9] 44 (0, 0)) (by (with_reducible repeat (first | refine blk_drewN ?_ _ | refine blk_drew ?_ | refine blk_alloc ?_ _)); exact BK813.out) hb); have n2_ := Aside0.mk (below_step (by repeat (first | (with_reducible first | exact HB.out | apply below_alloc | apply pw_below_drewN | apply below_drew1 | refine below_set ?_ GE812.out | refine below_set ?_ GE813.out) | exact HB.out)) hb); clear BK812; clear BK813; clear HB; have BK812 := n0_; have BK813 := n1_; have HB := n2_; clear n0_ n1_ n2_; (try clear hb); (try clear hb2); (try clear hk); (try clear hi); have hnb14 := NB812_813.out; have hnc14 := NB813_812.out; obtain ⟨⟨hcz15_0, hcz15_1, hcz15_2, hcz15_3, hcz15_4, hcz15_5, hcz15_6, hcz15_7, hcz15_8, hcz15_9⟩, hfz15_0, hfz15_1, hfz15_2, hfz15_3, hfz15_4, hfz15_5, hfz15_6, hfz15_7, hfz15_8, hfz15_9⟩ := cz10 BK812.out) | (go_at_call 24; (with_reducible refine (marlinelaw15_Few.calls k a0_0 a0_1 a0_2 _ _ l0_3 a0_4 a0_5 _ _ l0_6 _ _ l0_7 _ _ l0_8 _ _ l0_9 true _ ?side1 ?side2 ?side3 ?side4 ?side5 ?side6 ?side7 ?side8 ?side9 ?side10 A9.out).mono ?_); (case side1 => repeat (first | exact (Kd.C_below HR0_3.out HB.out) | (with_reducible refine Kd.C_alloc ?_ _) | (with_reducible refine Kd.C_drewN ?_ _) | (with_reducible refine Kd.C_drew ?_))); (case side2 => exact HC0_3.out); (case side3 => repeat (first | exact (Kd.C_below HR0_6.out HB.out) | (with_reducible refine Kd.C_alloc ?_ _) | (with_reducible refine Kd.C_drewN ?_ _) | (with_reducible refine Kd.C_drew ?_))); (case side4 => exact HC0_6.out); (case side5 => repeat (first | exact (Kd.C_below HR0_7.out HB.out) | (with_reducible refine Kd.C_alloc ?_ _) | (with_reducible refine Kd.C_drewN ?_ _) | (with_reducible refine Kd.C_drew ?_))); (case side6 => exact HC0_7.out); (case side7 => repeat (first | exact (Kd.C_below HR0_8.out HB.out) | (with_reducible refine Kd.C_alloc ?_ _) | (with_reducible refine Kd.C_drewN ?_ _) | (with_reducible refine Kd.C_drew ?_))); (case side8 => exact HC0_8.out); (case side9 => repeat (first | exact (Kd.C_below HR0_9.out HB.out) | (with_reducible refine Kd.C_alloc ?_ _) | (with_reducible refine Kd.C_drewN ?_ _) | (with_reducible refine Kd.C_drew ?_))); (case side10 => exact HC0_9.out); rintro e w16 ⟨rfl, hb⟩; have n0_ := Aside0.mk (blk_below (g := gb812) (o := .cells #[.int .u16 a0_0, .int .u8 a0_1, .int .u8 a0_2, .slice A0_3 l0_3.length c0_3, .int .u16 a0_4, .int .u32 a0_5, .slice A0_6 l0_6.length c0_6, .slice A0_7 l0_7.length c0_7, .slice A0_8 l0_8.length c0_8, .slice A0_9 l0_9.length c0_9] 44 (0, 0)) (by (with_reducible repeat (first | refine blk_drewN ?_ _ | refine blk_drew ?_ | refine blk_alloc ?_ _)); exact BK812.out) hb); have n1_ := Aside0.mk (blk_below (g := gb813) (o := .cells #[.int .u16 a1_0, .int .u8 a1_1, .int .u8 a1_2, .slice A1_3 l1_3.length c1_3, .int .u16 a1_4, .int .u32 a1_5, .slice A1_6 l1_6.length c1_6, .slice A1_7 l1_7.length c1_7, .slice A1_8 l1_8.length c1_8, .slice A1_9 l1_9.length c1_9] 44 (0, 0)) (by (with_reducible repeat (first | refine blk_drewN ?_ _ | refine blk_drew ?_ | refine blk_alloc ?_ _)); exact BK813.out) hb); have n2_ := Aside0.mk (below_step (by repeat (first | (with_reducible first | exact HB.out | apply below_alloc | apply pw_below_drewN | apply below_drew1 | refine below_set ?_ GE812.out | refine below_set ?_ GE813.out) | exact HB.out)) hb); clear BK812; clear BK813; clear HB; have BK812 := n0_; have BK813 := n1_; have HB := n2_; clear n0_ n1_ n2_; (try clear hb); (try clear hb2); (try clear hk); (try clear hi); obtain ⟨⟨hcz17_0, hcz17_1, hcz17_2, hcz17_3, hcz17_4, hcz17_5, hcz17_6, hcz17_7, hcz17_8, hcz17_9⟩, hfz17_0, hfz17_1, hfz17_2, hfz17_3, hfz17_4, hfz17_5, hfz17_6, hfz17_7, hfz17_8, hfz17_9⟩ := cz10 BK813.out) | (go_at_call 24; (with_reducible refine (marlinelaw15_Few.calls k a1_0 a1_1 a1_2 _ _ l1_3 a1_4 a1_5 _ _ l1_6 _ _ l1_7 _ _ l1_8 _ _ l1_9 true _ ?side1 ?side2 ?side3 ?side4 ?side5 ?side6 ?side7 ?side8 ?side9 ?side10 A11.out).mono ?_); (case side1 => repeat (first | exact (Kd.C_below HR1_3.out HB.out) | (with_reducible refine Kd.C_alloc ?_ _) | (with_reducible refine Kd.C_drewN ?_ _) | (with_reducible refine Kd.C_drew ?_))); (case side2 => exact HC1_3.out); (case side3 => repeat (first | exact (Kd.C_below HR1_6.out HB.out) | (with_reducible refine Kd.C_alloc ?_ _) | (with_reducible refine Kd.C_drewN ?_ _) | (with_reducible refine Kd.C_drew ?_))); (case side4 => exact HC1_6.out); (case side5 => repeat (first | exact (Kd.C_below HR1_7.out HB.out) | (with_reducible refine Kd.C_alloc ?_ _) | (with_reducible refine Kd.C_drewN ?_ _) | (with_reducible refine Kd.C_drew ?_))); (case side6 => exact HC1_7.out); (case side7 => repeat (first | exact (Kd.C_below HR1_8.out HB.out) | (with_reducible refine Kd.C_alloc ?_ _) | (with_reducible refine Kd.C_drewN ?_ _) | (with_reducible refine Kd.C_drew ?_))); (case side8 => exact HC1_8.out); (case side9 => repeat (first | exact (Kd.C_below HR1_9.out HB.out) | (with_reducible refine Kd.C_alloc ?_ _) | (with_reducible refine Kd.C_drewN ?_ _) | (with_reducible refine Kd.C_drew ?_))); (case side10 => exact HC1_9.out); rintro e w18 ⟨rfl, hb⟩; have n0_ := Aside0.mk (blk_below (g := gb812) (o := .cells #[.int .u16 a0_0, .int .u8 a0_1, .int .u8 a0_2, .slice A0_3 l0_3.length c0_3, .int .u16 a0_4, .int .u32 a0_5, .slice A0_6 l0_6.length c0_6, .slice A0_7 l0_7.length c0_7, .slice A0_8 l0_8.length c0_8, .slice A0_9 l0_9.length c0_9] 44 (0, 0)) (by (with_reducible repeat (first | refine blk_drewN ?_ _ | refine blk_drew ?_ | refine blk_alloc ?_ _)); exact BK812.out) hb); have n1_ := Aside0.mk (blk_below (g := gb813) (o := .cells #[.int .u16 a1_0, .int .u8 a1_1, .int .u8 a1_2, .slice A1_3 l1_3.length c1_3, .int .u16 a1_4, .int .u32 a1_5, .slice A1_6 l1_6.length c1_6, .slice A1_7 l1_7.length c1_7, .slice A1_8 l1_8.length c1_8, .slice A1_9 l1_9.length c1_9] 44 (0, 0)) (by (with_reducible repeat (first | refine blk_drewN ?_ _ | refine blk_drew ?_ | refine blk_alloc ?_ _)); exact BK813.out) hb); have n2_ := Aside0.mk (below_step (by repeat (first | (with_reducible first | exact HB.out | apply below_alloc | apply pw_below_drewN | apply below_drew1 | refine below_set ?_ GE812.out | refine below_set ?_ GE813.out) | exact HB.out)) hb); clear BK812; clear BK813; clear HB; have BK812 := n0_; have BK813 := n1_; have HB := n2_; clear n0_ n1_ n2_; (try clear hb); (try clear hb2); (try clear hk); (try clear hi)))
     go_meet
     case rel => exact ⟨_, (decide ((l2.length : Int) > 600)), (by first | rfl | (simp; done) | (simp [*]; done)), H', ⟨by first | omega | exact Nat.le_refl _⟩, ⟨by (with_reducible repeat (first | refine blk_drewN ?_ _ | refine blk_drew ?_ | refine blk_alloc ?_ _)); exact BK812.out⟩, ⟨by (with_reducible repeat (first | refine blk_drewN ?_ _ | refine blk_drew ?_ | refine blk_alloc ?_ _)); exact BK813.out⟩, ⟨by repeat (first | (with_reducible first | exact HB.out | apply below_alloc | apply pw_below_drewN | apply below_drew1 | refine below_set ?_ GE812.out | refine below_set ?_ GE813.out) | exact HB.out)⟩⟩
    ·replace c12 := Bool.eq_false_iff.mpr c12
     subst c12
     have H1 : (marlinelaw18_ChapTells.j0 k l2 true a0_0 a0_1 a0_2 l0_3 a0_4 a0_5 l0_6 l0_7 l0_8 l0_9 a1_0 a1_1 a1_2 l1_3 a1_4 a1_5 l1_6 l1_7 l1_8 l1_9) = some r := by rw [if_neg (show ¬ (false = true) by decide)] at H; exact H
     clear H
     have H := H1
     clear H1
     have H' := Aside0.mk H
     clear H
     go_wp2_with (first | ((with_reducible refine gate_callee (f := 23) rfl ?_); refine goesL_ (some 15) rfl rfl Try.func23 (by kernel_rfl) rfl #[] rfl (by (try simp only [List.map_toArray, List.map_cons, List.map_nil]); first | done | rfl | (simp only [List.length_drop, List.length_take]; rfl)) ?_; (with_reducible refine (marlinelaw18_speaks.calls k  true _ A7.out).mono ?_); rintro e w19 ⟨rfl, hb⟩; refine ⟨_, rfl, ?_⟩; have n0_ := Aside0.mk (blk_below (g := gb812) (o := .cells #[.int .u16 a0_0, .int .u8 a0_1, .int .u8 a0_2, .slice A0_3 l0_3.length c0_3, .int .u16 a0_4, .int .u32 a0_5, .slice A0_6 l0_6.length c0_6, .slice A0_7 l0_7.length c0_7, .slice A0_8 l0_8.length c0_8, .slice A0_9 l0_9.length c0_9] 44 (0, 0)) (by (with_reducible repeat (first | refine blk_drewN ?_ _ | refine blk_drew ?_ | refine blk_alloc ?_ _)); exact BK812.out) hb); have n1_ := Aside0.mk (blk_below (g := gb813) (o := .cells #[.int .u16 a1_0, .int .u8 a1_1, .int .u8 a1_2, .slice A1_3 l1_3.length c1_3, .int .u16 a1_4, .int .u32 a1_5, .slice A1_6 l1_6.length c1_6, .slice A1_7 l1_7.length c1_7, .slice A1_8 l1_8.length c1_8, .slice A1_9 l1_9.length c1_9] 44 (0, 0)) (by (with_reducible repeat (first | refine blk_drewN ?_ _ | refine blk_drew ?_ | refine blk_alloc ?_ _)); exact BK813.out) hb); have n2_ := Aside0.mk (below_step (by repeat (first | (with_reducible first | exact HB.out | apply below_alloc | apply pw_below_drewN | apply below_drew1 | refine below_set ?_ GE812.out | refine below_set ?_ GE813.out) | exact HB.out)) hb); clear BK812; clear BK813; clear HB; have BK812 := n0_; have BK813 := n1_; have HB := n2_; clear n0_ n1_ n2_; (try clear hb); (try clear hb2); (try clear hk); (try clear hi); have hnb20 := NB812_813.out; have hnc20 := NB813_812.out; obtain ⟨⟨hcz21_0, hcz21_1, hcz21_2, hcz21_3, hcz21_4, hcz21_5, hcz21_6, hcz21_7, hcz21_8, hcz21_9⟩, hfz21_0, hfz21_1, hfz21_2, hfz21_3, hfz21_4, hfz21_5, hfz21_6, hfz21_7, hfz21_8, hfz21_9⟩ := cz10 BK812.out) | (go_at_call 24; (with_reducible refine (marlinelaw15_Few.calls k a0_0 a0_1 a0_2 _ _ l0_3 a0_4 a0_5 _ _ l0_6 _ _ l0_7 _ _ l0_8 _ _ l0_9 true _ ?side1 ?side2 ?side3 ?side4 ?side5 ?side6 ?side7 ?side8 ?side9 ?side10 A9.out).mono ?_); (case side1 => repeat (first | exact (Kd.C_below HR0_3.out HB.out) | (with_reducible refine Kd.C_alloc ?_ _) | (with_reducible refine Kd.C_drewN ?_ _) | (with_reducible refine Kd.C_drew ?_))); (case side2 => exact HC0_3.out); (case side3 => repeat (first | exact (Kd.C_below HR0_6.out HB.out) | (with_reducible refine Kd.C_alloc ?_ _) | (with_reducible refine Kd.C_drewN ?_ _) | (with_reducible refine Kd.C_drew ?_))); (case side4 => exact HC0_6.out); (case side5 => repeat (first | exact (Kd.C_below HR0_7.out HB.out) | (with_reducible refine Kd.C_alloc ?_ _) | (with_reducible refine Kd.C_drewN ?_ _) | (with_reducible refine Kd.C_drew ?_))); (case side6 => exact HC0_7.out); (case side7 => repeat (first | exact (Kd.C_below HR0_8.out HB.out) | (with_reducible refine Kd.C_alloc ?_ _) | (with_reducible refine Kd.C_drewN ?_ _) | (with_reducible refine Kd.C_drew ?_))); (case side8 => exact HC0_8.out); (case side9 => repeat (first | exact (Kd.C_below HR0_9.out HB.out) | (with_reducible refine Kd.C_alloc ?_ _) | (with_reducible refine Kd.C_drewN ?_ _) | (with_reducible refine Kd.C_drew ?_))); (case side10 => exact HC0_9.out); rintro e w22 ⟨rfl, hb⟩; have n0_ := Aside0.mk (blk_below (g := gb812) (o := .cells #[.int .u16 a0_0, .int .u8 a0_1, .int .u8 a0_2, .slice A0_3 l0_3.length c0_3, .int .u16 a0_4, .int .u32 a0_5, .slice A0_6 l0_6.length c0_6, .slice A0_7 l0_7.length c0_7, .slice A0_8 l0_8.length c0_8, .slice A0_9 l0_9.length c0_9] 44 (0, 0)) (by (with_reducible repeat (first | refine blk_drewN ?_ _ | refine blk_drew ?_ | refine blk_alloc ?_ _)); exact BK812.out) hb); have n1_ := Aside0.mk (blk_below (g := gb813) (o := .cells #[.int .u16 a1_0, .int .u8 a1_1, .int .u8 a1_2, .slice A1_3 l1_3.length c1_3, .int .u16 a1_4, .int .u32 a1_5, .slice A1_6 l1_6.length c1_6, .slice A1_7 l1_7.length c1_7, .slice A1_8 l1_8.length c1_8, .slice A1_9 l1_9.length c1_9] 44 (0, 0)) (by (with_reducible repeat (first | refine blk_drewN ?_ _ | refine blk_drew ?_ | refine blk_alloc ?_ _)); exact BK813.out) hb); have n2_ := Aside0.mk (below_step (by repeat (first | (with_reducible first | exact HB.out | apply below_alloc | apply pw_below_drewN | apply below_drew1 | refine below_set ?_ GE812.out | refine below_set ?_ GE813.out) | exact HB.out)) hb); clear BK812; clear BK813; clear HB; have BK812 := n0_; have BK813 := n1_; have HB := n2_; clear n0_ n1_ n2_; (try clear hb); (try clear hb2); (try clear hk); (try clear hi); obtain ⟨⟨hcz23_0, hcz23_1, hcz23_2, hcz23_3, hcz23_4, hcz23_5, hcz23_6, hcz23_7, hcz23_8, hcz23_9⟩, hfz23_0, hfz23_1, hfz23_2, hfz23_3, hfz23_4, hfz23_5, hfz23_6, hfz23_7, hfz23_8, hfz23_9⟩ := cz10 BK813.out) | (go_at_call 24; (with_reducible refine (marlinelaw15_Few.calls k a1_0 a1_1 a1_2 _ _ l1_3 a1_4 a1_5 _ _ l1_6 _ _ l1_7 _ _ l1_8 _ _ l1_9 false _ ?side1 ?side2 ?side3 ?side4 ?side5 ?side6 ?side7 ?side8 ?side9 ?side10 A11.out).mono ?_); (case side1 => repeat (first | exact (Kd.C_below HR1_3.out HB.out) | (with_reducible refine Kd.C_alloc ?_ _) | (with_reducible refine Kd.C_drewN ?_ _) | (with_reducible refine Kd.C_drew ?_))); (case side2 => exact HC1_3.out); (case side3 => repeat (first | exact (Kd.C_below HR1_6.out HB.out) | (with_reducible refine Kd.C_alloc ?_ _) | (with_reducible refine Kd.C_drewN ?_ _) | (with_reducible refine Kd.C_drew ?_))); (case side4 => exact HC1_6.out); (case side5 => repeat (first | exact (Kd.C_below HR1_7.out HB.out) | (with_reducible refine Kd.C_alloc ?_ _) | (with_reducible refine Kd.C_drewN ?_ _) | (with_reducible refine Kd.C_drew ?_))); (case side6 => exact HC1_7.out); (case side7 => repeat (first | exact (Kd.C_below HR1_8.out HB.out) | (with_reducible refine Kd.C_alloc ?_ _) | (with_reducible refine Kd.C_drewN ?_ _) | (with_reducible refine Kd.C_drew ?_))); (case side8 => exact HC1_8.out); (case side9 => repeat (first | exact (Kd.C_below HR1_9.out HB.out) | (with_reducible refine Kd.C_alloc ?_ _) | (with_reducible refine Kd.C_drewN ?_ _) | (with_reducible refine Kd.C_drew ?_))); (case side10 => exact HC1_9.out); rintro e w24 ⟨rfl, hb⟩; have n0_ := Aside0.mk (blk_below (g := gb812) (o := .cells #[.int .u16 a0_0, .int .u8 a0_1, .int .u8 a0_2, .slice A0_3 l0_3.length c0_3, .int .u16 a0_4, .int .u32 a0_5, .slice A0_6 l0_6.length c0_6, .slice A0_7 l0_7.length c0_7, .slice A0_8 l0_8.length c0_8, .slice A0_9 l0_9.length c0_9] 44 (0, 0)) (by (with_reducible repeat (first | refine blk_drewN ?_ _ | refine blk_drew ?_ | refine blk_alloc ?_ _)); exact BK812.out) hb); have n1_ := Aside0.mk (blk_below (g := gb813) (o := .cells #[.int .u16 a1_0, .int .u8 a1_1, .int .u8 a1_2, .slice A1_3 l1_3.length c1_3, .int .u16 a1_4, .int .u32 a1_5, .slice A1_6 l1_6.length c1_6, .slice A1_7 l1_7.length c1_7, .slice A1_8 l1_8.length c1_8, .slice A1_9 l1_9.length c1_9] 44 (0, 0)) (by (with_reducible repeat (first | refine blk_drewN ?_ _ | refine blk_drew ?_ | refine blk_alloc ?_ _)); exact BK813.out) hb); have n2_ := Aside0.mk (below_step (by repeat (first | (with_reducible first | exact HB.out | apply below_alloc | apply pw_below_drewN | apply below_drew1 | refine below_set ?_ GE812.out | refine below_set ?_ GE813.out) | exact HB.out)) hb); clear BK812; clear BK813; clear HB; have BK812 := n0_; have BK813 := n1_; have HB := n2_; clear n0_ n1_ n2_; (try clear hb); (try clear hb2); (try clear hk); (try clear hi)))
     go_meet
     case rel => exact ⟨_, (true), (by first | rfl | (simp; done) | (simp [*]; done)), H', ⟨by first | omega | exact Nat.le_refl _⟩, ⟨by (with_reducible repeat (first | refine blk_drewN ?_ _ | refine blk_drew ?_ | refine blk_alloc ?_ _)); exact BK812.out⟩, ⟨by (with_reducible repeat (first | refine blk_drewN ?_ _ | refine blk_drew ?_ | refine blk_alloc ?_ _)); exact BK813.out⟩, ⟨by repeat (first | (with_reducible first | exact HB.out | apply below_alloc | apply pw_below_drewN | apply below_drew1 | refine below_set ?_ GE812.out | refine below_set ?_ GE813.out) | exact HB.out)⟩⟩
   ·replace c10 := Bool.eq_false_iff.mpr c10
    subst c10
    have H1 : (marlinelaw18_ChapTells.j0 k l2 true a0_0 a0_1 a0_2 l0_3 a0_4 a0_5 l0_6 l0_7 l0_8 l0_9 a1_0 a1_1 a1_2 l1_3 a1_4 a1_5 l1_6 l1_7 l1_8 l1_9) = some r := by rw [if_neg (show ¬ (false = true) by decide)] at H; exact H
    clear H
    have H := H1
    clear H1
    have H' := Aside0.mk H
    clear H
    go_wp2_with (first | ((with_reducible refine gate_callee (f := 23) rfl ?_); refine goesL_ (some 15) rfl rfl Try.func23 (by kernel_rfl) rfl #[] rfl (by (try simp only [List.map_toArray, List.map_cons, List.map_nil]); first | done | rfl | (simp only [List.length_drop, List.length_take]; rfl)) ?_; (with_reducible refine (marlinelaw18_speaks.calls k  true _ A7.out).mono ?_); rintro e w25 ⟨rfl, hb⟩; refine ⟨_, rfl, ?_⟩; have n0_ := Aside0.mk (blk_below (g := gb812) (o := .cells #[.int .u16 a0_0, .int .u8 a0_1, .int .u8 a0_2, .slice A0_3 l0_3.length c0_3, .int .u16 a0_4, .int .u32 a0_5, .slice A0_6 l0_6.length c0_6, .slice A0_7 l0_7.length c0_7, .slice A0_8 l0_8.length c0_8, .slice A0_9 l0_9.length c0_9] 44 (0, 0)) (by (with_reducible repeat (first | refine blk_drewN ?_ _ | refine blk_drew ?_ | refine blk_alloc ?_ _)); exact BK812.out) hb); have n1_ := Aside0.mk (blk_below (g := gb813) (o := .cells #[.int .u16 a1_0, .int .u8 a1_1, .int .u8 a1_2, .slice A1_3 l1_3.length c1_3, .int .u16 a1_4, .int .u32 a1_5, .slice A1_6 l1_6.length c1_6, .slice A1_7 l1_7.length c1_7, .slice A1_8 l1_8.length c1_8, .slice A1_9 l1_9.length c1_9] 44 (0, 0)) (by (with_reducible repeat (first | refine blk_drewN ?_ _ | refine blk_drew ?_ | refine blk_alloc ?_ _)); exact BK813.out) hb); have n2_ := Aside0.mk (below_step (by repeat (first | (with_reducible first | exact HB.out | apply below_alloc | apply pw_below_drewN | apply below_drew1 | refine below_set ?_ GE812.out | refine below_set ?_ GE813.out) | exact HB.out)) hb); clear BK812; clear BK813; clear HB; have BK812 := n0_; have BK813 := n1_; have HB := n2_; clear n0_ n1_ n2_; (try clear hb); (try clear hb2); (try clear hk); (try clear hi); have hnb26 := NB812_813.out; have hnc26 := NB813_812.out; obtain ⟨⟨hcz27_0, hcz27_1, hcz27_2, hcz27_3, hcz27_4, hcz27_5, hcz27_6, hcz27_7, hcz27_8, hcz27_9⟩, hfz27_0, hfz27_1, hfz27_2, hfz27_3, hfz27_4, hfz27_5, hfz27_6, hfz27_7, hfz27_8, hfz27_9⟩ := cz10 BK812.out) | (go_at_call 24; (with_reducible refine (marlinelaw15_Few.calls k a0_0 a0_1 a0_2 _ _ l0_3 a0_4 a0_5 _ _ l0_6 _ _ l0_7 _ _ l0_8 _ _ l0_9 false _ ?side1 ?side2 ?side3 ?side4 ?side5 ?side6 ?side7 ?side8 ?side9 ?side10 A9.out).mono ?_); (case side1 => repeat (first | exact (Kd.C_below HR0_3.out HB.out) | (with_reducible refine Kd.C_alloc ?_ _) | (with_reducible refine Kd.C_drewN ?_ _) | (with_reducible refine Kd.C_drew ?_))); (case side2 => exact HC0_3.out); (case side3 => repeat (first | exact (Kd.C_below HR0_6.out HB.out) | (with_reducible refine Kd.C_alloc ?_ _) | (with_reducible refine Kd.C_drewN ?_ _) | (with_reducible refine Kd.C_drew ?_))); (case side4 => exact HC0_6.out); (case side5 => repeat (first | exact (Kd.C_below HR0_7.out HB.out) | (with_reducible refine Kd.C_alloc ?_ _) | (with_reducible refine Kd.C_drewN ?_ _) | (with_reducible refine Kd.C_drew ?_))); (case side6 => exact HC0_7.out); (case side7 => repeat (first | exact (Kd.C_below HR0_8.out HB.out) | (with_reducible refine Kd.C_alloc ?_ _) | (with_reducible refine Kd.C_drewN ?_ _) | (with_reducible refine Kd.C_drew ?_))); (case side8 => exact HC0_8.out); (case side9 => repeat (first | exact (Kd.C_below HR0_9.out HB.out) | (with_reducible refine Kd.C_alloc ?_ _) | (with_reducible refine Kd.C_drewN ?_ _) | (with_reducible refine Kd.C_drew ?_))); (case side10 => exact HC0_9.out); rintro e w28 ⟨rfl, hb⟩; have n0_ := Aside0.mk (blk_below (g := gb812) (o := .cells #[.int .u16 a0_0, .int .u8 a0_1, .int .u8 a0_2, .slice A0_3 l0_3.length c0_3, .int .u16 a0_4, .int .u32 a0_5, .slice A0_6 l0_6.length c0_6, .slice A0_7 l0_7.length c0_7, .slice A0_8 l0_8.length c0_8, .slice A0_9 l0_9.length c0_9] 44 (0, 0)) (by (with_reducible repeat (first | refine blk_drewN ?_ _ | refine blk_drew ?_ | refine blk_alloc ?_ _)); exact BK812.out) hb); have n1_ := Aside0.mk (blk_below (g := gb813) (o := .cells #[.int .u16 a1_0, .int .u8 a1_1, .int .u8 a1_2, .slice A1_3 l1_3.length c1_3, .int .u16 a1_4, .int .u32 a1_5, .slice A1_6 l1_6.length c1_6, .slice A1_7 l1_7.length c1_7, .slice A1_8 l1_8.length c1_8, .slice A1_9 l1_9.length c1_9] 44 (0, 0)) (by (with_reducible repeat (first | refine blk_drewN ?_ _ | refine blk_drew ?_ | refine blk_alloc ?_ _)); exact BK813.out) hb); have n2_ := Aside0.mk (below_step (by repeat (first | (with_reducible first | exact HB.out | apply below_alloc | apply pw_below_drewN | apply below_drew1 | refine below_set ?_ GE812.out | refine below_set ?_ GE813.out) | exact HB.out)) hb); clear BK812; clear BK813; clear HB; have BK812 := n0_; have BK813 := n1_; have HB := n2_; clear n0_ n1_ n2_; (try clear hb); (try clear hb2); (try clear hk); (try clear hi)))
    go_meet
    case rel => exact ⟨_, (true), (by first | rfl | (simp; done) | (simp [*]; done)), H', ⟨by first | omega | exact Nat.le_refl _⟩, ⟨by (with_reducible repeat (first | refine blk_drewN ?_ _ | refine blk_drew ?_ | refine blk_alloc ?_ _)); exact BK812.out⟩, ⟨by (with_reducible repeat (first | refine blk_drewN ?_ _ | refine blk_drew ?_ | refine blk_alloc ?_ _)); exact BK813.out⟩, ⟨by repeat (first | (with_reducible first | exact HB.out | apply below_alloc | apply pw_below_drewN | apply below_drew1 | refine below_set ?_ GE812.out | refine below_set ?_ GE813.out) | exact HB.out)⟩⟩
  ·replace c8 := Bool.eq_false_iff.mpr c8
   subst c8
   have H1 : (marlinelaw18_ChapTells.j0 k l2 true a0_0 a0_1 a0_2 l0_3 a0_4 a0_5 l0_6 l0_7 l0_8 l0_9 a1_0 a1_1 a1_2 l1_3 a1_4 a1_5 l1_6 l1_7 l1_8 l1_9) = some r := by rw [if_neg (show ¬ (false = true) by decide)] at H; exact H
   clear H
   have H := H1
   clear H1
   have H' := Aside0.mk H
   clear H
   go_wp2_with (first | ((with_reducible refine gate_callee (f := 23) rfl ?_); refine goesL_ (some 15) rfl rfl Try.func23 (by kernel_rfl) rfl #[] rfl (by (try simp only [List.map_toArray, List.map_cons, List.map_nil]); first | done | rfl | (simp only [List.length_drop, List.length_take]; rfl)) ?_; (with_reducible refine (marlinelaw18_speaks.calls k  false _ A7.out).mono ?_); rintro e w29 ⟨rfl, hb⟩; refine ⟨_, rfl, ?_⟩; have n0_ := Aside0.mk (blk_below (g := gb812) (o := .cells #[.int .u16 a0_0, .int .u8 a0_1, .int .u8 a0_2, .slice A0_3 l0_3.length c0_3, .int .u16 a0_4, .int .u32 a0_5, .slice A0_6 l0_6.length c0_6, .slice A0_7 l0_7.length c0_7, .slice A0_8 l0_8.length c0_8, .slice A0_9 l0_9.length c0_9] 44 (0, 0)) (by (with_reducible repeat (first | refine blk_drewN ?_ _ | refine blk_drew ?_ | refine blk_alloc ?_ _)); exact BK812.out) hb); have n1_ := Aside0.mk (blk_below (g := gb813) (o := .cells #[.int .u16 a1_0, .int .u8 a1_1, .int .u8 a1_2, .slice A1_3 l1_3.length c1_3, .int .u16 a1_4, .int .u32 a1_5, .slice A1_6 l1_6.length c1_6, .slice A1_7 l1_7.length c1_7, .slice A1_8 l1_8.length c1_8, .slice A1_9 l1_9.length c1_9] 44 (0, 0)) (by (with_reducible repeat (first | refine blk_drewN ?_ _ | refine blk_drew ?_ | refine blk_alloc ?_ _)); exact BK813.out) hb); have n2_ := Aside0.mk (below_step (by repeat (first | (with_reducible first | exact HB.out | apply below_alloc | apply pw_below_drewN | apply below_drew1 | refine below_set ?_ GE812.out | refine below_set ?_ GE813.out) | exact HB.out)) hb); clear BK812; clear BK813; clear HB; have BK812 := n0_; have BK813 := n1_; have HB := n2_; clear n0_ n1_ n2_; (try clear hb); (try clear hb2); (try clear hk); (try clear hi)))
   go_meet
   case rel => exact ⟨_, (true), (by first | rfl | (simp; done) | (simp [*]; done)), H', ⟨by first | omega | exact Nat.le_refl _⟩, ⟨by (with_reducible repeat (first | refine blk_drewN ?_ _ | refine blk_drew ?_ | refine blk_alloc ?_ _)); exact BK812.out⟩, ⟨by (with_reducible repeat (first | refine blk_drewN ?_ _ | refine blk_drew ?_ | refine blk_alloc ?_ _)); exact BK813.out⟩, ⟨by repeat (first | (with_reducible first | exact HB.out | apply below_alloc | apply pw_below_drewN | apply below_drew1 | refine below_set ?_ GE812.out | refine below_set ?_ GE813.out) | exact HB.out)⟩⟩
 case rest =>
  clear HC4
  try clear c1
  try clear c2
  try clear p2
  try clear c8
  try clear c10
  try clear c12
  try clear c14
  try clear c20
  try clear c23
  try clear c26
  try clear hcz15_0 hcz15_1 hcz15_2 hcz15_3 hcz15_4 hcz15_5 hcz15_6 hcz15_7 hcz15_8 hcz15_9 hfz15_0 hfz15_1 hfz15_2 hfz15_3 hfz15_4 hfz15_5 hfz15_6 hfz15_7 hfz15_8 hfz15_9
  try clear hcz17_0 hcz17_1 hcz17_2 hcz17_3 hcz17_4 hcz17_5 hcz17_6 hcz17_7 hcz17_8 hcz17_9 hfz17_0 hfz17_1 hfz17_2 hfz17_3 hfz17_4 hfz17_5 hfz17_6 hfz17_7 hfz17_8 hfz17_9
  try clear hcz21_0 hcz21_1 hcz21_2 hcz21_3 hcz21_4 hcz21_5 hcz21_6 hcz21_7 hcz21_8 hcz21_9 hfz21_0 hfz21_1 hfz21_2 hfz21_3 hfz21_4 hfz21_5 hfz21_6 hfz21_7 hfz21_8 hfz21_9
  try clear hcz23_0 hcz23_1 hcz23_2 hcz23_3 hcz23_4 hcz23_5 hcz23_6 hcz23_7 hcz23_8 hcz23_9 hfz23_0 hfz23_1 hfz23_2 hfz23_3 hfz23_4 hfz23_5 hfz23_6 hfz23_7 hfz23_8 hfz23_9
  try clear hcz27_0 hcz27_1 hcz27_2 hcz27_3 hcz27_4 hcz27_5 hcz27_6 hcz27_7 hcz27_8 hcz27_9 hfz27_0 hfz27_1 hfz27_2 hfz27_3 hfz27_4 hfz27_5 hfz27_6 hfz27_7 hfz27_8 hfz27_9
  obtain ⟨kq, x31_3, rfl, HA, HJ3, BK812, BK813, HB⟩ := hcut
  cases kq with
  | zero => exact absurd HA.out (by simp [marlinelaw18_ChapTells.j0])
  | succ kj3 =>
   have H := HA.out
   clear HA
   simp only [marlinelaw18_ChapTells.j0] at H
   by_cases c30 : x31_3 = true
   ·subst c30
    have H1 : ((marlinelaw18_speaks.f kj3).bind fun t817 => (some t817)) = some r := by rw [if_pos rfl] at H; exact H
    clear H
    have H := H1
    clear H1
    replace H := Option.bind_eq_some_iff.mp H
    obtain ⟨t817, A310, H⟩ := H
    replace H : (some t817) = some r := H
    have A31 := Aside0.mk A310
    clear A310
    obtain rfl := Option.some.inj H
    go_wp2_with (first | ((with_reducible refine gate_callee (f := 23) rfl ?_); refine goesL_ (some 32) rfl rfl Try.func23 (by kernel_rfl) rfl #[] rfl (by (try simp only [List.map_toArray, List.map_cons, List.map_nil]); first | done | rfl | (simp only [List.length_drop, List.length_take]; rfl)) ?_; (with_reducible refine (marlinelaw18_speaks.calls kj3  t817 _ A31.out).mono ?_); rintro e w32 ⟨rfl, hb⟩; refine ⟨_, rfl, ?_⟩; have n0_ := Aside0.mk (blk_below (g := gb812) (o := .cells #[.int .u16 a0_0, .int .u8 a0_1, .int .u8 a0_2, .slice A0_3 l0_3.length c0_3, .int .u16 a0_4, .int .u32 a0_5, .slice A0_6 l0_6.length c0_6, .slice A0_7 l0_7.length c0_7, .slice A0_8 l0_8.length c0_8, .slice A0_9 l0_9.length c0_9] 44 (0, 0)) (by (with_reducible repeat (first | refine blk_drewN ?_ _ | refine blk_drew ?_ | refine blk_alloc ?_ _)); exact BK812.out) hb); have n1_ := Aside0.mk (blk_below (g := gb813) (o := .cells #[.int .u16 a1_0, .int .u8 a1_1, .int .u8 a1_2, .slice A1_3 l1_3.length c1_3, .int .u16 a1_4, .int .u32 a1_5, .slice A1_6 l1_6.length c1_6, .slice A1_7 l1_7.length c1_7, .slice A1_8 l1_8.length c1_8, .slice A1_9 l1_9.length c1_9] 44 (0, 0)) (by (with_reducible repeat (first | refine blk_drewN ?_ _ | refine blk_drew ?_ | refine blk_alloc ?_ _)); exact BK813.out) hb); have n2_ := Aside0.mk (below_step (by repeat (first | (with_reducible first | exact HB.out | apply below_alloc | apply pw_below_drewN | apply below_drew1 | refine below_set ?_ GE812.out | refine below_set ?_ GE813.out) | exact HB.out)) hb); clear BK812; clear BK813; clear HB; have BK812 := n0_; have BK813 := n1_; have HB := n2_; clear n0_ n1_ n2_; (try clear hb); (try clear hb2); (try clear hk); (try clear hi)))
    go_ret
    exact ⟨by first | rfl | (simp [errW_none, errW_some] <;> rfl) | (simp [*, errW_none, errW_some] <;> rfl), by repeat (first | (with_reducible first | exact HB.out | apply below_alloc | apply pw_below_drewN | apply below_drew1 | refine below_set ?_ GE812.out | refine below_set ?_ GE813.out) | exact HB.out)⟩
   ·replace c30 := Bool.eq_false_iff.mpr c30
    subst c30
    have H1 : ((marlinelaw15_Of.f kj3 a0_0 a0_1 a0_2 l0_3 a0_4 a0_5 l0_6 l0_7 l0_8 l0_9).bind fun bt818 => ((chap_Put.f kj3 bt818.1 bt818.2.1 bt818.2.2.1 bt818.2.2.2.1 bt818.2.2.2.2.1 bt818.2.2.2.2.2.1 bt818.2.2.2.2.2.2.1 bt818.2.2.2.2.2.2.2.1 bt818.2.2.2.2.2.2.2.2.1 bt818.2.2.2.2.2.2.2.2.2).bind fun bt838 => ((marlineref18_Put.f kj3 a0_0 a0_1 a0_2 l0_3 a0_4 a0_5 l0_6 l0_7 l0_8 l0_9).bind fun bt842 => ((chap_Get.f kj3 l2).bind fun bt846 => ((marlineref18_Get.f kj3 l2).bind fun bt868 => (if bt838.2 = bt842.2 then ((marlineref01_Equal.f kj3 bt838.1 bt842.1).bind fun t890 => (if t890 = true then (if bt846.2.2.2.2.2.2.2.2.2.2 = bt868.2.2.2.2.2.2.2.2.2.2 then ((marlinelaw15_To.f kj3 bt846.1 bt846.2.1 bt846.2.2.1 bt846.2.2.2.1 bt846.2.2.2.2.1 bt846.2.2.2.2.2.1 bt846.2.2.2.2.2.2.1 bt846.2.2.2.2.2.2.2.1 bt846.2.2.2.2.2.2.2.2.1 bt846.2.2.2.2.2.2.2.2.2.1).bind fun bt891 => ((marlineref15_Same.f kj3 bt891.1 bt891.2.1 bt891.2.2.1 bt891.2.2.2.1 bt891.2.2.2.2.1 bt891.2.2.2.2.2.1 bt891.2.2.2.2.2.2.1 bt891.2.2.2.2.2.2.2.1 bt891.2.2.2.2.2.2.2.2.1 bt891.2.2.2.2.2.2.2.2.2 bt868.1 bt868.2.1 bt868.2.2.1 bt868.2.2.2.1 bt868.2.2.2.2.1 bt868.2.2.2.2.2.1 bt868.2.2.2.2.2.2.1 bt868.2.2.2.2.2.2.2.1 bt868.2.2.2.2.2.2.2.2.1 bt868.2.2.2.2.2.2.2.2.2.1).bind fun t911 => (if t911 = true then ((marlinelaw15_Of.f kj3 a0_0 a0_1 a0_2 l0_3 a0_4 a0_5 l0_6 l0_7 l0_8 l0_9).bind fun bt912 => ((marlinelaw15_Of.f kj3 a1_0 a1_1 a1_2 l1_3 a1_4 a1_5 l1_6 l1_7 l1_8 l1_9).bind fun bt932 => ((chap_Answers.f kj3 bt912.1 bt912.2.1 bt912.2.2.1 bt912.2.2.2.1 bt912.2.2.2.2.1 bt912.2.2.2.2.2.1 bt912.2.2.2.2.2.2.1 bt912.2.2.2.2.2.2.2.1 bt912.2.2.2.2.2.2.2.2.1 bt912.2.2.2.2.2.2.2.2.2 bt932.1 bt932.2.1 bt932.2.2.1 bt932.2.2.2.1 bt932.2.2.2.2.1 bt932.2.2.2.2.2.1 bt932.2.2.2.2.2.2.1 bt932.2.2.2.2.2.2.2.1 bt932.2.2.2.2.2.2.2.2.1 bt932.2.2.2.2.2.2.2.2.2).bind fun t952 => ((marlineref18_Answers.f a0_0 a0_1 a0_2 l0_3 a0_4 a0_5 l0_6 l0_7 l0_8 l0_9 a1_0 a1_1 a1_2 l1_3 a1_4 a1_5 l1_6 l1_7 l1_8 l1_9).bind fun t953 => (some (t952 == t953)))))) else (none)))) else (none)) else (none))) else (none))))))) = some r := by rw [if_neg (show ¬ (false = true) by decide)] at H; exact H
    clear H
    have H := H1
    clear H1
    replace H := Option.bind_eq_some_iff.mp H
    obtain ⟨⟨t818, t819, t820, t821, t824, t825, t826, t829, t832, t835⟩, A330, H⟩ := H
    replace H : ((chap_Put.f kj3 t818 t819 t820 t821 t824 t825 t826 t829 t832 t835).bind fun bt838 => ((marlineref18_Put.f kj3 a0_0 a0_1 a0_2 l0_3 a0_4 a0_5 l0_6 l0_7 l0_8 l0_9).bind fun bt842 => ((chap_Get.f kj3 l2).bind fun bt846 => ((marlineref18_Get.f kj3 l2).bind fun bt868 => (if bt838.2 = bt842.2 then ((marlineref01_Equal.f kj3 bt838.1 bt842.1).bind fun t890 => (if t890 = true then (if bt846.2.2.2.2.2.2.2.2.2.2 = bt868.2.2.2.2.2.2.2.2.2.2 then ((marlinelaw15_To.f kj3 bt846.1 bt846.2.1 bt846.2.2.1 bt846.2.2.2.1 bt846.2.2.2.2.1 bt846.2.2.2.2.2.1 bt846.2.2.2.2.2.2.1 bt846.2.2.2.2.2.2.2.1 bt846.2.2.2.2.2.2.2.2.1 bt846.2.2.2.2.2.2.2.2.2.1).bind fun bt891 => ((marlineref15_Same.f kj3 bt891.1 bt891.2.1 bt891.2.2.1 bt891.2.2.2.1 bt891.2.2.2.2.1 bt891.2.2.2.2.2.1 bt891.2.2.2.2.2.2.1 bt891.2.2.2.2.2.2.2.1 bt891.2.2.2.2.2.2.2.2.1 bt891.2.2.2.2.2.2.2.2.2 bt868.1 bt868.2.1 bt868.2.2.1 bt868.2.2.2.1 bt868.2.2.2.2.1 bt868.2.2.2.2.2.1 bt868.2.2.2.2.2.2.1 bt868.2.2.2.2.2.2.2.1 bt868.2.2.2.2.2.2.2.2.1 bt868.2.2.2.2.2.2.2.2.2.1).bind fun t911 => (if t911 = true then ((marlinelaw15_Of.f kj3 a0_0 a0_1 a0_2 l0_3 a0_4 a0_5 l0_6 l0_7 l0_8 l0_9).bind fun bt912 => ((marlinelaw15_Of.f kj3 a1_0 a1_1 a1_2 l1_3 a1_4 a1_5 l1_6 l1_7 l1_8 l1_9).bind fun bt932 => ((chap_Answers.f kj3 bt912.1 bt912.2.1 bt912.2.2.1 bt912.2.2.2.1 bt912.2.2.2.2.1 bt912.2.2.2.2.2.1 bt912.2.2.2.2.2.2.1 bt912.2.2.2.2.2.2.2.1 bt912.2.2.2.2.2.2.2.2.1 bt912.2.2.2.2.2.2.2.2.2 bt932.1 bt932.2.1 bt932.2.2.1 bt932.2.2.2.1 bt932.2.2.2.2.1 bt932.2.2.2.2.2.1 bt932.2.2.2.2.2.2.1 bt932.2.2.2.2.2.2.2.1 bt932.2.2.2.2.2.2.2.2.1 bt932.2.2.2.2.2.2.2.2.2).bind fun t952 => ((marlineref18_Answers.f a0_0 a0_1 a0_2 l0_3 a0_4 a0_5 l0_6 l0_7 l0_8 l0_9 a1_0 a1_1 a1_2 l1_3 a1_4 a1_5 l1_6 l1_7 l1_8 l1_9).bind fun t953 => (some (t952 == t953)))))) else (none)))) else (none)) else (none))) else (none)))))) = some r := H
    have A33 := Aside0.mk A330
    clear A330
    replace H := Option.bind_eq_some_iff.mp H
    obtain ⟨⟨t838, t841⟩, A340, H⟩ := H
    replace H : ((marlineref18_Put.f kj3 a0_0 a0_1 a0_2 l0_3 a0_4 a0_5 l0_6 l0_7 l0_8 l0_9).bind fun bt842 => ((chap_Get.f kj3 l2).bind fun bt846 => ((marlineref18_Get.f kj3 l2).bind fun bt868 => (if t841 = bt842.2 then ((marlineref01_Equal.f kj3 t838 bt842.1).bind fun t890 => (if t890 = true then (if bt846.2.2.2.2.2.2.2.2.2.2 = bt868.2.2.2.2.2.2.2.2.2.2 then ((marlinelaw15_To.f kj3 bt846.1 bt846.2.1 bt846.2.2.1 bt846.2.2.2.1 bt846.2.2.2.2.1 bt846.2.2.2.2.2.1 bt846.2.2.2.2.2.2.1 bt846.2.2.2.2.2.2.2.1 bt846.2.2.2.2.2.2.2.2.1 bt846.2.2.2.2.2.2.2.2.2.1).bind fun bt891 => ((marlineref15_Same.f kj3 bt891.1 bt891.2.1 bt891.2.2.1 bt891.2.2.2.1 bt891.2.2.2.2.1 bt891.2.2.2.2.2.1 bt891.2.2.2.2.2.2.1 bt891.2.2.2.2.2.2.2.1 bt891.2.2.2.2.2.2.2.2.1 bt891.2.2.2.2.2.2.2.2.2 bt868.1 bt868.2.1 bt868.2.2.1 bt868.2.2.2.1 bt868.2.2.2.2.1 bt868.2.2.2.2.2.1 bt868.2.2.2.2.2.2.1 bt868.2.2.2.2.2.2.2.1 bt868.2.2.2.2.2.2.2.2.1 bt868.2.2.2.2.2.2.2.2.2.1).bind fun t911 => (if t911 = true then ((marlinelaw15_Of.f kj3 a0_0 a0_1 a0_2 l0_3 a0_4 a0_5 l0_6 l0_7 l0_8 l0_9).bind fun bt912 => ((marlinelaw15_Of.f kj3 a1_0 a1_1 a1_2 l1_3 a1_4 a1_5 l1_6 l1_7 l1_8 l1_9).bind fun bt932 => ((chap_Answers.f kj3 bt912.1 bt912.2.1 bt912.2.2.1 bt912.2.2.2.1 bt912.2.2.2.2.1 bt912.2.2.2.2.2.1 bt912.2.2.2.2.2.2.1 bt912.2.2.2.2.2.2.2.1 bt912.2.2.2.2.2.2.2.2.1 bt912.2.2.2.2.2.2.2.2.2 bt932.1 bt932.2.1 bt932.2.2.1 bt932.2.2.2.1 bt932.2.2.2.2.1 bt932.2.2.2.2.2.1 bt932.2.2.2.2.2.2.1 bt932.2.2.2.2.2.2.2.1 bt932.2.2.2.2.2.2.2.2.1 bt932.2.2.2.2.2.2.2.2.2).bind fun t952 => ((marlineref18_Answers.f a0_0 a0_1 a0_2 l0_3 a0_4 a0_5 l0_6 l0_7 l0_8 l0_9 a1_0 a1_1 a1_2 l1_3 a1_4 a1_5 l1_6 l1_7 l1_8 l1_9).bind fun t953 => (some (t952 == t953)))))) else (none)))) else (none)) else (none))) else (none))))) = some r := H
    have A34 := Aside0.mk A340
    clear A340
    replace H := Option.bind_eq_some_iff.mp H
    obtain ⟨⟨t842, t845⟩, A350, H⟩ := H
    replace H : ((chap_Get.f kj3 l2).bind fun bt846 => ((marlineref18_Get.f kj3 l2).bind fun bt868 => (if t841 = t845 then ((marlineref01_Equal.f kj3 t838 t842).bind fun t890 => (if t890 = true then (if bt846.2.2.2.2.2.2.2.2.2.2 = bt868.2.2.2.2.2.2.2.2.2.2 then ((marlinelaw15_To.f kj3 bt846.1 bt846.2.1 bt846.2.2.1 bt846.2.2.2.1 bt846.2.2.2.2.1 bt846.2.2.2.2.2.1 bt846.2.2.2.2.2.2.1 bt846.2.2.2.2.2.2.2.1 bt846.2.2.2.2.2.2.2.2.1 bt846.2.2.2.2.2.2.2.2.2.1).bind fun bt891 => ((marlineref15_Same.f kj3 bt891.1 bt891.2.1 bt891.2.2.1 bt891.2.2.2.1 bt891.2.2.2.2.1 bt891.2.2.2.2.2.1 bt891.2.2.2.2.2.2.1 bt891.2.2.2.2.2.2.2.1 bt891.2.2.2.2.2.2.2.2.1 bt891.2.2.2.2.2.2.2.2.2 bt868.1 bt868.2.1 bt868.2.2.1 bt868.2.2.2.1 bt868.2.2.2.2.1 bt868.2.2.2.2.2.1 bt868.2.2.2.2.2.2.1 bt868.2.2.2.2.2.2.2.1 bt868.2.2.2.2.2.2.2.2.1 bt868.2.2.2.2.2.2.2.2.2.1).bind fun t911 => (if t911 = true then ((marlinelaw15_Of.f kj3 a0_0 a0_1 a0_2 l0_3 a0_4 a0_5 l0_6 l0_7 l0_8 l0_9).bind fun bt912 => ((marlinelaw15_Of.f kj3 a1_0 a1_1 a1_2 l1_3 a1_4 a1_5 l1_6 l1_7 l1_8 l1_9).bind fun bt932 => ((chap_Answers.f kj3 bt912.1 bt912.2.1 bt912.2.2.1 bt912.2.2.2.1 bt912.2.2.2.2.1 bt912.2.2.2.2.2.1 bt912.2.2.2.2.2.2.1 bt912.2.2.2.2.2.2.2.1 bt912.2.2.2.2.2.2.2.2.1 bt912.2.2.2.2.2.2.2.2.2 bt932.1 bt932.2.1 bt932.2.2.1 bt932.2.2.2.1 bt932.2.2.2.2.1 bt932.2.2.2.2.2.1 bt932.2.2.2.2.2.2.1 bt932.2.2.2.2.2.2.2.1 bt932.2.2.2.2.2.2.2.2.1 bt932.2.2.2.2.2.2.2.2.2).bind fun t952 => ((marlineref18_Answers.f a0_0 a0_1 a0_2 l0_3 a0_4 a0_5 l0_6 l0_7 l0_8 l0_9 a1_0 a1_1 a1_2 l1_3 a1_4 a1_5 l1_6 l1_7 l1_8 l1_9).bind fun t953 => (some (t952 == t953)))))) else (none)))) else (none)) else (none))) else (none)))) = some r := H
    have A35 := Aside0.mk A350
    clear A350
    replace H := Option.bind_eq_some_iff.mp H
    obtain ⟨⟨t846, t847, t848, t849, t852, t853, t854, t857, t860, t863, t866⟩, A360, H⟩ := H
    replace H : ((marlineref18_Get.f kj3 l2).bind fun bt868 => (if t841 = t845 then ((marlineref01_Equal.f kj3 t838 t842).bind fun t890 => (if t890 = true then (if t866 = bt868.2.2.2.2.2.2.2.2.2.2 then ((marlinelaw15_To.f kj3 t846 t847 t848 t849 t852 t853 t854 t857 t860 t863).bind fun bt891 => ((marlineref15_Same.f kj3 bt891.1 bt891.2.1 bt891.2.2.1 bt891.2.2.2.1 bt891.2.2.2.2.1 bt891.2.2.2.2.2.1 bt891.2.2.2.2.2.2.1 bt891.2.2.2.2.2.2.2.1 bt891.2.2.2.2.2.2.2.2.1 bt891.2.2.2.2.2.2.2.2.2 bt868.1 bt868.2.1 bt868.2.2.1 bt868.2.2.2.1 bt868.2.2.2.2.1 bt868.2.2.2.2.2.1 bt868.2.2.2.2.2.2.1 bt868.2.2.2.2.2.2.2.1 bt868.2.2.2.2.2.2.2.2.1 bt868.2.2.2.2.2.2.2.2.2.1).bind fun t911 => (if t911 = true then ((marlinelaw15_Of.f kj3 a0_0 a0_1 a0_2 l0_3 a0_4 a0_5 l0_6 l0_7 l0_8 l0_9).bind fun bt912 => ((marlinelaw15_Of.f kj3 a1_0 a1_1 a1_2 l1_3 a1_4 a1_5 l1_6 l1_7 l1_8 l1_9).bind fun bt932 => ((chap_Answers.f kj3 bt912.1 bt912.2.1 bt912.2.2.1 bt912.2.2.2.1 bt912.2.2.2.2.1 bt912.2.2.2.2.2.1 bt912.2.2.2.2.2.2.1 bt912.2.2.2.2.2.2.2.1 bt912.2.2.2.2.2.2.2.2.1 bt912.2.2.2.2.2.2.2.2.2 bt932.1 bt932.2.1 bt932.2.2.1 bt932.2.2.2.1 bt932.2.2.2.2.1 bt932.2.2.2.2.2.1 bt932.2.2.2.2.2.2.1 bt932.2.2.2.2.2.2.2.1 bt932.2.2.2.2.2.2.2.2.1 bt932.2.2.2.2.2.2.2.2.2).bind fun t952 => ((marlineref18_Answers.f a0_0 a0_1 a0_2 l0_3 a0_4 a0_5 l0_6 l0_7 l0_8 l0_9 a1_0 a1_1 a1_2 l1_3 a1_4 a1_5 l1_6 l1_7 l1_8 l1_9).bind fun t953 => (some (t952 == t953)))))) else (none)))) else (none)) else (none))) else (none))) = some r := H
    have A36 := Aside0.mk A360
    clear A360
    replace H := Option.bind_eq_some_iff.mp H
    obtain ⟨⟨t868, t869, t870, t871, t874, t875, t876, t879, t882, t885, t888⟩, A370, H⟩ := H
    replace H : (if t841 = t845 then ((marlineref01_Equal.f kj3 t838 t842).bind fun t890 => (if t890 = true then (if t866 = t888 then ((marlinelaw15_To.f kj3 t846 t847 t848 t849 t852 t853 t854 t857 t860 t863).bind fun bt891 => ((marlineref15_Same.f kj3 bt891.1 bt891.2.1 bt891.2.2.1 bt891.2.2.2.1 bt891.2.2.2.2.1 bt891.2.2.2.2.2.1 bt891.2.2.2.2.2.2.1 bt891.2.2.2.2.2.2.2.1 bt891.2.2.2.2.2.2.2.2.1 bt891.2.2.2.2.2.2.2.2.2 t868 t869 t870 t871 t874 t875 t876 t879 t882 t885).bind fun t911 => (if t911 = true then ((marlinelaw15_Of.f kj3 a0_0 a0_1 a0_2 l0_3 a0_4 a0_5 l0_6 l0_7 l0_8 l0_9).bind fun bt912 => ((marlinelaw15_Of.f kj3 a1_0 a1_1 a1_2 l1_3 a1_4 a1_5 l1_6 l1_7 l1_8 l1_9).bind fun bt932 => ((chap_Answers.f kj3 bt912.1 bt912.2.1 bt912.2.2.1 bt912.2.2.2.1 bt912.2.2.2.2.1 bt912.2.2.2.2.2.1 bt912.2.2.2.2.2.2.1 bt912.2.2.2.2.2.2.2.1 bt912.2.2.2.2.2.2.2.2.1 bt912.2.2.2.2.2.2.2.2.2 bt932.1 bt932.2.1 bt932.2.2.1 bt932.2.2.2.1 bt932.2.2.2.2.1 bt932.2.2.2.2.2.1 bt932.2.2.2.2.2.2.1 bt932.2.2.2.2.2.2.2.1 bt932.2.2.2.2.2.2.2.2.1 bt932.2.2.2.2.2.2.2.2.2).bind fun t952 => ((marlineref18_Answers.f a0_0 a0_1 a0_2 l0_3 a0_4 a0_5 l0_6 l0_7 l0_8 l0_9 a1_0 a1_1 a1_2 l1_3 a1_4 a1_5 l1_6 l1_7 l1_8 l1_9).bind fun t953 => (some (t952 == t953)))))) else (none)))) else (none)) else (none))) else (none)) = some r := H
    have A37 := Aside0.mk A370
    clear A370
    by_cases c38 : t841 = t845
    ·rw [if_pos c38] at H
     have c38b0 : (t841 == t845) = true := beq_iff_eq.mpr c38
     have c38b1 : (t841 != t845) = false := bne_eq_false_iff_eq.mpr c38
     clear c38
     replace H := Option.bind_eq_some_iff.mp H
     obtain ⟨t890, A390, H⟩ := H
     replace H : (if t890 = true then (if t866 = t888 then ((marlinelaw15_To.f kj3 t846 t847 t848 t849 t852 t853 t854 t857 t860 t863).bind fun bt891 => ((marlineref15_Same.f kj3 bt891.1 bt891.2.1 bt891.2.2.1 bt891.2.2.2.1 bt891.2.2.2.2.1 bt891.2.2.2.2.2.1 bt891.2.2.2.2.2.2.1 bt891.2.2.2.2.2.2.2.1 bt891.2.2.2.2.2.2.2.2.1 bt891.2.2.2.2.2.2.2.2.2 t868 t869 t870 t871 t874 t875 t876 t879 t882 t885).bind fun t911 => (if t911 = true then ((marlinelaw15_Of.f kj3 a0_0 a0_1 a0_2 l0_3 a0_4 a0_5 l0_6 l0_7 l0_8 l0_9).bind fun bt912 => ((marlinelaw15_Of.f kj3 a1_0 a1_1 a1_2 l1_3 a1_4 a1_5 l1_6 l1_7 l1_8 l1_9).bind fun bt932 => ((chap_Answers.f kj3 bt912.1 bt912.2.1 bt912.2.2.1 bt912.2.2.2.1 bt912.2.2.2.2.1 bt912.2.2.2.2.2.1 bt912.2.2.2.2.2.2.1 bt912.2.2.2.2.2.2.2.1 bt912.2.2.2.2.2.2.2.2.1 bt912.2.2.2.2.2.2.2.2.2 bt932.1 bt932.2.1 bt932.2.2.1 bt932.2.2.2.1 bt932.2.2.2.2.1 bt932.2.2.2.2.2.1 bt932.2.2.2.2.2.2.1 bt932.2.2.2.2.2.2.2.1 bt932.2.2.2.2.2.2.2.2.1 bt932.2.2.2.2.2.2.2.2.2).bind fun t952 => ((marlineref18_Answers.f a0_0 a0_1 a0_2 l0_3 a0_4 a0_5 l0_6 l0_7 l0_8 l0_9 a1_0 a1_1 a1_2 l1_3 a1_4 a1_5 l1_6 l1_7 l1_8 l1_9).bind fun t953 => (some (t952 == t953)))))) else (none)))) else (none)) else (none)) = some r := H
     have A39 := Aside0.mk A390
     clear A390
     by_cases c40 : t890 = true
     ·subst c40
      have H1 : (if t866 = t888 then ((marlinelaw15_To.f kj3 t846 t847 t848 t849 t852 t853 t854 t857 t860 t863).bind fun bt891 => ((marlineref15_Same.f kj3 bt891.1 bt891.2.1 bt891.2.2.1 bt891.2.2.2.1 bt891.2.2.2.2.1 bt891.2.2.2.2.2.1 bt891.2.2.2.2.2.2.1 bt891.2.2.2.2.2.2.2.1 bt891.2.2.2.2.2.2.2.2.1 bt891.2.2.2.2.2.2.2.2.2 t868 t869 t870 t871 t874 t875 t876 t879 t882 t885).bind fun t911 => (if t911 = true then ((marlinelaw15_Of.f kj3 a0_0 a0_1 a0_2 l0_3 a0_4 a0_5 l0_6 l0_7 l0_8 l0_9).bind fun bt912 => ((marlinelaw15_Of.f kj3 a1_0 a1_1 a1_2 l1_3 a1_4 a1_5 l1_6 l1_7 l1_8 l1_9).bind fun bt932 => ((chap_Answers.f kj3 bt912.1 bt912.2.1 bt912.2.2.1 bt912.2.2.2.1 bt912.2.2.2.2.1 bt912.2.2.2.2.2.1 bt912.2.2.2.2.2.2.1 bt912.2.2.2.2.2.2.2.1 bt912.2.2.2.2.2.2.2.2.1 bt912.2.2.2.2.2.2.2.2.2 bt932.1 bt932.2.1 bt932.2.2.1 bt932.2.2.2.1 bt932.2.2.2.2.1 bt932.2.2.2.2.2.1 bt932.2.2.2.2.2.2.1 bt932.2.2.2.2.2.2.2.1 bt932.2.2.2.2.2.2.2.2.1 bt932.2.2.2.2.2.2.2.2.2).bind fun t952 => ((marlineref18_Answers.f a0_0 a0_1 a0_2 l0_3 a0_4 a0_5 l0_6 l0_7 l0_8 l0_9 a1_0 a1_1 a1_2 l1_3 a1_4 a1_5 l1_6 l1_7 l1_8 l1_9).bind fun t953 => (some (t952 == t953)))))) else (none)))) else (none)) = some r := by rw [if_pos rfl] at H; exact H
      clear H
      have H := H1
      clear H1
      by_cases c41 : t866 = t888
      ·rw [if_pos c41] at H
       have c41b0 : (t866 == t888) = true := beq_iff_eq.mpr c41
       have c41b1 : (t866 != t888) = false := bne_eq_false_iff_eq.mpr c41
       clear c41
       replace H := Option.bind_eq_some_iff.mp H
       obtain ⟨⟨t891, t892, t893, t894, t897, t898, t899, t902, t905, t908⟩, A420, H⟩ := H
       replace H : ((marlineref15_Same.f kj3 t891 t892 t893 t894 t897 t898 t899 t902 t905 t908 t868 t869 t870 t871 t874 t875 t876 t879 t882 t885).bind fun t911 => (if t911 = true then ((marlinelaw15_Of.f kj3 a0_0 a0_1 a0_2 l0_3 a0_4 a0_5 l0_6 l0_7 l0_8 l0_9).bind fun bt912 => ((marlinelaw15_Of.f kj3 a1_0 a1_1 a1_2 l1_3 a1_4 a1_5 l1_6 l1_7 l1_8 l1_9).bind fun bt932 => ((chap_Answers.f kj3 bt912.1 bt912.2.1 bt912.2.2.1 bt912.2.2.2.1 bt912.2.2.2.2.1 bt912.2.2.2.2.2.1 bt912.2.2.2.2.2.2.1 bt912.2.2.2.2.2.2.2.1 bt912.2.2.2.2.2.2.2.2.1 bt912.2.2.2.2.2.2.2.2.2 bt932.1 bt932.2.1 bt932.2.2.1 bt932.2.2.2.1 bt932.2.2.2.2.1 bt932.2.2.2.2.2.1 bt932.2.2.2.2.2.2.1 bt932.2.2.2.2.2.2.2.1 bt932.2.2.2.2.2.2.2.2.1 bt932.2.2.2.2.2.2.2.2.2).bind fun t952 => ((marlineref18_Answers.f a0_0 a0_1 a0_2 l0_3 a0_4 a0_5 l0_6 l0_7 l0_8 l0_9 a1_0 a1_1 a1_2 l1_3 a1_4 a1_5 l1_6 l1_7 l1_8 l1_9).bind fun t953 => (some (t952 == t953)))))) else (none))) = some r := H
       have A42 := Aside0.mk A420
       clear A420
       replace H := Option.bind_eq_some_iff.mp H
       obtain ⟨t911, A430, H⟩ := H
       replace H : (if t911 = true then ((marlinelaw15_Of.f kj3 a0_0 a0_1 a0_2 l0_3 a0_4 a0_5 l0_6 l0_7 l0_8 l0_9).bind fun bt912 => ((marlinelaw15_Of.f kj3 a1_0 a1_1 a1_2 l1_3 a1_4 a1_5 l1_6 l1_7 l1_8 l1_9).bind fun bt932 => ((chap_Answers.f kj3 bt912.1 bt912.2.1 bt912.2.2.1 bt912.2.2.2.1 bt912.2.2.2.2.1 bt912.2.2.2.2.2.1 bt912.2.2.2.2.2.2.1 bt912.2.2.2.2.2.2.2.1 bt912.2.2.2.2.2.2.2.2.1 bt912.2.2.2.2.2.2.2.2.2 bt932.1 bt932.2.1 bt932.2.2.1 bt932.2.2.2.1 bt932.2.2.2.2.1 bt932.2.2.2.2.2.1 bt932.2.2.2.2.2.2.1 bt932.2.2.2.2.2.2.2.1 bt932.2.2.2.2.2.2.2.2.1 bt932.2.2.2.2.2.2.2.2.2).bind fun t952 => ((marlineref18_Answers.f a0_0 a0_1 a0_2 l0_3 a0_4 a0_5 l0_6 l0_7 l0_8 l0_9 a1_0 a1_1 a1_2 l1_3 a1_4 a1_5 l1_6 l1_7 l1_8 l1_9).bind fun t953 => (some (t952 == t953)))))) else (none)) = some r := H
       have A43 := Aside0.mk A430
       clear A430
       by_cases c44 : t911 = true
       ·subst c44
        have H1 : ((marlinelaw15_Of.f kj3 a0_0 a0_1 a0_2 l0_3 a0_4 a0_5 l0_6 l0_7 l0_8 l0_9).bind fun bt912 => ((marlinelaw15_Of.f kj3 a1_0 a1_1 a1_2 l1_3 a1_4 a1_5 l1_6 l1_7 l1_8 l1_9).bind fun bt932 => ((chap_Answers.f kj3 bt912.1 bt912.2.1 bt912.2.2.1 bt912.2.2.2.1 bt912.2.2.2.2.1 bt912.2.2.2.2.2.1 bt912.2.2.2.2.2.2.1 bt912.2.2.2.2.2.2.2.1 bt912.2.2.2.2.2.2.2.2.1 bt912.2.2.2.2.2.2.2.2.2 bt932.1 bt932.2.1 bt932.2.2.1 bt932.2.2.2.1 bt932.2.2.2.2.1 bt932.2.2.2.2.2.1 bt932.2.2.2.2.2.2.1 bt932.2.2.2.2.2.2.2.1 bt932.2.2.2.2.2.2.2.2.1 bt932.2.2.2.2.2.2.2.2.2).bind fun t952 => ((marlineref18_Answers.f a0_0 a0_1 a0_2 l0_3 a0_4 a0_5 l0_6 l0_7 l0_8 l0_9 a1_0 a1_1 a1_2 l1_3 a1_4 a1_5 l1_6 l1_7 l1_8 l1_9).bind fun t953 => (some (t952 == t953)))))) = some r := by rw [if_pos rfl] at H; exact H
        clear H
        have H := H1
        clear H1
        replace H := Option.bind_eq_some_iff.mp H
        obtain ⟨⟨t912, t913, t914, t915, t918, t919, t920, t923, t926, t929⟩, A450, H⟩ := H
        replace H : ((marlinelaw15_Of.f kj3 a1_0 a1_1 a1_2 l1_3 a1_4 a1_5 l1_6 l1_7 l1_8 l1_9).bind fun bt932 => ((chap_Answers.f kj3 t912 t913 t914 t915 t918 t919 t920 t923 t926 t929 bt932.1 bt932.2.1 bt932.2.2.1 bt932.2.2.2.1 bt932.2.2.2.2.1 bt932.2.2.2.2.2.1 bt932.2.2.2.2.2.2.1 bt932.2.2.2.2.2.2.2.1 bt932.2.2.2.2.2.2.2.2.1 bt932.2.2.2.2.2.2.2.2.2).bind fun t952 => ((marlineref18_Answers.f a0_0 a0_1 a0_2 l0_3 a0_4 a0_5 l0_6 l0_7 l0_8 l0_9 a1_0 a1_1 a1_2 l1_3 a1_4 a1_5 l1_6 l1_7 l1_8 l1_9).bind fun t953 => (some (t952 == t953))))) = some r := H
        have A45 := Aside0.mk A450
        clear A450
        replace H := Option.bind_eq_some_iff.mp H
        obtain ⟨⟨t932, t933, t934, t935, t938, t939, t940, t943, t946, t949⟩, A460, H⟩ := H
        replace H : ((chap_Answers.f kj3 t912 t913 t914 t915 t918 t919 t920 t923 t926 t929 t932 t933 t934 t935 t938 t939 t940 t943 t946 t949).bind fun t952 => ((marlineref18_Answers.f a0_0 a0_1 a0_2 l0_3 a0_4 a0_5 l0_6 l0_7 l0_8 l0_9 a1_0 a1_1 a1_2 l1_3 a1_4 a1_5 l1_6 l1_7 l1_8 l1_9).bind fun t953 => (some (t952 == t953)))) = some r := H
        have A46 := Aside0.mk A460
        clear A460
        replace H := Option.bind_eq_some_iff.mp H
        obtain ⟨t952, A470, H⟩ := H
        replace H : ((marlineref18_Answers.f a0_0 a0_1 a0_2 l0_3 a0_4 a0_5 l0_6 l0_7 l0_8 l0_9 a1_0 a1_1 a1_2 l1_3 a1_4 a1_5 l1_6 l1_7 l1_8 l1_9).bind fun t953 => (some (t952 == t953))) = some r := H
        have A47 := Aside0.mk A470
        clear A470
        replace H := Option.bind_eq_some_iff.mp H
        obtain ⟨t953, A480, H⟩ := H
        replace H : (some (t952 == t953)) = some r := H
        have A48 := Aside0.mk A480
        clear A480
        obtain rfl := Option.some.inj H
        have hnb49 := NB812_813.out
        have hnc49 := NB813_812.out
        obtain ⟨⟨hcz50_0, hcz50_1, hcz50_2, hcz50_3, hcz50_4, hcz50_5, hcz50_6, hcz50_7, hcz50_8, hcz50_9⟩, hfz50_0, hfz50_1, hfz50_2, hfz50_3, hfz50_4, hfz50_5, hfz50_6, hfz50_7, hfz50_8, hfz50_9⟩ := cz10 BK812.out
        try go_wp2_with (first | ((with_reducible refine gate_callee (f := 25) rfl ?_); refine goesL_ (some 35) rfl rfl Try.func25 (by kernel_rfl) rfl #[.agg #[.int .u16 a0_0, .int .u8 a0_1, .int .u8 a0_2, .slice A0_3 l0_3.length c0_3, .int .u16 a0_4, .int .u32 a0_5, .slice A0_6 l0_6.length c0_6, .slice A0_7 l0_7.length c0_7, .slice A0_8 l0_8.length c0_8, .slice A0_9 l0_9.length c0_9]] rfl (by (try simp only [List.map_toArray, List.map_cons, List.map_nil]); first | done | rfl | (simp only [List.length_drop, List.length_take]; rfl)) ?_; (with_reducible refine (marlinelaw15_Of.calls kj3 a0_0 a0_1 a0_2 (fun k_ => k_ < w.heap.size) _ _ l0_3 a0_4 a0_5 (fun k_ => k_ < w.heap.size) _ _ l0_6 (fun k_ => k_ < w.heap.size) _ _ l0_7 (fun k_ => k_ < w.heap.size) _ _ l0_8 (fun k_ => k_ < w.heap.size) _ _ l0_9 t818 t819 t820 t821 t824 t825 t826 t829 t832 t835 _ ?side1 ?side2 ?side3 ?side4 ?side5 A33.out).mono ?_); (case side1 => exact Kd.V_mk HC0_3.out (Kd.F_below (Kd.C_F k56_heap HR0_3.out) (by repeat (first | (with_reducible first | exact HB.out | apply below_alloc | apply pw_below_drewN | apply below_drew1 | refine below_set ?_ GE812.out | refine below_set ?_ GE813.out) | exact HB.out)))); (case side2 => exact Kd.V_mk HC0_6.out (Kd.F_below (Kd.C_F (Kd.heap_int .u8) HR0_6.out) (by repeat (first | (with_reducible first | exact HB.out | apply below_alloc | apply pw_below_drewN | apply below_drew1 | refine below_set ?_ GE812.out | refine below_set ?_ GE813.out) | exact HB.out)))); (case side3 => exact Kd.V_mk HC0_7.out (Kd.F_below (Kd.C_F (Kd.heap_int .u8) HR0_7.out) (by repeat (first | (with_reducible first | exact HB.out | apply below_alloc | apply pw_below_drewN | apply below_drew1 | refine below_set ?_ GE812.out | refine below_set ?_ GE813.out) | exact HB.out)))); (case side4 => exact Kd.V_mk HC0_8.out (Kd.F_below (Kd.C_F (Kd.heap_int .u8) HR0_8.out) (by repeat (first | (with_reducible first | exact HB.out | apply below_alloc | apply pw_below_drewN | apply below_drew1 | refine below_set ?_ GE812.out | refine below_set ?_ GE813.out) | exact HB.out)))); (case side5 => exact Kd.V_mk HC0_9.out (Kd.F_below (Kd.C_F (Kd.heap_int .u32) HR0_9.out) (by repeat (first | (with_reducible first | exact HB.out | apply below_alloc | apply pw_below_drewN | apply below_drew1 | refine below_set ?_ GE812.out | refine below_set ?_ GE813.out) | exact HB.out)))); rintro e w51 ⟨v822, v827, v830, v833, v836, rfl, ho0, ho1, ho2, ho3, ho4, hb⟩; refine ⟨_, rfl, ?_⟩; have n0_ := Aside0.mk (Kd.N_lower (Kd.N_mono (ok' := fun k_ => True) ho0 (fun k_ hk_ => trivial)) (below_size (by repeat (first | (with_reducible first | exact HB.out | apply below_alloc | apply pw_below_drewN | apply below_drew1 | refine below_set ?_ GE812.out | refine below_set ?_ GE813.out) | exact HB.out)))); have n1_ := Aside0.mk (Kd.V_lower (Kd.V_mono (ok' := fun k_ => True) ho1 (fun k_ hk_ => trivial)) (below_size (by repeat (first | (with_reducible first | exact HB.out | apply below_alloc | apply pw_below_drewN | apply below_drew1 | refine below_set ?_ GE812.out | refine below_set ?_ GE813.out) | exact HB.out)))); have n2_ := Aside0.mk (Kd.V_lower (Kd.V_mono (ok' := fun k_ => True) ho2 (fun k_ hk_ => trivial)) (below_size (by repeat (first | (with_reducible first | exact HB.out | apply below_alloc | apply pw_below_drewN | apply below_drew1 | refine below_set ?_ GE812.out | refine below_set ?_ GE813.out) | exact HB.out)))); have n3_ := Aside0.mk (Kd.V_lower (Kd.V_mono (ok' := fun k_ => True) ho3 (fun k_ hk_ => trivial)) (below_size (by repeat (first | (with_reducible first | exact HB.out | apply below_alloc | apply pw_below_drewN | apply below_drew1 | refine below_set ?_ GE812.out | refine below_set ?_ GE813.out) | exact HB.out)))); have n4_ := Aside0.mk (Kd.V_lower (Kd.V_mono (ok' := fun k_ => True) ho4 (fun k_ hk_ => trivial)) (below_size (by repeat (first | (with_reducible first | exact HB.out | apply below_alloc | apply pw_below_drewN | apply below_drew1 | refine below_set ?_ GE812.out | refine below_set ?_ GE813.out) | exact HB.out)))); have n5_ := Aside0.mk (blk_below (g := gb812) (o := .cells #[.int .u16 a0_0, .int .u8 a0_1, .int .u8 a0_2, .slice A0_3 l0_3.length c0_3, .int .u16 a0_4, .int .u32 a0_5, .slice A0_6 l0_6.length c0_6, .slice A0_7 l0_7.length c0_7, .slice A0_8 l0_8.length c0_8, .slice A0_9 l0_9.length c0_9] 44 (0, 0)) (by (with_reducible repeat (first | refine blk_drewN ?_ _ | refine blk_drew ?_ | refine blk_alloc ?_ _)); exact BK812.out) hb); have n6_ := Aside0.mk (blk_below (g := gb813) (o := .cells #[.int .u16 a1_0, .int .u8 a1_1, .int .u8 a1_2, .slice A1_3 l1_3.length c1_3, .int .u16 a1_4, .int .u32 a1_5, .slice A1_6 l1_6.length c1_6, .slice A1_7 l1_7.length c1_7, .slice A1_8 l1_8.length c1_8, .slice A1_9 l1_9.length c1_9] 44 (0, 0)) (by (with_reducible repeat (first | refine blk_drewN ?_ _ | refine blk_drew ?_ | refine blk_alloc ?_ _)); exact BK813.out) hb); have n7_ := Aside0.mk (below_step (by repeat (first | (with_reducible first | exact HB.out | apply below_alloc | apply pw_below_drewN | apply below_drew1 | refine below_set ?_ GE812.out | refine below_set ?_ GE813.out) | exact HB.out)) hb); clear BK812; clear BK813; clear HB; have HO823 := n0_; have HO828 := n1_; have HO831 := n2_; have HO834 := n3_; have HO837 := n4_; have BK812 := n5_; have BK813 := n6_; have HB := n7_; clear n0_ n1_ n2_ n3_ n4_ n5_ n6_ n7_; (try clear hb); (try clear hb2); (try clear hk); (try clear hi); (try clear ho0); (try clear ho1); (try clear ho2); (try clear ho3); (try clear ho4); obtain ⟨Ao52, co52, eo52⟩ := Kd.N_slice HO823.out; subst eo52; obtain ⟨Ao53, co53, eo53⟩ := Kd.V_slice HO828.out; subst eo53; obtain ⟨Ao54, co54, eo54⟩ := Kd.V_slice HO831.out; subst eo54; obtain ⟨Ao55, co55, eo55⟩ := Kd.V_slice HO834.out; subst eo55; obtain ⟨Ao56, co56, eo56⟩ := Kd.V_slice HO837.out; subst eo56) | ((with_reducible refine gate_callee (f := 37) rfl ?_); refine goesL_ (some 36) rfl rfl Try.func37 (by kernel_rfl) rfl #[.agg #[.int .u16 t818, .int .u8 t819, .int .u8 t820, .slice Ao52 t821.length co52, .int .u16 t824, .int .u32 t825, .slice Ao53 t826.length co53, .slice Ao54 t829.length co54, .slice Ao55 t832.length co55, .slice Ao56 t835.length co56]] rfl (by (try simp only [List.map_toArray, List.map_cons, List.map_nil]); first | done | rfl | (simp only [List.length_drop, List.length_take]; rfl)) ?_; (with_reducible refine (chap_Put.calls kj3 t818 t819 t820 _ _ t821 t824 t825 (fun k_ => True) _ _ t826 (fun k_ => True) _ _ t829 _ _ t832 _ _ t835 t838 t841 _ ?side1 ?side2 ?side3 ?side4 ?side5 ?side6 ?side7 ?side8 A34.out).mono ?_); (case side1 => repeat (first | exact (Kd.N_reads' HO823.out).2.2 | (with_reducible refine Kd.C_alloc ?_ _) | (with_reducible refine Kd.C_drewN ?_ _) | (with_reducible refine Kd.C_drew ?_))); (case side2 => exact (Kd.N_reads' HO823.out).2.1); (case side3 => exact HO828.out); (case side4 => exact HO831.out); (case side5 => repeat (first | exact (Kd.V_reads' HO834.out).2.2 | (with_reducible refine Kd.C_alloc ?_ _) | (with_reducible refine Kd.C_drewN ?_ _) | (with_reducible refine Kd.C_drew ?_))); (case side6 => exact (Kd.V_reads' HO834.out).2.1); (case side7 => repeat (first | exact (Kd.V_reads' HO837.out).2.2 | (with_reducible refine Kd.C_alloc ?_ _) | (with_reducible refine Kd.C_drewN ?_ _) | (with_reducible refine Kd.C_drew ?_))); (case side8 => exact (Kd.V_reads' HO837.out).2.1); rintro e w57 ⟨v839, rfl, ho0, hb⟩; refine ⟨_, rfl, ?_⟩; have n0_ := Aside0.mk (Kd.N_below (by (with_reducible repeat (first | apply Kd.N_alloc | apply Kd.N_drewN | apply Kd.N_drew)); exact HO823.out) hb); have n1_ := Aside0.mk (Kd.V_below (by (with_reducible repeat (first | apply Kd.V_alloc | apply Kd.V_drewN | apply Kd.V_drew)); exact HO828.out) hb); have n2_ := Aside0.mk (Kd.V_below (by (with_reducible repeat (first | apply Kd.V_alloc | apply Kd.V_drewN | apply Kd.V_drew)); exact HO831.out) hb); have n3_ := Aside0.mk (Kd.V_below (by (with_reducible repeat (first | apply Kd.V_alloc | apply Kd.V_drewN | apply Kd.V_drew)); exact HO834.out) hb); have n4_ := Aside0.mk (Kd.V_below (by (with_reducible repeat (first | apply Kd.V_alloc | apply Kd.V_drewN | apply Kd.V_drew)); exact HO837.out) hb); have n5_ := Aside0.mk (Kd.R_lower (Kd.R_mono (ok' := fun k_ => True) ho0 (fun _ hk_ => trivial)) (below_size (by repeat (first | (with_reducible first | exact HB.out | apply below_alloc | apply pw_below_drewN | apply below_drew1 | refine below_set ?_ GE812.out | refine below_set ?_ GE813.out) | exact HB.out)))); have n6_ := Aside0.mk (blk_below (g := gb812) (o := .cells #[.int .u16 a0_0, .int .u8 a0_1, .int .u8 a0_2, .slice A0_3 l0_3.length c0_3, .int .u16 a0_4, .int .u32 a0_5, .slice A0_6 l0_6.length c0_6, .slice A0_7 l0_7.length c0_7, .slice A0_8 l0_8.length c0_8, .slice A0_9 l0_9.length c0_9] 44 (0, 0)) (by (with_reducible repeat (first | refine blk_drewN ?_ _ | refine blk_drew ?_ | refine blk_alloc ?_ _)); exact BK812.out) hb); have n7_ := Aside0.mk (blk_below (g := gb813) (o := .cells #[.int .u16 a1_0, .int .u8 a1_1, .int .u8 a1_2, .slice A1_3 l1_3.length c1_3, .int .u16 a1_4, .int .u32 a1_5, .slice A1_6 l1_6.length c1_6, .slice A1_7 l1_7.length c1_7, .slice A1_8 l1_8.length c1_8, .slice A1_9 l1_9.length c1_9] 44 (0, 0)) (by (with_reducible repeat (first | refine blk_drewN ?_ _ | refine blk_drew ?_ | refine blk_alloc ?_ _)); exact BK813.out) hb); have n8_ := Aside0.mk (below_step (by repeat (first | (with_reducible first | exact HB.out | apply below_alloc | apply pw_below_drewN | apply below_drew1 | refine below_set ?_ GE812.out | refine below_set ?_ GE813.out) | exact HB.out)) hb); clear HO823; clear HO828; clear HO831; clear HO834; clear HO837; clear BK812; clear BK813; clear HB; have HO823 := n0_; have HO828 := n1_; have HO831 := n2_; have HO834 := n3_; have HO837 := n4_; have HO840 := n5_; have BK812 := n6_; have BK813 := n7_; have HB := n8_; clear n0_ n1_ n2_ n3_ n4_ n5_ n6_ n7_ n8_; (try clear hb); (try clear hb2); (try clear hk); (try clear hi); (try clear ho0); obtain ⟨⟨hcz58_0, hcz58_1, hcz58_2, hcz58_3, hcz58_4, hcz58_5, hcz58_6, hcz58_7, hcz58_8, hcz58_9⟩, hfz58_0, hfz58_1, hfz58_2, hfz58_3, hfz58_4, hfz58_5, hfz58_6, hfz58_7, hfz58_8, hfz58_9⟩ := cz10 BK812.out) | ((with_reducible refine gate_callee (f := 39) rfl ?_); refine goesL_ (some 41) rfl rfl Try.func39 (by kernel_rfl) rfl #[.agg #[.int .u16 a0_0, .int .u8 a0_1, .int .u8 a0_2, .slice A0_3 l0_3.length c0_3, .int .u16 a0_4, .int .u32 a0_5, .slice A0_6 l0_6.length c0_6, .slice A0_7 l0_7.length c0_7, .slice A0_8 l0_8.length c0_8, .slice A0_9 l0_9.length c0_9]] rfl (by (try simp only [List.map_toArray, List.map_cons, List.map_nil]); first | done | rfl | (simp only [List.length_drop, List.length_take]; rfl)) ?_; (with_reducible refine (marlineref18_Put.calls kj3 a0_0 a0_1 a0_2 _ _ l0_3 a0_4 a0_5 _ _ l0_6 _ _ l0_7 _ _ l0_8 _ _ l0_9 t842 t845 _ ?side1 ?side2 ?side3 ?side4 ?side5 ?side6 ?side7 ?side8 ?side9 ?side10 A35.out).mono ?_); (case side1 => repeat (first | exact (Kd.C_below HR0_3.out HB.out) | (with_reducible refine Kd.C_alloc ?_ _) | (with_reducible refine Kd.C_drewN ?_ _) | (with_reducible refine Kd.C_drew ?_))); (case side2 => exact HC0_3.out); (case side3 => repeat (first | exact (Kd.C_below HR0_6.out HB.out) | (with_reducible refine Kd.C_alloc ?_ _) | (with_reducible refine Kd.C_drewN ?_ _) | (with_reducible refine Kd.C_drew ?_))); (case side4 => exact HC0_6.out); (case side5 => repeat (first | exact (Kd.C_below HR0_7.out HB.out) | (with_reducible refine Kd.C_alloc ?_ _) | (with_reducible refine Kd.C_drewN ?_ _) | (with_reducible refine Kd.C_drew ?_))); (case side6 => exact HC0_7.out); (case side7 => repeat (first | exact (Kd.C_below HR0_8.out HB.out) | (with_reducible refine Kd.C_alloc ?_ _) | (with_reducible refine Kd.C_drewN ?_ _) | (with_reducible refine Kd.C_drew ?_))); (case side8 => exact HC0_8.out); (case side9 => repeat (first | exact (Kd.C_below HR0_9.out HB.out) | (with_reducible refine Kd.C_alloc ?_ _) | (with_reducible refine Kd.C_drewN ?_ _) | (with_reducible refine Kd.C_drew ?_))); (case side10 => exact HC0_9.out); rintro e w59 ⟨v843, rfl, ho0, hb⟩; refine ⟨_, rfl, ?_⟩; have n0_ := Aside0.mk (Kd.R_below (by (with_reducible repeat (first | apply Kd.R_alloc | apply Kd.R_drewN | apply Kd.R_drew)); exact HO840.out) hb); have n1_ := Aside0.mk (Kd.R_lower ho0 (below_size (by repeat (first | (with_reducible first | exact HB.out | apply below_alloc | apply pw_below_drewN | apply below_drew1 | refine below_set ?_ GE812.out | refine below_set ?_ GE813.out) | exact HB.out)))); have n2_ := Aside0.mk (blk_below (g := gb812) (o := .cells #[.int .u16 a0_0, .int .u8 a0_1, .int .u8 a0_2, .slice A0_3 l0_3.length c0_3, .int .u16 a0_4, .int .u32 a0_5, .slice A0_6 l0_6.length c0_6, .slice A0_7 l0_7.length c0_7, .slice A0_8 l0_8.length c0_8, .slice A0_9 l0_9.length c0_9] 44 (0, 0)) (by (with_reducible repeat (first | refine blk_drewN ?_ _ | refine blk_drew ?_ | refine blk_alloc ?_ _)); exact BK812.out) hb); have n3_ := Aside0.mk (blk_below (g := gb813) (o := .cells #[.int .u16 a1_0, .int .u8 a1_1, .int .u8 a1_2, .slice A1_3 l1_3.length c1_3, .int .u16 a1_4, .int .u32 a1_5, .slice A1_6 l1_6.length c1_6, .slice A1_7 l1_7.length c1_7, .slice A1_8 l1_8.length c1_8, .slice A1_9 l1_9.length c1_9] 44 (0, 0)) (by (with_reducible repeat (first | refine blk_drewN ?_ _ | refine blk_drew ?_ | refine blk_alloc ?_ _)); exact BK813.out) hb); have n4_ := Aside0.mk (below_step (by repeat (first | (with_reducible first | exact HB.out | apply below_alloc | apply pw_below_drewN | apply below_drew1 | refine below_set ?_ GE812.out | refine below_set ?_ GE813.out) | exact HB.out)) hb); clear HO840; clear BK812; clear BK813; clear HB; have HO840 := n0_; have HO844 := n1_; have BK812 := n2_; have BK813 := n3_; have HB := n4_; clear n0_ n1_ n2_ n3_ n4_; (try clear hb); (try clear hb2); (try clear hk); (try clear hi); (try clear ho0)) | ((with_reducible refine gate_callee (f := 38) rfl ?_); refine goesL_ (some 46) rfl rfl Try.func38 (by kernel_rfl) rfl #[.slice A2 l2.length c2] rfl (by (try simp only [List.map_toArray, List.map_cons, List.map_nil]); first | done | rfl | (simp only [List.length_drop, List.length_take]; rfl)) ?_; (with_reducible refine (chap_Get.calls kj3 _ _ l2 t846 t847 t848 t849 t852 t853 t854 t857 t860 t863 t866 _ ?side1 ?side2 A36.out).mono ?_); (case side1 => repeat (first | exact (Kd.C_below HR2.out HB.out) | (with_reducible refine Kd.C_alloc ?_ _) | (with_reducible refine Kd.C_drewN ?_ _) | (with_reducible refine Kd.C_drew ?_))); (case side2 => exact HC2.out); rintro e w60 ⟨v850, v855, v858, v861, v864, rfl, ho0, ho1, ho2, ho3, ho4, hb⟩; refine ⟨_, rfl, ?_⟩; have n0_ := Aside0.mk (Kd.R_below (by (with_reducible repeat (first | apply Kd.R_alloc | apply Kd.R_drewN | apply Kd.R_drew)); exact HO840.out) hb); have n1_ := Aside0.mk (Kd.R_below (by (with_reducible repeat (first | apply Kd.R_alloc | apply Kd.R_drewN | apply Kd.R_drew)); exact HO844.out) hb); have n2_ := Aside0.mk (Kd.N_lower (Kd.N_mono (ok' := fun k_ => True) (Kd.S_N (Kd.S_bound (Kd.S_apart' ho0 (Kd.R_typed ho4) (by decide)))) (fun k_ hk_ => trivial)) (below_size (by repeat (first | (with_reducible first | exact HB.out | apply below_alloc | apply pw_below_drewN | apply below_drew1 | refine below_set ?_ GE812.out | refine below_set ?_ GE813.out) | exact HB.out)))); have n3_ := Aside0.mk (Kd.R_lower ho1 (below_size (by repeat (first | (with_reducible first | exact HB.out | apply below_alloc | apply pw_below_drewN | apply below_drew1 | refine below_set ?_ GE812.out | refine below_set ?_ GE813.out) | exact HB.out)))); have n4_ := Aside0.mk (Kd.R_lower ho2 (below_size (by repeat (first | (with_reducible first | exact HB.out | apply below_alloc | apply pw_below_drewN | apply below_drew1 | refine below_set ?_ GE812.out | refine below_set ?_ GE813.out) | exact HB.out)))); have n5_ := Aside0.mk (Kd.R_lower ho3 (below_size (by repeat (first | (with_reducible first | exact HB.out | apply below_alloc | apply pw_below_drewN | apply below_drew1 | refine below_set ?_ GE812.out | refine below_set ?_ GE813.out) | exact HB.out)))); have n6_ := Aside0.mk (Kd.R_lower ho4 (below_size (by repeat (first | (with_reducible first | exact HB.out | apply below_alloc | apply pw_below_drewN | apply below_drew1 | refine below_set ?_ GE812.out | refine below_set ?_ GE813.out) | exact HB.out)))); have n7_ := Aside0.mk (blk_below (g := gb812) (o := .cells #[.int .u16 a0_0, .int .u8 a0_1, .int .u8 a0_2, .slice A0_3 l0_3.length c0_3, .int .u16 a0_4, .int .u32 a0_5, .slice A0_6 l0_6.length c0_6, .slice A0_7 l0_7.length c0_7, .slice A0_8 l0_8.length c0_8, .slice A0_9 l0_9.length c0_9] 44 (0, 0)) (by (with_reducible repeat (first | refine blk_drewN ?_ _ | refine blk_drew ?_ | refine blk_alloc ?_ _)); exact BK812.out) hb); have n8_ := Aside0.mk (blk_below (g := gb813) (o := .cells #[.int .u16 a1_0, .int .u8 a1_1, .int .u8 a1_2, .slice A1_3 l1_3.length c1_3, .int .u16 a1_4, .int .u32 a1_5, .slice A1_6 l1_6.length c1_6, .slice A1_7 l1_7.length c1_7, .slice A1_8 l1_8.length c1_8, .slice A1_9 l1_9.length c1_9] 44 (0, 0)) (by (with_reducible repeat (first | refine blk_drewN ?_ _ | refine blk_drew ?_ | refine blk_alloc ?_ _)); exact BK813.out) hb); have n9_ := Aside0.mk (below_step (by repeat (first | (with_reducible first | exact HB.out | apply below_alloc | apply pw_below_drewN | apply below_drew1 | refine below_set ?_ GE812.out | refine below_set ?_ GE813.out) | exact HB.out)) hb); clear HO840; clear HO844; clear BK812; clear BK813; clear HB; have HO840 := n0_; have HO844 := n1_; have HO851 := n2_; have HO856 := n3_; have HO859 := n4_; have HO862 := n5_; have HO865 := n6_; have BK812 := n7_; have BK813 := n8_; have HB := n9_; clear n0_ n1_ n2_ n3_ n4_ n5_ n6_ n7_ n8_ n9_; (try clear hb); (try clear hb2); (try clear hk); (try clear hi); (try clear ho0); (try clear ho1); (try clear ho2); (try clear ho3); (try clear ho4)) | ((with_reducible refine gate_dst (N := 11) rfl ?_); (try (refine gate_guard (by rfl) ?_; dsimp only)); refine box_event ?hg (N := 11) ?hd (cs := #[.int .u16 0, .int .u8 0, .int .u8 0, .slice none 0 0, .int .u16 0, .int .u32 0, .slice none 0 0, .slice none 0 0, .slice none 0 0, .slice none 0 0]) (t := 47) ?hr ?_; (case hd => rfl); (case hg => rfl); (case hr => first | (go_simp; done) | (go_simp; simp only [IntKind.wrap_u8, IntKind.wrap_u16, IntKind.wrap_u32, IntKind.wrap_u64]; done) | (go_simp; rfl)); intro gb867 hg w61 hbox hb; have n0_ := Aside0.mk (Kd.R_below (by (with_reducible repeat (first | apply Kd.R_alloc | apply Kd.R_drewN | apply Kd.R_drew)); exact HO840.out) hb); have n1_ := Aside0.mk (Kd.R_below (by (with_reducible repeat (first | apply Kd.R_alloc | apply Kd.R_drewN | apply Kd.R_drew)); exact HO844.out) hb); have n2_ := Aside0.mk (Kd.N_below (Kd.N_elderB (by (with_reducible repeat (first | apply Kd.N_alloc | apply Kd.N_drewN | apply Kd.N_drew)); exact HO851.out) gb867 (Nat.le_of_eq hg.symm)) hb); have n3_ := Aside0.mk (Kd.R_below (by (with_reducible repeat (first | apply Kd.R_alloc | apply Kd.R_drewN | apply Kd.R_drew)); exact HO856.out) hb); have n4_ := Aside0.mk (Kd.R_below (by (with_reducible repeat (first | apply Kd.R_alloc | apply Kd.R_drewN | apply Kd.R_drew)); exact HO859.out) hb); have n5_ := Aside0.mk (Kd.R_below (by (with_reducible repeat (first | apply Kd.R_alloc | apply Kd.R_drewN | apply Kd.R_drew)); exact HO862.out) hb); have n6_ := Aside0.mk (Kd.R_below (by (with_reducible repeat (first | apply Kd.R_alloc | apply Kd.R_drewN | apply Kd.R_drew)); exact HO865.out) hb); have n7_ := Aside0.mk (blk_below (g := gb812) (o := .cells #[.int .u16 a0_0, .int .u8 a0_1, .int .u8 a0_2, .slice A0_3 l0_3.length c0_3, .int .u16 a0_4, .int .u32 a0_5, .slice A0_6 l0_6.length c0_6, .slice A0_7 l0_7.length c0_7, .slice A0_8 l0_8.length c0_8, .slice A0_9 l0_9.length c0_9] 44 (0, 0)) (by (with_reducible repeat (first | refine blk_drewN ?_ _ | refine blk_drew ?_ | refine blk_alloc ?_ _)); exact BK812.out) hb); have n8_ := Aside0.mk (blk_below (g := gb813) (o := .cells #[.int .u16 a1_0, .int .u8 a1_1, .int .u8 a1_2, .slice A1_3 l1_3.length c1_3, .int .u16 a1_4, .int .u32 a1_5, .slice A1_6 l1_6.length c1_6, .slice A1_7 l1_7.length c1_7, .slice A1_8 l1_8.length c1_8, .slice A1_9 l1_9.length c1_9] 44 (0, 0)) (by (with_reducible repeat (first | refine blk_drewN ?_ _ | refine blk_drew ?_ | refine blk_alloc ?_ _)); exact BK813.out) hb); have n9_ := Aside0.mk (below_step (by repeat (first | (with_reducible first | exact HB.out | apply below_alloc | apply pw_below_drewN | apply below_drew1 | refine below_set ?_ GE812.out | refine below_set ?_ GE813.out) | exact HB.out)) hb); have n10_ := Aside0.mk (hbox); have n11_ := Aside0.mk ((by rw [hg]; exact (below_size (by repeat (first | (with_reducible first | exact HB.out | apply below_alloc | apply pw_below_drewN | apply below_drew1 | refine below_set ?_ GE812.out | refine below_set ?_ GE813.out) | exact HB.out))) : w.heap.size ≤ gb867)); have n12_ := Aside0.mk ((by rw [hg]; exact (below_size (by repeat (first | (with_reducible first | exact HB.out | apply below_alloc | apply pw_below_drewN | apply below_drew1 | refine below_set ?_ GE812.out | refine below_set ?_ GE813.out) | exact HB.out))) : w.heap.size ≤ gb867)); have n13_ := Aside0.mk ((by rw [hg]; exact Nat.ne_of_lt (blk_lt (g := gb812) (o := .cells #[.int .u16 a0_0, .int .u8 a0_1, .int .u8 a0_2, .slice A0_3 l0_3.length c0_3, .int .u16 a0_4, .int .u32 a0_5, .slice A0_6 l0_6.length c0_6, .slice A0_7 l0_7.length c0_7, .slice A0_8 l0_8.length c0_8, .slice A0_9 l0_9.length c0_9] 44 (0, 0)) (by (with_reducible repeat (first | refine blk_drewN ?_ _ | refine blk_drew ?_ | refine blk_alloc ?_ _)); exact BK812.out)) : gb812 ≠ gb867)); have n14_ := Aside0.mk ((by rw [hg]; exact Nat.ne_of_gt (blk_lt (g := gb812) (o := .cells #[.int .u16 a0_0, .int .u8 a0_1, .int .u8 a0_2, .slice A0_3 l0_3.length c0_3, .int .u16 a0_4, .int .u32 a0_5, .slice A0_6 l0_6.length c0_6, .slice A0_7 l0_7.length c0_7, .slice A0_8 l0_8.length c0_8, .slice A0_9 l0_9.length c0_9] 44 (0, 0)) (by (with_reducible repeat (first | refine blk_drewN ?_ _ | refine blk_drew ?_ | refine blk_alloc ?_ _)); exact BK812.out)) : gb867 ≠ gb812)); have n15_ := Aside0.mk ((by rw [hg]; exact Nat.ne_of_lt (blk_lt (g := gb813) (o := .cells #[.int .u16 a1_0, .int .u8 a1_1, .int .u8 a1_2, .slice A1_3 l1_3.length c1_3, .int .u16 a1_4, .int .u32 a1_5, .slice A1_6 l1_6.length c1_6, .slice A1_7 l1_7.length c1_7, .slice A1_8 l1_8.length c1_8, .slice A1_9 l1_9.length c1_9] 44 (0, 0)) (by (with_reducible repeat (first | refine blk_drewN ?_ _ | refine blk_drew ?_ | refine blk_alloc ?_ _)); exact BK813.out)) : gb813 ≠ gb867)); have n16_ := Aside0.mk ((by rw [hg]; exact Nat.ne_of_gt (blk_lt (g := gb813) (o := .cells #[.int .u16 a1_0, .int .u8 a1_1, .int .u8 a1_2, .slice A1_3 l1_3.length c1_3, .int .u16 a1_4, .int .u32 a1_5, .slice A1_6 l1_6.length c1_6, .slice A1_7 l1_7.length c1_7, .slice A1_8 l1_8.length c1_8, .slice A1_9 l1_9.length c1_9] 44 (0, 0)) (by (with_reducible repeat (first | refine blk_drewN ?_ _ | refine blk_drew ?_ | refine blk_alloc ?_ _)); exact BK813.out)) : gb867 ≠ gb813)); clear HO840; clear HO844; clear HO851; clear HO856; clear HO859; clear HO862; clear HO865; clear BK812; clear BK813; clear HB; have HO840 := n0_; have HO844 := n1_; have HO851 := n2_; have HO856 := n3_; have HO859 := n4_; have HO862 := n5_; have HO865 := n6_; have BK812 := n7_; have BK813 := n8_; have HB := n9_; have BK867 := n10_; have GW867 := n11_; have GE867 := n12_; have NB812_867 := n13_; have NB867_812 := n14_; have NB813_867 := n15_; have NB867_813 := n16_; clear n0_ n1_ n2_ n3_ n4_ n5_ n6_ n7_ n8_ n9_ n10_ n11_ n12_ n13_ n14_ n15_ n16_; clear hb hbox hg; have hnb62 := NB867_812.out; have hnc62 := NB812_867.out; have hnb63 := NB867_813.out; have hnc63 := NB813_867.out; obtain ⟨⟨hcz64_0, hcz64_1, hcz64_2, hcz64_3, hcz64_4, hcz64_5, hcz64_6, hcz64_7, hcz64_8, hcz64_9⟩, hfz64_0, hfz64_1, hfz64_2, hfz64_3, hfz64_4, hfz64_5, hfz64_6, hfz64_7, hfz64_8, hfz64_9⟩ := cz10 BK867.out; obtain ⟨Ao65, co65, eo65⟩ := Kd.N_slice HO851.out; subst eo65; obtain ⟨Ao66, co66, eo66⟩ := Kd.R_slice HO856.out; subst eo66; obtain ⟨Ao67, co67, eo67⟩ := Kd.R_slice HO859.out; subst eo67; obtain ⟨Ao68, co68, eo68⟩ := Kd.R_slice HO862.out; subst eo68; obtain ⟨Ao69, co69, eo69⟩ := Kd.R_slice HO865.out; subst eo69) | ((with_reducible refine gate_store (t := 47) (p := 11) rfl ?_); refine store_event (t := 47) (p := 11) (v := ?vo_w70) (w1 := ((((((((((w61.setCell ⟨gb867, 0, none⟩ (.int .u16 t846)).setCell ⟨gb867, 1, none⟩ (.int .u8 t847)).setCell ⟨gb867, 2, none⟩ (.int .u8 t848)).setCell ⟨gb867, 3, none⟩ (.slice Ao65 t849.length co65)).setCell ⟨gb867, 4, none⟩ (.int .u16 t852)).setCell ⟨gb867, 5, none⟩ (.int .u32 t853)).setCell ⟨gb867, 6, none⟩ (.slice Ao66 t854.length co66)).setCell ⟨gb867, 7, none⟩ (.slice Ao67 t857.length co67)).setCell ⟨gb867, 8, none⟩ (.slice Ao68 t860.length co68)).setCell ⟨gb867, 9, none⟩ (.slice Ao69 t863.length co69))) ?hg ?ho ?hn ?hr ?_; (case ho => rfl); (case hg => rfl); (case hn => rfl); (case hr => first | (go_simp; done) | (go_simp; simp only [IntKind.wrap_u8, IntKind.wrap_u16, IntKind.wrap_u32, IntKind.wrap_u64]; done) | (go_simp; rfl)); intro w70 hw; have n0_ : Aside0 (Kd.R (Kd.int .u8) 5 w70 w.heap.size (fun _ => True) v839 t838) := ⟨(by rw [hw]; exact (by (with_reducible repeat (first | apply Kd.R_alloc | apply Kd.R_drewN | apply Kd.R_drew)); exact Kd.R_mono (Kd.R_far (p := ⟨gb867, 9, none⟩) (Kd.R_far (p := ⟨gb867, 8, none⟩) (Kd.R_far (p := ⟨gb867, 7, none⟩) (Kd.R_far (p := ⟨gb867, 6, none⟩) (Kd.R_far (p := ⟨gb867, 5, none⟩) (Kd.R_far (p := ⟨gb867, 4, none⟩) (Kd.R_far (p := ⟨gb867, 3, none⟩) (Kd.R_far (p := ⟨gb867, 2, none⟩) (Kd.R_far (p := ⟨gb867, 1, none⟩) (Kd.R_far (p := ⟨gb867, 0, none⟩) (Kd.R_types HO840.out BK867.out (by decide)) (fun _ hk => hk.2) (.int .u16 t846)) (fun _ hk => hk.2) (.int .u8 t847)) (fun _ hk => hk.2) (.int .u8 t848)) (fun _ hk => hk.2) (.slice Ao65 t849.length co65)) (fun _ hk => hk.2) (.int .u16 t852)) (fun _ hk => hk.2) (.int .u32 t853)) (fun _ hk => hk.2) (.slice Ao66 t854.length co66)) (fun _ hk => hk.2) (.slice Ao67 t857.length co67)) (fun _ hk => hk.2) (.slice Ao68 t860.length co68)) (fun _ hk => hk.2) (.slice Ao69 t863.length co69)) (fun _ hk => trivial)))⟩; have n1_ : Aside0 (Kd.R (Kd.int .u8) 5 w70 w.heap.size (fun _ => True) v843 t842) := ⟨(by rw [hw]; exact (by (with_reducible repeat (first | apply Kd.R_alloc | apply Kd.R_drewN | apply Kd.R_drew)); exact Kd.R_mono (Kd.R_far (p := ⟨gb867, 9, none⟩) (Kd.R_far (p := ⟨gb867, 8, none⟩) (Kd.R_far (p := ⟨gb867, 7, none⟩) (Kd.R_far (p := ⟨gb867, 6, none⟩) (Kd.R_far (p := ⟨gb867, 5, none⟩) (Kd.R_far (p := ⟨gb867, 4, none⟩) (Kd.R_far (p := ⟨gb867, 3, none⟩) (Kd.R_far (p := ⟨gb867, 2, none⟩) (Kd.R_far (p := ⟨gb867, 1, none⟩) (Kd.R_far (p := ⟨gb867, 0, none⟩) (Kd.R_types HO844.out BK867.out (by decide)) (fun _ hk => hk.2) (.int .u16 t846)) (fun _ hk => hk.2) (.int .u8 t847)) (fun _ hk => hk.2) (.int .u8 t848)) (fun _ hk => hk.2) (.slice Ao65 t849.length co65)) (fun _ hk => hk.2) (.int .u16 t852)) (fun _ hk => hk.2) (.int .u32 t853)) (fun _ hk => hk.2) (.slice Ao66 t854.length co66)) (fun _ hk => hk.2) (.slice Ao67 t857.length co67)) (fun _ hk => hk.2) (.slice Ao68 t860.length co68)) (fun _ hk => hk.2) (.slice Ao69 t863.length co69)) (fun _ hk => trivial)))⟩; have n2_ : Aside0 (Kd.N k57 57 w70 w.heap.size (fun k_ => k_ ≠ gb867) (.slice Ao65 t849.length co65) t849) := ⟨(by rw [hw]; exact (by (with_reducible repeat (first | apply Kd.N_alloc | apply Kd.N_drewN | apply Kd.N_drew)); exact Kd.N_mono (Kd.N_far (p := ⟨gb867, 9, none⟩) (Kd.N_far (p := ⟨gb867, 8, none⟩) (Kd.N_far (p := ⟨gb867, 7, none⟩) (Kd.N_far (p := ⟨gb867, 6, none⟩) (Kd.N_far (p := ⟨gb867, 5, none⟩) (Kd.N_far (p := ⟨gb867, 4, none⟩) (Kd.N_far (p := ⟨gb867, 3, none⟩) (Kd.N_far (p := ⟨gb867, 2, none⟩) (Kd.N_far (p := ⟨gb867, 1, none⟩) (Kd.N_far (p := ⟨gb867, 0, none⟩) (Kd.N_mono HO851.out (fun k_ hk => (⟨hk, hk.2⟩ : _ ∧ k_ ≠ gb867))) (fun _ hk => hk.2) (.int .u16 t846)) (fun _ hk => hk.2) (.int .u8 t847)) (fun _ hk => hk.2) (.int .u8 t848)) (fun _ hk => hk.2) (.slice Ao65 t849.length co65)) (fun _ hk => hk.2) (.int .u16 t852)) (fun _ hk => hk.2) (.int .u32 t853)) (fun _ hk => hk.2) (.slice Ao66 t854.length co66)) (fun _ hk => hk.2) (.slice Ao67 t857.length co67)) (fun _ hk => hk.2) (.slice Ao68 t860.length co68)) (fun _ hk => hk.2) (.slice Ao69 t863.length co69)) (fun _ hk => hk.1.2)))⟩; have n3_ : Aside0 (Kd.R (Kd.int .u8) 5 w70 w.heap.size (fun k_ => some k_ ≠ (.slice Ao67 t857.length co67 : Value).ownBlock ∧ some k_ ≠ (.slice Ao68 t860.length co68 : Value).ownBlock) (.slice Ao66 t854.length co66) t854) := ⟨(by rw [hw]; exact (by (with_reducible repeat (first | apply Kd.R_alloc | apply Kd.R_drewN | apply Kd.R_drew)); exact Kd.R_mono (Kd.R_far (p := ⟨gb867, 9, none⟩) (Kd.R_far (p := ⟨gb867, 8, none⟩) (Kd.R_far (p := ⟨gb867, 7, none⟩) (Kd.R_far (p := ⟨gb867, 6, none⟩) (Kd.R_far (p := ⟨gb867, 5, none⟩) (Kd.R_far (p := ⟨gb867, 4, none⟩) (Kd.R_far (p := ⟨gb867, 3, none⟩) (Kd.R_far (p := ⟨gb867, 2, none⟩) (Kd.R_far (p := ⟨gb867, 1, none⟩) (Kd.R_far (p := ⟨gb867, 0, none⟩) (Kd.R_types HO856.out BK867.out (by decide)) (fun _ hk => hk.2) (.int .u16 t846)) (fun _ hk => hk.2) (.int .u8 t847)) (fun _ hk => hk.2) (.int .u8 t848)) (fun _ hk => hk.2) (.slice Ao65 t849.length co65)) (fun _ hk => hk.2) (.int .u16 t852)) (fun _ hk => hk.2) (.int .u32 t853)) (fun _ hk => hk.2) (.slice Ao66 t854.length co66)) (fun _ hk => hk.2) (.slice Ao67 t857.length co67)) (fun _ hk => hk.2) (.slice Ao68 t860.length co68)) (fun _ hk => hk.2) (.slice Ao69 t863.length co69)) (fun _ hk => ⟨hk.1.1, hk.1.2⟩)))⟩; have n4_ : Aside0 (Kd.R (Kd.int .u8) 5 w70 w.heap.size (fun k_ => some k_ ≠ (.slice Ao66 t854.length co66 : Value).ownBlock ∧ some k_ ≠ (.slice Ao68 t860.length co68 : Value).ownBlock) (.slice Ao67 t857.length co67) t857) := ⟨(by rw [hw]; exact (by (with_reducible repeat (first | apply Kd.R_alloc | apply Kd.R_drewN | apply Kd.R_drew)); exact Kd.R_mono (Kd.R_far (p := ⟨gb867, 9, none⟩) (Kd.R_far (p := ⟨gb867, 8, none⟩) (Kd.R_far (p := ⟨gb867, 7, none⟩) (Kd.R_far (p := ⟨gb867, 6, none⟩) (Kd.R_far (p := ⟨gb867, 5, none⟩) (Kd.R_far (p := ⟨gb867, 4, none⟩) (Kd.R_far (p := ⟨gb867, 3, none⟩) (Kd.R_far (p := ⟨gb867, 2, none⟩) (Kd.R_far (p := ⟨gb867, 1, none⟩) (Kd.R_far (p := ⟨gb867, 0, none⟩) (Kd.R_types HO859.out BK867.out (by decide)) (fun _ hk => hk.2) (.int .u16 t846)) (fun _ hk => hk.2) (.int .u8 t847)) (fun _ hk => hk.2) (.int .u8 t848)) (fun _ hk => hk.2) (.slice Ao65 t849.length co65)) (fun _ hk => hk.2) (.int .u16 t852)) (fun _ hk => hk.2) (.int .u32 t853)) (fun _ hk => hk.2) (.slice Ao66 t854.length co66)) (fun _ hk => hk.2) (.slice Ao67 t857.length co67)) (fun _ hk => hk.2) (.slice Ao68 t860.length co68)) (fun _ hk => hk.2) (.slice Ao69 t863.length co69)) (fun _ hk => ⟨hk.1.1, hk.1.2⟩)))⟩; have n5_ : Aside0 (Kd.R (Kd.int .u8) 5 w70 w.heap.size (fun k_ => some k_ ≠ (.slice Ao66 t854.length co66 : Value).ownBlock ∧ some k_ ≠ (.slice Ao67 t857.length co67 : Value).ownBlock) (.slice Ao68 t860.length co68) t860) := ⟨(by rw [hw]; exact (by (with_reducible repeat (first | apply Kd.R_alloc | apply Kd.R_drewN | apply Kd.R_drew)); exact Kd.R_mono (Kd.R_far (p := ⟨gb867, 9, none⟩) (Kd.R_far (p := ⟨gb867, 8, none⟩) (Kd.R_far (p := ⟨gb867, 7, none⟩) (Kd.R_far (p := ⟨gb867, 6, none⟩) (Kd.R_far (p := ⟨gb867, 5, none⟩) (Kd.R_far (p := ⟨gb867, 4, none⟩) (Kd.R_far (p := ⟨gb867, 3, none⟩) (Kd.R_far (p := ⟨gb867, 2, none⟩) (Kd.R_far (p := ⟨gb867, 1, none⟩) (Kd.R_far (p := ⟨gb867, 0, none⟩) (Kd.R_types HO862.out BK867.out (by decide)) (fun _ hk => hk.2) (.int .u16 t846)) (fun _ hk => hk.2) (.int .u8 t847)) (fun _ hk => hk.2) (.int .u8 t848)) (fun _ hk => hk.2) (.slice Ao65 t849.length co65)) (fun _ hk => hk.2) (.int .u16 t852)) (fun _ hk => hk.2) (.int .u32 t853)) (fun _ hk => hk.2) (.slice Ao66 t854.length co66)) (fun _ hk => hk.2) (.slice Ao67 t857.length co67)) (fun _ hk => hk.2) (.slice Ao68 t860.length co68)) (fun _ hk => hk.2) (.slice Ao69 t863.length co69)) (fun _ hk => ⟨hk.1.1, hk.1.2⟩)))⟩; have n6_ : Aside0 (Kd.R (Kd.int .u32) 41 w70 w.heap.size (fun _ => True) (.slice Ao69 t863.length co69) t863) := ⟨(by rw [hw]; exact (by (with_reducible repeat (first | apply Kd.R_alloc | apply Kd.R_drewN | apply Kd.R_drew)); exact Kd.R_mono (Kd.R_far (p := ⟨gb867, 9, none⟩) (Kd.R_far (p := ⟨gb867, 8, none⟩) (Kd.R_far (p := ⟨gb867, 7, none⟩) (Kd.R_far (p := ⟨gb867, 6, none⟩) (Kd.R_far (p := ⟨gb867, 5, none⟩) (Kd.R_far (p := ⟨gb867, 4, none⟩) (Kd.R_far (p := ⟨gb867, 3, none⟩) (Kd.R_far (p := ⟨gb867, 2, none⟩) (Kd.R_far (p := ⟨gb867, 1, none⟩) (Kd.R_far (p := ⟨gb867, 0, none⟩) (Kd.R_types HO865.out BK867.out (by decide)) (fun _ hk => hk.2) (.int .u16 t846)) (fun _ hk => hk.2) (.int .u8 t847)) (fun _ hk => hk.2) (.int .u8 t848)) (fun _ hk => hk.2) (.slice Ao65 t849.length co65)) (fun _ hk => hk.2) (.int .u16 t852)) (fun _ hk => hk.2) (.int .u32 t853)) (fun _ hk => hk.2) (.slice Ao66 t854.length co66)) (fun _ hk => hk.2) (.slice Ao67 t857.length co67)) (fun _ hk => hk.2) (.slice Ao68 t860.length co68)) (fun _ hk => hk.2) (.slice Ao69 t863.length co69)) (fun _ hk => trivial)))⟩; have n7_ : Aside0 (w70.heap[gb812]? = some (.cells #[.int .u16 a0_0, .int .u8 a0_1, .int .u8 a0_2, .slice A0_3 l0_3.length c0_3, .int .u16 a0_4, .int .u32 a0_5, .slice A0_6 l0_6.length c0_6, .slice A0_7 l0_7.length c0_7, .slice A0_8 l0_8.length c0_8, .slice A0_9 l0_9.length c0_9] 44 (0, 0))) := ⟨(by rw [hw]; exact (by (with_reducible repeat (first | refine blk_drewN ?_ _ | refine blk_drew ?_ | refine blk_alloc ?_ _)); refine blk_far ?_ NB812_867.out _; (with_reducible repeat (first | refine blk_drewN ?_ _ | refine blk_drew ?_ | refine blk_alloc ?_ _)); refine blk_far ?_ NB812_867.out _; (with_reducible repeat (first | refine blk_drewN ?_ _ | refine blk_drew ?_ | refine blk_alloc ?_ _)); refine blk_far ?_ NB812_867.out _; (with_reducible repeat (first | refine blk_drewN ?_ _ | refine blk_drew ?_ | refine blk_alloc ?_ _)); refine blk_far ?_ NB812_867.out _; (with_reducible repeat (first | refine blk_drewN ?_ _ | refine blk_drew ?_ | refine blk_alloc ?_ _)); refine blk_far ?_ NB812_867.out _; (with_reducible repeat (first | refine blk_drewN ?_ _ | refine blk_drew ?_ | refine blk_alloc ?_ _)); refine blk_far ?_ NB812_867.out _; (with_reducible repeat (first | refine blk_drewN ?_ _ | refine blk_drew ?_ | refine blk_alloc ?_ _)); refine blk_far ?_ NB812_867.out _; (with_reducible repeat (first | refine blk_drewN ?_ _ | refine blk_drew ?_ | refine blk_alloc ?_ _)); refine blk_far ?_ NB812_867.out _; (with_reducible repeat (first | refine blk_drewN ?_ _ | refine blk_drew ?_ | refine blk_alloc ?_ _)); refine blk_far ?_ NB812_867.out _; (with_reducible repeat (first | refine blk_drewN ?_ _ | refine blk_drew ?_ | refine blk_alloc ?_ _)); refine blk_far ?_ NB812_867.out _; (with_reducible repeat (first | refine blk_drewN ?_ _ | refine blk_drew ?_ | refine blk_alloc ?_ _)); exact BK812.out))⟩; have n8_ : Aside0 (w70.heap[gb813]? = some (.cells #[.int .u16 a1_0, .int .u8 a1_1, .int .u8 a1_2, .slice A1_3 l1_3.length c1_3, .int .u16 a1_4, .int .u32 a1_5, .slice A1_6 l1_6.length c1_6, .slice A1_7 l1_7.length c1_7, .slice A1_8 l1_8.length c1_8, .slice A1_9 l1_9.length c1_9] 44 (0, 0))) := ⟨(by rw [hw]; exact (by (with_reducible repeat (first | refine blk_drewN ?_ _ | refine blk_drew ?_ | refine blk_alloc ?_ _)); refine blk_far ?_ NB813_867.out _; (with_reducible repeat (first | refine blk_drewN ?_ _ | refine blk_drew ?_ | refine blk_alloc ?_ _)); refine blk_far ?_ NB813_867.out _; (with_reducible repeat (first | refine blk_drewN ?_ _ | refine blk_drew ?_ | refine blk_alloc ?_ _)); refine blk_far ?_ NB813_867.out _; (with_reducible repeat (first | refine blk_drewN ?_ _ | refine blk_drew ?_ | refine blk_alloc ?_ _)); refine blk_far ?_ NB813_867.out _; (with_reducible repeat (first | refine blk_drewN ?_ _ | refine blk_drew ?_ | refine blk_alloc ?_ _)); refine blk_far ?_ NB813_867.out _; (with_reducible repeat (first | refine blk_drewN ?_ _ | refine blk_drew ?_ | refine blk_alloc ?_ _)); refine blk_far ?_ NB813_867.out _; (with_reducible repeat (first | refine blk_drewN ?_ _ | refine blk_drew ?_ | refine blk_alloc ?_ _)); refine blk_far ?_ NB813_867.out _; (with_reducible repeat (first | refine blk_drewN ?_ _ | refine blk_drew ?_ | refine blk_alloc ?_ _)); refine blk_far ?_ NB813_867.out _; (with_reducible repeat (first | refine blk_drewN ?_ _ | refine blk_drew ?_ | refine blk_alloc ?_ _)); refine blk_far ?_ NB813_867.out _; (with_reducible repeat (first | refine blk_drewN ?_ _ | refine blk_drew ?_ | refine blk_alloc ?_ _)); refine blk_far ?_ NB813_867.out _; (with_reducible repeat (first | refine blk_drewN ?_ _ | refine blk_drew ?_ | refine blk_alloc ?_ _)); exact BK813.out))⟩; have n9_ : Aside0 (w70.heap[gb867]? = some (.cells #[.int .u16 t846, .int .u8 t847, .int .u8 t848, .slice Ao65 t849.length co65, .int .u16 t852, .int .u32 t853, .slice Ao66 t854.length co66, .slice Ao67 t857.length co67, .slice Ao68 t860.length co68, .slice Ao69 t863.length co69] 47 (0, 0))) := ⟨(by rw [hw]; exact (by (with_reducible repeat (first | refine blk_drewN ?_ _ | refine blk_drew ?_ | refine blk_alloc ?_ _)); refine blk_put (cs := #[.int .u16 t846, .int .u8 t847, .int .u8 t848, .slice Ao65 t849.length co65, .int .u16 t852, .int .u32 t853, .slice Ao66 t854.length co66, .slice Ao67 t857.length co67, .slice Ao68 t860.length co68, .slice none 0 0]) ?_ 9 _ rfl; (with_reducible repeat (first | refine blk_drewN ?_ _ | refine blk_drew ?_ | refine blk_alloc ?_ _)); refine blk_put (cs := #[.int .u16 t846, .int .u8 t847, .int .u8 t848, .slice Ao65 t849.length co65, .int .u16 t852, .int .u32 t853, .slice Ao66 t854.length co66, .slice Ao67 t857.length co67, .slice none 0 0, .slice none 0 0]) ?_ 8 _ rfl; (with_reducible repeat (first | refine blk_drewN ?_ _ | refine blk_drew ?_ | refine blk_alloc ?_ _)); refine blk_put (cs := #[.int .u16 t846, .int .u8 t847, .int .u8 t848, .slice Ao65 t849.length co65, .int .u16 t852, .int .u32 t853, .slice Ao66 t854.length co66, .slice none 0 0, .slice none 0 0, .slice none 0 0]) ?_ 7 _ rfl; (with_reducible repeat (first | refine blk_drewN ?_ _ | refine blk_drew ?_ | refine blk_alloc ?_ _)); refine blk_put (cs := #[.int .u16 t846, .int .u8 t847, .int .u8 t848, .slice Ao65 t849.length co65, .int .u16 t852, .int .u32 t853, .slice none 0 0, .slice none 0 0, .slice none 0 0, .slice none 0 0]) ?_ 6 _ rfl; (with_reducible repeat (first | refine blk_drewN ?_ _ | refine blk_drew ?_ | refine blk_alloc ?_ _)); refine blk_put (cs := #[.int .u16 t846, .int .u8 t847, .int .u8 t848, .slice Ao65 t849.length co65, .int .u16 t852, .int .u32 0, .slice none 0 0, .slice none 0 0, .slice none 0 0, .slice none 0 0]) ?_ 5 _ rfl; (with_reducible repeat (first | refine blk_drewN ?_ _ | refine blk_drew ?_ | refine blk_alloc ?_ _)); refine blk_put (cs := #[.int .u16 t846, .int .u8 t847, .int .u8 t848, .slice Ao65 t849.length co65, .int .u16 0, .int .u32 0, .slice none 0 0, .slice none 0 0, .slice none 0 0, .slice none 0 0]) ?_ 4 _ rfl; (with_reducible repeat (first | refine blk_drewN ?_ _ | refine blk_drew ?_ | refine blk_alloc ?_ _)); refine blk_put (cs := #[.int .u16 t846, .int .u8 t847, .int .u8 t848, .slice none 0 0, .int .u16 0, .int .u32 0, .slice none 0 0, .slice none 0 0, .slice none 0 0, .slice none 0 0]) ?_ 3 _ rfl; (with_reducible repeat (first | refine blk_drewN ?_ _ | refine blk_drew ?_ | refine blk_alloc ?_ _)); refine blk_put (cs := #[.int .u16 t846, .int .u8 t847, .int .u8 0, .slice none 0 0, .int .u16 0, .int .u32 0, .slice none 0 0, .slice none 0 0, .slice none 0 0, .slice none 0 0]) ?_ 2 _ rfl; (with_reducible repeat (first | refine blk_drewN ?_ _ | refine blk_drew ?_ | refine blk_alloc ?_ _)); refine blk_put (cs := #[.int .u16 t846, .int .u8 0, .int .u8 0, .slice none 0 0, .int .u16 0, .int .u32 0, .slice none 0 0, .slice none 0 0, .slice none 0 0, .slice none 0 0]) ?_ 1 _ rfl; (with_reducible repeat (first | refine blk_drewN ?_ _ | refine blk_drew ?_ | refine blk_alloc ?_ _)); refine blk_put (cs := #[.int .u16 0, .int .u8 0, .int .u8 0, .slice none 0 0, .int .u16 0, .int .u32 0, .slice none 0 0, .slice none 0 0, .slice none 0 0, .slice none 0 0]) ?_ 0 _ rfl; (with_reducible repeat (first | refine blk_drewN ?_ _ | refine blk_drew ?_ | refine blk_alloc ?_ _)); exact BK867.out))⟩; have n10_ : Aside0 (Below w.heap.size w w70) := ⟨(by rw [hw]; exact (by repeat (first | (with_reducible first | exact HB.out | apply below_alloc | apply pw_below_drewN | apply below_drew1 | refine below_set ?_ GE812.out | refine below_set ?_ GE813.out | refine below_set ?_ GE867.out) | exact HB.out)))⟩; clear hw; clear HO840; clear HO844; clear HO851; clear HO856; clear HO859; clear HO862; clear HO865; clear BK812; clear BK813; clear BK867; clear HB; have HO840 := n0_; have HO844 := n1_; have HO851 := n2_; have HO856 := n3_; have HO859 := n4_; have HO862 := n5_; have HO865 := n6_; have BK812 := n7_; have BK813 := n8_; have BK867 := n9_; have HB := n10_; clear n0_ n1_ n2_ n3_ n4_ n5_ n6_ n7_ n8_ n9_ n10_) | ((with_reducible refine gate_callee (f := 40) rfl ?_); refine goesL_ (some 51) rfl rfl Try.func40 (by kernel_rfl) rfl #[.slice A2 l2.length c2] rfl (by (try simp only [List.map_toArray, List.map_cons, List.map_nil]); first | done | rfl | (simp only [List.length_drop, List.length_take]; rfl)) ?_; (with_reducible refine (marlineref18_Get.calls kj3 (fun k_ => k_ < w.heap.size) _ _ l2 t868 t869 t870 t871 t874 t875 t876 t879 t882 t885 t888 _ ?side1 A37.out).mono ?_); (case side1 => exact Kd.V_mk HC2.out (Kd.F_below (Kd.C_F (Kd.heap_int .u8) HR2.out) (by repeat (first | (with_reducible first | exact HB.out | apply below_alloc | apply pw_below_drewN | apply below_drew1 | refine below_set ?_ GE812.out | refine below_set ?_ GE813.out | refine below_set ?_ GE867.out) | exact HB.out)))); rintro e w71 ⟨v872, v877, v880, v883, v886, rfl, ho0, ho1, ho2, ho3, ho4, hb⟩; refine ⟨_, rfl, ?_⟩; have n0_ := Aside0.mk (Kd.R_below (by (with_reducible repeat (first | apply Kd.R_alloc | apply Kd.R_drewN | apply Kd.R_drew)); exact HO840.out) hb); have n1_ := Aside0.mk (Kd.R_below (by (with_reducible repeat (first | apply Kd.R_alloc | apply Kd.R_drewN | apply Kd.R_drew)); exact HO844.out) hb); have n2_ := Aside0.mk (Kd.N_below (by (with_reducible repeat (first | apply Kd.N_alloc | apply Kd.N_drewN | apply Kd.N_drew)); exact HO851.out) hb); have n3_ := Aside0.mk (Kd.R_below (by (with_reducible repeat (first | apply Kd.R_alloc | apply Kd.R_drewN | apply Kd.R_drew)); exact HO856.out) hb); have n4_ := Aside0.mk (Kd.R_below (by (with_reducible repeat (first | apply Kd.R_alloc | apply Kd.R_drewN | apply Kd.R_drew)); exact HO859.out) hb); have n5_ := Aside0.mk (Kd.R_below (by (with_reducible repeat (first | apply Kd.R_alloc | apply Kd.R_drewN | apply Kd.R_drew)); exact HO862.out) hb); have n6_ := Aside0.mk (Kd.R_below (by (with_reducible repeat (first | apply Kd.R_alloc | apply Kd.R_drewN | apply Kd.R_drew)); exact HO865.out) hb); have n7_ := Aside0.mk (Kd.N_lower (Kd.N_mono (ok' := fun k_ => True) (Kd.S_N (Kd.S_bound (Kd.S_apart' ho0 (Kd.R_typed ho4) (by decide)))) (fun k_ hk_ => trivial)) (below_size (by repeat (first | (with_reducible first | exact HB.out | apply below_alloc | apply pw_below_drewN | apply below_drew1 | refine below_set ?_ GE812.out | refine below_set ?_ GE813.out | refine below_set ?_ GE867.out) | exact HB.out)))); have n8_ := Aside0.mk (Kd.V_lower (Kd.V_mono (ok' := fun k_ => True) ho1 (fun k_ hk_ => trivial)) (below_size (by repeat (first | (with_reducible first | exact HB.out | apply below_alloc | apply pw_below_drewN | apply below_drew1 | refine below_set ?_ GE812.out | refine below_set ?_ GE813.out | refine below_set ?_ GE867.out) | exact HB.out)))); have n9_ := Aside0.mk (Kd.V_lower (Kd.V_mono (ok' := fun k_ => True) ho2 (fun k_ hk_ => trivial)) (below_size (by repeat (first | (with_reducible first | exact HB.out | apply below_alloc | apply pw_below_drewN | apply below_drew1 | refine below_set ?_ GE812.out | refine below_set ?_ GE813.out | refine below_set ?_ GE867.out) | exact HB.out)))); have n10_ := Aside0.mk (Kd.V_lower (Kd.V_mono (ok' := fun k_ => True) ho3 (fun k_ hk_ => trivial)) (below_size (by repeat (first | (with_reducible first | exact HB.out | apply below_alloc | apply pw_below_drewN | apply below_drew1 | refine below_set ?_ GE812.out | refine below_set ?_ GE813.out | refine below_set ?_ GE867.out) | exact HB.out)))); have n11_ := Aside0.mk (Kd.R_lower (Kd.R_mono (ok' := fun k_ => True) ho4 (fun _ hk_ => trivial)) (below_size (by repeat (first | (with_reducible first | exact HB.out | apply below_alloc | apply pw_below_drewN | apply below_drew1 | refine below_set ?_ GE812.out | refine below_set ?_ GE813.out | refine below_set ?_ GE867.out) | exact HB.out)))); have n12_ := Aside0.mk (blk_below (g := gb812) (o := .cells #[.int .u16 a0_0, .int .u8 a0_1, .int .u8 a0_2, .slice A0_3 l0_3.length c0_3, .int .u16 a0_4, .int .u32 a0_5, .slice A0_6 l0_6.length c0_6, .slice A0_7 l0_7.length c0_7, .slice A0_8 l0_8.length c0_8, .slice A0_9 l0_9.length c0_9] 44 (0, 0)) (by (with_reducible repeat (first | refine blk_drewN ?_ _ | refine blk_drew ?_ | refine blk_alloc ?_ _)); exact BK812.out) hb); have n13_ := Aside0.mk (blk_below (g := gb813) (o := .cells #[.int .u16 a1_0, .int .u8 a1_1, .int .u8 a1_2, .slice A1_3 l1_3.length c1_3, .int .u16 a1_4, .int .u32 a1_5, .slice A1_6 l1_6.length c1_6, .slice A1_7 l1_7.length c1_7, .slice A1_8 l1_8.length c1_8, .slice A1_9 l1_9.length c1_9] 44 (0, 0)) (by (with_reducible repeat (first | refine blk_drewN ?_ _ | refine blk_drew ?_ | refine blk_alloc ?_ _)); exact BK813.out) hb); have n14_ := Aside0.mk (blk_below (g := gb867) (o := .cells #[.int .u16 t846, .int .u8 t847, .int .u8 t848, .slice Ao65 t849.length co65, .int .u16 t852, .int .u32 t853, .slice Ao66 t854.length co66, .slice Ao67 t857.length co67, .slice Ao68 t860.length co68, .slice Ao69 t863.length co69] 47 (0, 0)) (by (with_reducible repeat (first | refine blk_drewN ?_ _ | refine blk_drew ?_ | refine blk_alloc ?_ _)); exact BK867.out) hb); have n15_ := Aside0.mk (below_step (by repeat (first | (with_reducible first | exact HB.out | apply below_alloc | apply pw_below_drewN | apply below_drew1 | refine below_set ?_ GE812.out | refine below_set ?_ GE813.out | refine below_set ?_ GE867.out) | exact HB.out)) hb); clear HO840; clear HO844; clear HO851; clear HO856; clear HO859; clear HO862; clear HO865; clear BK812; clear BK813; clear BK867; clear HB; have HO840 := n0_; have HO844 := n1_; have HO851 := n2_; have HO856 := n3_; have HO859 := n4_; have HO862 := n5_; have HO865 := n6_; have HO873 := n7_; have HO878 := n8_; have HO881 := n9_; have HO884 := n10_; have HO887 := n11_; have BK812 := n12_; have BK813 := n13_; have BK867 := n14_; have HB := n15_; clear n0_ n1_ n2_ n3_ n4_ n5_ n6_ n7_ n8_ n9_ n10_ n11_ n12_ n13_ n14_ n15_; (try clear hb); (try clear hb2); (try clear hk); (try clear hi); (try clear ho0); (try clear ho1); (try clear ho2); (try clear ho3); (try clear ho4)) | ((with_reducible refine gate_dst (N := 13) rfl ?_); (try (refine gate_guard (by rfl) ?_; dsimp only)); refine box_event ?hg (N := 13) ?hd (cs := #[.int .u16 0, .int .u8 0, .int .u8 0, .slice none 0 0, .int .u16 0, .int .u32 0, .slice none 0 0, .slice none 0 0, .slice none 0 0, .slice none 0 0]) (t := 44) ?hr ?_; (case hd => rfl); (case hg => rfl); (case hr => first | (go_simp; done) | (go_simp; simp only [IntKind.wrap_u8, IntKind.wrap_u16, IntKind.wrap_u32, IntKind.wrap_u64]; done) | (go_simp; rfl)); intro gb889 hg w72 hbox hb; have n0_ := Aside0.mk (Kd.R_below (by (with_reducible repeat (first | apply Kd.R_alloc | apply Kd.R_drewN | apply Kd.R_drew)); exact HO840.out) hb); have n1_ := Aside0.mk (Kd.R_below (by (with_reducible repeat (first | apply Kd.R_alloc | apply Kd.R_drewN | apply Kd.R_drew)); exact HO844.out) hb); have n2_ := Aside0.mk (Kd.N_below (Kd.N_elderB (by (with_reducible repeat (first | apply Kd.N_alloc | apply Kd.N_drewN | apply Kd.N_drew)); exact HO851.out) gb889 (Nat.le_of_eq hg.symm)) hb); have n3_ := Aside0.mk (Kd.R_below (by (with_reducible repeat (first | apply Kd.R_alloc | apply Kd.R_drewN | apply Kd.R_drew)); exact HO856.out) hb); have n4_ := Aside0.mk (Kd.R_below (by (with_reducible repeat (first | apply Kd.R_alloc | apply Kd.R_drewN | apply Kd.R_drew)); exact HO859.out) hb); have n5_ := Aside0.mk (Kd.R_below (by (with_reducible repeat (first | apply Kd.R_alloc | apply Kd.R_drewN | apply Kd.R_drew)); exact HO862.out) hb); have n6_ := Aside0.mk (Kd.R_below (by (with_reducible repeat (first | apply Kd.R_alloc | apply Kd.R_drewN | apply Kd.R_drew)); exact HO865.out) hb); have n7_ := Aside0.mk (Kd.N_below (Kd.N_elderB (by (with_reducible repeat (first | apply Kd.N_alloc | apply Kd.N_drewN | apply Kd.N_drew)); exact HO873.out) gb889 (Nat.le_of_eq hg.symm)) hb); have n8_ := Aside0.mk (Kd.V_below (Kd.V_elderB (by (with_reducible repeat (first | apply Kd.V_alloc | apply Kd.V_drewN | apply Kd.V_drew)); exact HO878.out) gb889 (Nat.le_of_eq hg.symm)) hb); have n9_ := Aside0.mk (Kd.V_below (Kd.V_elderB (by (with_reducible repeat (first | apply Kd.V_alloc | apply Kd.V_drewN | apply Kd.V_drew)); exact HO881.out) gb889 (Nat.le_of_eq hg.symm)) hb); have n10_ := Aside0.mk (Kd.V_below (Kd.V_elderB (by (with_reducible repeat (first | apply Kd.V_alloc | apply Kd.V_drewN | apply Kd.V_drew)); exact HO884.out) gb889 (Nat.le_of_eq hg.symm)) hb); have n11_ := Aside0.mk (Kd.R_below (by (with_reducible repeat (first | apply Kd.R_alloc | apply Kd.R_drewN | apply Kd.R_drew)); exact HO887.out) hb); have n12_ := Aside0.mk (blk_below (g := gb812) (o := .cells #[.int .u16 a0_0, .int .u8 a0_1, .int .u8 a0_2, .slice A0_3 l0_3.length c0_3, .int .u16 a0_4, .int .u32 a0_5, .slice A0_6 l0_6.length c0_6, .slice A0_7 l0_7.length c0_7, .slice A0_8 l0_8.length c0_8, .slice A0_9 l0_9.length c0_9] 44 (0, 0)) (by (with_reducible repeat (first | refine blk_drewN ?_ _ | refine blk_drew ?_ | refine blk_alloc ?_ _)); exact BK812.out) hb); have n13_ := Aside0.mk (blk_below (g := gb813) (o := .cells #[.int .u16 a1_0, .int .u8 a1_1, .int .u8 a1_2, .slice A1_3 l1_3.length c1_3, .int .u16 a1_4, .int .u32 a1_5, .slice A1_6 l1_6.length c1_6, .slice A1_7 l1_7.length c1_7, .slice A1_8 l1_8.length c1_8, .slice A1_9 l1_9.length c1_9] 44 (0, 0)) (by (with_reducible repeat (first | refine blk_drewN ?_ _ | refine blk_drew ?_ | refine blk_alloc ?_ _)); exact BK813.out) hb); have n14_ := Aside0.mk (blk_below (g := gb867) (o := .cells #[.int .u16 t846, .int .u8 t847, .int .u8 t848, .slice Ao65 t849.length co65, .int .u16 t852, .int .u32 t853, .slice Ao66 t854.length co66, .slice Ao67 t857.length co67, .slice Ao68 t860.length co68, .slice Ao69 t863.length co69] 47 (0, 0)) (by (with_reducible repeat (first | refine blk_drewN ?_ _ | refine blk_drew ?_ | refine blk_alloc ?_ _)); exact BK867.out) hb); have n15_ := Aside0.mk (below_step (by repeat (first | (with_reducible first | exact HB.out | apply below_alloc | apply pw_below_drewN | apply below_drew1 | refine below_set ?_ GE812.out | refine below_set ?_ GE813.out | refine below_set ?_ GE867.out) | exact HB.out)) hb); have n16_ := Aside0.mk (hbox); have n17_ := Aside0.mk ((by rw [hg]; exact (below_size (by repeat (first | (with_reducible first | exact HB.out | apply below_alloc | apply pw_below_drewN | apply below_drew1 | refine below_set ?_ GE812.out | refine below_set ?_ GE813.out | refine below_set ?_ GE867.out) | exact HB.out))) : w.heap.size ≤ gb889)); have n18_ := Aside0.mk ((by rw [hg]; exact (below_size (by repeat (first | (with_reducible first | exact HB.out | apply below_alloc | apply pw_below_drewN | apply below_drew1 | refine below_set ?_ GE812.out | refine below_set ?_ GE813.out | refine below_set ?_ GE867.out) | exact HB.out))) : w.heap.size ≤ gb889)); have n19_ := Aside0.mk ((by rw [hg]; exact Nat.ne_of_lt (blk_lt (g := gb812) (o := .cells #[.int .u16 a0_0, .int .u8 a0_1, .int .u8 a0_2, .slice A0_3 l0_3.length c0_3, .int .u16 a0_4, .int .u32 a0_5, .slice A0_6 l0_6.length c0_6, .slice A0_7 l0_7.length c0_7, .slice A0_8 l0_8.length c0_8, .slice A0_9 l0_9.length c0_9] 44 (0, 0)) (by (with_reducible repeat (first | refine blk_drewN ?_ _ | refine blk_drew ?_ | refine blk_alloc ?_ _)); exact BK812.out)) : gb812 ≠ gb889)); have n20_ := Aside0.mk ((by rw [hg]; exact Nat.ne_of_gt (blk_lt (g := gb812) (o := .cells #[.int .u16 a0_0, .int .u8 a0_1, .int .u8 a0_2, .slice A0_3 l0_3.length c0_3, .int .u16 a0_4, .int .u32 a0_5, .slice A0_6 l0_6.length c0_6, .slice A0_7 l0_7.length c0_7, .slice A0_8 l0_8.length c0_8, .slice A0_9 l0_9.length c0_9] 44 (0, 0)) (by (with_reducible repeat (first | refine blk_drewN ?_ _ | refine blk_drew ?_ | refine blk_alloc ?_ _)); exact BK812.out)) : gb889 ≠ gb812)); have n21_ := Aside0.mk ((by rw [hg]; exact Nat.ne_of_lt (blk_lt (g := gb813) (o := .cells #[.int .u16 a1_0, .int .u8 a1_1, .int .u8 a1_2, .slice A1_3 l1_3.length c1_3, .int .u16 a1_4, .int .u32 a1_5, .slice A1_6 l1_6.length c1_6, .slice A1_7 l1_7.length c1_7, .slice A1_8 l1_8.length c1_8, .slice A1_9 l1_9.length c1_9] 44 (0, 0)) (by (with_reducible repeat (first | refine blk_drewN ?_ _ | refine blk_drew ?_ | refine blk_alloc ?_ _)); exact BK813.out)) : gb813 ≠ gb889)); have n22_ := Aside0.mk ((by rw [hg]; exact Nat.ne_of_gt (blk_lt (g := gb813) (o := .cells #[.int .u16 a1_0, .int .u8 a1_1, .int .u8 a1_2, .slice A1_3 l1_3.length c1_3, .int .u16 a1_4, .int .u32 a1_5, .slice A1_6 l1_6.length c1_6, .slice A1_7 l1_7.length c1_7, .slice A1_8 l1_8.length c1_8, .slice A1_9 l1_9.length c1_9] 44 (0, 0)) (by (with_reducible repeat (first | refine blk_drewN ?_ _ | refine blk_drew ?_ | refine blk_alloc ?_ _)); exact BK813.out)) : gb889 ≠ gb813)); have n23_ := Aside0.mk ((by rw [hg]; exact Nat.ne_of_lt (blk_lt (g := gb867) (o := .cells #[.int .u16 t846, .int .u8 t847, .int .u8 t848, .slice Ao65 t849.length co65, .int .u16 t852, .int .u32 t853, .slice Ao66 t854.length co66, .slice Ao67 t857.length co67, .slice Ao68 t860.length co68, .slice Ao69 t863.length co69] 47 (0, 0)) (by (with_reducible repeat (first | refine blk_drewN ?_ _ | refine blk_drew ?_ | refine blk_alloc ?_ _)); exact BK867.out)) : gb867 ≠ gb889)); have n24_ := Aside0.mk ((by rw [hg]; exact Nat.ne_of_gt (blk_lt (g := gb867) (o := .cells #[.int .u16 t846, .int .u8 t847, .int .u8 t848, .slice Ao65 t849.length co65, .int .u16 t852, .int .u32 t853, .slice Ao66 t854.length co66, .slice Ao67 t857.length co67, .slice Ao68 t860.length co68, .slice Ao69 t863.length co69] 47 (0, 0)) (by (with_reducible repeat (first | refine blk_drewN ?_ _ | refine blk_drew ?_ | refine blk_alloc ?_ _)); exact BK867.out)) : gb889 ≠ gb867)); clear HO840; clear HO844; clear HO851; clear HO856; clear HO859; clear HO862; clear HO865; clear HO873; clear HO878; clear HO881; clear HO884; clear HO887; clear BK812; clear BK813; clear BK867; clear HB; have HO840 := n0_; have HO844 := n1_; have HO851 := n2_; have HO856 := n3_; have HO859 := n4_; have HO862 := n5_; have HO865 := n6_; have HO873 := n7_; have HO878 := n8_; have HO881 := n9_; have HO884 := n10_; have HO887 := n11_; have BK812 := n12_; have BK813 := n13_; have BK867 := n14_; have HB := n15_; have BK889 := n16_; have GW889 := n17_; have GE889 := n18_; have NB812_889 := n19_; have NB889_812 := n20_; have NB813_889 := n21_; have NB889_813 := n22_; have NB867_889 := n23_; have NB889_867 := n24_; clear n0_ n1_ n2_ n3_ n4_ n5_ n6_ n7_ n8_ n9_ n10_ n11_ n12_ n13_ n14_ n15_ n16_ n17_ n18_ n19_ n20_ n21_ n22_ n23_ n24_; clear hb hbox hg; have hnb73 := NB889_812.out; have hnc73 := NB812_889.out; have hnb74 := NB889_813.out; have hnc74 := NB813_889.out; have hnb75 := NB889_867.out; have hnc75 := NB867_889.out; obtain ⟨⟨hcz76_0, hcz76_1, hcz76_2, hcz76_3, hcz76_4, hcz76_5, hcz76_6, hcz76_7, hcz76_8, hcz76_9⟩, hfz76_0, hfz76_1, hfz76_2, hfz76_3, hfz76_4, hfz76_5, hfz76_6, hfz76_7, hfz76_8, hfz76_9⟩ := cz10 BK889.out; obtain ⟨Ao77, co77, eo77⟩ := Kd.N_slice HO873.out; subst eo77; obtain ⟨Ao78, co78, eo78⟩ := Kd.V_slice HO878.out; subst eo78; obtain ⟨Ao79, co79, eo79⟩ := Kd.V_slice HO881.out; subst eo79; obtain ⟨Ao80, co80, eo80⟩ := Kd.V_slice HO884.out; subst eo80; obtain ⟨Ao81, co81, eo81⟩ := Kd.R_slice HO887.out; subst eo81))
        have n0_ : Aside0 (Kd.R (Kd.int .u8) 5 ((((((((((w72.setCell ⟨gb889, 0, none⟩ (.int .u16 t868)).setCell ⟨gb889, 1, none⟩ (.int .u8 t869)).setCell ⟨gb889, 2, none⟩ (.int .u8 t870)).setCell ⟨gb889, 3, none⟩ (.slice Ao77 t871.length co77)).setCell ⟨gb889, 4, none⟩ (.int .u16 t874)).setCell ⟨gb889, 5, none⟩ (.int .u32 t875)).setCell ⟨gb889, 6, none⟩ (.slice Ao78 t876.length co78)).setCell ⟨gb889, 7, none⟩ (.slice Ao79 t879.length co79)).setCell ⟨gb889, 8, none⟩ (.slice Ao80 t882.length co80)).setCell ⟨gb889, 9, none⟩ (.slice Ao81 t885.length co81)) w.heap.size (fun _ => True) v839 t838) := ⟨by (with_reducible repeat (first | apply Kd.R_alloc | apply Kd.R_drewN | apply Kd.R_drew)); exact Kd.R_mono (Kd.R_far (p := ⟨gb889, 9, none⟩) (Kd.R_far (p := ⟨gb889, 8, none⟩) (Kd.R_far (p := ⟨gb889, 7, none⟩) (Kd.R_far (p := ⟨gb889, 6, none⟩) (Kd.R_far (p := ⟨gb889, 5, none⟩) (Kd.R_far (p := ⟨gb889, 4, none⟩) (Kd.R_far (p := ⟨gb889, 3, none⟩) (Kd.R_far (p := ⟨gb889, 2, none⟩) (Kd.R_far (p := ⟨gb889, 1, none⟩) (Kd.R_far (p := ⟨gb889, 0, none⟩) (Kd.R_types HO840.out BK889.out (by decide)) (fun _ hk => hk.2) (.int .u16 t868)) (fun _ hk => hk.2) (.int .u8 t869)) (fun _ hk => hk.2) (.int .u8 t870)) (fun _ hk => hk.2) (.slice Ao77 t871.length co77)) (fun _ hk => hk.2) (.int .u16 t874)) (fun _ hk => hk.2) (.int .u32 t875)) (fun _ hk => hk.2) (.slice Ao78 t876.length co78)) (fun _ hk => hk.2) (.slice Ao79 t879.length co79)) (fun _ hk => hk.2) (.slice Ao80 t882.length co80)) (fun _ hk => hk.2) (.slice Ao81 t885.length co81)) (fun _ hk => trivial)⟩
        have n1_ : Aside0 (Kd.R (Kd.int .u8) 5 ((((((((((w72.setCell ⟨gb889, 0, none⟩ (.int .u16 t868)).setCell ⟨gb889, 1, none⟩ (.int .u8 t869)).setCell ⟨gb889, 2, none⟩ (.int .u8 t870)).setCell ⟨gb889, 3, none⟩ (.slice Ao77 t871.length co77)).setCell ⟨gb889, 4, none⟩ (.int .u16 t874)).setCell ⟨gb889, 5, none⟩ (.int .u32 t875)).setCell ⟨gb889, 6, none⟩ (.slice Ao78 t876.length co78)).setCell ⟨gb889, 7, none⟩ (.slice Ao79 t879.length co79)).setCell ⟨gb889, 8, none⟩ (.slice Ao80 t882.length co80)).setCell ⟨gb889, 9, none⟩ (.slice Ao81 t885.length co81)) w.heap.size (fun _ => True) v843 t842) := ⟨by (with_reducible repeat (first | apply Kd.R_alloc | apply Kd.R_drewN | apply Kd.R_drew)); exact Kd.R_mono (Kd.R_far (p := ⟨gb889, 9, none⟩) (Kd.R_far (p := ⟨gb889, 8, none⟩) (Kd.R_far (p := ⟨gb889, 7, none⟩) (Kd.R_far (p := ⟨gb889, 6, none⟩) (Kd.R_far (p := ⟨gb889, 5, none⟩) (Kd.R_far (p := ⟨gb889, 4, none⟩) (Kd.R_far (p := ⟨gb889, 3, none⟩) (Kd.R_far (p := ⟨gb889, 2, none⟩) (Kd.R_far (p := ⟨gb889, 1, none⟩) (Kd.R_far (p := ⟨gb889, 0, none⟩) (Kd.R_types HO844.out BK889.out (by decide)) (fun _ hk => hk.2) (.int .u16 t868)) (fun _ hk => hk.2) (.int .u8 t869)) (fun _ hk => hk.2) (.int .u8 t870)) (fun _ hk => hk.2) (.slice Ao77 t871.length co77)) (fun _ hk => hk.2) (.int .u16 t874)) (fun _ hk => hk.2) (.int .u32 t875)) (fun _ hk => hk.2) (.slice Ao78 t876.length co78)) (fun _ hk => hk.2) (.slice Ao79 t879.length co79)) (fun _ hk => hk.2) (.slice Ao80 t882.length co80)) (fun _ hk => hk.2) (.slice Ao81 t885.length co81)) (fun _ hk => trivial)⟩
        have n2_ : Aside0 (Kd.N k57 57 ((((((((((w72.setCell ⟨gb889, 0, none⟩ (.int .u16 t868)).setCell ⟨gb889, 1, none⟩ (.int .u8 t869)).setCell ⟨gb889, 2, none⟩ (.int .u8 t870)).setCell ⟨gb889, 3, none⟩ (.slice Ao77 t871.length co77)).setCell ⟨gb889, 4, none⟩ (.int .u16 t874)).setCell ⟨gb889, 5, none⟩ (.int .u32 t875)).setCell ⟨gb889, 6, none⟩ (.slice Ao78 t876.length co78)).setCell ⟨gb889, 7, none⟩ (.slice Ao79 t879.length co79)).setCell ⟨gb889, 8, none⟩ (.slice Ao80 t882.length co80)).setCell ⟨gb889, 9, none⟩ (.slice Ao81 t885.length co81)) w.heap.size (fun k_ => k_ ≠ gb867 ∧ k_ ≠ gb889) (.slice Ao65 t849.length co65) t849) := ⟨by (with_reducible repeat (first | apply Kd.N_alloc | apply Kd.N_drewN | apply Kd.N_drew)); exact Kd.N_mono (Kd.N_far (p := ⟨gb889, 9, none⟩) (Kd.N_far (p := ⟨gb889, 8, none⟩) (Kd.N_far (p := ⟨gb889, 7, none⟩) (Kd.N_far (p := ⟨gb889, 6, none⟩) (Kd.N_far (p := ⟨gb889, 5, none⟩) (Kd.N_far (p := ⟨gb889, 4, none⟩) (Kd.N_far (p := ⟨gb889, 3, none⟩) (Kd.N_far (p := ⟨gb889, 2, none⟩) (Kd.N_far (p := ⟨gb889, 1, none⟩) (Kd.N_far (p := ⟨gb889, 0, none⟩) (Kd.N_mono HO851.out (fun k_ hk => (⟨hk, hk.2⟩ : _ ∧ k_ ≠ gb889))) (fun _ hk => hk.2) (.int .u16 t868)) (fun _ hk => hk.2) (.int .u8 t869)) (fun _ hk => hk.2) (.int .u8 t870)) (fun _ hk => hk.2) (.slice Ao77 t871.length co77)) (fun _ hk => hk.2) (.int .u16 t874)) (fun _ hk => hk.2) (.int .u32 t875)) (fun _ hk => hk.2) (.slice Ao78 t876.length co78)) (fun _ hk => hk.2) (.slice Ao79 t879.length co79)) (fun _ hk => hk.2) (.slice Ao80 t882.length co80)) (fun _ hk => hk.2) (.slice Ao81 t885.length co81)) (fun _ hk => ⟨hk.1.1, hk.1.2⟩)⟩
        have n3_ : Aside0 (Kd.R (Kd.int .u8) 5 ((((((((((w72.setCell ⟨gb889, 0, none⟩ (.int .u16 t868)).setCell ⟨gb889, 1, none⟩ (.int .u8 t869)).setCell ⟨gb889, 2, none⟩ (.int .u8 t870)).setCell ⟨gb889, 3, none⟩ (.slice Ao77 t871.length co77)).setCell ⟨gb889, 4, none⟩ (.int .u16 t874)).setCell ⟨gb889, 5, none⟩ (.int .u32 t875)).setCell ⟨gb889, 6, none⟩ (.slice Ao78 t876.length co78)).setCell ⟨gb889, 7, none⟩ (.slice Ao79 t879.length co79)).setCell ⟨gb889, 8, none⟩ (.slice Ao80 t882.length co80)).setCell ⟨gb889, 9, none⟩ (.slice Ao81 t885.length co81)) w.heap.size (fun k_ => some k_ ≠ (.slice Ao67 t857.length co67 : Value).ownBlock ∧ some k_ ≠ (.slice Ao68 t860.length co68 : Value).ownBlock) (.slice Ao66 t854.length co66) t854) := ⟨by (with_reducible repeat (first | apply Kd.R_alloc | apply Kd.R_drewN | apply Kd.R_drew)); exact Kd.R_mono (Kd.R_far (p := ⟨gb889, 9, none⟩) (Kd.R_far (p := ⟨gb889, 8, none⟩) (Kd.R_far (p := ⟨gb889, 7, none⟩) (Kd.R_far (p := ⟨gb889, 6, none⟩) (Kd.R_far (p := ⟨gb889, 5, none⟩) (Kd.R_far (p := ⟨gb889, 4, none⟩) (Kd.R_far (p := ⟨gb889, 3, none⟩) (Kd.R_far (p := ⟨gb889, 2, none⟩) (Kd.R_far (p := ⟨gb889, 1, none⟩) (Kd.R_far (p := ⟨gb889, 0, none⟩) (Kd.R_types HO856.out BK889.out (by decide)) (fun _ hk => hk.2) (.int .u16 t868)) (fun _ hk => hk.2) (.int .u8 t869)) (fun _ hk => hk.2) (.int .u8 t870)) (fun _ hk => hk.2) (.slice Ao77 t871.length co77)) (fun _ hk => hk.2) (.int .u16 t874)) (fun _ hk => hk.2) (.int .u32 t875)) (fun _ hk => hk.2) (.slice Ao78 t876.length co78)) (fun _ hk => hk.2) (.slice Ao79 t879.length co79)) (fun _ hk => hk.2) (.slice Ao80 t882.length co80)) (fun _ hk => hk.2) (.slice Ao81 t885.length co81)) (fun _ hk => ⟨hk.1.1, hk.1.2⟩)⟩
        have n4_ : Aside0 (Kd.R (Kd.int .u8) 5 ((((((((((w72.setCell ⟨gb889, 0, none⟩ (.int .u16 t868)).setCell ⟨gb889, 1, none⟩ (.int .u8 t869)).setCell ⟨gb889, 2, none⟩ (.int .u8 t870)).setCell ⟨gb889, 3, none⟩ (.slice Ao77 t871.length co77)).setCell ⟨gb889, 4, none⟩ (.int .u16 t874)).setCell ⟨gb889, 5, none⟩ (.int .u32 t875)).setCell ⟨gb889, 6, none⟩ (.slice Ao78 t876.length co78)).setCell ⟨gb889, 7, none⟩ (.slice Ao79 t879.length co79)).setCell ⟨gb889, 8, none⟩ (.slice Ao80 t882.length co80)).setCell ⟨gb889, 9, none⟩ (.slice Ao81 t885.length co81)) w.heap.size (fun k_ => some k_ ≠ (.slice Ao66 t854.length co66 : Value).ownBlock ∧ some k_ ≠ (.slice Ao68 t860.length co68 : Value).ownBlock) (.slice Ao67 t857.length co67) t857) := ⟨by (with_reducible repeat (first | apply Kd.R_alloc | apply Kd.R_drewN | apply Kd.R_drew)); exact Kd.R_mono (Kd.R_far (p := ⟨gb889, 9, none⟩) (Kd.R_far (p := ⟨gb889, 8, none⟩) (Kd.R_far (p := ⟨gb889, 7, none⟩) (Kd.R_far (p := ⟨gb889, 6, none⟩) (Kd.R_far (p := ⟨gb889, 5, none⟩) (Kd.R_far (p := ⟨gb889, 4, none⟩) (Kd.R_far (p := ⟨gb889, 3, none⟩) (Kd.R_far (p := ⟨gb889, 2, none⟩) (Kd.R_far (p := ⟨gb889, 1, none⟩) (Kd.R_far (p := ⟨gb889, 0, none⟩) (Kd.R_types HO859.out BK889.out (by decide)) (fun _ hk => hk.2) (.int .u16 t868)) (fun _ hk => hk.2) (.int .u8 t869)) (fun _ hk => hk.2) (.int .u8 t870)) (fun _ hk => hk.2) (.slice Ao77 t871.length co77)) (fun _ hk => hk.2) (.int .u16 t874)) (fun _ hk => hk.2) (.int .u32 t875)) (fun _ hk => hk.2) (.slice Ao78 t876.length co78)) (fun _ hk => hk.2) (.slice Ao79 t879.length co79)) (fun _ hk => hk.2) (.slice Ao80 t882.length co80)) (fun _ hk => hk.2) (.slice Ao81 t885.length co81)) (fun _ hk => ⟨hk.1.1, hk.1.2⟩)⟩
        have n5_ : Aside0 (Kd.R (Kd.int .u8) 5 ((((((((((w72.setCell ⟨gb889, 0, none⟩ (.int .u16 t868)).setCell ⟨gb889, 1, none⟩ (.int .u8 t869)).setCell ⟨gb889, 2, none⟩ (.int .u8 t870)).setCell ⟨gb889, 3, none⟩ (.slice Ao77 t871.length co77)).setCell ⟨gb889, 4, none⟩ (.int .u16 t874)).setCell ⟨gb889, 5, none⟩ (.int .u32 t875)).setCell ⟨gb889, 6, none⟩ (.slice Ao78 t876.length co78)).setCell ⟨gb889, 7, none⟩ (.slice Ao79 t879.length co79)).setCell ⟨gb889, 8, none⟩ (.slice Ao80 t882.length co80)).setCell ⟨gb889, 9, none⟩ (.slice Ao81 t885.length co81)) w.heap.size (fun k_ => some k_ ≠ (.slice Ao66 t854.length co66 : Value).ownBlock ∧ some k_ ≠ (.slice Ao67 t857.length co67 : Value).ownBlock) (.slice Ao68 t860.length co68) t860) := ⟨by (with_reducible repeat (first | apply Kd.R_alloc | apply Kd.R_drewN | apply Kd.R_drew)); exact Kd.R_mono (Kd.R_far (p := ⟨gb889, 9, none⟩) (Kd.R_far (p := ⟨gb889, 8, none⟩) (Kd.R_far (p := ⟨gb889, 7, none⟩) (Kd.R_far (p := ⟨gb889, 6, none⟩) (Kd.R_far (p := ⟨gb889, 5, none⟩) (Kd.R_far (p := ⟨gb889, 4, none⟩) (Kd.R_far (p := ⟨gb889, 3, none⟩) (Kd.R_far (p := ⟨gb889, 2, none⟩) (Kd.R_far (p := ⟨gb889, 1, none⟩) (Kd.R_far (p := ⟨gb889, 0, none⟩) (Kd.R_types HO862.out BK889.out (by decide)) (fun _ hk => hk.2) (.int .u16 t868)) (fun _ hk => hk.2) (.int .u8 t869)) (fun _ hk => hk.2) (.int .u8 t870)) (fun _ hk => hk.2) (.slice Ao77 t871.length co77)) (fun _ hk => hk.2) (.int .u16 t874)) (fun _ hk => hk.2) (.int .u32 t875)) (fun _ hk => hk.2) (.slice Ao78 t876.length co78)) (fun _ hk => hk.2) (.slice Ao79 t879.length co79)) (fun _ hk => hk.2) (.slice Ao80 t882.length co80)) (fun _ hk => hk.2) (.slice Ao81 t885.length co81)) (fun _ hk => ⟨hk.1.1, hk.1.2⟩)⟩
        have n6_ : Aside0 (Kd.R (Kd.int .u32) 41 ((((((((((w72.setCell ⟨gb889, 0, none⟩ (.int .u16 t868)).setCell ⟨gb889, 1, none⟩ (.int .u8 t869)).setCell ⟨gb889, 2, none⟩ (.int .u8 t870)).setCell ⟨gb889, 3, none⟩ (.slice Ao77 t871.length co77)).setCell ⟨gb889, 4, none⟩ (.int .u16 t874)).setCell ⟨gb889, 5, none⟩ (.int .u32 t875)).setCell ⟨gb889, 6, none⟩ (.slice Ao78 t876.length co78)).setCell ⟨gb889, 7, none⟩ (.slice Ao79 t879.length co79)).setCell ⟨gb889, 8, none⟩ (.slice Ao80 t882.length co80)).setCell ⟨gb889, 9, none⟩ (.slice Ao81 t885.length co81)) w.heap.size (fun _ => True) (.slice Ao69 t863.length co69) t863) := ⟨by (with_reducible repeat (first | apply Kd.R_alloc | apply Kd.R_drewN | apply Kd.R_drew)); exact Kd.R_mono (Kd.R_far (p := ⟨gb889, 9, none⟩) (Kd.R_far (p := ⟨gb889, 8, none⟩) (Kd.R_far (p := ⟨gb889, 7, none⟩) (Kd.R_far (p := ⟨gb889, 6, none⟩) (Kd.R_far (p := ⟨gb889, 5, none⟩) (Kd.R_far (p := ⟨gb889, 4, none⟩) (Kd.R_far (p := ⟨gb889, 3, none⟩) (Kd.R_far (p := ⟨gb889, 2, none⟩) (Kd.R_far (p := ⟨gb889, 1, none⟩) (Kd.R_far (p := ⟨gb889, 0, none⟩) (Kd.R_types HO865.out BK889.out (by decide)) (fun _ hk => hk.2) (.int .u16 t868)) (fun _ hk => hk.2) (.int .u8 t869)) (fun _ hk => hk.2) (.int .u8 t870)) (fun _ hk => hk.2) (.slice Ao77 t871.length co77)) (fun _ hk => hk.2) (.int .u16 t874)) (fun _ hk => hk.2) (.int .u32 t875)) (fun _ hk => hk.2) (.slice Ao78 t876.length co78)) (fun _ hk => hk.2) (.slice Ao79 t879.length co79)) (fun _ hk => hk.2) (.slice Ao80 t882.length co80)) (fun _ hk => hk.2) (.slice Ao81 t885.length co81)) (fun _ hk => trivial)⟩
        have n7_ : Aside0 (Kd.N k56 56 ((((((((((w72.setCell ⟨gb889, 0, none⟩ (.int .u16 t868)).setCell ⟨gb889, 1, none⟩ (.int .u8 t869)).setCell ⟨gb889, 2, none⟩ (.int .u8 t870)).setCell ⟨gb889, 3, none⟩ (.slice Ao77 t871.length co77)).setCell ⟨gb889, 4, none⟩ (.int .u16 t874)).setCell ⟨gb889, 5, none⟩ (.int .u32 t875)).setCell ⟨gb889, 6, none⟩ (.slice Ao78 t876.length co78)).setCell ⟨gb889, 7, none⟩ (.slice Ao79 t879.length co79)).setCell ⟨gb889, 8, none⟩ (.slice Ao80 t882.length co80)).setCell ⟨gb889, 9, none⟩ (.slice Ao81 t885.length co81)) w.heap.size (fun k_ => k_ ≠ gb889) (.slice Ao77 t871.length co77) t871) := ⟨by (with_reducible repeat (first | apply Kd.N_alloc | apply Kd.N_drewN | apply Kd.N_drew)); exact Kd.N_mono (Kd.N_far (p := ⟨gb889, 9, none⟩) (Kd.N_far (p := ⟨gb889, 8, none⟩) (Kd.N_far (p := ⟨gb889, 7, none⟩) (Kd.N_far (p := ⟨gb889, 6, none⟩) (Kd.N_far (p := ⟨gb889, 5, none⟩) (Kd.N_far (p := ⟨gb889, 4, none⟩) (Kd.N_far (p := ⟨gb889, 3, none⟩) (Kd.N_far (p := ⟨gb889, 2, none⟩) (Kd.N_far (p := ⟨gb889, 1, none⟩) (Kd.N_far (p := ⟨gb889, 0, none⟩) (Kd.N_mono HO873.out (fun k_ hk => (⟨hk, hk.2⟩ : _ ∧ k_ ≠ gb889))) (fun _ hk => hk.2) (.int .u16 t868)) (fun _ hk => hk.2) (.int .u8 t869)) (fun _ hk => hk.2) (.int .u8 t870)) (fun _ hk => hk.2) (.slice Ao77 t871.length co77)) (fun _ hk => hk.2) (.int .u16 t874)) (fun _ hk => hk.2) (.int .u32 t875)) (fun _ hk => hk.2) (.slice Ao78 t876.length co78)) (fun _ hk => hk.2) (.slice Ao79 t879.length co79)) (fun _ hk => hk.2) (.slice Ao80 t882.length co80)) (fun _ hk => hk.2) (.slice Ao81 t885.length co81)) (fun _ hk => hk.1.2)⟩
        have n8_ : Aside0 (Kd.V (Kd.int .u8) 5 ((((((((((w72.setCell ⟨gb889, 0, none⟩ (.int .u16 t868)).setCell ⟨gb889, 1, none⟩ (.int .u8 t869)).setCell ⟨gb889, 2, none⟩ (.int .u8 t870)).setCell ⟨gb889, 3, none⟩ (.slice Ao77 t871.length co77)).setCell ⟨gb889, 4, none⟩ (.int .u16 t874)).setCell ⟨gb889, 5, none⟩ (.int .u32 t875)).setCell ⟨gb889, 6, none⟩ (.slice Ao78 t876.length co78)).setCell ⟨gb889, 7, none⟩ (.slice Ao79 t879.length co79)).setCell ⟨gb889, 8, none⟩ (.slice Ao80 t882.length co80)).setCell ⟨gb889, 9, none⟩ (.slice Ao81 t885.length co81)) w.heap.size (fun k_ => k_ ≠ gb889) (.slice Ao78 t876.length co78) t876) := ⟨by (with_reducible repeat (first | apply Kd.V_alloc | apply Kd.V_drewN | apply Kd.V_drew)); exact Kd.V_mono (Kd.V_far (p := ⟨gb889, 9, none⟩) (Kd.V_far (p := ⟨gb889, 8, none⟩) (Kd.V_far (p := ⟨gb889, 7, none⟩) (Kd.V_far (p := ⟨gb889, 6, none⟩) (Kd.V_far (p := ⟨gb889, 5, none⟩) (Kd.V_far (p := ⟨gb889, 4, none⟩) (Kd.V_far (p := ⟨gb889, 3, none⟩) (Kd.V_far (p := ⟨gb889, 2, none⟩) (Kd.V_far (p := ⟨gb889, 1, none⟩) (Kd.V_far (p := ⟨gb889, 0, none⟩) (Kd.V_mono HO878.out (fun k_ hk => (⟨hk, hk.2⟩ : _ ∧ k_ ≠ gb889))) (fun _ hk => hk.2) (.int .u16 t868)) (fun _ hk => hk.2) (.int .u8 t869)) (fun _ hk => hk.2) (.int .u8 t870)) (fun _ hk => hk.2) (.slice Ao77 t871.length co77)) (fun _ hk => hk.2) (.int .u16 t874)) (fun _ hk => hk.2) (.int .u32 t875)) (fun _ hk => hk.2) (.slice Ao78 t876.length co78)) (fun _ hk => hk.2) (.slice Ao79 t879.length co79)) (fun _ hk => hk.2) (.slice Ao80 t882.length co80)) (fun _ hk => hk.2) (.slice Ao81 t885.length co81)) (fun _ hk => hk.1.2)⟩
        have n9_ : Aside0 (Kd.V (Kd.int .u8) 5 ((((((((((w72.setCell ⟨gb889, 0, none⟩ (.int .u16 t868)).setCell ⟨gb889, 1, none⟩ (.int .u8 t869)).setCell ⟨gb889, 2, none⟩ (.int .u8 t870)).setCell ⟨gb889, 3, none⟩ (.slice Ao77 t871.length co77)).setCell ⟨gb889, 4, none⟩ (.int .u16 t874)).setCell ⟨gb889, 5, none⟩ (.int .u32 t875)).setCell ⟨gb889, 6, none⟩ (.slice Ao78 t876.length co78)).setCell ⟨gb889, 7, none⟩ (.slice Ao79 t879.length co79)).setCell ⟨gb889, 8, none⟩ (.slice Ao80 t882.length co80)).setCell ⟨gb889, 9, none⟩ (.slice Ao81 t885.length co81)) w.heap.size (fun k_ => k_ ≠ gb889) (.slice Ao79 t879.length co79) t879) := ⟨by (with_reducible repeat (first | apply Kd.V_alloc | apply Kd.V_drewN | apply Kd.V_drew)); exact Kd.V_mono (Kd.V_far (p := ⟨gb889, 9, none⟩) (Kd.V_far (p := ⟨gb889, 8, none⟩) (Kd.V_far (p := ⟨gb889, 7, none⟩) (Kd.V_far (p := ⟨gb889, 6, none⟩) (Kd.V_far (p := ⟨gb889, 5, none⟩) (Kd.V_far (p := ⟨gb889, 4, none⟩) (Kd.V_far (p := ⟨gb889, 3, none⟩) (Kd.V_far (p := ⟨gb889, 2, none⟩) (Kd.V_far (p := ⟨gb889, 1, none⟩) (Kd.V_far (p := ⟨gb889, 0, none⟩) (Kd.V_mono HO881.out (fun k_ hk => (⟨hk, hk.2⟩ : _ ∧ k_ ≠ gb889))) (fun _ hk => hk.2) (.int .u16 t868)) (fun _ hk => hk.2) (.int .u8 t869)) (fun _ hk => hk.2) (.int .u8 t870)) (fun _ hk => hk.2) (.slice Ao77 t871.length co77)) (fun _ hk => hk.2) (.int .u16 t874)) (fun _ hk => hk.2) (.int .u32 t875)) (fun _ hk => hk.2) (.slice Ao78 t876.length co78)) (fun _ hk => hk.2) (.slice Ao79 t879.length co79)) (fun _ hk => hk.2) (.slice Ao80 t882.length co80)) (fun _ hk => hk.2) (.slice Ao81 t885.length co81)) (fun _ hk => hk.1.2)⟩
        have n10_ : Aside0 (Kd.V (Kd.int .u8) 5 ((((((((((w72.setCell ⟨gb889, 0, none⟩ (.int .u16 t868)).setCell ⟨gb889, 1, none⟩ (.int .u8 t869)).setCell ⟨gb889, 2, none⟩ (.int .u8 t870)).setCell ⟨gb889, 3, none⟩ (.slice Ao77 t871.length co77)).setCell ⟨gb889, 4, none⟩ (.int .u16 t874)).setCell ⟨gb889, 5, none⟩ (.int .u32 t875)).setCell ⟨gb889, 6, none⟩ (.slice Ao78 t876.length co78)).setCell ⟨gb889, 7, none⟩ (.slice Ao79 t879.length co79)).setCell ⟨gb889, 8, none⟩ (.slice Ao80 t882.length co80)).setCell ⟨gb889, 9, none⟩ (.slice Ao81 t885.length co81)) w.heap.size (fun k_ => k_ ≠ gb889) (.slice Ao80 t882.length co80) t882) := ⟨by (with_reducible repeat (first | apply Kd.V_alloc | apply Kd.V_drewN | apply Kd.V_drew)); exact Kd.V_mono (Kd.V_far (p := ⟨gb889, 9, none⟩) (Kd.V_far (p := ⟨gb889, 8, none⟩) (Kd.V_far (p := ⟨gb889, 7, none⟩) (Kd.V_far (p := ⟨gb889, 6, none⟩) (Kd.V_far (p := ⟨gb889, 5, none⟩) (Kd.V_far (p := ⟨gb889, 4, none⟩) (Kd.V_far (p := ⟨gb889, 3, none⟩) (Kd.V_far (p := ⟨gb889, 2, none⟩) (Kd.V_far (p := ⟨gb889, 1, none⟩) (Kd.V_far (p := ⟨gb889, 0, none⟩) (Kd.V_mono HO884.out (fun k_ hk => (⟨hk, hk.2⟩ : _ ∧ k_ ≠ gb889))) (fun _ hk => hk.2) (.int .u16 t868)) (fun _ hk => hk.2) (.int .u8 t869)) (fun _ hk => hk.2) (.int .u8 t870)) (fun _ hk => hk.2) (.slice Ao77 t871.length co77)) (fun _ hk => hk.2) (.int .u16 t874)) (fun _ hk => hk.2) (.int .u32 t875)) (fun _ hk => hk.2) (.slice Ao78 t876.length co78)) (fun _ hk => hk.2) (.slice Ao79 t879.length co79)) (fun _ hk => hk.2) (.slice Ao80 t882.length co80)) (fun _ hk => hk.2) (.slice Ao81 t885.length co81)) (fun _ hk => hk.1.2)⟩
        have n11_ : Aside0 (Kd.R (Kd.int .u32) 41 ((((((((((w72.setCell ⟨gb889, 0, none⟩ (.int .u16 t868)).setCell ⟨gb889, 1, none⟩ (.int .u8 t869)).setCell ⟨gb889, 2, none⟩ (.int .u8 t870)).setCell ⟨gb889, 3, none⟩ (.slice Ao77 t871.length co77)).setCell ⟨gb889, 4, none⟩ (.int .u16 t874)).setCell ⟨gb889, 5, none⟩ (.int .u32 t875)).setCell ⟨gb889, 6, none⟩ (.slice Ao78 t876.length co78)).setCell ⟨gb889, 7, none⟩ (.slice Ao79 t879.length co79)).setCell ⟨gb889, 8, none⟩ (.slice Ao80 t882.length co80)).setCell ⟨gb889, 9, none⟩ (.slice Ao81 t885.length co81)) w.heap.size (fun _ => True) (.slice Ao81 t885.length co81) t885) := ⟨by (with_reducible repeat (first | apply Kd.R_alloc | apply Kd.R_drewN | apply Kd.R_drew)); exact Kd.R_mono (Kd.R_far (p := ⟨gb889, 9, none⟩) (Kd.R_far (p := ⟨gb889, 8, none⟩) (Kd.R_far (p := ⟨gb889, 7, none⟩) (Kd.R_far (p := ⟨gb889, 6, none⟩) (Kd.R_far (p := ⟨gb889, 5, none⟩) (Kd.R_far (p := ⟨gb889, 4, none⟩) (Kd.R_far (p := ⟨gb889, 3, none⟩) (Kd.R_far (p := ⟨gb889, 2, none⟩) (Kd.R_far (p := ⟨gb889, 1, none⟩) (Kd.R_far (p := ⟨gb889, 0, none⟩) (Kd.R_types HO887.out BK889.out (by decide)) (fun _ hk => hk.2) (.int .u16 t868)) (fun _ hk => hk.2) (.int .u8 t869)) (fun _ hk => hk.2) (.int .u8 t870)) (fun _ hk => hk.2) (.slice Ao77 t871.length co77)) (fun _ hk => hk.2) (.int .u16 t874)) (fun _ hk => hk.2) (.int .u32 t875)) (fun _ hk => hk.2) (.slice Ao78 t876.length co78)) (fun _ hk => hk.2) (.slice Ao79 t879.length co79)) (fun _ hk => hk.2) (.slice Ao80 t882.length co80)) (fun _ hk => hk.2) (.slice Ao81 t885.length co81)) (fun _ hk => trivial)⟩
        have n12_ : Aside0 (((((((((((w72.setCell ⟨gb889, 0, none⟩ (.int .u16 t868)).setCell ⟨gb889, 1, none⟩ (.int .u8 t869)).setCell ⟨gb889, 2, none⟩ (.int .u8 t870)).setCell ⟨gb889, 3, none⟩ (.slice Ao77 t871.length co77)).setCell ⟨gb889, 4, none⟩ (.int .u16 t874)).setCell ⟨gb889, 5, none⟩ (.int .u32 t875)).setCell ⟨gb889, 6, none⟩ (.slice Ao78 t876.length co78)).setCell ⟨gb889, 7, none⟩ (.slice Ao79 t879.length co79)).setCell ⟨gb889, 8, none⟩ (.slice Ao80 t882.length co80)).setCell ⟨gb889, 9, none⟩ (.slice Ao81 t885.length co81)).heap[gb812]? = some (.cells #[.int .u16 a0_0, .int .u8 a0_1, .int .u8 a0_2, .slice A0_3 l0_3.length c0_3, .int .u16 a0_4, .int .u32 a0_5, .slice A0_6 l0_6.length c0_6, .slice A0_7 l0_7.length c0_7, .slice A0_8 l0_8.length c0_8, .slice A0_9 l0_9.length c0_9] 44 (0, 0))) := ⟨by (with_reducible repeat (first | refine blk_drewN ?_ _ | refine blk_drew ?_ | refine blk_alloc ?_ _)); refine blk_far ?_ NB812_889.out _; (with_reducible repeat (first | refine blk_drewN ?_ _ | refine blk_drew ?_ | refine blk_alloc ?_ _)); refine blk_far ?_ NB812_889.out _; (with_reducible repeat (first | refine blk_drewN ?_ _ | refine blk_drew ?_ | refine blk_alloc ?_ _)); refine blk_far ?_ NB812_889.out _; (with_reducible repeat (first | refine blk_drewN ?_ _ | refine blk_drew ?_ | refine blk_alloc ?_ _)); refine blk_far ?_ NB812_889.out _; (with_reducible repeat (first | refine blk_drewN ?_ _ | refine blk_drew ?_ | refine blk_alloc ?_ _)); refine blk_far ?_ NB812_889.out _; (with_reducible repeat (first | refine blk_drewN ?_ _ | refine blk_drew ?_ | refine blk_alloc ?_ _)); refine blk_far ?_ NB812_889.out _; (with_reducible repeat (first | refine blk_drewN ?_ _ | refine blk_drew ?_ | refine blk_alloc ?_ _)); refine blk_far ?_ NB812_889.out _; (with_reducible repeat (first | refine blk_drewN ?_ _ | refine blk_drew ?_ | refine blk_alloc ?_ _)); refine blk_far ?_ NB812_889.out _; (with_reducible repeat (first | refine blk_drewN ?_ _ | refine blk_drew ?_ | refine blk_alloc ?_ _)); refine blk_far ?_ NB812_889.out _; (with_reducible repeat (first | refine blk_drewN ?_ _ | refine blk_drew ?_ | refine blk_alloc ?_ _)); refine blk_far ?_ NB812_889.out _; (with_reducible repeat (first | refine blk_drewN ?_ _ | refine blk_drew ?_ | refine blk_alloc ?_ _)); exact BK812.out⟩
        have n13_ : Aside0 (((((((((((w72.setCell ⟨gb889, 0, none⟩ (.int .u16 t868)).setCell ⟨gb889, 1, none⟩ (.int .u8 t869)).setCell ⟨gb889, 2, none⟩ (.int .u8 t870)).setCell ⟨gb889, 3, none⟩ (.slice Ao77 t871.length co77)).setCell ⟨gb889, 4, none⟩ (.int .u16 t874)).setCell ⟨gb889, 5, none⟩ (.int .u32 t875)).setCell ⟨gb889, 6, none⟩ (.slice Ao78 t876.length co78)).setCell ⟨gb889, 7, none⟩ (.slice Ao79 t879.length co79)).setCell ⟨gb889, 8, none⟩ (.slice Ao80 t882.length co80)).setCell ⟨gb889, 9, none⟩ (.slice Ao81 t885.length co81)).heap[gb813]? = some (.cells #[.int .u16 a1_0, .int .u8 a1_1, .int .u8 a1_2, .slice A1_3 l1_3.length c1_3, .int .u16 a1_4, .int .u32 a1_5, .slice A1_6 l1_6.length c1_6, .slice A1_7 l1_7.length c1_7, .slice A1_8 l1_8.length c1_8, .slice A1_9 l1_9.length c1_9] 44 (0, 0))) := ⟨by (with_reducible repeat (first | refine blk_drewN ?_ _ | refine blk_drew ?_ | refine blk_alloc ?_ _)); refine blk_far ?_ NB813_889.out _; (with_reducible repeat (first | refine blk_drewN ?_ _ | refine blk_drew ?_ | refine blk_alloc ?_ _)); refine blk_far ?_ NB813_889.out _; (with_reducible repeat (first | refine blk_drewN ?_ _ | refine blk_drew ?_ | refine blk_alloc ?_ _)); refine blk_far ?_ NB813_889.out _; (with_reducible repeat (first | refine blk_drewN ?_ _ | refine blk_drew ?_ | refine blk_alloc ?_ _)); refine blk_far ?_ NB813_889.out _; (with_reducible repeat (first | refine blk_drewN ?_ _ | refine blk_drew ?_ | refine blk_alloc ?_ _)); refine blk_far ?_ NB813_889.out _; (with_reducible repeat (first | refine blk_drewN ?_ _ | refine blk_drew ?_ | refine blk_alloc ?_ _)); refine blk_far ?_ NB813_889.out _; (with_reducible repeat (first | refine blk_drewN ?_ _ | refine blk_drew ?_ | refine blk_alloc ?_ _)); refine blk_far ?_ NB813_889.out _; (with_reducible repeat (first | refine blk_drewN ?_ _ | refine blk_drew ?_ | refine blk_alloc ?_ _)); refine blk_far ?_ NB813_889.out _; (with_reducible repeat (first | refine blk_drewN ?_ _ | refine blk_drew ?_ | refine blk_alloc ?_ _)); refine blk_far ?_ NB813_889.out _; (with_reducible repeat (first | refine blk_drewN ?_ _ | refine blk_drew ?_ | refine blk_alloc ?_ _)); refine blk_far ?_ NB813_889.out _; (with_reducible repeat (first | refine blk_drewN ?_ _ | refine blk_drew ?_ | refine blk_alloc ?_ _)); exact BK813.out⟩
        have n14_ : Aside0 (((((((((((w72.setCell ⟨gb889, 0, none⟩ (.int .u16 t868)).setCell ⟨gb889, 1, none⟩ (.int .u8 t869)).setCell ⟨gb889, 2, none⟩ (.int .u8 t870)).setCell ⟨gb889, 3, none⟩ (.slice Ao77 t871.length co77)).setCell ⟨gb889, 4, none⟩ (.int .u16 t874)).setCell ⟨gb889, 5, none⟩ (.int .u32 t875)).setCell ⟨gb889, 6, none⟩ (.slice Ao78 t876.length co78)).setCell ⟨gb889, 7, none⟩ (.slice Ao79 t879.length co79)).setCell ⟨gb889, 8, none⟩ (.slice Ao80 t882.length co80)).setCell ⟨gb889, 9, none⟩ (.slice Ao81 t885.length co81)).heap[gb867]? = some (.cells #[.int .u16 t846, .int .u8 t847, .int .u8 t848, .slice Ao65 t849.length co65, .int .u16 t852, .int .u32 t853, .slice Ao66 t854.length co66, .slice Ao67 t857.length co67, .slice Ao68 t860.length co68, .slice Ao69 t863.length co69] 47 (0, 0))) := ⟨by (with_reducible repeat (first | refine blk_drewN ?_ _ | refine blk_drew ?_ | refine blk_alloc ?_ _)); refine blk_far ?_ NB867_889.out _; (with_reducible repeat (first | refine blk_drewN ?_ _ | refine blk_drew ?_ | refine blk_alloc ?_ _)); refine blk_far ?_ NB867_889.out _; (with_reducible repeat (first | refine blk_drewN ?_ _ | refine blk_drew ?_ | refine blk_alloc ?_ _)); refine blk_far ?_ NB867_889.out _; (with_reducible repeat (first | refine blk_drewN ?_ _ | refine blk_drew ?_ | refine blk_alloc ?_ _)); refine blk_far ?_ NB867_889.out _; (with_reducible repeat (first | refine blk_drewN ?_ _ | refine blk_drew ?_ | refine blk_alloc ?_ _)); refine blk_far ?_ NB867_889.out _; (with_reducible repeat (first | refine blk_drewN ?_ _ | refine blk_drew ?_ | refine blk_alloc ?_ _)); refine blk_far ?_ NB867_889.out _; (with_reducible repeat (first | refine blk_drewN ?_ _ | refine blk_drew ?_ | refine blk_alloc ?_ _)); refine blk_far ?_ NB867_889.out _; (with_reducible repeat (first | refine blk_drewN ?_ _ | refine blk_drew ?_ | refine blk_alloc ?_ _)); refine blk_far ?_ NB867_889.out _; (with_reducible repeat (first | refine blk_drewN ?_ _ | refine blk_drew ?_ | refine blk_alloc ?_ _)); refine blk_far ?_ NB867_889.out _; (with_reducible repeat (first | refine blk_drewN ?_ _ | refine blk_drew ?_ | refine blk_alloc ?_ _)); refine blk_far ?_ NB867_889.out _; (with_reducible repeat (first | refine blk_drewN ?_ _ | refine blk_drew ?_ | refine blk_alloc ?_ _)); exact BK867.out⟩
        have n15_ : Aside0 (((((((((((w72.setCell ⟨gb889, 0, none⟩ (.int .u16 t868)).setCell ⟨gb889, 1, none⟩ (.int .u8 t869)).setCell ⟨gb889, 2, none⟩ (.int .u8 t870)).setCell ⟨gb889, 3, none⟩ (.slice Ao77 t871.length co77)).setCell ⟨gb889, 4, none⟩ (.int .u16 t874)).setCell ⟨gb889, 5, none⟩ (.int .u32 t875)).setCell ⟨gb889, 6, none⟩ (.slice Ao78 t876.length co78)).setCell ⟨gb889, 7, none⟩ (.slice Ao79 t879.length co79)).setCell ⟨gb889, 8, none⟩ (.slice Ao80 t882.length co80)).setCell ⟨gb889, 9, none⟩ (.slice Ao81 t885.length co81)).heap[gb889]? = some (.cells #[.int .u16 t868, .int .u8 t869, .int .u8 t870, .slice Ao77 t871.length co77, .int .u16 t874, .int .u32 t875, .slice Ao78 t876.length co78, .slice Ao79 t879.length co79, .slice Ao80 t882.length co80, .slice Ao81 t885.length co81] 44 (0, 0))) := ⟨by (with_reducible repeat (first | refine blk_drewN ?_ _ | refine blk_drew ?_ | refine blk_alloc ?_ _)); refine blk_put (cs := #[.int .u16 t868, .int .u8 t869, .int .u8 t870, .slice Ao77 t871.length co77, .int .u16 t874, .int .u32 t875, .slice Ao78 t876.length co78, .slice Ao79 t879.length co79, .slice Ao80 t882.length co80, .slice none 0 0]) ?_ 9 _ rfl; (with_reducible repeat (first | refine blk_drewN ?_ _ | refine blk_drew ?_ | refine blk_alloc ?_ _)); refine blk_put (cs := #[.int .u16 t868, .int .u8 t869, .int .u8 t870, .slice Ao77 t871.length co77, .int .u16 t874, .int .u32 t875, .slice Ao78 t876.length co78, .slice Ao79 t879.length co79, .slice none 0 0, .slice none 0 0]) ?_ 8 _ rfl; (with_reducible repeat (first | refine blk_drewN ?_ _ | refine blk_drew ?_ | refine blk_alloc ?_ _)); refine blk_put (cs := #[.int .u16 t868, .int .u8 t869, .int .u8 t870, .slice Ao77 t871.length co77, .int .u16 t874, .int .u32 t875, .slice Ao78 t876.length co78, .slice none 0 0, .slice none 0 0, .slice none 0 0]) ?_ 7 _ rfl; (with_reducible repeat (first | refine blk_drewN ?_ _ | refine blk_drew ?_ | refine blk_alloc ?_ _)); refine blk_put (cs := #[.int .u16 t868, .int .u8 t869, .int .u8 t870, .slice Ao77 t871.length co77, .int .u16 t874, .int .u32 t875, .slice none 0 0, .slice none 0 0, .slice none 0 0, .slice none 0 0]) ?_ 6 _ rfl; (with_reducible repeat (first | refine blk_drewN ?_ _ | refine blk_drew ?_ | refine blk_alloc ?_ _)); refine blk_put (cs := #[.int .u16 t868, .int .u8 t869, .int .u8 t870, .slice Ao77 t871.length co77, .int .u16 t874, .int .u32 0, .slice none 0 0, .slice none 0 0, .slice none 0 0, .slice none 0 0]) ?_ 5 _ rfl; (with_reducible repeat (first | refine blk_drewN ?_ _ | refine blk_drew ?_ | refine blk_alloc ?_ _)); refine blk_put (cs := #[.int .u16 t868, .int .u8 t869, .int .u8 t870, .slice Ao77 t871.length co77, .int .u16 0, .int .u32 0, .slice none 0 0, .slice none 0 0, .slice none 0 0, .slice none 0 0]) ?_ 4 _ rfl; (with_reducible repeat (first | refine blk_drewN ?_ _ | refine blk_drew ?_ | refine blk_alloc ?_ _)); refine blk_put (cs := #[.int .u16 t868, .int .u8 t869, .int .u8 t870, .slice none 0 0, .int .u16 0, .int .u32 0, .slice none 0 0, .slice none 0 0, .slice none 0 0, .slice none 0 0]) ?_ 3 _ rfl; (with_reducible repeat (first | refine blk_drewN ?_ _ | refine blk_drew ?_ | refine blk_alloc ?_ _)); refine blk_put (cs := #[.int .u16 t868, .int .u8 t869, .int .u8 0, .slice none 0 0, .int .u16 0, .int .u32 0, .slice none 0 0, .slice none 0 0, .slice none 0 0, .slice none 0 0]) ?_ 2 _ rfl; (with_reducible repeat (first | refine blk_drewN ?_ _ | refine blk_drew ?_ | refine blk_alloc ?_ _)); refine blk_put (cs := #[.int .u16 t868, .int .u8 0, .int .u8 0, .slice none 0 0, .int .u16 0, .int .u32 0, .slice none 0 0, .slice none 0 0, .slice none 0 0, .slice none 0 0]) ?_ 1 _ rfl; (with_reducible repeat (first | refine blk_drewN ?_ _ | refine blk_drew ?_ | refine blk_alloc ?_ _)); refine blk_put (cs := #[.int .u16 0, .int .u8 0, .int .u8 0, .slice none 0 0, .int .u16 0, .int .u32 0, .slice none 0 0, .slice none 0 0, .slice none 0 0, .slice none 0 0]) ?_ 0 _ rfl; (with_reducible repeat (first | refine blk_drewN ?_ _ | refine blk_drew ?_ | refine blk_alloc ?_ _)); exact BK889.out⟩
        have n16_ : Aside0 (Below w.heap.size w ((((((((((w72.setCell ⟨gb889, 0, none⟩ (.int .u16 t868)).setCell ⟨gb889, 1, none⟩ (.int .u8 t869)).setCell ⟨gb889, 2, none⟩ (.int .u8 t870)).setCell ⟨gb889, 3, none⟩ (.slice Ao77 t871.length co77)).setCell ⟨gb889, 4, none⟩ (.int .u16 t874)).setCell ⟨gb889, 5, none⟩ (.int .u32 t875)).setCell ⟨gb889, 6, none⟩ (.slice Ao78 t876.length co78)).setCell ⟨gb889, 7, none⟩ (.slice Ao79 t879.length co79)).setCell ⟨gb889, 8, none⟩ (.slice Ao80 t882.length co80)).setCell ⟨gb889, 9, none⟩ (.slice Ao81 t885.length co81))) := ⟨by repeat (first | (with_reducible first | exact HB.out | apply below_alloc | apply pw_below_drewN | apply below_drew1 | refine below_set ?_ GE812.out | refine below_set ?_ GE813.out | refine below_set ?_ GE867.out | refine below_set ?_ GE889.out) | exact HB.out)⟩
        (try clear HO840)
        (try clear HO844)
        (try clear HO851)
        (try clear HO856)
        (try clear HO859)
        (try clear HO862)
        (try clear HO865)
        (try clear HO873)
        (try clear HO878)
        (try clear HO881)
        (try clear HO884)
        (try clear HO887)
        (try clear BK812)
        (try clear BK813)
        (try clear BK867)
        (try clear BK889)
        (try clear HB)
        generalize ((((((((((w72.setCell ⟨gb889, 0, none⟩ (.int .u16 t868)).setCell ⟨gb889, 1, none⟩ (.int .u8 t869)).setCell ⟨gb889, 2, none⟩ (.int .u8 t870)).setCell ⟨gb889, 3, none⟩ (.slice Ao77 t871.length co77)).setCell ⟨gb889, 4, none⟩ (.int .u16 t874)).setCell ⟨gb889, 5, none⟩ (.int .u32 t875)).setCell ⟨gb889, 6, none⟩ (.slice Ao78 t876.length co78)).setCell ⟨gb889, 7, none⟩ (.slice Ao79 t879.length co79)).setCell ⟨gb889, 8, none⟩ (.slice Ao80 t882.length co80)).setCell ⟨gb889, 9, none⟩ (.slice Ao81 t885.length co81)) = w82 at n0_ n1_ n2_ n3_ n4_ n5_ n6_ n7_ n8_ n9_ n10_ n11_ n12_ n13_ n14_ n15_ n16_ ⊢
        have HO840 := n0_
        have HO844 := n1_
        have HO851 := n2_
        have HO856 := n3_
        have HO859 := n4_
        have HO862 := n5_
        have HO865 := n6_
        have HO873 := n7_
        have HO878 := n8_
        have HO881 := n9_
        have HO884 := n10_
        have HO887 := n11_
        have BK812 := n12_
        have BK813 := n13_
        have BK867 := n14_
        have BK889 := n15_
        have HB := n16_
        clear n0_ n1_ n2_ n3_ n4_ n5_ n6_ n7_ n8_ n9_ n10_ n11_ n12_ n13_ n14_ n15_ n16_
        have n0_ := Aside0.mk (Kd.R_drew HO840.out)
        have n1_ := Aside0.mk (Kd.R_drew HO844.out)
        have n2_ := Aside0.mk (Kd.N_drew HO851.out)
        have n3_ := Aside0.mk (Kd.R_drew HO856.out)
        have n4_ := Aside0.mk (Kd.R_drew HO859.out)
        have n5_ := Aside0.mk (Kd.R_drew HO862.out)
        have n6_ := Aside0.mk (Kd.R_drew HO865.out)
        have n7_ := Aside0.mk (Kd.N_drew HO873.out)
        have n8_ := Aside0.mk (Kd.V_drew HO878.out)
        have n9_ := Aside0.mk (Kd.V_drew HO881.out)
        have n10_ := Aside0.mk (Kd.V_drew HO884.out)
        have n11_ := Aside0.mk (Kd.R_drew HO887.out)
        have n12_ := Aside0.mk (blk_drew BK812.out)
        have n13_ := Aside0.mk (blk_drew BK813.out)
        have n14_ := Aside0.mk (blk_drew BK867.out)
        have n15_ := Aside0.mk (blk_drew BK889.out)
        have n16_ := Aside0.mk (below_drew1 HB.out)
        clear HO840
        clear HO844
        clear HO851
        clear HO856
        clear HO859
        clear HO862
        clear HO865
        clear HO873
        clear HO878
        clear HO881
        clear HO884
        clear HO887
        clear BK812
        clear BK813
        clear BK867
        clear BK889
        clear HB
        have HO840 := n0_
        have HO844 := n1_
        have HO851 := n2_
        have HO856 := n3_
        have HO859 := n4_
        have HO862 := n5_
        have HO865 := n6_
        have HO873 := n7_
        have HO878 := n8_
        have HO881 := n9_
        have HO884 := n10_
        have HO887 := n11_
        have BK812 := n12_
        have BK813 := n13_
        have BK867 := n14_
        have BK889 := n15_
        have HB := n16_
        clear n0_ n1_ n2_ n3_ n4_ n5_ n6_ n7_ n8_ n9_ n10_ n11_ n12_ n13_ n14_ n15_ n16_
        obtain ⟨Ao84, co84, eo84⟩ := Kd.R_slice HO840.out
        (first | subst eo84 | (injection eo84 with f1_ f2_ f3_; have f4_ := f1_.symm; have f5_ := f3_.symm; clear f1_ f2_ f3_; subst f4_; subst f5_))
        obtain ⟨Ao85, co85, eo85⟩ := Kd.R_slice HO844.out
        (first | subst eo85 | (injection eo85 with f1_ f2_ f3_; have f4_ := f1_.symm; have f5_ := f3_.symm; clear f1_ f2_ f3_; subst f4_; subst f5_))
        refine start_ (n := 31) (S := fun w' => w'.cell? ⟨gb867, 0, none⟩ = some (.int .u16 t846) ∧ w'.cell? ⟨gb867, 1, none⟩ = some (.int .u8 t847) ∧ w'.cell? ⟨gb867, 2, none⟩ = some (.int .u8 t848) ∧ w'.cell? ⟨gb867, 3, none⟩ = some (.slice Ao65 t849.length co65) ∧ w'.cell? ⟨gb867, 4, none⟩ = some (.int .u16 t852) ∧ w'.cell? ⟨gb867, 5, none⟩ = some (.int .u32 t853) ∧ w'.cell? ⟨gb867, 6, none⟩ = some (.slice Ao66 t854.length co66) ∧ w'.cell? ⟨gb867, 7, none⟩ = some (.slice Ao67 t857.length co67) ∧ w'.cell? ⟨gb867, 8, none⟩ = some (.slice Ao68 t860.length co68) ∧ w'.cell? ⟨gb867, 9, none⟩ = some (.slice Ao69 t863.length co69) ∧ w'.cell? ⟨gb889, 0, none⟩ = some (.int .u16 t868) ∧ w'.cell? ⟨gb889, 1, none⟩ = some (.int .u8 t869) ∧ w'.cell? ⟨gb889, 2, none⟩ = some (.int .u8 t870) ∧ w'.cell? ⟨gb889, 3, none⟩ = some (.slice Ao77 t871.length co77) ∧ w'.cell? ⟨gb889, 4, none⟩ = some (.int .u16 t874) ∧ w'.cell? ⟨gb889, 5, none⟩ = some (.int .u32 t875) ∧ w'.cell? ⟨gb889, 6, none⟩ = some (.slice Ao78 t876.length co78) ∧ w'.cell? ⟨gb889, 7, none⟩ = some (.slice Ao79 t879.length co79) ∧ w'.cell? ⟨gb889, 8, none⟩ = some (.slice Ao80 t882.length co80) ∧ w'.cell? ⟨gb889, 9, none⟩ = some (.slice Ao81 t885.length co81) ∧ w'.cell? ⟨gb812, 0, none⟩ = some (.int .u16 a0_0) ∧ w'.cell? ⟨gb812, 1, none⟩ = some (.int .u8 a0_1) ∧ w'.cell? ⟨gb812, 2, none⟩ = some (.int .u8 a0_2) ∧ w'.cell? ⟨gb812, 3, none⟩ = some (.slice A0_3 l0_3.length c0_3) ∧ w'.cell? ⟨gb812, 4, none⟩ = some (.int .u16 a0_4) ∧ w'.cell? ⟨gb812, 5, none⟩ = some (.int .u32 a0_5) ∧ w'.cell? ⟨gb812, 6, none⟩ = some (.slice A0_6 l0_6.length c0_6) ∧ w'.cell? ⟨gb812, 7, none⟩ = some (.slice A0_7 l0_7.length c0_7) ∧ w'.cell? ⟨gb812, 8, none⟩ = some (.slice A0_8 l0_8.length c0_8) ∧ w'.cell? ⟨gb812, 9, none⟩ = some (.slice A0_9 l0_9.length c0_9) ∧ w'.cell? ⟨gb813, 0, none⟩ = some (.int .u16 a1_0) ∧ w'.cell? ⟨gb813, 1, none⟩ = some (.int .u8 a1_1) ∧ w'.cell? ⟨gb813, 2, none⟩ = some (.int .u8 a1_2) ∧ w'.cell? ⟨gb813, 3, none⟩ = some (.slice A1_3 l1_3.length c1_3) ∧ w'.cell? ⟨gb813, 4, none⟩ = some (.int .u16 a1_4) ∧ w'.cell? ⟨gb813, 5, none⟩ = some (.int .u32 a1_5) ∧ w'.cell? ⟨gb813, 6, none⟩ = some (.slice A1_6 l1_6.length c1_6) ∧ w'.cell? ⟨gb813, 7, none⟩ = some (.slice A1_7 l1_7.length c1_7) ∧ w'.cell? ⟨gb813, 8, none⟩ = some (.slice A1_8 l1_8.length c1_8) ∧ w'.cell? ⟨gb813, 9, none⟩ = some (.slice A1_9 l1_9.length c1_9)) (ds := []) #[false, false, false, false, false, false, false, false, false, false, false, false, false, false, false, false, false, false, false, false, false, false, false, false, false, false, false, false, false, false, false] (by kernel_rfl) rfl rfl ⟨(blk_cell BK867.out 0).trans rfl, (blk_cell BK867.out 1).trans rfl, (blk_cell BK867.out 2).trans rfl, (blk_cell BK867.out 3).trans rfl, (blk_cell BK867.out 4).trans rfl, (blk_cell BK867.out 5).trans rfl, (blk_cell BK867.out 6).trans rfl, (blk_cell BK867.out 7).trans rfl, (blk_cell BK867.out 8).trans rfl, (blk_cell BK867.out 9).trans rfl, (blk_cell BK889.out 0).trans rfl, (blk_cell BK889.out 1).trans rfl, (blk_cell BK889.out 2).trans rfl, (blk_cell BK889.out 3).trans rfl, (blk_cell BK889.out 4).trans rfl, (blk_cell BK889.out 5).trans rfl, (blk_cell BK889.out 6).trans rfl, (blk_cell BK889.out 7).trans rfl, (blk_cell BK889.out 8).trans rfl, (blk_cell BK889.out 9).trans rfl, (blk_cell BK812.out 0).trans rfl, (blk_cell BK812.out 1).trans rfl, (blk_cell BK812.out 2).trans rfl, (blk_cell BK812.out 3).trans rfl, (blk_cell BK812.out 4).trans rfl, (blk_cell BK812.out 5).trans rfl, (blk_cell BK812.out 6).trans rfl, (blk_cell BK812.out 7).trans rfl, (blk_cell BK812.out 8).trans rfl, (blk_cell BK812.out 9).trans rfl, (blk_cell BK813.out 0).trans rfl, (blk_cell BK813.out 1).trans rfl, (blk_cell BK813.out 2).trans rfl, (blk_cell BK813.out 3).trans rfl, (blk_cell BK813.out 4).trans rfl, (blk_cell BK813.out 5).trans rfl, (blk_cell BK813.out 6).trans rfl, (blk_cell BK813.out 7).trans rfl, (blk_cell BK813.out 8).trans rfl, (blk_cell BK813.out 9).trans rfl⟩ (fun hHeld => ?_); refine with_tabW marlinelaw18_ChapTells.tab7 marlinelaw18_ChapTells.bits7 (fun HT_ HW_ => ?_)
        generalize w82.drew = w83 at HO840 HO844 HO851 HO856 HO859 HO862 HO865 HO873 HO878 HO881 HO884 HO887 BK812 BK813 BK867 BK889 HB hHeld ⊢
        refine pure_ (i := 0) (N := some 54) (v := ?_) (a' := ?_) #[true, false, false, false, false, false, false, false, false, false, false, false, false, false, false, false, false, false, false, false, false, false, false, false, false, false, false, false, false, false, false] rfl rfl (any_of HT_.out (by kernel_rfl)) (fun _ _ _ h => h) (Or.inl ⟨by rfl, ?_⟩) ?_ ?_
        rotate_left
        ·intro w'
         go_simp
         with_reducible rfl
        rotate_left
        ·simp only [Act.put, List.setIfInBounds_toArray, List.set_cons_zero, List.set_cons_succ, i64_w, i32_w]
         rfl
        refine pure_ (i := 1) (N := some 55) (v := ?_) (a' := ?_) #[true, true, false, false, false, false, false, false, false, false, false, false, false, false, false, false, false, false, false, false, false, false, false, false, false, false, false, false, false, false, false] rfl rfl (any_of HT_.out (by kernel_rfl)) (fun _ _ _ h => h) (Or.inl ⟨by rfl, ?_⟩) ?_ ?_
        rotate_left
        ·intro w'
         go_simp
         with_reducible rfl
        rotate_left
        ·simp only [Act.put, List.setIfInBounds_toArray, List.set_cons_zero, List.set_cons_succ, i64_w, i32_w]
         rfl
        refine pure_ (i := 2) (N := some 56) (v := ?_) (a' := ?_) #[true, true, true, false, false, false, false, false, false, false, false, false, false, false, false, false, false, false, false, false, false, false, false, false, false, false, false, false, false, false, false] rfl rfl (any_of HT_.out (by kernel_rfl)) (fun _ _ _ h => h) (Or.inl ⟨by rfl, ?_⟩) ?_ ?_
        rotate_left
        ·intro w'
         go_simp
         with_reducible rfl
        rotate_left
        ·simp only [Act.put, List.setIfInBounds_toArray, List.set_cons_zero, List.set_cons_succ, i64_w, i32_w]
         rfl
        refine pure_ (i := 3) (N := some 57) (v := ?_) (a' := ?_) #[true, true, true, true, false, false, false, false, false, false, false, false, false, false, false, false, false, false, false, false, false, false, false, false, false, false, false, false, false, false, false] rfl rfl (any_of HT_.out (by kernel_rfl)) (fun _ _ _ h => h) (Or.inl ⟨by rfl, ?_⟩) ?_ ?_
        rotate_left
        ·intro w'
         go_simp
         with_reducible rfl
        rotate_left
        ·simp only [Act.put, List.setIfInBounds_toArray, List.set_cons_zero, List.set_cons_succ, i64_w, i32_w]
         rfl
        refine pure_ (i := 4) (N := some 58) (v := ?_) (a' := ?_) #[true, true, true, true, true, false, false, false, false, false, false, false, false, false, false, false, false, false, false, false, false, false, false, false, false, false, false, false, false, false, false] rfl rfl (any_of HT_.out (by kernel_rfl)) (fun _ _ _ h => h) (Or.inl ⟨by rfl, ?_⟩) ?_ ?_
        rotate_left
        ·intro w'
         go_simp
         with_reducible rfl
        rotate_left
        ·simp only [Act.put, List.setIfInBounds_toArray, List.set_cons_zero, List.set_cons_succ, i64_w, i32_w]
         rfl
        refine pure_ (i := 5) (N := some 59) (v := ?_) (a' := ?_) #[true, true, true, true, true, true, false, false, false, false, false, false, false, false, false, false, false, false, false, false, false, false, false, false, false, false, false, false, false, false, false] rfl rfl (any_of HT_.out (by kernel_rfl)) (fun _ _ _ h => h) (Or.inl ⟨by rfl, ?_⟩) ?_ ?_
        rotate_left
        ·intro w'
         go_simp
         with_reducible rfl
        rotate_left
        ·simp only [Act.put, List.setIfInBounds_toArray, List.set_cons_zero, List.set_cons_succ, i64_w, i32_w]
         rfl
        refine one_ (i := 6) (N := some 60) #[true, true, true, true, true, true, true, false, false, false, false, false, false, false, false, false, false, false, false, false, false, false, false, false, false, false, false, false, false, false, false] rfl rfl (one_of HT_.out (by kernel_rfl)) (by decide) (fun K hK => ?_)
        refine goes_ Try.func22 (by kernel_rfl) rfl #[.slice Ao84 t838.length co84, .slice Ao85 t842.length co85] (by rfl) rfl rfl (by (try simp only [List.map_toArray, List.map_cons, List.map_nil]); first | done | rfl | (simp only [List.length_drop, List.length_take]; rfl)) ?_
        with_reducible refine (marlineref01_Equal.calls kj3 _ _ t838 _ _ t842 true _ ?side1 ?side2 ?side3 ?side4 A39.out).mono ?_
        (case side1 => repeat (first | exact (Kd.R_reads' HO840.out).2.2 | (with_reducible refine Kd.C_alloc ?_ _) | (with_reducible refine Kd.C_drewN ?_ _) | (with_reducible refine Kd.C_drew ?_)))
        (case side2 => exact (Kd.R_reads' HO840.out).2.1)
        (case side3 => repeat (first | exact (Kd.R_reads' HO844.out).2.2 | (with_reducible refine Kd.C_alloc ?_ _) | (with_reducible refine Kd.C_drewN ?_ _) | (with_reducible refine Kd.C_drew ?_)))
        (case side4 => exact (Kd.R_reads' HO844.out).2.1)
        rintro e w' ⟨rfl, ⟨nd, rfl⟩⟩
        refine ⟨_, rfl, ?_⟩
        refine hK.out _ _ ⟨(blk_cell BK867.out 0).trans rfl, (blk_cell BK867.out 1).trans rfl, (blk_cell BK867.out 2).trans rfl, (blk_cell BK867.out 3).trans rfl, (blk_cell BK867.out 4).trans rfl, (blk_cell BK867.out 5).trans rfl, (blk_cell BK867.out 6).trans rfl, (blk_cell BK867.out 7).trans rfl, (blk_cell BK867.out 8).trans rfl, (blk_cell BK867.out 9).trans rfl, (blk_cell BK889.out 0).trans rfl, (blk_cell BK889.out 1).trans rfl, (blk_cell BK889.out 2).trans rfl, (blk_cell BK889.out 3).trans rfl, (blk_cell BK889.out 4).trans rfl, (blk_cell BK889.out 5).trans rfl, (blk_cell BK889.out 6).trans rfl, (blk_cell BK889.out 7).trans rfl, (blk_cell BK889.out 8).trans rfl, (blk_cell BK889.out 9).trans rfl, (blk_cell BK812.out 0).trans rfl, (blk_cell BK812.out 1).trans rfl, (blk_cell BK812.out 2).trans rfl, (blk_cell BK812.out 3).trans rfl, (blk_cell BK812.out 4).trans rfl, (blk_cell BK812.out 5).trans rfl, (blk_cell BK812.out 6).trans rfl, (blk_cell BK812.out 7).trans rfl, (blk_cell BK812.out 8).trans rfl, (blk_cell BK812.out 9).trans rfl, (blk_cell BK813.out 0).trans rfl, (blk_cell BK813.out 1).trans rfl, (blk_cell BK813.out 2).trans rfl, (blk_cell BK813.out 3).trans rfl, (blk_cell BK813.out 4).trans rfl, (blk_cell BK813.out 5).trans rfl, (blk_cell BK813.out 6).trans rfl, (blk_cell BK813.out 7).trans rfl, (blk_cell BK813.out 8).trans rfl, (blk_cell BK813.out 9).trans rfl⟩ (fun hHeld => ?_)
        clear hK K
        refine norm_ (a' := ?_) ?_ ?_
        rotate_left
        ·show Act.put _ (some 60) _ = _
         simp only [Act.put, List.setIfInBounds_toArray, List.set_cons_zero, List.set_cons_succ, i64_w, i32_w]
         rfl
        refine pure_ (i := 7) (N := some 61) (v := ?_) (a' := ?_) #[true, true, true, true, true, true, true, true, false, false, false, false, false, false, false, false, false, false, false, false, false, false, false, false, false, false, false, false, false, false, false] rfl rfl (any_of HT_.out (by kernel_rfl)) (fun _ _ _ h => h) (Or.inl ⟨by rfl, ?_⟩) ?_ ?_
        rotate_left
        ·intro w'
         go_simp
         with_reducible rfl
        rotate_left
        ·simp only [Act.put, List.setIfInBounds_toArray, List.set_cons_zero, List.set_cons_succ, i64_w, i32_w]
         rfl
        refine pure_ (i := 8) (N := some 62) (v := ?_) (a' := ?_) #[true, true, true, true, true, true, true, true, true, false, false, false, false, false, false, false, false, false, false, false, false, false, false, false, false, false, false, false, false, false, false] rfl rfl (any_of HT_.out (by kernel_rfl)) (fun _ _ _ h => h) (Or.inl ⟨by rfl, ?_⟩) ?_ ?_
        rotate_left
        ·intro w'
         go_simp
         with_reducible rfl
        rotate_left
        ·simp only [Act.put, List.setIfInBounds_toArray, List.set_cons_zero, List.set_cons_succ, i64_w, i32_w]
         rfl
        refine pure_ (i := 9) (N := some 63) (v := ?_) (a' := ?_) #[true, true, true, true, true, true, true, true, true, true, false, false, false, false, false, false, false, false, false, false, false, false, false, false, false, false, false, false, false, false, false] rfl rfl (any_of HT_.out (by kernel_rfl)) (fun _ _ _ h => h) (Or.inl ⟨by rfl, ?_⟩) ?_ ?_
        rotate_left
        ·intro w'
         go_simp
         with_reducible rfl
        rotate_left
        ·simp only [Act.put, List.setIfInBounds_toArray, List.set_cons_zero, List.set_cons_succ, i64_w, i32_w]
         rfl
        refine pure_ (i := 10) (N := some 64) (v := ?_) (a' := ?_) #[true, true, true, true, true, true, true, true, true, true, true, false, false, false, false, false, false, false, false, false, false, false, false, false, false, false, false, false, false, false, false] rfl rfl (any_of HT_.out (by kernel_rfl)) (fun _ _ _ h => h) (Or.inl ⟨by rfl, ?_⟩) ?_ ?_
        rotate_left
        ·intro w'
         go_simp
         with_reducible rfl
        rotate_left
        ·simp only [Act.put, List.setIfInBounds_toArray, List.set_cons_zero, List.set_cons_succ, i64_w, i32_w]
         rfl
        refine pure_ (i := 11) (N := some 65) (v := ?_) (a' := ?_) #[true, true, true, true, true, true, true, true, true, true, true, true, false, false, false, false, false, false, false, false, false, false, false, false, false, false, false, false, false, false, false] rfl rfl (any_of HT_.out (by kernel_rfl)) (fun _ _ _ h => h) (Or.inl ⟨by rfl, ?_⟩) ?_ ?_
        rotate_left
        ·intro w'
         go_simp
         with_reducible rfl
        rotate_left
        ·simp only [Act.put, List.setIfInBounds_toArray, List.set_cons_zero, List.set_cons_succ, i64_w, i32_w]
         rfl
        refine pure_ (i := 12) (N := some 66) (v := ?_) (a' := ?_) #[true, true, true, true, true, true, true, true, true, true, true, true, true, false, false, false, false, false, false, false, false, false, false, false, false, false, false, false, false, false, false] rfl rfl (any_of HT_.out (by kernel_rfl)) (fun _ _ _ h => h) (Or.inl ⟨by rfl, ?_⟩) ?_ ?_
        rotate_left
        ·intro w'
         go_simp
         with_reducible rfl
        rotate_left
        ·simp only [Act.put, List.setIfInBounds_toArray, List.set_cons_zero, List.set_cons_succ, i64_w, i32_w]
         rfl
        refine pure_ (i := 13) (N := some 67) (v := ?_) (a' := ?_) #[true, true, true, true, true, true, true, true, true, true, true, true, true, true, false, false, false, false, false, false, false, false, false, false, false, false, false, false, false, false, false] rfl rfl (any_of HT_.out (by kernel_rfl)) (fun _ _ _ h => h) (Or.inl ⟨by rfl, ?_⟩) ?_ ?_
        rotate_left
        ·intro w'
         go_simp
         with_reducible rfl
        rotate_left
        ·simp only [Act.put, List.setIfInBounds_toArray, List.set_cons_zero, List.set_cons_succ, i64_w, i32_w]
         rfl
        refine take_ (i := 14) (N := some 68) (v := ?_) (a' := ?_) #[true, true, true, true, true, true, true, true, true, true, true, true, true, true, true, false, false, false, false, false, false, false, false, false, false, false, false, false, false, false, false] rfl rfl (take_ofW HT_.out HW_.out (by kernel_rfl)) (fun _ _ _ h => h) (Or.inl ⟨by rfl, ?_⟩) hHeld ?_ ?_
        rotate_left
        ·rintro w' ⟨s0, s1, s2, s3, s4, s5, s6, s7, s8, s9, s10, s11, s12, s13, s14, s15, s16, s17, s18, s19, s20, s21, s22, s23, s24, s25, s26, s27, s28, s29, s30, s31, s32, s33, s34, s35, s36, s37, s38, s39⟩
         go_simp
         with_reducible rfl
        rotate_left
        ·simp only [Act.put, List.setIfInBounds_toArray, List.set_cons_zero, List.set_cons_succ, i64_w, i32_w]
         rfl
        refine take_ (i := 16) (N := some 70) (v := ?_) (a' := ?_) #[true, true, true, true, true, true, true, true, true, true, true, true, true, true, true, false, true, false, false, false, false, false, false, false, false, false, false, false, false, false, false] rfl rfl (take_ofW HT_.out HW_.out (by kernel_rfl)) (fun _ _ _ h => h) (Or.inl ⟨by rfl, ?_⟩) hHeld ?_ ?_
        rotate_left
        ·rintro w' ⟨s0, s1, s2, s3, s4, s5, s6, s7, s8, s9, s10, s11, s12, s13, s14, s15, s16, s17, s18, s19, s20, s21, s22, s23, s24, s25, s26, s27, s28, s29, s30, s31, s32, s33, s34, s35, s36, s37, s38, s39⟩
         go_simp
         with_reducible rfl
        rotate_left
        ·simp only [Act.put, List.setIfInBounds_toArray, List.set_cons_zero, List.set_cons_succ, i64_w, i32_w]
         rfl
        refine one_ (i := 15) (N := some 69) #[true, true, true, true, true, true, true, true, true, true, true, true, true, true, true, true, true, false, false, false, false, false, false, false, false, false, false, false, false, false, false] rfl rfl (one_of HT_.out (by kernel_rfl)) (by decide) (fun K hK => ?_)
        refine goes_ Try.func36 (by kernel_rfl) rfl #[.agg #[.int .u16 t846, .int .u8 t847, .int .u8 t848, .slice Ao65 t849.length co65, .int .u16 t852, .int .u32 t853, .slice Ao66 t854.length co66, .slice Ao67 t857.length co67, .slice Ao68 t860.length co68, .slice Ao69 t863.length co69]] (by rfl) rfl rfl (by (try simp only [List.map_toArray, List.map_cons, List.map_nil]); first | done | rfl | (simp only [List.length_drop, List.length_take]; rfl)) ?_
        with_reducible refine (marlinelaw15_To.calls kj3 t846 t847 t848 (fun k_ => (k_ ≠ gb867 ∧ k_ ≠ gb889)) _ _ t849 t852 t853 (fun k_ => some k_ = (.slice Ao66 t854.length co66 : Value).ownBlock) _ _ t854 (fun k_ => some k_ = (.slice Ao67 t857.length co67 : Value).ownBlock) _ _ t857 (fun k_ => some k_ = (.slice Ao68 t860.length co68 : Value).ownBlock) _ _ t860 (fun k_ => some k_ = (.slice Ao69 t863.length co69 : Value).ownBlock) _ _ t863 t891 t892 t893 t894 t897 t898 t899 t902 t905 t908 _ ?side1 ?side2 ?side3 ?side4 ?side5 A42.out).mono ?_
        (case side1 => exact Kd.N_V (HO851.out))
        (case side2 => exact Kd.R_V (Kd.R_tight rfl (HO856.out)))
        (case side3 => exact Kd.R_V (Kd.R_tight rfl (HO859.out)))
        (case side4 => exact Kd.R_V (Kd.R_tight rfl (HO862.out)))
        (case side5 => exact Kd.R_V (Kd.R_tight rfl (HO865.out)))
        rintro e w86 ⟨v895, v900, v903, v906, v909, rfl, ho0, ho1, ho2, ho3, ho4, hb⟩
        refine ⟨_, rfl, ?_⟩
        have n0_ := Aside0.mk (Kd.R_below (by (with_reducible repeat (first | apply Kd.R_alloc | apply Kd.R_drewN | apply Kd.R_drew)); exact HO840.out) hb)
        have n1_ := Aside0.mk (Kd.R_below (by (with_reducible repeat (first | apply Kd.R_alloc | apply Kd.R_drewN | apply Kd.R_drew)); exact HO844.out) hb)
        have n2_ := Aside0.mk (Kd.N_below (by (with_reducible repeat (first | apply Kd.N_alloc | apply Kd.N_drewN | apply Kd.N_drew)); exact HO851.out) hb)
        have n3_ := Aside0.mk (Kd.R_below (by (with_reducible repeat (first | apply Kd.R_alloc | apply Kd.R_drewN | apply Kd.R_drew)); exact HO856.out) hb)
        have n4_ := Aside0.mk (Kd.R_below (by (with_reducible repeat (first | apply Kd.R_alloc | apply Kd.R_drewN | apply Kd.R_drew)); exact HO859.out) hb)
        have n5_ := Aside0.mk (Kd.R_below (by (with_reducible repeat (first | apply Kd.R_alloc | apply Kd.R_drewN | apply Kd.R_drew)); exact HO862.out) hb)
        have n6_ := Aside0.mk (Kd.R_below (by (with_reducible repeat (first | apply Kd.R_alloc | apply Kd.R_drewN | apply Kd.R_drew)); exact HO865.out) hb)
        have n7_ := Aside0.mk (Kd.N_below (by (with_reducible repeat (first | apply Kd.N_alloc | apply Kd.N_drewN | apply Kd.N_drew)); exact HO873.out) hb)
        have n8_ := Aside0.mk (Kd.V_below (by (with_reducible repeat (first | apply Kd.V_alloc | apply Kd.V_drewN | apply Kd.V_drew)); exact HO878.out) hb)
        have n9_ := Aside0.mk (Kd.V_below (by (with_reducible repeat (first | apply Kd.V_alloc | apply Kd.V_drewN | apply Kd.V_drew)); exact HO881.out) hb)
        have n10_ := Aside0.mk (Kd.V_below (by (with_reducible repeat (first | apply Kd.V_alloc | apply Kd.V_drewN | apply Kd.V_drew)); exact HO884.out) hb)
        have n11_ := Aside0.mk (Kd.R_below (by (with_reducible repeat (first | apply Kd.R_alloc | apply Kd.R_drewN | apply Kd.R_drew)); exact HO887.out) hb)
        have n12_ := Aside0.mk (Kd.N_lower (Kd.N_mono (ok' := fun k_ => True) ho0 (fun k_ hk_ => trivial)) (below_size (by repeat (first | (with_reducible first | exact HB.out | apply below_alloc | apply pw_below_drewN | apply below_drew1 | refine below_set ?_ GE812.out | refine below_set ?_ GE813.out | refine below_set ?_ GE867.out | refine below_set ?_ GE889.out) | exact HB.out))))
        have n13_ := Aside0.mk (Kd.V_lower (Kd.V_mono (ok' := fun k_ => True) ho1 (fun k_ hk_ => trivial)) (below_size (by repeat (first | (with_reducible first | exact HB.out | apply below_alloc | apply pw_below_drewN | apply below_drew1 | refine below_set ?_ GE812.out | refine below_set ?_ GE813.out | refine below_set ?_ GE867.out | refine below_set ?_ GE889.out) | exact HB.out))))
        have n14_ := Aside0.mk (Kd.V_lower (Kd.V_mono (ok' := fun k_ => True) ho2 (fun k_ hk_ => trivial)) (below_size (by repeat (first | (with_reducible first | exact HB.out | apply below_alloc | apply pw_below_drewN | apply below_drew1 | refine below_set ?_ GE812.out | refine below_set ?_ GE813.out | refine below_set ?_ GE867.out | refine below_set ?_ GE889.out) | exact HB.out))))
        have n15_ := Aside0.mk (Kd.V_lower (Kd.V_mono (ok' := fun k_ => True) ho3 (fun k_ hk_ => trivial)) (below_size (by repeat (first | (with_reducible first | exact HB.out | apply below_alloc | apply pw_below_drewN | apply below_drew1 | refine below_set ?_ GE812.out | refine below_set ?_ GE813.out | refine below_set ?_ GE867.out | refine below_set ?_ GE889.out) | exact HB.out))))
        have n16_ := Aside0.mk (Kd.V_lower (Kd.V_mono (ok' := fun k_ => True) ho4 (fun k_ hk_ => trivial)) (below_size (by repeat (first | (with_reducible first | exact HB.out | apply below_alloc | apply pw_below_drewN | apply below_drew1 | refine below_set ?_ GE812.out | refine below_set ?_ GE813.out | refine below_set ?_ GE867.out | refine below_set ?_ GE889.out) | exact HB.out))))
        have n17_ := Aside0.mk (blk_below (g := gb812) (o := .cells #[.int .u16 a0_0, .int .u8 a0_1, .int .u8 a0_2, .slice A0_3 l0_3.length c0_3, .int .u16 a0_4, .int .u32 a0_5, .slice A0_6 l0_6.length c0_6, .slice A0_7 l0_7.length c0_7, .slice A0_8 l0_8.length c0_8, .slice A0_9 l0_9.length c0_9] 44 (0, 0)) (by (with_reducible repeat (first | refine blk_drewN ?_ _ | refine blk_drew ?_ | refine blk_alloc ?_ _)); exact BK812.out) hb)
        have n18_ := Aside0.mk (blk_below (g := gb813) (o := .cells #[.int .u16 a1_0, .int .u8 a1_1, .int .u8 a1_2, .slice A1_3 l1_3.length c1_3, .int .u16 a1_4, .int .u32 a1_5, .slice A1_6 l1_6.length c1_6, .slice A1_7 l1_7.length c1_7, .slice A1_8 l1_8.length c1_8, .slice A1_9 l1_9.length c1_9] 44 (0, 0)) (by (with_reducible repeat (first | refine blk_drewN ?_ _ | refine blk_drew ?_ | refine blk_alloc ?_ _)); exact BK813.out) hb)
        have n19_ := Aside0.mk (blk_below (g := gb867) (o := .cells #[.int .u16 t846, .int .u8 t847, .int .u8 t848, .slice Ao65 t849.length co65, .int .u16 t852, .int .u32 t853, .slice Ao66 t854.length co66, .slice Ao67 t857.length co67, .slice Ao68 t860.length co68, .slice Ao69 t863.length co69] 47 (0, 0)) (by (with_reducible repeat (first | refine blk_drewN ?_ _ | refine blk_drew ?_ | refine blk_alloc ?_ _)); exact BK867.out) hb)
        have n20_ := Aside0.mk (blk_below (g := gb889) (o := .cells #[.int .u16 t868, .int .u8 t869, .int .u8 t870, .slice Ao77 t871.length co77, .int .u16 t874, .int .u32 t875, .slice Ao78 t876.length co78, .slice Ao79 t879.length co79, .slice Ao80 t882.length co80, .slice Ao81 t885.length co81] 44 (0, 0)) (by (with_reducible repeat (first | refine blk_drewN ?_ _ | refine blk_drew ?_ | refine blk_alloc ?_ _)); exact BK889.out) hb)
        have n21_ := Aside0.mk (below_step (by repeat (first | (with_reducible first | exact HB.out | apply below_alloc | apply pw_below_drewN | apply below_drew1 | refine below_set ?_ GE812.out | refine below_set ?_ GE813.out | refine below_set ?_ GE867.out | refine below_set ?_ GE889.out) | exact HB.out)) hb)
        clear HO840
        clear HO844
        clear HO851
        clear HO856
        clear HO859
        clear HO862
        clear HO865
        clear HO873
        clear HO878
        clear HO881
        clear HO884
        clear HO887
        clear BK812
        clear BK813
        clear BK867
        clear BK889
        clear HB
        have HO840 := n0_
        have HO844 := n1_
        have HO851 := n2_
        have HO856 := n3_
        have HO859 := n4_
        have HO862 := n5_
        have HO865 := n6_
        have HO873 := n7_
        have HO878 := n8_
        have HO881 := n9_
        have HO884 := n10_
        have HO887 := n11_
        have HO896 := n12_
        have HO901 := n13_
        have HO904 := n14_
        have HO907 := n15_
        have HO910 := n16_
        have BK812 := n17_
        have BK813 := n18_
        have BK867 := n19_
        have BK889 := n20_
        have HB := n21_
        clear n0_ n1_ n2_ n3_ n4_ n5_ n6_ n7_ n8_ n9_ n10_ n11_ n12_ n13_ n14_ n15_ n16_ n17_ n18_ n19_ n20_ n21_
        (try clear hb)
        (try clear hb2)
        (try clear hk)
        (try clear hi)
        (try clear ho0)
        (try clear ho1)
        (try clear ho2)
        (try clear ho3)
        (try clear ho4)
        obtain ⟨Ao87, co87, eo87⟩ := Kd.N_slice HO896.out
        (first | subst eo87 | (injection eo87 with f1_ f2_ f3_; have f4_ := f1_.symm; have f5_ := f3_.symm; clear f1_ f2_ f3_; subst f4_; subst f5_))
        obtain ⟨Ao88, co88, eo88⟩ := Kd.V_slice HO901.out
        (first | subst eo88 | (injection eo88 with f1_ f2_ f3_; have f4_ := f1_.symm; have f5_ := f3_.symm; clear f1_ f2_ f3_; subst f4_; subst f5_))
        obtain ⟨Ao89, co89, eo89⟩ := Kd.V_slice HO904.out
        (first | subst eo89 | (injection eo89 with f1_ f2_ f3_; have f4_ := f1_.symm; have f5_ := f3_.symm; clear f1_ f2_ f3_; subst f4_; subst f5_))
        obtain ⟨Ao90, co90, eo90⟩ := Kd.V_slice HO907.out
        (first | subst eo90 | (injection eo90 with f1_ f2_ f3_; have f4_ := f1_.symm; have f5_ := f3_.symm; clear f1_ f2_ f3_; subst f4_; subst f5_))
        obtain ⟨Ao91, co91, eo91⟩ := Kd.V_slice HO910.out
        (first | subst eo91 | (injection eo91 with f1_ f2_ f3_; have f4_ := f1_.symm; have f5_ := f3_.symm; clear f1_ f2_ f3_; subst f4_; subst f5_))
        refine hK.out _ _ ⟨(blk_cell BK867.out 0).trans rfl, (blk_cell BK867.out 1).trans rfl, (blk_cell BK867.out 2).trans rfl, (blk_cell BK867.out 3).trans rfl, (blk_cell BK867.out 4).trans rfl, (blk_cell BK867.out 5).trans rfl, (blk_cell BK867.out 6).trans rfl, (blk_cell BK867.out 7).trans rfl, (blk_cell BK867.out 8).trans rfl, (blk_cell BK867.out 9).trans rfl, (blk_cell BK889.out 0).trans rfl, (blk_cell BK889.out 1).trans rfl, (blk_cell BK889.out 2).trans rfl, (blk_cell BK889.out 3).trans rfl, (blk_cell BK889.out 4).trans rfl, (blk_cell BK889.out 5).trans rfl, (blk_cell BK889.out 6).trans rfl, (blk_cell BK889.out 7).trans rfl, (blk_cell BK889.out 8).trans rfl, (blk_cell BK889.out 9).trans rfl, (blk_cell BK812.out 0).trans rfl, (blk_cell BK812.out 1).trans rfl, (blk_cell BK812.out 2).trans rfl, (blk_cell BK812.out 3).trans rfl, (blk_cell BK812.out 4).trans rfl, (blk_cell BK812.out 5).trans rfl, (blk_cell BK812.out 6).trans rfl, (blk_cell BK812.out 7).trans rfl, (blk_cell BK812.out 8).trans rfl, (blk_cell BK812.out 9).trans rfl, (blk_cell BK813.out 0).trans rfl, (blk_cell BK813.out 1).trans rfl, (blk_cell BK813.out 2).trans rfl, (blk_cell BK813.out 3).trans rfl, (blk_cell BK813.out 4).trans rfl, (blk_cell BK813.out 5).trans rfl, (blk_cell BK813.out 6).trans rfl, (blk_cell BK813.out 7).trans rfl, (blk_cell BK813.out 8).trans rfl, (blk_cell BK813.out 9).trans rfl⟩ (fun hHeld => ?_)
        clear hK K
        refine norm_ (a' := ?_) ?_ ?_
        rotate_left
        ·show Act.put _ (some 69) _ = _
         simp only [Act.put, List.setIfInBounds_toArray, List.set_cons_zero, List.set_cons_succ, i64_w, i32_w]
         rfl
        refine one_ (i := 17) (N := some 71) #[true, true, true, true, true, true, true, true, true, true, true, true, true, true, true, true, true, true, false, false, false, false, false, false, false, false, false, false, false, false, false] rfl rfl (one_of HT_.out (by kernel_rfl)) (by decide) (fun K hK => ?_)
        refine goes_ Try.func35 (by kernel_rfl) rfl #[.agg #[.int .u16 t891, .int .u8 t892, .int .u8 t893, .slice Ao87 t894.length co87, .int .u16 t897, .int .u32 t898, .slice Ao88 t899.length co88, .slice Ao89 t902.length co89, .slice Ao90 t905.length co90, .slice Ao91 t908.length co91], .agg #[.int .u16 t868, .int .u8 t869, .int .u8 t870, .slice Ao77 t871.length co77, .int .u16 t874, .int .u32 t875, .slice Ao78 t876.length co78, .slice Ao79 t879.length co79, .slice Ao80 t882.length co80, .slice Ao81 t885.length co81]] (by rfl) rfl rfl (by (try simp only [List.map_toArray, List.map_cons, List.map_nil]); first | done | rfl | (simp only [List.length_drop, List.length_take]; rfl)) ?_
        with_reducible refine (marlineref15_Same.calls kj3 t891 t892 t893 _ _ t894 t897 t898 _ _ t899 _ _ t902 _ _ t905 _ _ t908 t868 t869 t870 _ _ t871 t874 t875 _ _ t876 _ _ t879 _ _ t882 _ _ t885 true _ ?side1 ?side2 ?side3 ?side4 ?side5 ?side6 ?side7 ?side8 ?side9 ?side10 ?side11 ?side12 ?side13 ?side14 ?side15 ?side16 ?side17 ?side18 ?side19 ?side20 A43.out).mono ?_
        (case side1 => repeat (first | exact (Kd.N_reads' HO896.out).2.2 | (with_reducible refine Kd.C_alloc ?_ _) | (with_reducible refine Kd.C_drewN ?_ _) | (with_reducible refine Kd.C_drew ?_)))
        (case side2 => exact (Kd.N_reads' HO896.out).2.1)
        (case side3 => repeat (first | exact (Kd.V_reads' HO901.out).2.2 | (with_reducible refine Kd.C_alloc ?_ _) | (with_reducible refine Kd.C_drewN ?_ _) | (with_reducible refine Kd.C_drew ?_)))
        (case side4 => exact (Kd.V_reads' HO901.out).2.1)
        (case side5 => repeat (first | exact (Kd.V_reads' HO904.out).2.2 | (with_reducible refine Kd.C_alloc ?_ _) | (with_reducible refine Kd.C_drewN ?_ _) | (with_reducible refine Kd.C_drew ?_)))
        (case side6 => exact (Kd.V_reads' HO904.out).2.1)
        (case side7 => repeat (first | exact (Kd.V_reads' HO907.out).2.2 | (with_reducible refine Kd.C_alloc ?_ _) | (with_reducible refine Kd.C_drewN ?_ _) | (with_reducible refine Kd.C_drew ?_)))
        (case side8 => exact (Kd.V_reads' HO907.out).2.1)
        (case side9 => repeat (first | exact (Kd.V_reads' HO910.out).2.2 | (with_reducible refine Kd.C_alloc ?_ _) | (with_reducible refine Kd.C_drewN ?_ _) | (with_reducible refine Kd.C_drew ?_)))
        (case side10 => exact (Kd.V_reads' HO910.out).2.1)
        (case side11 => repeat (first | exact (Kd.N_reads' HO873.out).2.2 | (with_reducible refine Kd.C_alloc ?_ _) | (with_reducible refine Kd.C_drewN ?_ _) | (with_reducible refine Kd.C_drew ?_)))
        (case side12 => exact (Kd.N_reads' HO873.out).2.1)
        (case side13 => repeat (first | exact (Kd.V_reads' HO878.out).2.2 | (with_reducible refine Kd.C_alloc ?_ _) | (with_reducible refine Kd.C_drewN ?_ _) | (with_reducible refine Kd.C_drew ?_)))
        (case side14 => exact (Kd.V_reads' HO878.out).2.1)
        (case side15 => repeat (first | exact (Kd.V_reads' HO881.out).2.2 | (with_reducible refine Kd.C_alloc ?_ _) | (with_reducible refine Kd.C_drewN ?_ _) | (with_reducible refine Kd.C_drew ?_)))
        (case side16 => exact (Kd.V_reads' HO881.out).2.1)
        (case side17 => repeat (first | exact (Kd.V_reads' HO884.out).2.2 | (with_reducible refine Kd.C_alloc ?_ _) | (with_reducible refine Kd.C_drewN ?_ _) | (with_reducible refine Kd.C_drew ?_)))
        (case side18 => exact (Kd.V_reads' HO884.out).2.1)
        (case side19 => repeat (first | exact (Kd.R_reads' HO887.out).2.2 | (with_reducible refine Kd.C_alloc ?_ _) | (with_reducible refine Kd.C_drewN ?_ _) | (with_reducible refine Kd.C_drew ?_)))
        (case side20 => exact (Kd.R_reads' HO887.out).2.1)
        rintro e w92 ⟨rfl, hb⟩
        refine ⟨_, rfl, ?_⟩
        have n0_ := Aside0.mk (Kd.R_below (by (with_reducible repeat (first | apply Kd.R_alloc | apply Kd.R_drewN | apply Kd.R_drew)); exact HO840.out) hb)
        have n1_ := Aside0.mk (Kd.R_below (by (with_reducible repeat (first | apply Kd.R_alloc | apply Kd.R_drewN | apply Kd.R_drew)); exact HO844.out) hb)
        have n2_ := Aside0.mk (Kd.N_below (by (with_reducible repeat (first | apply Kd.N_alloc | apply Kd.N_drewN | apply Kd.N_drew)); exact HO851.out) hb)
        have n3_ := Aside0.mk (Kd.R_below (by (with_reducible repeat (first | apply Kd.R_alloc | apply Kd.R_drewN | apply Kd.R_drew)); exact HO856.out) hb)
        have n4_ := Aside0.mk (Kd.R_below (by (with_reducible repeat (first | apply Kd.R_alloc | apply Kd.R_drewN | apply Kd.R_drew)); exact HO859.out) hb)
        have n5_ := Aside0.mk (Kd.R_below (by (with_reducible repeat (first | apply Kd.R_alloc | apply Kd.R_drewN | apply Kd.R_drew)); exact HO862.out) hb)
        have n6_ := Aside0.mk (Kd.R_below (by (with_reducible repeat (first | apply Kd.R_alloc | apply Kd.R_drewN | apply Kd.R_drew)); exact HO865.out) hb)
        have n7_ := Aside0.mk (Kd.N_below (by (with_reducible repeat (first | apply Kd.N_alloc | apply Kd.N_drewN | apply Kd.N_drew)); exact HO873.out) hb)
        have n8_ := Aside0.mk (Kd.V_below (by (with_reducible repeat (first | apply Kd.V_alloc | apply Kd.V_drewN | apply Kd.V_drew)); exact HO878.out) hb)
        have n9_ := Aside0.mk (Kd.V_below (by (with_reducible repeat (first | apply Kd.V_alloc | apply Kd.V_drewN | apply Kd.V_drew)); exact HO881.out) hb)
        have n10_ := Aside0.mk (Kd.V_below (by (with_reducible repeat (first | apply Kd.V_alloc | apply Kd.V_drewN | apply Kd.V_drew)); exact HO884.out) hb)
        have n11_ := Aside0.mk (Kd.R_below (by (with_reducible repeat (first | apply Kd.R_alloc | apply Kd.R_drewN | apply Kd.R_drew)); exact HO887.out) hb)
        have n12_ := Aside0.mk (Kd.N_below (by (with_reducible repeat (first | apply Kd.N_alloc | apply Kd.N_drewN | apply Kd.N_drew)); exact HO896.out) hb)
        have n13_ := Aside0.mk (Kd.V_below (by (with_reducible repeat (first | apply Kd.V_alloc | apply Kd.V_drewN | apply Kd.V_drew)); exact HO901.out) hb)
        have n14_ := Aside0.mk (Kd.V_below (by (with_reducible repeat (first | apply Kd.V_alloc | apply Kd.V_drewN | apply Kd.V_drew)); exact HO904.out) hb)
        have n15_ := Aside0.mk (Kd.V_below (by (with_reducible repeat (first | apply Kd.V_alloc | apply Kd.V_drewN | apply Kd.V_drew)); exact HO907.out) hb)
        have n16_ := Aside0.mk (Kd.V_below (by (with_reducible repeat (first | apply Kd.V_alloc | apply Kd.V_drewN | apply Kd.V_drew)); exact HO910.out) hb)
        have n17_ := Aside0.mk (blk_below (g := gb812) (o := .cells #[.int .u16 a0_0, .int .u8 a0_1, .int .u8 a0_2, .slice A0_3 l0_3.length c0_3, .int .u16 a0_4, .int .u32 a0_5, .slice A0_6 l0_6.length c0_6, .slice A0_7 l0_7.length c0_7, .slice A0_8 l0_8.length c0_8, .slice A0_9 l0_9.length c0_9] 44 (0, 0)) (by (with_reducible repeat (first | refine blk_drewN ?_ _ | refine blk_drew ?_ | refine blk_alloc ?_ _)); exact BK812.out) hb)
        have n18_ := Aside0.mk (blk_below (g := gb813) (o := .cells #[.int .u16 a1_0, .int .u8 a1_1, .int .u8 a1_2, .slice A1_3 l1_3.length c1_3, .int .u16 a1_4, .int .u32 a1_5, .slice A1_6 l1_6.length c1_6, .slice A1_7 l1_7.length c1_7, .slice A1_8 l1_8.length c1_8, .slice A1_9 l1_9.length c1_9] 44 (0, 0)) (by (with_reducible repeat (first | refine blk_drewN ?_ _ | refine blk_drew ?_ | refine blk_alloc ?_ _)); exact BK813.out) hb)
        have n19_ := Aside0.mk (blk_below (g := gb867) (o := .cells #[.int .u16 t846, .int .u8 t847, .int .u8 t848, .slice Ao65 t849.length co65, .int .u16 t852, .int .u32 t853, .slice Ao66 t854.length co66, .slice Ao67 t857.length co67, .slice Ao68 t860.length co68, .slice Ao69 t863.length co69] 47 (0, 0)) (by (with_reducible repeat (first | refine blk_drewN ?_ _ | refine blk_drew ?_ | refine blk_alloc ?_ _)); exact BK867.out) hb)
        have n20_ := Aside0.mk (blk_below (g := gb889) (o := .cells #[.int .u16 t868, .int .u8 t869, .int .u8 t870, .slice Ao77 t871.length co77, .int .u16 t874, .int .u32 t875, .slice Ao78 t876.length co78, .slice Ao79 t879.length co79, .slice Ao80 t882.length co80, .slice Ao81 t885.length co81] 44 (0, 0)) (by (with_reducible repeat (first | refine blk_drewN ?_ _ | refine blk_drew ?_ | refine blk_alloc ?_ _)); exact BK889.out) hb)
        have n21_ := Aside0.mk (below_step (by repeat (first | (with_reducible first | exact HB.out | apply below_alloc | apply pw_below_drewN | apply below_drew1 | refine below_set ?_ GE812.out | refine below_set ?_ GE813.out | refine below_set ?_ GE867.out | refine below_set ?_ GE889.out) | exact HB.out)) hb)
        clear HO840
        clear HO844
        clear HO851
        clear HO856
        clear HO859
        clear HO862
        clear HO865
        clear HO873
        clear HO878
        clear HO881
        clear HO884
        clear HO887
        clear HO896
        clear HO901
        clear HO904
        clear HO907
        clear HO910
        clear BK812
        clear BK813
        clear BK867
        clear BK889
        clear HB
        have HO840 := n0_
        have HO844 := n1_
        have HO851 := n2_
        have HO856 := n3_
        have HO859 := n4_
        have HO862 := n5_
        have HO865 := n6_
        have HO873 := n7_
        have HO878 := n8_
        have HO881 := n9_
        have HO884 := n10_
        have HO887 := n11_
        have HO896 := n12_
        have HO901 := n13_
        have HO904 := n14_
        have HO907 := n15_
        have HO910 := n16_
        have BK812 := n17_
        have BK813 := n18_
        have BK867 := n19_
        have BK889 := n20_
        have HB := n21_
        clear n0_ n1_ n2_ n3_ n4_ n5_ n6_ n7_ n8_ n9_ n10_ n11_ n12_ n13_ n14_ n15_ n16_ n17_ n18_ n19_ n20_ n21_
        (try clear hb)
        (try clear hb2)
        (try clear hk)
        (try clear hi)
        refine hK.out _ _ ⟨(blk_cell BK867.out 0).trans rfl, (blk_cell BK867.out 1).trans rfl, (blk_cell BK867.out 2).trans rfl, (blk_cell BK867.out 3).trans rfl, (blk_cell BK867.out 4).trans rfl, (blk_cell BK867.out 5).trans rfl, (blk_cell BK867.out 6).trans rfl, (blk_cell BK867.out 7).trans rfl, (blk_cell BK867.out 8).trans rfl, (blk_cell BK867.out 9).trans rfl, (blk_cell BK889.out 0).trans rfl, (blk_cell BK889.out 1).trans rfl, (blk_cell BK889.out 2).trans rfl, (blk_cell BK889.out 3).trans rfl, (blk_cell BK889.out 4).trans rfl, (blk_cell BK889.out 5).trans rfl, (blk_cell BK889.out 6).trans rfl, (blk_cell BK889.out 7).trans rfl, (blk_cell BK889.out 8).trans rfl, (blk_cell BK889.out 9).trans rfl, (blk_cell BK812.out 0).trans rfl, (blk_cell BK812.out 1).trans rfl, (blk_cell BK812.out 2).trans rfl, (blk_cell BK812.out 3).trans rfl, (blk_cell BK812.out 4).trans rfl, (blk_cell BK812.out 5).trans rfl, (blk_cell BK812.out 6).trans rfl, (blk_cell BK812.out 7).trans rfl, (blk_cell BK812.out 8).trans rfl, (blk_cell BK812.out 9).trans rfl, (blk_cell BK813.out 0).trans rfl, (blk_cell BK813.out 1).trans rfl, (blk_cell BK813.out 2).trans rfl, (blk_cell BK813.out 3).trans rfl, (blk_cell BK813.out 4).trans rfl, (blk_cell BK813.out 5).trans rfl, (blk_cell BK813.out 6).trans rfl, (blk_cell BK813.out 7).trans rfl, (blk_cell BK813.out 8).trans rfl, (blk_cell BK813.out 9).trans rfl⟩ (fun hHeld => ?_)
        clear hK K
        refine norm_ (a' := ?_) ?_ ?_
        rotate_left
        ·show Act.put _ (some 71) _ = _
         simp only [Act.put, List.setIfInBounds_toArray, List.set_cons_zero, List.set_cons_succ, i64_w, i32_w]
         rfl
        refine pure_ (i := 18) (N := some 72) (v := ?_) (a' := ?_) #[true, true, true, true, true, true, true, true, true, true, true, true, true, true, true, true, true, true, true, false, false, false, false, false, false, false, false, false, false, false, false] rfl rfl (any_of HT_.out (by kernel_rfl)) (fun _ _ _ h => h) (Or.inl ⟨by rfl, ?_⟩) ?_ ?_
        rotate_left
        ·intro w'
         go_simp
         with_reducible rfl
        rotate_left
        ·simp only [Act.put, List.setIfInBounds_toArray, List.set_cons_zero, List.set_cons_succ, i64_w, i32_w]
         rfl
        refine pure_ (i := 19) (N := some 73) (v := ?_) (a' := ?_) #[true, true, true, true, true, true, true, true, true, true, true, true, true, true, true, true, true, true, true, true, false, false, false, false, false, false, false, false, false, false, false] rfl rfl (any_of HT_.out (by kernel_rfl)) (fun _ _ _ h => h) (Or.inl ⟨by rfl, ?_⟩) ?_ ?_
        rotate_left
        ·intro w'
         go_simp
         with_reducible rfl
        rotate_left
        ·simp only [Act.put, List.setIfInBounds_toArray, List.set_cons_zero, List.set_cons_succ, i64_w, i32_w]
         rfl
        refine take_ (i := 20) (N := some 74) (v := ?_) (a' := ?_) #[true, true, true, true, true, true, true, true, true, true, true, true, true, true, true, true, true, true, true, true, true, false, false, false, false, false, false, false, false, false, false] rfl rfl (take_ofW HT_.out HW_.out (by kernel_rfl)) (fun _ _ _ h => h) (Or.inl ⟨by rfl, ?_⟩) hHeld ?_ ?_
        rotate_left
        ·rintro w' ⟨s0, s1, s2, s3, s4, s5, s6, s7, s8, s9, s10, s11, s12, s13, s14, s15, s16, s17, s18, s19, s20, s21, s22, s23, s24, s25, s26, s27, s28, s29, s30, s31, s32, s33, s34, s35, s36, s37, s38, s39⟩
         go_simp
         with_reducible rfl
        rotate_left
        ·simp only [Act.put, List.setIfInBounds_toArray, List.set_cons_zero, List.set_cons_succ, i64_w, i32_w]
         rfl
        refine take_ (i := 22) (N := some 76) (v := ?_) (a' := ?_) #[true, true, true, true, true, true, true, true, true, true, true, true, true, true, true, true, true, true, true, true, true, false, true, false, false, false, false, false, false, false, false] rfl rfl (take_ofW HT_.out HW_.out (by kernel_rfl)) (fun _ _ _ h => h) (Or.inl ⟨by rfl, ?_⟩) hHeld ?_ ?_
        rotate_left
        ·rintro w' ⟨s0, s1, s2, s3, s4, s5, s6, s7, s8, s9, s10, s11, s12, s13, s14, s15, s16, s17, s18, s19, s20, s21, s22, s23, s24, s25, s26, s27, s28, s29, s30, s31, s32, s33, s34, s35, s36, s37, s38, s39⟩
         go_simp
         with_reducible rfl
        rotate_left
        ·simp only [Act.put, List.setIfInBounds_toArray, List.set_cons_zero, List.set_cons_succ, i64_w, i32_w]
         rfl
        refine take_ (i := 25) (N := some 79) (v := ?_) (a' := ?_) #[true, true, true, true, true, true, true, true, true, true, true, true, true, true, true, true, true, true, true, true, true, false, true, false, false, true, false, false, false, false, false] rfl rfl (take_ofW HT_.out HW_.out (by kernel_rfl)) (fun _ _ _ h => h) (Or.inl ⟨by rfl, ?_⟩) hHeld ?_ ?_
        rotate_left
        ·rintro w' ⟨s0, s1, s2, s3, s4, s5, s6, s7, s8, s9, s10, s11, s12, s13, s14, s15, s16, s17, s18, s19, s20, s21, s22, s23, s24, s25, s26, s27, s28, s29, s30, s31, s32, s33, s34, s35, s36, s37, s38, s39⟩
         go_simp
         with_reducible rfl
        rotate_left
        ·simp only [Act.put, List.setIfInBounds_toArray, List.set_cons_zero, List.set_cons_succ, i64_w, i32_w]
         rfl
        refine take_ (i := 26) (N := some 80) (v := ?_) (a' := ?_) #[true, true, true, true, true, true, true, true, true, true, true, true, true, true, true, true, true, true, true, true, true, false, true, false, false, true, true, false, false, false, false] rfl rfl (take_ofW HT_.out HW_.out (by kernel_rfl)) (fun _ _ _ h => h) (Or.inl ⟨by rfl, ?_⟩) hHeld ?_ ?_
        rotate_left
        ·rintro w' ⟨s0, s1, s2, s3, s4, s5, s6, s7, s8, s9, s10, s11, s12, s13, s14, s15, s16, s17, s18, s19, s20, s21, s22, s23, s24, s25, s26, s27, s28, s29, s30, s31, s32, s33, s34, s35, s36, s37, s38, s39⟩
         go_simp
         with_reducible rfl
        rotate_left
        ·simp only [Act.put, List.setIfInBounds_toArray, List.set_cons_zero, List.set_cons_succ, i64_w, i32_w]
         rfl
        refine one_ (i := 21) (N := some 75) #[true, true, true, true, true, true, true, true, true, true, true, true, true, true, true, true, true, true, true, true, true, true, true, false, false, true, true, false, false, false, false] rfl rfl (one_of HT_.out (by kernel_rfl)) (by decide) (fun K hK => ?_)
        refine goes_ Try.func25 (by kernel_rfl) rfl #[.agg #[.int .u16 a0_0, .int .u8 a0_1, .int .u8 a0_2, .slice A0_3 l0_3.length c0_3, .int .u16 a0_4, .int .u32 a0_5, .slice A0_6 l0_6.length c0_6, .slice A0_7 l0_7.length c0_7, .slice A0_8 l0_8.length c0_8, .slice A0_9 l0_9.length c0_9]] (by rfl) rfl rfl (by (try simp only [List.map_toArray, List.map_cons, List.map_nil]); first | done | rfl | (simp only [List.length_drop, List.length_take]; rfl)) ?_
        with_reducible refine (marlinelaw15_Of.calls kj3 a0_0 a0_1 a0_2 (fun k_ => k_ < w.heap.size) _ _ l0_3 a0_4 a0_5 (fun k_ => k_ < w.heap.size) _ _ l0_6 (fun k_ => k_ < w.heap.size) _ _ l0_7 (fun k_ => k_ < w.heap.size) _ _ l0_8 (fun k_ => k_ < w.heap.size) _ _ l0_9 t912 t913 t914 t915 t918 t919 t920 t923 t926 t929 _ ?side1 ?side2 ?side3 ?side4 ?side5 A45.out).mono ?_
        (case side1 => exact Kd.V_mk HC0_3.out (Kd.F_below (Kd.C_F k56_heap HR0_3.out) (by repeat (first | (with_reducible first | exact HB.out | apply below_alloc | apply pw_below_drewN | apply below_drew1 | refine below_set ?_ GE812.out | refine below_set ?_ GE813.out | refine below_set ?_ GE867.out | refine below_set ?_ GE889.out) | exact HB.out))))
        (case side2 => exact Kd.V_mk HC0_6.out (Kd.F_below (Kd.C_F (Kd.heap_int .u8) HR0_6.out) (by repeat (first | (with_reducible first | exact HB.out | apply below_alloc | apply pw_below_drewN | apply below_drew1 | refine below_set ?_ GE812.out | refine below_set ?_ GE813.out | refine below_set ?_ GE867.out | refine below_set ?_ GE889.out) | exact HB.out))))
        (case side3 => exact Kd.V_mk HC0_7.out (Kd.F_below (Kd.C_F (Kd.heap_int .u8) HR0_7.out) (by repeat (first | (with_reducible first | exact HB.out | apply below_alloc | apply pw_below_drewN | apply below_drew1 | refine below_set ?_ GE812.out | refine below_set ?_ GE813.out | refine below_set ?_ GE867.out | refine below_set ?_ GE889.out) | exact HB.out))))
        (case side4 => exact Kd.V_mk HC0_8.out (Kd.F_below (Kd.C_F (Kd.heap_int .u8) HR0_8.out) (by repeat (first | (with_reducible first | exact HB.out | apply below_alloc | apply pw_below_drewN | apply below_drew1 | refine below_set ?_ GE812.out | refine below_set ?_ GE813.out | refine below_set ?_ GE867.out | refine below_set ?_ GE889.out) | exact HB.out))))
        (case side5 => exact Kd.V_mk HC0_9.out (Kd.F_below (Kd.C_F (Kd.heap_int .u32) HR0_9.out) (by repeat (first | (with_reducible first | exact HB.out | apply below_alloc | apply pw_below_drewN | apply below_drew1 | refine below_set ?_ GE812.out | refine below_set ?_ GE813.out | refine below_set ?_ GE867.out | refine below_set ?_ GE889.out) | exact HB.out))))
        rintro e w93 ⟨v916, v921, v924, v927, v930, rfl, ho0, ho1, ho2, ho3, ho4, hb⟩
        refine ⟨_, rfl, ?_⟩
        have n0_ := Aside0.mk (Kd.R_below (by (with_reducible repeat (first | apply Kd.R_alloc | apply Kd.R_drewN | apply Kd.R_drew)); exact HO840.out) hb)
        have n1_ := Aside0.mk (Kd.R_below (by (with_reducible repeat (first | apply Kd.R_alloc | apply Kd.R_drewN | apply Kd.R_drew)); exact HO844.out) hb)
        have n2_ := Aside0.mk (Kd.N_below (by (with_reducible repeat (first | apply Kd.N_alloc | apply Kd.N_drewN | apply Kd.N_drew)); exact HO851.out) hb)
        have n3_ := Aside0.mk (Kd.R_below (by (with_reducible repeat (first | apply Kd.R_alloc | apply Kd.R_drewN | apply Kd.R_drew)); exact HO856.out) hb)
        have n4_ := Aside0.mk (Kd.R_below (by (with_reducible repeat (first | apply Kd.R_alloc | apply Kd.R_drewN | apply Kd.R_drew)); exact HO859.out) hb)
        have n5_ := Aside0.mk (Kd.R_below (by (with_reducible repeat (first | apply Kd.R_alloc | apply Kd.R_drewN | apply Kd.R_drew)); exact HO862.out) hb)
        have n6_ := Aside0.mk (Kd.R_below (by (with_reducible repeat (first | apply Kd.R_alloc | apply Kd.R_drewN | apply Kd.R_drew)); exact HO865.out) hb)
        have n7_ := Aside0.mk (Kd.N_below (by (with_reducible repeat (first | apply Kd.N_alloc | apply Kd.N_drewN | apply Kd.N_drew)); exact HO873.out) hb)
        have n8_ := Aside0.mk (Kd.V_below (by (with_reducible repeat (first | apply Kd.V_alloc | apply Kd.V_drewN | apply Kd.V_drew)); exact HO878.out) hb)
        have n9_ := Aside0.mk (Kd.V_below (by (with_reducible repeat (first | apply Kd.V_alloc | apply Kd.V_drewN | apply Kd.V_drew)); exact HO881.out) hb)
        have n10_ := Aside0.mk (Kd.V_below (by (with_reducible repeat (first | apply Kd.V_alloc | apply Kd.V_drewN | apply Kd.V_drew)); exact HO884.out) hb)
        have n11_ := Aside0.mk (Kd.R_below (by (with_reducible repeat (first | apply Kd.R_alloc | apply Kd.R_drewN | apply Kd.R_drew)); exact HO887.out) hb)
        have n12_ := Aside0.mk (Kd.N_below (by (with_reducible repeat (first | apply Kd.N_alloc | apply Kd.N_drewN | apply Kd.N_drew)); exact HO896.out) hb)
        have n13_ := Aside0.mk (Kd.V_below (by (with_reducible repeat (first | apply Kd.V_alloc | apply Kd.V_drewN | apply Kd.V_drew)); exact HO901.out) hb)
        have n14_ := Aside0.mk (Kd.V_below (by (with_reducible repeat (first | apply Kd.V_alloc | apply Kd.V_drewN | apply Kd.V_drew)); exact HO904.out) hb)
        have n15_ := Aside0.mk (Kd.V_below (by (with_reducible repeat (first | apply Kd.V_alloc | apply Kd.V_drewN | apply Kd.V_drew)); exact HO907.out) hb)
        have n16_ := Aside0.mk (Kd.V_below (by (with_reducible repeat (first | apply Kd.V_alloc | apply Kd.V_drewN | apply Kd.V_drew)); exact HO910.out) hb)
        have n17_ := Aside0.mk (Kd.N_lower (Kd.N_mono (ok' := fun k_ => True) ho0 (fun k_ hk_ => trivial)) (below_size (by repeat (first | (with_reducible first | exact HB.out | apply below_alloc | apply pw_below_drewN | apply below_drew1 | refine below_set ?_ GE812.out | refine below_set ?_ GE813.out | refine below_set ?_ GE867.out | refine below_set ?_ GE889.out) | exact HB.out))))
        have n18_ := Aside0.mk (Kd.V_lower (Kd.V_mono (ok' := fun k_ => True) ho1 (fun k_ hk_ => trivial)) (below_size (by repeat (first | (with_reducible first | exact HB.out | apply below_alloc | apply pw_below_drewN | apply below_drew1 | refine below_set ?_ GE812.out | refine below_set ?_ GE813.out | refine below_set ?_ GE867.out | refine below_set ?_ GE889.out) | exact HB.out))))
        have n19_ := Aside0.mk (Kd.V_lower (Kd.V_mono (ok' := fun k_ => True) ho2 (fun k_ hk_ => trivial)) (below_size (by repeat (first | (with_reducible first | exact HB.out | apply below_alloc | apply pw_below_drewN | apply below_drew1 | refine below_set ?_ GE812.out | refine below_set ?_ GE813.out | refine below_set ?_ GE867.out | refine below_set ?_ GE889.out) | exact HB.out))))
        have n20_ := Aside0.mk (Kd.V_lower (Kd.V_mono (ok' := fun k_ => True) ho3 (fun k_ hk_ => trivial)) (below_size (by repeat (first | (with_reducible first | exact HB.out | apply below_alloc | apply pw_below_drewN | apply below_drew1 | refine below_set ?_ GE812.out | refine below_set ?_ GE813.out | refine below_set ?_ GE867.out | refine below_set ?_ GE889.out) | exact HB.out))))
        have n21_ := Aside0.mk (Kd.V_lower (Kd.V_mono (ok' := fun k_ => True) ho4 (fun k_ hk_ => trivial)) (below_size (by repeat (first | (with_reducible first | exact HB.out | apply below_alloc | apply pw_below_drewN | apply below_drew1 | refine below_set ?_ GE812.out | refine below_set ?_ GE813.out | refine below_set ?_ GE867.out | refine below_set ?_ GE889.out) | exact HB.out))))
        have n22_ := Aside0.mk (blk_below (g := gb812) (o := .cells #[.int .u16 a0_0, .int .u8 a0_1, .int .u8 a0_2, .slice A0_3 l0_3.length c0_3, .int .u16 a0_4, .int .u32 a0_5, .slice A0_6 l0_6.length c0_6, .slice A0_7 l0_7.length c0_7, .slice A0_8 l0_8.length c0_8, .slice A0_9 l0_9.length c0_9] 44 (0, 0)) (by (with_reducible repeat (first | refine blk_drewN ?_ _ | refine blk_drew ?_ | refine blk_alloc ?_ _)); exact BK812.out) hb)
        have n23_ := Aside0.mk (blk_below (g := gb813) (o := .cells #[.int .u16 a1_0, .int .u8 a1_1, .int .u8 a1_2, .slice A1_3 l1_3.length c1_3, .int .u16 a1_4, .int .u32 a1_5, .slice A1_6 l1_6.length c1_6, .slice A1_7 l1_7.length c1_7, .slice A1_8 l1_8.length c1_8, .slice A1_9 l1_9.length c1_9] 44 (0, 0)) (by (with_reducible repeat (first | refine blk_drewN ?_ _ | refine blk_drew ?_ | refine blk_alloc ?_ _)); exact BK813.out) hb)
        have n24_ := Aside0.mk (blk_below (g := gb867) (o := .cells #[.int .u16 t846, .int .u8 t847, .int .u8 t848, .slice Ao65 t849.length co65, .int .u16 t852, .int .u32 t853, .slice Ao66 t854.length co66, .slice Ao67 t857.length co67, .slice Ao68 t860.length co68, .slice Ao69 t863.length co69] 47 (0, 0)) (by (with_reducible repeat (first | refine blk_drewN ?_ _ | refine blk_drew ?_ | refine blk_alloc ?_ _)); exact BK867.out) hb)
        have n25_ := Aside0.mk (blk_below (g := gb889) (o := .cells #[.int .u16 t868, .int .u8 t869, .int .u8 t870, .slice Ao77 t871.length co77, .int .u16 t874, .int .u32 t875, .slice Ao78 t876.length co78, .slice Ao79 t879.length co79, .slice Ao80 t882.length co80, .slice Ao81 t885.length co81] 44 (0, 0)) (by (with_reducible repeat (first | refine blk_drewN ?_ _ | refine blk_drew ?_ | refine blk_alloc ?_ _)); exact BK889.out) hb)
        have n26_ := Aside0.mk (below_step (by repeat (first | (with_reducible first | exact HB.out | apply below_alloc | apply pw_below_drewN | apply below_drew1 | refine below_set ?_ GE812.out | refine below_set ?_ GE813.out | refine below_set ?_ GE867.out | refine below_set ?_ GE889.out) | exact HB.out)) hb)
        clear HO840
        clear HO844
        clear HO851
        clear HO856
        clear HO859
        clear HO862
        clear HO865
        clear HO873
        clear HO878
        clear HO881
        clear HO884
        clear HO887
        clear HO896
        clear HO901
        clear HO904
        clear HO907
        clear HO910
        clear BK812
        clear BK813
        clear BK867
        clear BK889
        clear HB
        have HO840 := n0_
        have HO844 := n1_
        have HO851 := n2_
        have HO856 := n3_
        have HO859 := n4_
        have HO862 := n5_
        have HO865 := n6_
        have HO873 := n7_
        have HO878 := n8_
        have HO881 := n9_
        have HO884 := n10_
        have HO887 := n11_
        have HO896 := n12_
        have HO901 := n13_
        have HO904 := n14_
        have HO907 := n15_
        have HO910 := n16_
        have HO917 := n17_
        have HO922 := n18_
        have HO925 := n19_
        have HO928 := n20_
        have HO931 := n21_
        have BK812 := n22_
        have BK813 := n23_
        have BK867 := n24_
        have BK889 := n25_
        have HB := n26_
        clear n0_ n1_ n2_ n3_ n4_ n5_ n6_ n7_ n8_ n9_ n10_ n11_ n12_ n13_ n14_ n15_ n16_ n17_ n18_ n19_ n20_ n21_ n22_ n23_ n24_ n25_ n26_
        (try clear hb)
        (try clear hb2)
        (try clear hk)
        (try clear hi)
        (try clear ho0)
        (try clear ho1)
        (try clear ho2)
        (try clear ho3)
        (try clear ho4)
        refine hK.out _ _ ⟨(blk_cell BK867.out 0).trans rfl, (blk_cell BK867.out 1).trans rfl, (blk_cell BK867.out 2).trans rfl, (blk_cell BK867.out 3).trans rfl, (blk_cell BK867.out 4).trans rfl, (blk_cell BK867.out 5).trans rfl, (blk_cell BK867.out 6).trans rfl, (blk_cell BK867.out 7).trans rfl, (blk_cell BK867.out 8).trans rfl, (blk_cell BK867.out 9).trans rfl, (blk_cell BK889.out 0).trans rfl, (blk_cell BK889.out 1).trans rfl, (blk_cell BK889.out 2).trans rfl, (blk_cell BK889.out 3).trans rfl, (blk_cell BK889.out 4).trans rfl, (blk_cell BK889.out 5).trans rfl, (blk_cell BK889.out 6).trans rfl, (blk_cell BK889.out 7).trans rfl, (blk_cell BK889.out 8).trans rfl, (blk_cell BK889.out 9).trans rfl, (blk_cell BK812.out 0).trans rfl, (blk_cell BK812.out 1).trans rfl, (blk_cell BK812.out 2).trans rfl, (blk_cell BK812.out 3).trans rfl, (blk_cell BK812.out 4).trans rfl, (blk_cell BK812.out 5).trans rfl, (blk_cell BK812.out 6).trans rfl, (blk_cell BK812.out 7).trans rfl, (blk_cell BK812.out 8).trans rfl, (blk_cell BK812.out 9).trans rfl, (blk_cell BK813.out 0).trans rfl, (blk_cell BK813.out 1).trans rfl, (blk_cell BK813.out 2).trans rfl, (blk_cell BK813.out 3).trans rfl, (blk_cell BK813.out 4).trans rfl, (blk_cell BK813.out 5).trans rfl, (blk_cell BK813.out 6).trans rfl, (blk_cell BK813.out 7).trans rfl, (blk_cell BK813.out 8).trans rfl, (blk_cell BK813.out 9).trans rfl⟩ (fun hHeld => ?_)
        clear hK K
        refine norm_ (a' := ?_) ?_ ?_
        rotate_left
        ·show Act.put _ (some 75) _ = _
         simp only [Act.put, List.setIfInBounds_toArray, List.set_cons_zero, List.set_cons_succ, i64_w, i32_w]
         rfl
        refine one_ (i := 23) (N := some 77) #[true, true, true, true, true, true, true, true, true, true, true, true, true, true, true, true, true, true, true, true, true, true, true, true, false, true, true, false, false, false, false] rfl rfl (one_of HT_.out (by kernel_rfl)) (by decide) (fun K hK => ?_)
        refine goes_ Try.func25 (by kernel_rfl) rfl #[.agg #[.int .u16 a1_0, .int .u8 a1_1, .int .u8 a1_2, .slice A1_3 l1_3.length c1_3, .int .u16 a1_4, .int .u32 a1_5, .slice A1_6 l1_6.length c1_6, .slice A1_7 l1_7.length c1_7, .slice A1_8 l1_8.length c1_8, .slice A1_9 l1_9.length c1_9]] (by rfl) rfl rfl (by (try simp only [List.map_toArray, List.map_cons, List.map_nil]); first | done | rfl | (simp only [List.length_drop, List.length_take]; rfl)) ?_
        with_reducible refine (marlinelaw15_Of.calls kj3 a1_0 a1_1 a1_2 (fun k_ => k_ < w.heap.size) _ _ l1_3 a1_4 a1_5 (fun k_ => k_ < w.heap.size) _ _ l1_6 (fun k_ => k_ < w.heap.size) _ _ l1_7 (fun k_ => k_ < w.heap.size) _ _ l1_8 (fun k_ => k_ < w.heap.size) _ _ l1_9 t932 t933 t934 t935 t938 t939 t940 t943 t946 t949 _ ?side1 ?side2 ?side3 ?side4 ?side5 A46.out).mono ?_
        (case side1 => exact Kd.V_mk HC1_3.out (Kd.F_below (Kd.C_F k56_heap HR1_3.out) (by repeat (first | (with_reducible first | exact HB.out | apply below_alloc | apply pw_below_drewN | apply below_drew1 | refine below_set ?_ GE812.out | refine below_set ?_ GE813.out | refine below_set ?_ GE867.out | refine below_set ?_ GE889.out) | exact HB.out))))
        (case side2 => exact Kd.V_mk HC1_6.out (Kd.F_below (Kd.C_F (Kd.heap_int .u8) HR1_6.out) (by repeat (first | (with_reducible first | exact HB.out | apply below_alloc | apply pw_below_drewN | apply below_drew1 | refine below_set ?_ GE812.out | refine below_set ?_ GE813.out | refine below_set ?_ GE867.out | refine below_set ?_ GE889.out) | exact HB.out))))
        (case side3 => exact Kd.V_mk HC1_7.out (Kd.F_below (Kd.C_F (Kd.heap_int .u8) HR1_7.out) (by repeat (first | (with_reducible first | exact HB.out | apply below_alloc | apply pw_below_drewN | apply below_drew1 | refine below_set ?_ GE812.out | refine below_set ?_ GE813.out | refine below_set ?_ GE867.out | refine below_set ?_ GE889.out) | exact HB.out))))
        (case side4 => exact Kd.V_mk HC1_8.out (Kd.F_below (Kd.C_F (Kd.heap_int .u8) HR1_8.out) (by repeat (first | (with_reducible first | exact HB.out | apply below_alloc | apply pw_below_drewN | apply below_drew1 | refine below_set ?_ GE812.out | refine below_set ?_ GE813.out | refine below_set ?_ GE867.out | refine below_set ?_ GE889.out) | exact HB.out))))
        (case side5 => exact Kd.V_mk HC1_9.out (Kd.F_below (Kd.C_F (Kd.heap_int .u32) HR1_9.out) (by repeat (first | (with_reducible first | exact HB.out | apply below_alloc | apply pw_below_drewN | apply below_drew1 | refine below_set ?_ GE812.out | refine below_set ?_ GE813.out | refine below_set ?_ GE867.out | refine below_set ?_ GE889.out) | exact HB.out))))
        rintro e w94 ⟨v936, v941, v944, v947, v950, rfl, ho0, ho1, ho2, ho3, ho4, hb⟩
        refine ⟨_, rfl, ?_⟩
        have n0_ := Aside0.mk (Kd.R_below (by (with_reducible repeat (first | apply Kd.R_alloc | apply Kd.R_drewN | apply Kd.R_drew)); exact HO840.out) hb)
        have n1_ := Aside0.mk (Kd.R_below (by (with_reducible repeat (first | apply Kd.R_alloc | apply Kd.R_drewN | apply Kd.R_drew)); exact HO844.out) hb)
        have n2_ := Aside0.mk (Kd.N_below (by (with_reducible repeat (first | apply Kd.N_alloc | apply Kd.N_drewN | apply Kd.N_drew)); exact HO851.out) hb)
        have n3_ := Aside0.mk (Kd.R_below (by (with_reducible repeat (first | apply Kd.R_alloc | apply Kd.R_drewN | apply Kd.R_drew)); exact HO856.out) hb)
        have n4_ := Aside0.mk (Kd.R_below (by (with_reducible repeat (first | apply Kd.R_alloc | apply Kd.R_drewN | apply Kd.R_drew)); exact HO859.out) hb)
        have n5_ := Aside0.mk (Kd.R_below (by (with_reducible repeat (first | apply Kd.R_alloc | apply Kd.R_drewN | apply Kd.R_drew)); exact HO862.out) hb)
        have n6_ := Aside0.mk (Kd.R_below (by (with_reducible repeat (first | apply Kd.R_alloc | apply Kd.R_drewN | apply Kd.R_drew)); exact HO865.out) hb)
        have n7_ := Aside0.mk (Kd.N_below (by (with_reducible repeat (first | apply Kd.N_alloc | apply Kd.N_drewN | apply Kd.N_drew)); exact HO873.out) hb)
        have n8_ := Aside0.mk (Kd.V_below (by (with_reducible repeat (first | apply Kd.V_alloc | apply Kd.V_drewN | apply Kd.V_drew)); exact HO878.out) hb)
        have n9_ := Aside0.mk (Kd.V_below (by (with_reducible repeat (first | apply Kd.V_alloc | apply Kd.V_drewN | apply Kd.V_drew)); exact HO881.out) hb)
        have n10_ := Aside0.mk (Kd.V_below (by (with_reducible repeat (first | apply Kd.V_alloc | apply Kd.V_drewN | apply Kd.V_drew)); exact HO884.out) hb)
        have n11_ := Aside0.mk (Kd.R_below (by (with_reducible repeat (first | apply Kd.R_alloc | apply Kd.R_drewN | apply Kd.R_drew)); exact HO887.out) hb)
        have n12_ := Aside0.mk (Kd.N_below (by (with_reducible repeat (first | apply Kd.N_alloc | apply Kd.N_drewN | apply Kd.N_drew)); exact HO896.out) hb)
        have n13_ := Aside0.mk (Kd.V_below (by (with_reducible repeat (first | apply Kd.V_alloc | apply Kd.V_drewN | apply Kd.V_drew)); exact HO901.out) hb)
        have n14_ := Aside0.mk (Kd.V_below (by (with_reducible repeat (first | apply Kd.V_alloc | apply Kd.V_drewN | apply Kd.V_drew)); exact HO904.out) hb)
        have n15_ := Aside0.mk (Kd.V_below (by (with_reducible repeat (first | apply Kd.V_alloc | apply Kd.V_drewN | apply Kd.V_drew)); exact HO907.out) hb)
        have n16_ := Aside0.mk (Kd.V_below (by (with_reducible repeat (first | apply Kd.V_alloc | apply Kd.V_drewN | apply Kd.V_drew)); exact HO910.out) hb)
        have n17_ := Aside0.mk (Kd.N_below (by (with_reducible repeat (first | apply Kd.N_alloc | apply Kd.N_drewN | apply Kd.N_drew)); exact HO917.out) hb)
        have n18_ := Aside0.mk (Kd.V_below (by (with_reducible repeat (first | apply Kd.V_alloc | apply Kd.V_drewN | apply Kd.V_drew)); exact HO922.out) hb)
        have n19_ := Aside0.mk (Kd.V_below (by (with_reducible repeat (first | apply Kd.V_alloc | apply Kd.V_drewN | apply Kd.V_drew)); exact HO925.out) hb)
        have n20_ := Aside0.mk (Kd.V_below (by (with_reducible repeat (first | apply Kd.V_alloc | apply Kd.V_drewN | apply Kd.V_drew)); exact HO928.out) hb)
        have n21_ := Aside0.mk (Kd.V_below (by (with_reducible repeat (first | apply Kd.V_alloc | apply Kd.V_drewN | apply Kd.V_drew)); exact HO931.out) hb)
        have n22_ := Aside0.mk (Kd.N_lower (Kd.N_mono (ok' := fun k_ => True) ho0 (fun k_ hk_ => trivial)) (below_size (by repeat (first | (with_reducible first | exact HB.out | apply below_alloc | apply pw_below_drewN | apply below_drew1 | refine below_set ?_ GE812.out | refine below_set ?_ GE813.out | refine below_set ?_ GE867.out | refine below_set ?_ GE889.out) | exact HB.out))))
        have n23_ := Aside0.mk (Kd.V_lower (Kd.V_mono (ok' := fun k_ => True) ho1 (fun k_ hk_ => trivial)) (below_size (by repeat (first | (with_reducible first | exact HB.out | apply below_alloc | apply pw_below_drewN | apply below_drew1 | refine below_set ?_ GE812.out | refine below_set ?_ GE813.out | refine below_set ?_ GE867.out | refine below_set ?_ GE889.out) | exact HB.out))))
        have n24_ := Aside0.mk (Kd.V_lower (Kd.V_mono (ok' := fun k_ => True) ho2 (fun k_ hk_ => trivial)) (below_size (by repeat (first | (with_reducible first | exact HB.out | apply below_alloc | apply pw_below_drewN | apply below_drew1 | refine below_set ?_ GE812.out | refine below_set ?_ GE813.out | refine below_set ?_ GE867.out | refine below_set ?_ GE889.out) | exact HB.out))))
        have n25_ := Aside0.mk (Kd.V_lower (Kd.V_mono (ok' := fun k_ => True) ho3 (fun k_ hk_ => trivial)) (below_size (by repeat (first | (with_reducible first | exact HB.out | apply below_alloc | apply pw_below_drewN | apply below_drew1 | refine below_set ?_ GE812.out | refine below_set ?_ GE813.out | refine below_set ?_ GE867.out | refine below_set ?_ GE889.out) | exact HB.out))))
        have n26_ := Aside0.mk (Kd.V_lower (Kd.V_mono (ok' := fun k_ => True) ho4 (fun k_ hk_ => trivial)) (below_size (by repeat (first | (with_reducible first | exact HB.out | apply below_alloc | apply pw_below_drewN | apply below_drew1 | refine below_set ?_ GE812.out | refine below_set ?_ GE813.out | refine below_set ?_ GE867.out | refine below_set ?_ GE889.out) | exact HB.out))))
        have n27_ := Aside0.mk (blk_below (g := gb812) (o := .cells #[.int .u16 a0_0, .int .u8 a0_1, .int .u8 a0_2, .slice A0_3 l0_3.length c0_3, .int .u16 a0_4, .int .u32 a0_5, .slice A0_6 l0_6.length c0_6, .slice A0_7 l0_7.length c0_7, .slice A0_8 l0_8.length c0_8, .slice A0_9 l0_9.length c0_9] 44 (0, 0)) (by (with_reducible repeat (first | refine blk_drewN ?_ _ | refine blk_drew ?_ | refine blk_alloc ?_ _)); exact BK812.out) hb)
        have n28_ := Aside0.mk (blk_below (g := gb813) (o := .cells #[.int .u16 a1_0, .int .u8 a1_1, .int .u8 a1_2, .slice A1_3 l1_3.length c1_3, .int .u16 a1_4, .int .u32 a1_5, .slice A1_6 l1_6.length c1_6, .slice A1_7 l1_7.length c1_7, .slice A1_8 l1_8.length c1_8, .slice A1_9 l1_9.length c1_9] 44 (0, 0)) (by (with_reducible repeat (first | refine blk_drewN ?_ _ | refine blk_drew ?_ | refine blk_alloc ?_ _)); exact BK813.out) hb)
        have n29_ := Aside0.mk (blk_below (g := gb867) (o := .cells #[.int .u16 t846, .int .u8 t847, .int .u8 t848, .slice Ao65 t849.length co65, .int .u16 t852, .int .u32 t853, .slice Ao66 t854.length co66, .slice Ao67 t857.length co67, .slice Ao68 t860.length co68, .slice Ao69 t863.length co69] 47 (0, 0)) (by (with_reducible repeat (first | refine blk_drewN ?_ _ | refine blk_drew ?_ | refine blk_alloc ?_ _)); exact BK867.out) hb)
        have n30_ := Aside0.mk (blk_below (g := gb889) (o := .cells #[.int .u16 t868, .int .u8 t869, .int .u8 t870, .slice Ao77 t871.length co77, .int .u16 t874, .int .u32 t875, .slice Ao78 t876.length co78, .slice Ao79 t879.length co79, .slice Ao80 t882.length co80, .slice Ao81 t885.length co81] 44 (0, 0)) (by (with_reducible repeat (first | refine blk_drewN ?_ _ | refine blk_drew ?_ | refine blk_alloc ?_ _)); exact BK889.out) hb)
        have n31_ := Aside0.mk (below_step (by repeat (first | (with_reducible first | exact HB.out | apply below_alloc | apply pw_below_drewN | apply below_drew1 | refine below_set ?_ GE812.out | refine below_set ?_ GE813.out | refine below_set ?_ GE867.out | refine below_set ?_ GE889.out) | exact HB.out)) hb)
        clear HO840
        clear HO844
        clear HO851
        clear HO856
        clear HO859
        clear HO862
        clear HO865
        clear HO873
        clear HO878
        clear HO881
        clear HO884
        clear HO887
        clear HO896
        clear HO901
        clear HO904
        clear HO907
        clear HO910
        clear HO917
        clear HO922
        clear HO925
        clear HO928
        clear HO931
        clear BK812
        clear BK813
        clear BK867
        clear BK889
        clear HB
        have HO840 := n0_
        have HO844 := n1_
        have HO851 := n2_
        have HO856 := n3_
        have HO859 := n4_
        have HO862 := n5_
        have HO865 := n6_
        have HO873 := n7_
        have HO878 := n8_
        have HO881 := n9_
        have HO884 := n10_
        have HO887 := n11_
        have HO896 := n12_
        have HO901 := n13_
        have HO904 := n14_
        have HO907 := n15_
        have HO910 := n16_
        have HO917 := n17_
        have HO922 := n18_
        have HO925 := n19_
        have HO928 := n20_
        have HO931 := n21_
        have HO937 := n22_
        have HO942 := n23_
        have HO945 := n24_
        have HO948 := n25_
        have HO951 := n26_
        have BK812 := n27_
        have BK813 := n28_
        have BK867 := n29_
        have BK889 := n30_
        have HB := n31_
        clear n0_ n1_ n2_ n3_ n4_ n5_ n6_ n7_ n8_ n9_ n10_ n11_ n12_ n13_ n14_ n15_ n16_ n17_ n18_ n19_ n20_ n21_ n22_ n23_ n24_ n25_ n26_ n27_ n28_ n29_ n30_ n31_
        (try clear hb)
        (try clear hb2)
        (try clear hk)
        (try clear hi)
        (try clear ho0)
        (try clear ho1)
        (try clear ho2)
        (try clear ho3)
        (try clear ho4)
        obtain ⟨Ao95, co95, eo95⟩ := Kd.N_slice HO917.out
        (first | subst eo95 | (injection eo95 with f1_ f2_ f3_; have f4_ := f1_.symm; have f5_ := f3_.symm; clear f1_ f2_ f3_; subst f4_; subst f5_))
        obtain ⟨Ao96, co96, eo96⟩ := Kd.V_slice HO922.out
        (first | subst eo96 | (injection eo96 with f1_ f2_ f3_; have f4_ := f1_.symm; have f5_ := f3_.symm; clear f1_ f2_ f3_; subst f4_; subst f5_))
        obtain ⟨Ao97, co97, eo97⟩ := Kd.V_slice HO925.out
        (first | subst eo97 | (injection eo97 with f1_ f2_ f3_; have f4_ := f1_.symm; have f5_ := f3_.symm; clear f1_ f2_ f3_; subst f4_; subst f5_))
        obtain ⟨Ao98, co98, eo98⟩ := Kd.V_slice HO928.out
        (first | subst eo98 | (injection eo98 with f1_ f2_ f3_; have f4_ := f1_.symm; have f5_ := f3_.symm; clear f1_ f2_ f3_; subst f4_; subst f5_))
        obtain ⟨Ao99, co99, eo99⟩ := Kd.V_slice HO931.out
        (first | subst eo99 | (injection eo99 with f1_ f2_ f3_; have f4_ := f1_.symm; have f5_ := f3_.symm; clear f1_ f2_ f3_; subst f4_; subst f5_))
        obtain ⟨Ao100, co100, eo100⟩ := Kd.N_slice HO937.out
        (first | subst eo100 | (injection eo100 with f1_ f2_ f3_; have f4_ := f1_.symm; have f5_ := f3_.symm; clear f1_ f2_ f3_; subst f4_; subst f5_))
        obtain ⟨Ao101, co101, eo101⟩ := Kd.V_slice HO942.out
        (first | subst eo101 | (injection eo101 with f1_ f2_ f3_; have f4_ := f1_.symm; have f5_ := f3_.symm; clear f1_ f2_ f3_; subst f4_; subst f5_))
        obtain ⟨Ao102, co102, eo102⟩ := Kd.V_slice HO945.out
        (first | subst eo102 | (injection eo102 with f1_ f2_ f3_; have f4_ := f1_.symm; have f5_ := f3_.symm; clear f1_ f2_ f3_; subst f4_; subst f5_))
        obtain ⟨Ao103, co103, eo103⟩ := Kd.V_slice HO948.out
        (first | subst eo103 | (injection eo103 with f1_ f2_ f3_; have f4_ := f1_.symm; have f5_ := f3_.symm; clear f1_ f2_ f3_; subst f4_; subst f5_))
        obtain ⟨Ao104, co104, eo104⟩ := Kd.V_slice HO951.out
        (first | subst eo104 | (injection eo104 with f1_ f2_ f3_; have f4_ := f1_.symm; have f5_ := f3_.symm; clear f1_ f2_ f3_; subst f4_; subst f5_))
        refine hK.out _ _ ⟨(blk_cell BK867.out 0).trans rfl, (blk_cell BK867.out 1).trans rfl, (blk_cell BK867.out 2).trans rfl, (blk_cell BK867.out 3).trans rfl, (blk_cell BK867.out 4).trans rfl, (blk_cell BK867.out 5).trans rfl, (blk_cell BK867.out 6).trans rfl, (blk_cell BK867.out 7).trans rfl, (blk_cell BK867.out 8).trans rfl, (blk_cell BK867.out 9).trans rfl, (blk_cell BK889.out 0).trans rfl, (blk_cell BK889.out 1).trans rfl, (blk_cell BK889.out 2).trans rfl, (blk_cell BK889.out 3).trans rfl, (blk_cell BK889.out 4).trans rfl, (blk_cell BK889.out 5).trans rfl, (blk_cell BK889.out 6).trans rfl, (blk_cell BK889.out 7).trans rfl, (blk_cell BK889.out 8).trans rfl, (blk_cell BK889.out 9).trans rfl, (blk_cell BK812.out 0).trans rfl, (blk_cell BK812.out 1).trans rfl, (blk_cell BK812.out 2).trans rfl, (blk_cell BK812.out 3).trans rfl, (blk_cell BK812.out 4).trans rfl, (blk_cell BK812.out 5).trans rfl, (blk_cell BK812.out 6).trans rfl, (blk_cell BK812.out 7).trans rfl, (blk_cell BK812.out 8).trans rfl, (blk_cell BK812.out 9).trans rfl, (blk_cell BK813.out 0).trans rfl, (blk_cell BK813.out 1).trans rfl, (blk_cell BK813.out 2).trans rfl, (blk_cell BK813.out 3).trans rfl, (blk_cell BK813.out 4).trans rfl, (blk_cell BK813.out 5).trans rfl, (blk_cell BK813.out 6).trans rfl, (blk_cell BK813.out 7).trans rfl, (blk_cell BK813.out 8).trans rfl, (blk_cell BK813.out 9).trans rfl⟩ (fun hHeld => ?_)
        clear hK K
        refine norm_ (a' := ?_) ?_ ?_
        rotate_left
        ·show Act.put _ (some 77) _ = _
         simp only [Act.put, List.setIfInBounds_toArray, List.set_cons_zero, List.set_cons_succ, i64_w, i32_w]
         rfl
        refine one_ (i := 24) (N := some 78) #[true, true, true, true, true, true, true, true, true, true, true, true, true, true, true, true, true, true, true, true, true, true, true, true, true, true, true, false, false, false, false] rfl rfl (one_of HT_.out (by kernel_rfl)) (by decide) (fun K hK => ?_)
        refine goes_ Try.func26 (by kernel_rfl) rfl #[.agg #[.int .u16 t912, .int .u8 t913, .int .u8 t914, .slice Ao95 t915.length co95, .int .u16 t918, .int .u32 t919, .slice Ao96 t920.length co96, .slice Ao97 t923.length co97, .slice Ao98 t926.length co98, .slice Ao99 t929.length co99], .agg #[.int .u16 t932, .int .u8 t933, .int .u8 t934, .slice Ao100 t935.length co100, .int .u16 t938, .int .u32 t939, .slice Ao101 t940.length co101, .slice Ao102 t943.length co102, .slice Ao103 t946.length co103, .slice Ao104 t949.length co104]] (by rfl) rfl rfl (by (try simp only [List.map_toArray, List.map_cons, List.map_nil]); first | done | rfl | (simp only [List.length_drop, List.length_take]; rfl)) ?_
        with_reducible refine (chap_Answers.calls kj3 t912 t913 t914 _ _ t915 t918 t919 _ _ t920 _ _ t923 _ _ t926 _ _ t929 t932 t933 t934 _ _ t935 t938 t939 _ _ t940 _ _ t943 _ _ t946 _ _ t949 t952 _ ?side1 ?side2 ?side3 ?side4 ?side5 ?side6 ?side7 ?side8 ?side9 ?side10 ?side11 ?side12 ?side13 ?side14 ?side15 ?side16 ?side17 ?side18 ?side19 ?side20 A47.out).mono ?_
        (case side1 => repeat (first | exact (Kd.N_reads' HO917.out).2.2 | (with_reducible refine Kd.C_alloc ?_ _) | (with_reducible refine Kd.C_drewN ?_ _) | (with_reducible refine Kd.C_drew ?_)))
        (case side2 => exact (Kd.N_reads' HO917.out).2.1)
        (case side3 => repeat (first | exact (Kd.V_reads' HO922.out).2.2 | (with_reducible refine Kd.C_alloc ?_ _) | (with_reducible refine Kd.C_drewN ?_ _) | (with_reducible refine Kd.C_drew ?_)))
        (case side4 => exact (Kd.V_reads' HO922.out).2.1)
        (case side5 => repeat (first | exact (Kd.V_reads' HO925.out).2.2 | (with_reducible refine Kd.C_alloc ?_ _) | (with_reducible refine Kd.C_drewN ?_ _) | (with_reducible refine Kd.C_drew ?_)))
        (case side6 => exact (Kd.V_reads' HO925.out).2.1)
        (case side7 => repeat (first | exact (Kd.V_reads' HO928.out).2.2 | (with_reducible refine Kd.C_alloc ?_ _) | (with_reducible refine Kd.C_drewN ?_ _) | (with_reducible refine Kd.C_drew ?_)))
        (case side8 => exact (Kd.V_reads' HO928.out).2.1)
        (case side9 => repeat (first | exact (Kd.V_reads' HO931.out).2.2 | (with_reducible refine Kd.C_alloc ?_ _) | (with_reducible refine Kd.C_drewN ?_ _) | (with_reducible refine Kd.C_drew ?_)))
        (case side10 => exact (Kd.V_reads' HO931.out).2.1)
        (case side11 => repeat (first | exact (Kd.N_reads' HO937.out).2.2 | (with_reducible refine Kd.C_alloc ?_ _) | (with_reducible refine Kd.C_drewN ?_ _) | (with_reducible refine Kd.C_drew ?_)))
        (case side12 => exact (Kd.N_reads' HO937.out).2.1)
        (case side13 => repeat (first | exact (Kd.V_reads' HO942.out).2.2 | (with_reducible refine Kd.C_alloc ?_ _) | (with_reducible refine Kd.C_drewN ?_ _) | (with_reducible refine Kd.C_drew ?_)))
        (case side14 => exact (Kd.V_reads' HO942.out).2.1)
        (case side15 => repeat (first | exact (Kd.V_reads' HO945.out).2.2 | (with_reducible refine Kd.C_alloc ?_ _) | (with_reducible refine Kd.C_drewN ?_ _) | (with_reducible refine Kd.C_drew ?_)))
        (case side16 => exact (Kd.V_reads' HO945.out).2.1)
        (case side17 => repeat (first | exact (Kd.V_reads' HO948.out).2.2 | (with_reducible refine Kd.C_alloc ?_ _) | (with_reducible refine Kd.C_drewN ?_ _) | (with_reducible refine Kd.C_drew ?_)))
        (case side18 => exact (Kd.V_reads' HO948.out).2.1)
        (case side19 => repeat (first | exact (Kd.V_reads' HO951.out).2.2 | (with_reducible refine Kd.C_alloc ?_ _) | (with_reducible refine Kd.C_drewN ?_ _) | (with_reducible refine Kd.C_drew ?_)))
        (case side20 => exact (Kd.V_reads' HO951.out).2.1)
        rintro e w105 ⟨rfl, hb⟩
        refine ⟨_, rfl, ?_⟩
        have n0_ := Aside0.mk (Kd.R_below (by (with_reducible repeat (first | apply Kd.R_alloc | apply Kd.R_drewN | apply Kd.R_drew)); exact HO840.out) hb)
        have n1_ := Aside0.mk (Kd.R_below (by (with_reducible repeat (first | apply Kd.R_alloc | apply Kd.R_drewN | apply Kd.R_drew)); exact HO844.out) hb)
        have n2_ := Aside0.mk (Kd.N_below (by (with_reducible repeat (first | apply Kd.N_alloc | apply Kd.N_drewN | apply Kd.N_drew)); exact HO851.out) hb)
        have n3_ := Aside0.mk (Kd.R_below (by (with_reducible repeat (first | apply Kd.R_alloc | apply Kd.R_drewN | apply Kd.R_drew)); exact HO856.out) hb)
        have n4_ := Aside0.mk (Kd.R_below (by (with_reducible repeat (first | apply Kd.R_alloc | apply Kd.R_drewN | apply Kd.R_drew)); exact HO859.out) hb)
        have n5_ := Aside0.mk (Kd.R_below (by (with_reducible repeat (first | apply Kd.R_alloc | apply Kd.R_drewN | apply Kd.R_drew)); exact HO862.out) hb)
        have n6_ := Aside0.mk (Kd.R_below (by (with_reducible repeat (first | apply Kd.R_alloc | apply Kd.R_drewN | apply Kd.R_drew)); exact HO865.out) hb)
        have n7_ := Aside0.mk (Kd.N_below (by (with_reducible repeat (first | apply Kd.N_alloc | apply Kd.N_drewN | apply Kd.N_drew)); exact HO873.out) hb)
        have n8_ := Aside0.mk (Kd.V_below (by (with_reducible repeat (first | apply Kd.V_alloc | apply Kd.V_drewN | apply Kd.V_drew)); exact HO878.out) hb)
        have n9_ := Aside0.mk (Kd.V_below (by (with_reducible repeat (first | apply Kd.V_alloc | apply Kd.V_drewN | apply Kd.V_drew)); exact HO881.out) hb)
        have n10_ := Aside0.mk (Kd.V_below (by (with_reducible repeat (first | apply Kd.V_alloc | apply Kd.V_drewN | apply Kd.V_drew)); exact HO884.out) hb)
        have n11_ := Aside0.mk (Kd.R_below (by (with_reducible repeat (first | apply Kd.R_alloc | apply Kd.R_drewN | apply Kd.R_drew)); exact HO887.out) hb)
        have n12_ := Aside0.mk (Kd.N_below (by (with_reducible repeat (first | apply Kd.N_alloc | apply Kd.N_drewN | apply Kd.N_drew)); exact HO896.out) hb)
        have n13_ := Aside0.mk (Kd.V_below (by (with_reducible repeat (first | apply Kd.V_alloc | apply Kd.V_drewN | apply Kd.V_drew)); exact HO901.out) hb)
        have n14_ := Aside0.mk (Kd.V_below (by (with_reducible repeat (first | apply Kd.V_alloc | apply Kd.V_drewN | apply Kd.V_drew)); exact HO904.out) hb)
        have n15_ := Aside0.mk (Kd.V_below (by (with_reducible repeat (first | apply Kd.V_alloc | apply Kd.V_drewN | apply Kd.V_drew)); exact HO907.out) hb)
        have n16_ := Aside0.mk (Kd.V_below (by (with_reducible repeat (first | apply Kd.V_alloc | apply Kd.V_drewN | apply Kd.V_drew)); exact HO910.out) hb)
        have n17_ := Aside0.mk (Kd.N_below (by (with_reducible repeat (first | apply Kd.N_alloc | apply Kd.N_drewN | apply Kd.N_drew)); exact HO917.out) hb)
        have n18_ := Aside0.mk (Kd.V_below (by (with_reducible repeat (first | apply Kd.V_alloc | apply Kd.V_drewN | apply Kd.V_drew)); exact HO922.out) hb)
        have n19_ := Aside0.mk (Kd.V_below (by (with_reducible repeat (first | apply Kd.V_alloc | apply Kd.V_drewN | apply Kd.V_drew)); exact HO925.out) hb)
        have n20_ := Aside0.mk (Kd.V_below (by (with_reducible repeat (first | apply Kd.V_alloc | apply Kd.V_drewN | apply Kd.V_drew)); exact HO928.out) hb)
        have n21_ := Aside0.mk (Kd.V_below (by (with_reducible repeat (first | apply Kd.V_alloc | apply Kd.V_drewN | apply Kd.V_drew)); exact HO931.out) hb)
        have n22_ := Aside0.mk (Kd.N_below (by (with_reducible repeat (first | apply Kd.N_alloc | apply Kd.N_drewN | apply Kd.N_drew)); exact HO937.out) hb)
        have n23_ := Aside0.mk (Kd.V_below (by (with_reducible repeat (first | apply Kd.V_alloc | apply Kd.V_drewN | apply Kd.V_drew)); exact HO942.out) hb)
        have n24_ := Aside0.mk (Kd.V_below (by (with_reducible repeat (first | apply Kd.V_alloc | apply Kd.V_drewN | apply Kd.V_drew)); exact HO945.out) hb)
        have n25_ := Aside0.mk (Kd.V_below (by (with_reducible repeat (first | apply Kd.V_alloc | apply Kd.V_drewN | apply Kd.V_drew)); exact HO948.out) hb)
        have n26_ := Aside0.mk (Kd.V_below (by (with_reducible repeat (first | apply Kd.V_alloc | apply Kd.V_drewN | apply Kd.V_drew)); exact HO951.out) hb)
        have n27_ := Aside0.mk (blk_below (g := gb812) (o := .cells #[.int .u16 a0_0, .int .u8 a0_1, .int .u8 a0_2, .slice A0_3 l0_3.length c0_3, .int .u16 a0_4, .int .u32 a0_5, .slice A0_6 l0_6.length c0_6, .slice A0_7 l0_7.length c0_7, .slice A0_8 l0_8.length c0_8, .slice A0_9 l0_9.length c0_9] 44 (0, 0)) (by (with_reducible repeat (first | refine blk_drewN ?_ _ | refine blk_drew ?_ | refine blk_alloc ?_ _)); exact BK812.out) hb)
        have n28_ := Aside0.mk (blk_below (g := gb813) (o := .cells #[.int .u16 a1_0, .int .u8 a1_1, .int .u8 a1_2, .slice A1_3 l1_3.length c1_3, .int .u16 a1_4, .int .u32 a1_5, .slice A1_6 l1_6.length c1_6, .slice A1_7 l1_7.length c1_7, .slice A1_8 l1_8.length c1_8, .slice A1_9 l1_9.length c1_9] 44 (0, 0)) (by (with_reducible repeat (first | refine blk_drewN ?_ _ | refine blk_drew ?_ | refine blk_alloc ?_ _)); exact BK813.out) hb)
        have n29_ := Aside0.mk (blk_below (g := gb867) (o := .cells #[.int .u16 t846, .int .u8 t847, .int .u8 t848, .slice Ao65 t849.length co65, .int .u16 t852, .int .u32 t853, .slice Ao66 t854.length co66, .slice Ao67 t857.length co67, .slice Ao68 t860.length co68, .slice Ao69 t863.length co69] 47 (0, 0)) (by (with_reducible repeat (first | refine blk_drewN ?_ _ | refine blk_drew ?_ | refine blk_alloc ?_ _)); exact BK867.out) hb)
        have n30_ := Aside0.mk (blk_below (g := gb889) (o := .cells #[.int .u16 t868, .int .u8 t869, .int .u8 t870, .slice Ao77 t871.length co77, .int .u16 t874, .int .u32 t875, .slice Ao78 t876.length co78, .slice Ao79 t879.length co79, .slice Ao80 t882.length co80, .slice Ao81 t885.length co81] 44 (0, 0)) (by (with_reducible repeat (first | refine blk_drewN ?_ _ | refine blk_drew ?_ | refine blk_alloc ?_ _)); exact BK889.out) hb)
        have n31_ := Aside0.mk (below_step (by repeat (first | (with_reducible first | exact HB.out | apply below_alloc | apply pw_below_drewN | apply below_drew1 | refine below_set ?_ GE812.out | refine below_set ?_ GE813.out | refine below_set ?_ GE867.out | refine below_set ?_ GE889.out) | exact HB.out)) hb)
        clear HO840
        clear HO844
        clear HO851
        clear HO856
        clear HO859
        clear HO862
        clear HO865
        clear HO873
        clear HO878
        clear HO881
        clear HO884
        clear HO887
        clear HO896
        clear HO901
        clear HO904
        clear HO907
        clear HO910
        clear HO917
        clear HO922
        clear HO925
        clear HO928
        clear HO931
        clear HO937
        clear HO942
        clear HO945
        clear HO948
        clear HO951
        clear BK812
        clear BK813
        clear BK867
        clear BK889
        clear HB
        have HO840 := n0_
        have HO844 := n1_
        have HO851 := n2_
        have HO856 := n3_
        have HO859 := n4_
        have HO862 := n5_
        have HO865 := n6_
        have HO873 := n7_
        have HO878 := n8_
        have HO881 := n9_
        have HO884 := n10_
        have HO887 := n11_
        have HO896 := n12_
        have HO901 := n13_
        have HO904 := n14_
        have HO907 := n15_
        have HO910 := n16_
        have HO917 := n17_
        have HO922 := n18_
        have HO925 := n19_
        have HO928 := n20_
        have HO931 := n21_
        have HO937 := n22_
        have HO942 := n23_
        have HO945 := n24_
        have HO948 := n25_
        have HO951 := n26_
        have BK812 := n27_
        have BK813 := n28_
        have BK867 := n29_
        have BK889 := n30_
        have HB := n31_
        clear n0_ n1_ n2_ n3_ n4_ n5_ n6_ n7_ n8_ n9_ n10_ n11_ n12_ n13_ n14_ n15_ n16_ n17_ n18_ n19_ n20_ n21_ n22_ n23_ n24_ n25_ n26_ n27_ n28_ n29_ n30_ n31_
        (try clear hb)
        (try clear hb2)
        (try clear hk)
        (try clear hi)
        refine hK.out _ _ ⟨(blk_cell BK867.out 0).trans rfl, (blk_cell BK867.out 1).trans rfl, (blk_cell BK867.out 2).trans rfl, (blk_cell BK867.out 3).trans rfl, (blk_cell BK867.out 4).trans rfl, (blk_cell BK867.out 5).trans rfl, (blk_cell BK867.out 6).trans rfl, (blk_cell BK867.out 7).trans rfl, (blk_cell BK867.out 8).trans rfl, (blk_cell BK867.out 9).trans rfl, (blk_cell BK889.out 0).trans rfl, (blk_cell BK889.out 1).trans rfl, (blk_cell BK889.out 2).trans rfl, (blk_cell BK889.out 3).trans rfl, (blk_cell BK889.out 4).trans rfl, (blk_cell BK889.out 5).trans rfl, (blk_cell BK889.out 6).trans rfl, (blk_cell BK889.out 7).trans rfl, (blk_cell BK889.out 8).trans rfl, (blk_cell BK889.out 9).trans rfl, (blk_cell BK812.out 0).trans rfl, (blk_cell BK812.out 1).trans rfl, (blk_cell BK812.out 2).trans rfl, (blk_cell BK812.out 3).trans rfl, (blk_cell BK812.out 4).trans rfl, (blk_cell BK812.out 5).trans rfl, (blk_cell BK812.out 6).trans rfl, (blk_cell BK812.out 7).trans rfl, (blk_cell BK812.out 8).trans rfl, (blk_cell BK812.out 9).trans rfl, (blk_cell BK813.out 0).trans rfl, (blk_cell BK813.out 1).trans rfl, (blk_cell BK813.out 2).trans rfl, (blk_cell BK813.out 3).trans rfl, (blk_cell BK813.out 4).trans rfl, (blk_cell BK813.out 5).trans rfl, (blk_cell BK813.out 6).trans rfl, (blk_cell BK813.out 7).trans rfl, (blk_cell BK813.out 8).trans rfl, (blk_cell BK813.out 9).trans rfl⟩ (fun hHeld => ?_)
        clear hK K
        refine norm_ (a' := ?_) ?_ ?_
        rotate_left
        ·show Act.put _ (some 78) _ = _
         simp only [Act.put, List.setIfInBounds_toArray, List.set_cons_zero, List.set_cons_succ, i64_w, i32_w]
         rfl
        refine one_ (i := 27) (N := some 81) #[true, true, true, true, true, true, true, true, true, true, true, true, true, true, true, true, true, true, true, true, true, true, true, true, true, true, true, true, false, false, false] rfl rfl (one_of HT_.out (by kernel_rfl)) (by decide) (fun K hK => ?_)
        refine goes_ Try.func41 (by kernel_rfl) rfl #[.agg #[.int .u16 a0_0, .int .u8 a0_1, .int .u8 a0_2, .slice A0_3 l0_3.length c0_3, .int .u16 a0_4, .int .u32 a0_5, .slice A0_6 l0_6.length c0_6, .slice A0_7 l0_7.length c0_7, .slice A0_8 l0_8.length c0_8, .slice A0_9 l0_9.length c0_9], .agg #[.int .u16 a1_0, .int .u8 a1_1, .int .u8 a1_2, .slice A1_3 l1_3.length c1_3, .int .u16 a1_4, .int .u32 a1_5, .slice A1_6 l1_6.length c1_6, .slice A1_7 l1_7.length c1_7, .slice A1_8 l1_8.length c1_8, .slice A1_9 l1_9.length c1_9]] (by rfl) rfl rfl (by (try simp only [List.map_toArray, List.map_cons, List.map_nil]); first | done | rfl | (simp only [List.length_drop, List.length_take]; rfl)) ?_
        with_reducible refine (marlineref18_Answers.calls a0_0 a0_1 a0_2 _ _ l0_3 a0_4 a0_5 _ _ l0_6 _ _ l0_7 _ _ l0_8 _ _ l0_9 a1_0 a1_1 a1_2 _ _ l1_3 a1_4 a1_5 _ _ l1_6 _ _ l1_7 _ _ l1_8 _ _ l1_9 t953 _ ?side1 ?side2 ?side3 ?side4 ?side5 ?side6 ?side7 ?side8 ?side9 ?side10 ?side11 ?side12 ?side13 ?side14 ?side15 ?side16 ?side17 ?side18 ?side19 ?side20 A48.out).mono ?_
        (case side1 => repeat (first | exact (Kd.C_below HR0_3.out HB.out) | (with_reducible refine Kd.C_alloc ?_ _) | (with_reducible refine Kd.C_drewN ?_ _) | (with_reducible refine Kd.C_drew ?_)))
        (case side2 => exact HC0_3.out)
        (case side3 => repeat (first | exact (Kd.C_below HR0_6.out HB.out) | (with_reducible refine Kd.C_alloc ?_ _) | (with_reducible refine Kd.C_drewN ?_ _) | (with_reducible refine Kd.C_drew ?_)))
        (case side4 => exact HC0_6.out)
        (case side5 => repeat (first | exact (Kd.C_below HR0_7.out HB.out) | (with_reducible refine Kd.C_alloc ?_ _) | (with_reducible refine Kd.C_drewN ?_ _) | (with_reducible refine Kd.C_drew ?_)))
        (case side6 => exact HC0_7.out)
        (case side7 => repeat (first | exact (Kd.C_below HR0_8.out HB.out) | (with_reducible refine Kd.C_alloc ?_ _) | (with_reducible refine Kd.C_drewN ?_ _) | (with_reducible refine Kd.C_drew ?_)))
        (case side8 => exact HC0_8.out)
        (case side9 => repeat (first | exact (Kd.C_below HR0_9.out HB.out) | (with_reducible refine Kd.C_alloc ?_ _) | (with_reducible refine Kd.C_drewN ?_ _) | (with_reducible refine Kd.C_drew ?_)))
        (case side10 => exact HC0_9.out)
        (case side11 => repeat (first | exact (Kd.C_below HR1_3.out HB.out) | (with_reducible refine Kd.C_alloc ?_ _) | (with_reducible refine Kd.C_drewN ?_ _) | (with_reducible refine Kd.C_drew ?_)))
        (case side12 => exact HC1_3.out)
        (case side13 => repeat (first | exact (Kd.C_below HR1_6.out HB.out) | (with_reducible refine Kd.C_alloc ?_ _) | (with_reducible refine Kd.C_drewN ?_ _) | (with_reducible refine Kd.C_drew ?_)))
        (case side14 => exact HC1_6.out)
        (case side15 => repeat (first | exact (Kd.C_below HR1_7.out HB.out) | (with_reducible refine Kd.C_alloc ?_ _) | (with_reducible refine Kd.C_drewN ?_ _) | (with_reducible refine Kd.C_drew ?_)))
        (case side16 => exact HC1_7.out)
        (case side17 => repeat (first | exact (Kd.C_below HR1_8.out HB.out) | (with_reducible refine Kd.C_alloc ?_ _) | (with_reducible refine Kd.C_drewN ?_ _) | (with_reducible refine Kd.C_drew ?_)))
        (case side18 => exact HC1_8.out)
        (case side19 => repeat (first | exact (Kd.C_below HR1_9.out HB.out) | (with_reducible refine Kd.C_alloc ?_ _) | (with_reducible refine Kd.C_drewN ?_ _) | (with_reducible refine Kd.C_drew ?_)))
        (case side20 => exact HC1_9.out)
        rintro e w106 ⟨rfl, hb⟩
        refine ⟨_, rfl, ?_⟩
        have n0_ := Aside0.mk (Kd.R_below (by (with_reducible repeat (first | apply Kd.R_alloc | apply Kd.R_drewN | apply Kd.R_drew)); exact HO840.out) hb)
        have n1_ := Aside0.mk (Kd.R_below (by (with_reducible repeat (first | apply Kd.R_alloc | apply Kd.R_drewN | apply Kd.R_drew)); exact HO844.out) hb)
        have n2_ := Aside0.mk (Kd.N_below (by (with_reducible repeat (first | apply Kd.N_alloc | apply Kd.N_drewN | apply Kd.N_drew)); exact HO851.out) hb)
        have n3_ := Aside0.mk (Kd.R_below (by (with_reducible repeat (first | apply Kd.R_alloc | apply Kd.R_drewN | apply Kd.R_drew)); exact HO856.out) hb)
        have n4_ := Aside0.mk (Kd.R_below (by (with_reducible repeat (first | apply Kd.R_alloc | apply Kd.R_drewN | apply Kd.R_drew)); exact HO859.out) hb)
        have n5_ := Aside0.mk (Kd.R_below (by (with_reducible repeat (first | apply Kd.R_alloc | apply Kd.R_drewN | apply Kd.R_drew)); exact HO862.out) hb)
        have n6_ := Aside0.mk (Kd.R_below (by (with_reducible repeat (first | apply Kd.R_alloc | apply Kd.R_drewN | apply Kd.R_drew)); exact HO865.out) hb)
        have n7_ := Aside0.mk (Kd.N_below (by (with_reducible repeat (first | apply Kd.N_alloc | apply Kd.N_drewN | apply Kd.N_drew)); exact HO873.out) hb)
        have n8_ := Aside0.mk (Kd.V_below (by (with_reducible repeat (first | apply Kd.V_alloc | apply Kd.V_drewN | apply Kd.V_drew)); exact HO878.out) hb)
        have n9_ := Aside0.mk (Kd.V_below (by (with_reducible repeat (first | apply Kd.V_alloc | apply Kd.V_drewN | apply Kd.V_drew)); exact HO881.out) hb)
        have n10_ := Aside0.mk (Kd.V_below (by (with_reducible repeat (first | apply Kd.V_alloc | apply Kd.V_drewN | apply Kd.V_drew)); exact HO884.out) hb)
        have n11_ := Aside0.mk (Kd.R_below (by (with_reducible repeat (first | apply Kd.R_alloc | apply Kd.R_drewN | apply Kd.R_drew)); exact HO887.out) hb)
        have n12_ := Aside0.mk (Kd.N_below (by (with_reducible repeat (first | apply Kd.N_alloc | apply Kd.N_drewN | apply Kd.N_drew)); exact HO896.out) hb)
        have n13_ := Aside0.mk (Kd.V_below (by (with_reducible repeat (first | apply Kd.V_alloc | apply Kd.V_drewN | apply Kd.V_drew)); exact HO901.out) hb)
        have n14_ := Aside0.mk (Kd.V_below (by (with_reducible repeat (first | apply Kd.V_alloc | apply Kd.V_drewN | apply Kd.V_drew)); exact HO904.out) hb)
        have n15_ := Aside0.mk (Kd.V_below (by (with_reducible repeat (first | apply Kd.V_alloc | apply Kd.V_drewN | apply Kd.V_drew)); exact HO907.out) hb)
        have n16_ := Aside0.mk (Kd.V_below (by (with_reducible repeat (first | apply Kd.V_alloc | apply Kd.V_drewN | apply Kd.V_drew)); exact HO910.out) hb)
        have n17_ := Aside0.mk (Kd.N_below (by (with_reducible repeat (first | apply Kd.N_alloc | apply Kd.N_drewN | apply Kd.N_drew)); exact HO917.out) hb)
        have n18_ := Aside0.mk (Kd.V_below (by (with_reducible repeat (first | apply Kd.V_alloc | apply Kd.V_drewN | apply Kd.V_drew)); exact HO922.out) hb)
        have n19_ := Aside0.mk (Kd.V_below (by (with_reducible repeat (first | apply Kd.V_alloc | apply Kd.V_drewN | apply Kd.V_drew)); exact HO925.out) hb)
        have n20_ := Aside0.mk (Kd.V_below (by (with_reducible repeat (first | apply Kd.V_alloc | apply Kd.V_drewN | apply Kd.V_drew)); exact HO928.out) hb)
        have n21_ := Aside0.mk (Kd.V_below (by (with_reducible repeat (first | apply Kd.V_alloc | apply Kd.V_drewN | apply Kd.V_drew)); exact HO931.out) hb)
        have n22_ := Aside0.mk (Kd.N_below (by (with_reducible repeat (first | apply Kd.N_alloc | apply Kd.N_drewN | apply Kd.N_drew)); exact HO937.out) hb)
        have n23_ := Aside0.mk (Kd.V_below (by (with_reducible repeat (first | apply Kd.V_alloc | apply Kd.V_drewN | apply Kd.V_drew)); exact HO942.out) hb)
        have n24_ := Aside0.mk (Kd.V_below (by (with_reducible repeat (first | apply Kd.V_alloc | apply Kd.V_drewN | apply Kd.V_drew)); exact HO945.out) hb)
        have n25_ := Aside0.mk (Kd.V_below (by (with_reducible repeat (first | apply Kd.V_alloc | apply Kd.V_drewN | apply Kd.V_drew)); exact HO948.out) hb)
        have n26_ := Aside0.mk (Kd.V_below (by (with_reducible repeat (first | apply Kd.V_alloc | apply Kd.V_drewN | apply Kd.V_drew)); exact HO951.out) hb)
        have n27_ := Aside0.mk (blk_below (g := gb812) (o := .cells #[.int .u16 a0_0, .int .u8 a0_1, .int .u8 a0_2, .slice A0_3 l0_3.length c0_3, .int .u16 a0_4, .int .u32 a0_5, .slice A0_6 l0_6.length c0_6, .slice A0_7 l0_7.length c0_7, .slice A0_8 l0_8.length c0_8, .slice A0_9 l0_9.length c0_9] 44 (0, 0)) (by (with_reducible repeat (first | refine blk_drewN ?_ _ | refine blk_drew ?_ | refine blk_alloc ?_ _)); exact BK812.out) hb)
        have n28_ := Aside0.mk (blk_below (g := gb813) (o := .cells #[.int .u16 a1_0, .int .u8 a1_1, .int .u8 a1_2, .slice A1_3 l1_3.length c1_3, .int .u16 a1_4, .int .u32 a1_5, .slice A1_6 l1_6.length c1_6, .slice A1_7 l1_7.length c1_7, .slice A1_8 l1_8.length c1_8, .slice A1_9 l1_9.length c1_9] 44 (0, 0)) (by (with_reducible repeat (first | refine blk_drewN ?_ _ | refine blk_drew ?_ | refine blk_alloc ?_ _)); exact BK813.out) hb)
        have n29_ := Aside0.mk (blk_below (g := gb867) (o := .cells #[.int .u16 t846, .int .u8 t847, .int .u8 t848, .slice Ao65 t849.length co65, .int .u16 t852, .int .u32 t853, .slice Ao66 t854.length co66, .slice Ao67 t857.length co67, .slice Ao68 t860.length co68, .slice Ao69 t863.length co69] 47 (0, 0)) (by (with_reducible repeat (first | refine blk_drewN ?_ _ | refine blk_drew ?_ | refine blk_alloc ?_ _)); exact BK867.out) hb)
        have n30_ := Aside0.mk (blk_below (g := gb889) (o := .cells #[.int .u16 t868, .int .u8 t869, .int .u8 t870, .slice Ao77 t871.length co77, .int .u16 t874, .int .u32 t875, .slice Ao78 t876.length co78, .slice Ao79 t879.length co79, .slice Ao80 t882.length co80, .slice Ao81 t885.length co81] 44 (0, 0)) (by (with_reducible repeat (first | refine blk_drewN ?_ _ | refine blk_drew ?_ | refine blk_alloc ?_ _)); exact BK889.out) hb)
        have n31_ := Aside0.mk (below_step (by repeat (first | (with_reducible first | exact HB.out | apply below_alloc | apply pw_below_drewN | apply below_drew1 | refine below_set ?_ GE812.out | refine below_set ?_ GE813.out | refine below_set ?_ GE867.out | refine below_set ?_ GE889.out) | exact HB.out)) hb)
        clear HO840
        clear HO844
        clear HO851
        clear HO856
        clear HO859
        clear HO862
        clear HO865
        clear HO873
        clear HO878
        clear HO881
        clear HO884
        clear HO887
        clear HO896
        clear HO901
        clear HO904
        clear HO907
        clear HO910
        clear HO917
        clear HO922
        clear HO925
        clear HO928
        clear HO931
        clear HO937
        clear HO942
        clear HO945
        clear HO948
        clear HO951
        clear BK812
        clear BK813
        clear BK867
        clear BK889
        clear HB
        have HO840 := n0_
        have HO844 := n1_
        have HO851 := n2_
        have HO856 := n3_
        have HO859 := n4_
        have HO862 := n5_
        have HO865 := n6_
        have HO873 := n7_
        have HO878 := n8_
        have HO881 := n9_
        have HO884 := n10_
        have HO887 := n11_
        have HO896 := n12_
        have HO901 := n13_
        have HO904 := n14_
        have HO907 := n15_
        have HO910 := n16_
        have HO917 := n17_
        have HO922 := n18_
        have HO925 := n19_
        have HO928 := n20_
        have HO931 := n21_
        have HO937 := n22_
        have HO942 := n23_
        have HO945 := n24_
        have HO948 := n25_
        have HO951 := n26_
        have BK812 := n27_
        have BK813 := n28_
        have BK867 := n29_
        have BK889 := n30_
        have HB := n31_
        clear n0_ n1_ n2_ n3_ n4_ n5_ n6_ n7_ n8_ n9_ n10_ n11_ n12_ n13_ n14_ n15_ n16_ n17_ n18_ n19_ n20_ n21_ n22_ n23_ n24_ n25_ n26_ n27_ n28_ n29_ n30_ n31_
        (try clear hb)
        (try clear hb2)
        (try clear hk)
        (try clear hi)
        refine hK.out _ _ ⟨(blk_cell BK867.out 0).trans rfl, (blk_cell BK867.out 1).trans rfl, (blk_cell BK867.out 2).trans rfl, (blk_cell BK867.out 3).trans rfl, (blk_cell BK867.out 4).trans rfl, (blk_cell BK867.out 5).trans rfl, (blk_cell BK867.out 6).trans rfl, (blk_cell BK867.out 7).trans rfl, (blk_cell BK867.out 8).trans rfl, (blk_cell BK867.out 9).trans rfl, (blk_cell BK889.out 0).trans rfl, (blk_cell BK889.out 1).trans rfl, (blk_cell BK889.out 2).trans rfl, (blk_cell BK889.out 3).trans rfl, (blk_cell BK889.out 4).trans rfl, (blk_cell BK889.out 5).trans rfl, (blk_cell BK889.out 6).trans rfl, (blk_cell BK889.out 7).trans rfl, (blk_cell BK889.out 8).trans rfl, (blk_cell BK889.out 9).trans rfl, (blk_cell BK812.out 0).trans rfl, (blk_cell BK812.out 1).trans rfl, (blk_cell BK812.out 2).trans rfl, (blk_cell BK812.out 3).trans rfl, (blk_cell BK812.out 4).trans rfl, (blk_cell BK812.out 5).trans rfl, (blk_cell BK812.out 6).trans rfl, (blk_cell BK812.out 7).trans rfl, (blk_cell BK812.out 8).trans rfl, (blk_cell BK812.out 9).trans rfl, (blk_cell BK813.out 0).trans rfl, (blk_cell BK813.out 1).trans rfl, (blk_cell BK813.out 2).trans rfl, (blk_cell BK813.out 3).trans rfl, (blk_cell BK813.out 4).trans rfl, (blk_cell BK813.out 5).trans rfl, (blk_cell BK813.out 6).trans rfl, (blk_cell BK813.out 7).trans rfl, (blk_cell BK813.out 8).trans rfl, (blk_cell BK813.out 9).trans rfl⟩ (fun hHeld => ?_)
        clear hK K
        refine norm_ (a' := ?_) ?_ ?_
        rotate_left
        ·show Act.put _ (some 81) _ = _
         simp only [Act.put, List.setIfInBounds_toArray, List.set_cons_zero, List.set_cons_succ, i64_w, i32_w]
         rfl
        refine pure_ (i := 28) (N := some 82) (v := ?_) (a' := ?_) #[true, true, true, true, true, true, true, true, true, true, true, true, true, true, true, true, true, true, true, true, true, true, true, true, true, true, true, true, true, false, false] rfl rfl (any_of HT_.out (by kernel_rfl)) (fun _ _ _ h => h) (Or.inl ⟨by rfl, ?_⟩) ?_ ?_
        rotate_left
        ·intro w'
         go_simp
         with_reducible rfl
        rotate_left
        ·simp only [Act.put, List.setIfInBounds_toArray, List.set_cons_zero, List.set_cons_succ, i64_w, i32_w]
         rfl
        refine pure_ (i := 29) (N := some 83) (v := ?_) (a' := ?_) #[true, true, true, true, true, true, true, true, true, true, true, true, true, true, true, true, true, true, true, true, true, true, true, true, true, true, true, true, true, true, false] rfl rfl (any_of HT_.out (by kernel_rfl)) (fun _ _ _ h => h) (Or.inl ⟨by rfl, ?_⟩) ?_ ?_
        rotate_left
        ·intro w'
         go_simp
         with_reducible rfl
        rotate_left
        ·simp only [Act.put, List.setIfInBounds_toArray, List.set_cons_zero, List.set_cons_succ, i64_w, i32_w]
         rfl
        refine pure_ (i := 30) (N := some 6) (v := ?_) (a' := ?_) #[true, true, true, true, true, true, true, true, true, true, true, true, true, true, true, true, true, true, true, true, true, true, true, true, true, true, true, true, true, true, true] rfl rfl (any_of HT_.out (by kernel_rfl)) (fun _ _ _ h => h) (Or.inl ⟨by rfl, ?_⟩) ?_ ?_
        rotate_left
        ·intro w'
         go_simp
         with_reducible rfl
        rotate_left
        ·simp only [Act.put, List.setIfInBounds_toArray, List.set_cons_zero, List.set_cons_succ, i64_w, i32_w]
         rfl
        refine done_ (done_of HT_.out (by kernel_rfl)) ?_
        try go_wp2
        go_ret
        exact ⟨by first | rfl | (simp [errW_none, errW_some] <;> rfl) | (simp [*, errW_none, errW_some] <;> rfl), by repeat (first | (with_reducible first | exact HB.out | apply below_alloc | apply pw_below_drewN | apply below_drew1 | refine below_set ?_ GE812.out | refine below_set ?_ GE813.out | refine below_set ?_ GE867.out | refine below_set ?_ GE889.out) | exact HB.out)⟩
       ·replace c44 := Bool.eq_false_iff.mpr c44
        subst c44
        have H1 : (none) = some r := by rw [if_neg (show ¬ (false = true) by decide)] at H; exact H
        clear H
        have H := H1
        clear H1
        exact absurd H (by simp)
      ·rw [if_neg c41] at H
       exact absurd H (by simp)
     ·replace c40 := Bool.eq_false_iff.mpr c40
      subst c40
      have H1 : (none) = some r := by rw [if_neg (show ¬ (false = true) by decide)] at H; exact H
      clear H
      have H := H1
      clear H1
      exact absurd H (by simp)
    ·rw [if_neg c38] at H
     exact absurd H (by simp)
def marlinelaw18_ChapTells.Pure : Prop := ∀ (a0_0 : Int) (a0_1 : Int) (a0_2 : Int) (l0_3 : List (S56)) (a0_4 : Int) (a0_5 : Int) (l0_6 : List Int) (l0_7 : List Int) (l0_8 : List Int) (l0_9 : List Int) (a1_0 : Int) (a1_1 : Int) (a1_2 : Int) (l1_3 : List (S56)) (a1_4 : Int) (a1_5 : Int) (l1_6 : List Int) (l1_7 : List Int) (l1_8 : List Int) (l1_9 : List Int) (l2 : List Int), (Lit.int .u16 a0_0).wf = true → (Lit.int .u8 a0_1).wf = true → (Lit.int .u8 a0_2).wf = true → ((l0_3.length ≤ 9223372036854775807 ∧ l0_3.length * 32 ≤ 140737488351232) ∧ ∀ y0_ ∈ l0_3, ((Lit.int .u8 y0_.f0).wf = true ∧ ((y0_.f1.length ≤ 9223372036854775807 ∧ y0_.f1.length * 1 ≤ 140737488351232) ∧ ∀ y1_ ∈ y0_.f1, (Lit.int .u8 y1_).wf = true))) → (Lit.int .u16 a0_4).wf = true → (Lit.int .u32 a0_5).wf = true → ((l0_6.length ≤ 9223372036854775807 ∧ l0_6.length * 1 ≤ 140737488351232) ∧ ∀ y0_ ∈ l0_6, (Lit.int .u8 y0_).wf = true) → ((l0_7.length ≤ 9223372036854775807 ∧ l0_7.length * 1 ≤ 140737488351232) ∧ ∀ y0_ ∈ l0_7, (Lit.int .u8 y0_).wf = true) → ((l0_8.length ≤ 9223372036854775807 ∧ l0_8.length * 1 ≤ 140737488351232) ∧ ∀ y0_ ∈ l0_8, (Lit.int .u8 y0_).wf = true) → ((l0_9.length ≤ 9223372036854775807 ∧ l0_9.length * 4 ≤ 140737488351232) ∧ ∀ y0_ ∈ l0_9, (Lit.int .u32 y0_).wf = true) → (Lit.int .u16 a1_0).wf = true → (Lit.int .u8 a1_1).wf = true → (Lit.int .u8 a1_2).wf = true → ((l1_3.length ≤ 9223372036854775807 ∧ l1_3.length * 32 ≤ 140737488351232) ∧ ∀ y0_ ∈ l1_3, ((Lit.int .u8 y0_.f0).wf = true ∧ ((y0_.f1.length ≤ 9223372036854775807 ∧ y0_.f1.length * 1 ≤ 140737488351232) ∧ ∀ y1_ ∈ y0_.f1, (Lit.int .u8 y1_).wf = true))) → (Lit.int .u16 a1_4).wf = true → (Lit.int .u32 a1_5).wf = true → ((l1_6.length ≤ 9223372036854775807 ∧ l1_6.length * 1 ≤ 140737488351232) ∧ ∀ y0_ ∈ l1_6, (Lit.int .u8 y0_).wf = true) → ((l1_7.length ≤ 9223372036854775807 ∧ l1_7.length * 1 ≤ 140737488351232) ∧ ∀ y0_ ∈ l1_7, (Lit.int .u8 y0_).wf = true) → ((l1_8.length ≤ 9223372036854775807 ∧ l1_8.length * 1 ≤ 140737488351232) ∧ ∀ y0_ ∈ l1_8, (Lit.int .u8 y0_).wf = true) → ((l1_9.length ≤ 9223372036854775807 ∧ l1_9.length * 4 ≤ 140737488351232) ∧ ∀ y0_ ∈ l1_9, (Lit.int .u32 y0_).wf = true) → l2.length ≤ maxLen → l2.length * 1 ≤ 140737488351232 → (∀ x ∈ l2, (Lit.int .u8 x).wf = true) → ∃ k, marlinelaw18_ChapTells.f k a0_0 a0_1 a0_2 l0_3 a0_4 a0_5 l0_6 l0_7 l0_8 l0_9 a1_0 a1_1 a1_2 l1_3 a1_4 a1_5 l1_6 l1_7 l1_8 l1_9 l2 = some true
theorem marlinelaw18_ChapTells.walk (P : marlinelaw18_ChapTells.Pure) (a0_0 : Int) (a0_1 : Int) (a0_2 : Int) (A0_3 : Option Addr) (c0_3 : Nat) (l0_3 : List (S56)) (a0_4 : Int) (a0_5 : Int) (A0_6 : Option Addr) (c0_6 : Nat) (l0_6 : List Int) (A0_7 : Option Addr) (c0_7 : Nat) (l0_7 : List Int) (A0_8 : Option Addr) (c0_8 : Nat) (l0_8 : List Int) (A0_9 : Option Addr) (c0_9 : Nat) (l0_9 : List Int) (a1_0 : Int) (a1_1 : Int) (a1_2 : Int) (A1_3 : Option Addr) (c1_3 : Nat) (l1_3 : List (S56)) (a1_4 : Int) (a1_5 : Int) (A1_6 : Option Addr) (c1_6 : Nat) (l1_6 : List Int) (A1_7 : Option Addr) (c1_7 : Nat) (l1_7 : List Int) (A1_8 : Option Addr) (c1_8 : Nat) (l1_8 : List Int) (A1_9 : Option Addr) (c1_9 : Nat) (l1_9 : List Int) (A2 : Option Addr) (c2 : Nat) (l2 : List Int) (w : World) (hw0_0 : (Lit.int .u16 a0_0).wf = true) (hw0_1 : (Lit.int .u8 a0_1).wf = true) (hw0_2 : (Lit.int .u8 a0_2).wf = true) (hr0_3 : Kd.C k56 w A0_3 l0_3.length l0_3) (hc0_3 : l0_3.length ≤ c0_3) (hw0_3 : ((l0_3.length ≤ 9223372036854775807 ∧ l0_3.length * 32 ≤ 140737488351232) ∧ ∀ y0_ ∈ l0_3, ((Lit.int .u8 y0_.f0).wf = true ∧ ((y0_.f1.length ≤ 9223372036854775807 ∧ y0_.f1.length * 1 ≤ 140737488351232) ∧ ∀ y1_ ∈ y0_.f1, (Lit.int .u8 y1_).wf = true)))) (hw0_4 : (Lit.int .u16 a0_4).wf = true) (hw0_5 : (Lit.int .u32 a0_5).wf = true) (hr0_6 : Kd.C (Kd.int .u8) w A0_6 l0_6.length l0_6) (hc0_6 : l0_6.length ≤ c0_6) (hw0_6 : ((l0_6.length ≤ 9223372036854775807 ∧ l0_6.length * 1 ≤ 140737488351232) ∧ ∀ y0_ ∈ l0_6, (Lit.int .u8 y0_).wf = true)) (hr0_7 : Kd.C (Kd.int .u8) w A0_7 l0_7.length l0_7) (hc0_7 : l0_7.length ≤ c0_7) (hw0_7 : ((l0_7.length ≤ 9223372036854775807 ∧ l0_7.length * 1 ≤ 140737488351232) ∧ ∀ y0_ ∈ l0_7, (Lit.int .u8 y0_).wf = true)) (hr0_8 : Kd.C (Kd.int .u8) w A0_8 l0_8.length l0_8) (hc0_8 : l0_8.length ≤ c0_8) (hw0_8 : ((l0_8.length ≤ 9223372036854775807 ∧ l0_8.length * 1 ≤ 140737488351232) ∧ ∀ y0_ ∈ l0_8, (Lit.int .u8 y0_).wf = true)) (hr0_9 : Kd.C (Kd.int .u32) w A0_9 l0_9.length l0_9) (hc0_9 : l0_9.length ≤ c0_9) (hw0_9 : ((l0_9.length ≤ 9223372036854775807 ∧ l0_9.length * 4 ≤ 140737488351232) ∧ ∀ y0_ ∈ l0_9, (Lit.int .u32 y0_).wf = true)) (hw1_0 : (Lit.int .u16 a1_0).wf = true) (hw1_1 : (Lit.int .u8 a1_1).wf = true) (hw1_2 : (Lit.int .u8 a1_2).wf = true) (hr1_3 : Kd.C k56 w A1_3 l1_3.length l1_3) (hc1_3 : l1_3.length ≤ c1_3) (hw1_3 : ((l1_3.length ≤ 9223372036854775807 ∧ l1_3.length * 32 ≤ 140737488351232) ∧ ∀ y0_ ∈ l1_3, ((Lit.int .u8 y0_.f0).wf = true ∧ ((y0_.f1.length ≤ 9223372036854775807 ∧ y0_.f1.length * 1 ≤ 140737488351232) ∧ ∀ y1_ ∈ y0_.f1, (Lit.int .u8 y1_).wf = true)))) (hw1_4 : (Lit.int .u16 a1_4).wf = true) (hw1_5 : (Lit.int .u32 a1_5).wf = true) (hr1_6 : Kd.C (Kd.int .u8) w A1_6 l1_6.length l1_6) (hc1_6 : l1_6.length ≤ c1_6) (hw1_6 : ((l1_6.length ≤ 9223372036854775807 ∧ l1_6.length * 1 ≤ 140737488351232) ∧ ∀ y0_ ∈ l1_6, (Lit.int .u8 y0_).wf = true)) (hr1_7 : Kd.C (Kd.int .u8) w A1_7 l1_7.length l1_7) (hc1_7 : l1_7.length ≤ c1_7) (hw1_7 : ((l1_7.length ≤ 9223372036854775807 ∧ l1_7.length * 1 ≤ 140737488351232) ∧ ∀ y0_ ∈ l1_7, (Lit.int .u8 y0_).wf = true)) (hr1_8 : Kd.C (Kd.int .u8) w A1_8 l1_8.length l1_8) (hc1_8 : l1_8.length ≤ c1_8) (hw1_8 : ((l1_8.length ≤ 9223372036854775807 ∧ l1_8.length * 1 ≤ 140737488351232) ∧ ∀ y0_ ∈ l1_8, (Lit.int .u8 y0_).wf = true)) (hr1_9 : Kd.C (Kd.int .u32) w A1_9 l1_9.length l1_9) (hc1_9 : l1_9.length ≤ c1_9) (hw1_9 : ((l1_9.length ≤ 9223372036854775807 ∧ l1_9.length * 4 ≤ 140737488351232) ∧ ∀ y0_ ∈ l1_9, (Lit.int .u32 y0_).wf = true)) (hr2 : Kd.C (Kd.int .u8) w A2 l2.length l2) (hc2 : l2.length ≤ c2) (hm2 : l2.length ≤ maxLen) (y2 : l2.length * 1 ≤ 140737488351232) (hw2 : ∀ x ∈ l2, (Lit.int .u8 x).wf = true) :
 Calls Try.prog 12 #[.agg #[.int .u16 a0_0, .int .u8 a0_1, .int .u8 a0_2, .slice A0_3 l0_3.length c0_3, .int .u16 a0_4, .int .u32 a0_5, .slice A0_6 l0_6.length c0_6, .slice A0_7 l0_7.length c0_7, .slice A0_8 l0_8.length c0_8, .slice A0_9 l0_9.length c0_9], .agg #[.int .u16 a1_0, .int .u8 a1_1, .int .u8 a1_2, .slice A1_3 l1_3.length c1_3, .int .u16 a1_4, .int .u32 a1_5, .slice A1_6 l1_6.length c1_6, .slice A1_7 l1_7.length c1_7, .slice A1_8 l1_8.length c1_8, .slice A1_9 l1_9.length c1_9], .slice A2 l2.length c2] w fun e w' => e = .returned (.bool true) ∧ Below w.heap.size w w' := by
 obtain ⟨k, h⟩ := P a0_0 a0_1 a0_2 l0_3 a0_4 a0_5 l0_6 l0_7 l0_8 l0_9 a1_0 a1_1 a1_2 l1_3 a1_4 a1_5 l1_6 l1_7 l1_8 l1_9 l2 hw0_0 hw0_1 hw0_2 hw0_3 hw0_4 hw0_5 hw0_6 hw0_7 hw0_8 hw0_9 hw1_0 hw1_1 hw1_2 hw1_3 hw1_4 hw1_5 hw1_6 hw1_7 hw1_8 hw1_9 hm2 y2 hw2
 refine (marlinelaw18_ChapTells.calls k a0_0 a0_1 a0_2 _ _ l0_3 a0_4 a0_5 _ _ l0_6 _ _ l0_7 _ _ l0_8 _ _ l0_9 a1_0 a1_1 a1_2 _ _ l1_3 a1_4 a1_5 _ _ l1_6 _ _ l1_7 _ _ l1_8 _ _ l1_9 _ _ l2 true w hr0_3 hc0_3 hr0_6 hc0_6 hr0_7 hc0_7 hr0_8 hc0_8 hr0_9 hc0_9 hr1_3 hc1_3 hr1_6 hc1_6 hr1_7 hc1_7 hr1_8 hc1_8 hr1_9 hc1_9 hr2 hc2 h).mono ?_
 rintro e w' ⟨rfl, hd⟩
 exact ⟨rfl, hd⟩
end Go.Proofs.Ytgjeahgagciagaa.Print
namespace Go.Proofs.Ytgjeahgagciagaa.Print
open Go.RowKit Go.Proofs.YtgjeahgagciagaaW.PrintWords Go.Proofs.YtgjeahgagciagaaW.PrintLast Go.Proofs.YtgjeahgagciagaaW.PrintMore
attribute [local go_sem] max2_int min2_int max_two min_two max_three min_three max_four min_four
set_option linter.unusedVariables false
set_option linter.unusedSimpArgs false
def tlv_Size.l0 : Nat → Int → List (S57) → Int → Int → Option (Int)
 | 0, _, _, _, _ => none
 | k + 1, x3, x6, x7, x8 => if x8 < x7 then (if 0 ≤ x8 then (if x8 < (x6.length : Int) then (tlv_Size.l0 k (wrap64 (x3 + (wrap64 (2 + (((rd_T57 x6 x8).f1).length : Int))))) x6 x7 (wrap64 (x8 + 1))) else (none)) else (none)) else (some x3)
def tlv_Size.f (k : Nat) (l0 : List (S57)) : Option (Int) := tlv_Size.l0 k 0 l0 (l0.length : Int) 0
end Go.Proofs.Ytgjeahgagciagaa.Print
namespace Go.Proofs.Ytgjeahgagciagaa.Print
open Go.RowKit Go.Proofs.YtgjeahgagciagaaW.PrintWords Go.Proofs.YtgjeahgagciagaaW.PrintLast Go.Proofs.YtgjeahgagciagaaW.PrintMore
attribute [local go_sem] max2_int min2_int max_two min_two max_three min_three max_four min_four
set_option linter.unusedVariables false
set_option linter.unusedSimpArgs false
def tlv_Put.l0 : Nat → List Int → List (S57) → Int → Int → Option (List Int × Int)
 | 0, _, _, _, _ => none
 | k + 1, x4, x10, x11, x12 => if x12 < x11 then (if 0 ≤ x12 then (if x12 < (x10.length : Int) then (if (((rd_T57 x10 x12).f1).length : Int) > 253 then (some (([] : List Int), 3)) else ((some (([(rd_T57 x10 x12).f0, (wrap64 ((((rd_T57 x10 x12).f1).length : Int) + 2)) % 256] : List Int) : List Int)).bind fun y109 => (if x4.length + y109.length < 140737488355328 then ((some (x4 ++ y109 : List Int)).bind fun y112 => (if y112.length + ((rd_T57 x10 x12).f1).length < 140737488355328 then (tlv_Put.l0 k (y112 ++ ((rd_T57 x10 x12).f1)) x10 x11 (wrap64 (x12 + 1))) else (none))) else (none)))) else (none)) else (none)) else (some (x4, 0))
def tlv_Put.f (k : Nat) (l0 : List (S57)) : Option (List Int × Int) := (tlv_Size.f k l0).bind fun t103 => (if 0 ≤ t103 then (if (t103 : Int).toNat ≤ 281474976710656 then (tlv_Put.l0 k (([] : List Int)) l0 (l0.length : Int) 0) else (none)) else (none))
end Go.Proofs.Ytgjeahgagciagaa.Print
namespace Go.Proofs.Ytgjeahgagciagaa.Print
open Go.RowKit Go.Proofs.YtgjeahgagciagaaW.PrintWords Go.Proofs.YtgjeahgagciagaaW.PrintLast Go.Proofs.YtgjeahgagciagaaW.PrintMore
attribute [local go_sem] max2_int min2_int max_two min_two max_three min_three max_four min_four
set_option linter.unusedVariables false
set_option linter.unusedSimpArgs false
def tlv_next.f (l0 : List Int) : Option (Int × List Int × List Int × Int) := if (l0.length : Int) < 2 then (some (0, ([] : List Int), ([] : List Int), 2)) else (if 1 < (l0.length : Int) then (if (wrap64 (rd l0 1)) < 2 then (some (0, ([] : List Int), ([] : List Int), 4)) else (if (wrap64 (rd l0 1)) > (l0.length : Int) then (some (0, ([] : List Int), ([] : List Int), 2)) else (if 0 < (l0.length : Int) then (if 2 ≤ (wrap64 (rd l0 1)) then (if (wrap64 (rd l0 1)) ≤ (l0.length : Int) then ((slices_Clone_byte_byte.f ((l0.take ((wrap64 (rd l0 1)) : Int).toNat).drop 2)).bind fun t149 => (if 0 ≤ (wrap64 (rd l0 1)) then (some (rd l0 0, t149, (l0.drop ((wrap64 (rd l0 1)) : Int).toNat), 0)) else (none))) else (none)) else (none)) else (none)))) else (none))
end Go.Proofs.Ytgjeahgagciagaa.Print
namespace Go.Proofs.Ytgjeahgagciagaa.Print
open Go.RowKit Go.Proofs.YtgjeahgagciagaaW.PrintWords Go.Proofs.YtgjeahgagciagaaW.PrintLast Go.Proofs.YtgjeahgagciagaaW.PrintMore
attribute [local go_sem] max2_int min2_int max_two min_two max_three min_three max_four min_four
set_option linter.unusedVariables false
set_option linter.unusedSimpArgs false
def tlv_Get.l0 : Nat → List Int → List (S57) → Option ((List (S57)) × Int)
 | 0, _, _ => none
 | k + 1, x0, x4 => if (x0.length : Int) > 0 then ((tlv_next.f x0).bind fun bt157 => (if bt157.2.2.2 = 0 then (if x4.length < 4398046511104 then (tlv_Get.l0 k bt157.2.2.1 (x4 ++ [(⟨bt157.1, bt157.2.1⟩ : S57)])) else (none)) else (some (([] : List (S57)), bt157.2.2.2)))) else (some (x4, 0))
def tlv_Get.f (k : Nat) (l0 : List Int) : Option ((List (S57)) × Int) := tlv_Get.l0 k l0 ([] : List (S57))
end Go.Proofs.Ytgjeahgagciagaa.Print
namespace Go.Proofs.Ytgjeahgagciagaa.Print
open Go.RowKit Go.Proofs.YtgjeahgagciagaaW.PrintWords Go.Proofs.YtgjeahgagciagaaW.PrintLast Go.Proofs.YtgjeahgagciagaaW.PrintMore
attribute [local go_sem] max2_int min2_int max_two min_two max_three min_three max_four min_four
set_option linter.unusedVariables false
set_option linter.unusedSimpArgs false
def tlv_Same.one (x y : S57) : Bool := x.f0 == y.f0 && (strOfNums x.f1).toList == (strOfNums y.f1).toList
def tlv_Same.f (l0 l1 : List S57) : Option Bool := some (l0.length == l1.length && (l0.zip l1).all fun p => tlv_Same.one p.1 p.2)
end Go.Proofs.Ytgjeahgagciagaa.Print
namespace Go.Proofs.Ytgjeahgagciagaa.Print
open Go.RowKit Go.Proofs.YtgjeahgagciagaaW.PrintWords Go.Proofs.YtgjeahgagciagaaW.PrintLast Go.Proofs.YtgjeahgagciagaaW.PrintMore
attribute [local go_sem] max2_int min2_int max_two min_two max_three min_three max_four min_four
set_option linter.unusedVariables false
set_option linter.unusedSimpArgs false
def marlinelaw12_speaks.f (k : Nat)  : Option (Bool) := (tlv_Put.f k (([(⟨1, (([5, 220] : List Int))⟩ : S57)] : List (S57)))).bind fun bt126 => (if bt126.2 = 0 then ((marlineref01_Equal.f k bt126.1 (([1, 4, 5, 220] : List Int))).bind fun t133 => (some t133)) else (some false))
end Go.Proofs.Ytgjeahgagciagaa.Print
