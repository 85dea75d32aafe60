/- Texts of this claim, several in one, told shortly by a program of this claim (wip/x/shrink.py): what Go functions come to, and plain words on it. -/
import Derived.Test.YteanncchmenlkaaDoorShEtherMost2
namespace Go.Proofs.YteanncchmenlkaaDoor.Print
open Go.RowKit Go.Proofs.YteanncchmenlkaaDoorW.PrintWords Go.Proofs.YteanncchmenlkaaDoorW.PrintLast Go.Proofs.YteanncchmenlkaaDoorW.PrintMore
attribute [local go_sem] max2_int min2_int max_two min_two max_three min_three max_four min_four
set_option linter.unusedVariables false
set_option linter.unusedSimpArgs false
def body_Same.j0 : Nat → Bool → Int → Int → Int → List (S62) → Int → Int → List Int → List Int → List Int → List Int → Int → Int → Int → List (S62) → Int → Int → List Int → List Int → List Int → List Int → Option (Bool)
 | 0, _, _, _, _, _, _, _, _, _, _, _, _, _, _, _, _, _, _, _, _, _ => none
 | k + 1, x5, x104000, x104001, x104002, x104003, x104004, x104005, x104006, x104007, x104008, x104009, x105000, x105001, x105002, x105003, x105004, x105005, x105006, x105007, x105008, x105009 => if x5 = true then ((tlv_Same.f x104003 x105003).bind fun t105 => (if t105 = true then ((bytes_Equal.f x104006 x105006).bind fun t106 => (if t106 = true then ((bytes_Equal.f x104007 x105007).bind fun t107 => (if t107 = true then ((bytes_Equal.f x104008 x105008).bind fun t108 => (if t108 = true then ((slices_Equal_uint32_uint32.f k x104009 x105009).bind fun t109 => (some t109)) else (some false))) else (some false))) else (some false))) else (some false))) else (some false)
def body_Same.f (k : Nat) (a0_0 : Int) (a0_1 : Int) (a0_2 : Int) (l0_3 : List (S62)) (a0_4 : Int) (a0_5 : Int) (l0_6 : List Int) (l0_7 : List Int) (l0_8 : List Int) (l0_9 : List Int) (a1_0 : Int) (a1_1 : Int) (a1_2 : Int) (l1_3 : List (S62)) (a1_4 : Int) (a1_5 : Int) (l1_6 : List Int) (l1_7 : List Int) (l1_8 : List Int) (l1_9 : List Int) : Option (Bool) := if a0_0 = a1_0 then (if a0_1 = a1_1 then (if a0_2 = a1_2 then (if a0_4 = a1_4 then (body_Same.j0 k (a0_5 == a1_5) a0_0 a0_1 a0_2 l0_3 a0_4 a0_5 l0_6 l0_7 l0_8 l0_9 a1_0 a1_1 a1_2 l1_3 a1_4 a1_5 l1_6 l1_7 l1_8 l1_9) else (body_Same.j0 k false a0_0 a0_1 a0_2 l0_3 a0_4 a0_5 l0_6 l0_7 l0_8 l0_9 a1_0 a1_1 a1_2 l1_3 a1_4 a1_5 l1_6 l1_7 l1_8 l1_9)) else (body_Same.j0 k false a0_0 a0_1 a0_2 l0_3 a0_4 a0_5 l0_6 l0_7 l0_8 l0_9 a1_0 a1_1 a1_2 l1_3 a1_4 a1_5 l1_6 l1_7 l1_8 l1_9)) else (body_Same.j0 k false a0_0 a0_1 a0_2 l0_3 a0_4 a0_5 l0_6 l0_7 l0_8 l0_9 a1_0 a1_1 a1_2 l1_3 a1_4 a1_5 l1_6 l1_7 l1_8 l1_9)) else (body_Same.j0 k false a0_0 a0_1 a0_2 l0_3 a0_4 a0_5 l0_6 l0_7 l0_8 l0_9 a1_0 a1_1 a1_2 l1_3 a1_4 a1_5 l1_6 l1_7 l1_8 l1_9)
set_option maxHeartbeats 8000000 in
set_option maxRecDepth 100000 in
theorem body_Same.calls (k : Nat) (a0_0 : Int) (a0_1 : Int) (a0_2 : Int) (A0_3 : Option Addr) (c0_3 : Nat) (l0_3 : List (S62)) (a0_4 : Int) (a0_5 : Int) (A0_6 : Option Addr) (c0_6 : Nat) (l0_6 : List Int) (A0_7 : Option Addr) (c0_7 : Nat) (l0_7 : List Int) (A0_8 : Option Addr) (c0_8 : Nat) (l0_8 : List Int) (A0_9 : Option Addr) (c0_9 : Nat) (l0_9 : List Int) (a1_0 : Int) (a1_1 : Int) (a1_2 : Int) (A1_3 : Option Addr) (c1_3 : Nat) (l1_3 : List (S62)) (a1_4 : Int) (a1_5 : Int) (A1_6 : Option Addr) (c1_6 : Nat) (l1_6 : List Int) (A1_7 : Option Addr) (c1_7 : Nat) (l1_7 : List Int) (A1_8 : Option Addr) (c1_8 : Nat) (l1_8 : List Int) (A1_9 : Option Addr) (c1_9 : Nat) (l1_9 : List Int) (r : Bool) (w : World) (hr0_3 : Kd.C k62 w A0_3 l0_3.length l0_3) (hc0_3 : l0_3.length ≤ c0_3) (hr0_6 : Kd.C (Kd.int .u8) w A0_6 l0_6.length l0_6) (hc0_6 : l0_6.length ≤ c0_6) (hr0_7 : Kd.C (Kd.int .u8) w A0_7 l0_7.length l0_7) (hc0_7 : l0_7.length ≤ c0_7) (hr0_8 : Kd.C (Kd.int .u8) w A0_8 l0_8.length l0_8) (hc0_8 : l0_8.length ≤ c0_8) (hr0_9 : Kd.C (Kd.int .u32) w A0_9 l0_9.length l0_9) (hc0_9 : l0_9.length ≤ c0_9) (hr1_3 : Kd.C k62 w A1_3 l1_3.length l1_3) (hc1_3 : l1_3.length ≤ c1_3) (hr1_6 : Kd.C (Kd.int .u8) w A1_6 l1_6.length l1_6) (hc1_6 : l1_6.length ≤ c1_6) (hr1_7 : Kd.C (Kd.int .u8) w A1_7 l1_7.length l1_7) (hc1_7 : l1_7.length ≤ c1_7) (hr1_8 : Kd.C (Kd.int .u8) w A1_8 l1_8.length l1_8) (hc1_8 : l1_8.length ≤ c1_8) (hr1_9 : Kd.C (Kd.int .u32) w A1_9 l1_9.length l1_9) (hc1_9 : l1_9.length ≤ c1_9) (h : body_Same.f k a0_0 a0_1 a0_2 l0_3 a0_4 a0_5 l0_6 l0_7 l0_8 l0_9 a1_0 a1_1 a1_2 l1_3 a1_4 a1_5 l1_6 l1_7 l1_8 l1_9 = some r) :
 Calls Tryd.prog 25 #[.agg #[.int .u16 a0_0, .int .u8 a0_1, .int .u8 a0_2, .slice A0_3 l0_3.length c0_3, .int .u16 a0_4, .int .u32 a0_5, .slice A0_6 l0_6.length c0_6, .slice A0_7 l0_7.length c0_7, .slice A0_8 l0_8.length c0_8, .slice A0_9 l0_9.length c0_9], .agg #[.int .u16 a1_0, .int .u8 a1_1, .int .u8 a1_2, .slice A1_3 l1_3.length c1_3, .int .u16 a1_4, .int .u32 a1_5, .slice A1_6 l1_6.length c1_6, .slice A1_7 l1_7.length c1_7, .slice A1_8 l1_8.length c1_8, .slice A1_9 l1_9.length c1_9]] w fun e w' => e = .returned (.bool r) ∧ Below w.heap.size w w' := by
 have hu29 := Tryd.underlying29
 have HR0_3 := Aside0.mk hr0_3
 have HC0_3 := Aside0.mk hc0_3
 clear hr0_3 hc0_3
 have HR0_6 := Aside0.mk hr0_6
 have HC0_6 := Aside0.mk hc0_6
 clear hr0_6 hc0_6
 have HR0_7 := Aside0.mk hr0_7
 have HC0_7 := Aside0.mk hc0_7
 clear hr0_7 hc0_7
 have HR0_8 := Aside0.mk hr0_8
 have HC0_8 := Aside0.mk hc0_8
 clear hr0_8 hc0_8
 have HR0_9 := Aside0.mk hr0_9
 have HC0_9 := Aside0.mk hc0_9
 clear hr0_9 hc0_9
 have HR1_3 := Aside0.mk hr1_3
 have HC1_3 := Aside0.mk hc1_3
 clear hr1_3 hc1_3
 have HR1_6 := Aside0.mk hr1_6
 have HC1_6 := Aside0.mk hc1_6
 clear hr1_6 hc1_6
 have HR1_7 := Aside0.mk hr1_7
 have HC1_7 := Aside0.mk hc1_7
 clear hr1_7 hc1_7
 have HR1_8 := Aside0.mk hr1_8
 have HC1_8 := Aside0.mk hc1_8
 clear hr1_8 hc1_8
 have HR1_9 := Aside0.mk hr1_9
 have HC1_9 := Aside0.mk hc1_9
 clear hr1_9 hc1_9
 have HB := Aside0.mk (Below.refl w.heap.size w)
 have H : (if a0_0 = a1_0 then (if a0_1 = a1_1 then (if a0_2 = a1_2 then (if a0_4 = a1_4 then (body_Same.j0 k (a0_5 == a1_5) a0_0 a0_1 a0_2 l0_3 a0_4 a0_5 l0_6 l0_7 l0_8 l0_9 a1_0 a1_1 a1_2 l1_3 a1_4 a1_5 l1_6 l1_7 l1_8 l1_9) else (body_Same.j0 k false a0_0 a0_1 a0_2 l0_3 a0_4 a0_5 l0_6 l0_7 l0_8 l0_9 a1_0 a1_1 a1_2 l1_3 a1_4 a1_5 l1_6 l1_7 l1_8 l1_9)) else (body_Same.j0 k false a0_0 a0_1 a0_2 l0_3 a0_4 a0_5 l0_6 l0_7 l0_8 l0_9 a1_0 a1_1 a1_2 l1_3 a1_4 a1_5 l1_6 l1_7 l1_8 l1_9)) else (body_Same.j0 k false a0_0 a0_1 a0_2 l0_3 a0_4 a0_5 l0_6 l0_7 l0_8 l0_9 a1_0 a1_1 a1_2 l1_3 a1_4 a1_5 l1_6 l1_7 l1_8 l1_9)) else (body_Same.j0 k false a0_0 a0_1 a0_2 l0_3 a0_4 a0_5 l0_6 l0_7 l0_8 l0_9 a1_0 a1_1 a1_2 l1_3 a1_4 a1_5 l1_6 l1_7 l1_8 l1_9)) = some r := h
 clear h
 have HC3 := Aside0.mk H
 clear H
 go_enter Tryd.func25, Tryd.ntmps25
 go_upto_region 1 with (first | ((with_reducible refine gate_dst (N := 2) rfl ?_); refine box_event ?hg (N := 2) ?hd (cs := #[.int .u16 a0_0, .int .u8 a0_1, .int .u8 a0_2, .slice A0_3 l0_3.length c0_3, .int .u16 a0_4, .int .u32 a0_5, .slice A0_6 l0_6.length c0_6, .slice A0_7 l0_7.length c0_7, .slice A0_8 l0_8.length c0_8, .slice A0_9 l0_9.length c0_9]) (t := 29) ?hr ?_; (case hd => rfl); (case hg => rfl); (case hr => first | (go_simp; done) | (go_simp; simp only [IntKind.wrap_u8, IntKind.wrap_u16, IntKind.wrap_u32, IntKind.wrap_u64]; done) | (go_simp; simp only [IntKind.wrap_u8, IntKind.wrap_u16, IntKind.wrap_u32, IntKind.wrap_u64, Int.tmod_eq_emod_of_nonneg (Int.natCast_nonneg _), Int.emod_emod]; done) | (go_simp; rfl)); intro gb103 hg w4 hbox hb; have n0_ := Aside0.mk (below_step (by repeat (first | (with_reducible first | exact HB.out | apply below_alloc | apply pw_below_drewN | apply below_drew1) | exact HB.out)) hb); have n1_ := Aside0.mk (hbox); have n2_ := Aside0.mk ((by rw [hg]; exact (below_size (by repeat (first | (with_reducible first | exact HB.out | apply below_alloc | apply pw_below_drewN | apply below_drew1) | exact HB.out))) : w.heap.size ≤ gb103)); have n3_ := Aside0.mk ((by rw [hg]; exact (below_size (by repeat (first | (with_reducible first | exact HB.out | apply below_alloc | apply pw_below_drewN | apply below_drew1) | exact HB.out))) : w.heap.size ≤ gb103)); clear HB; have HB := n0_; have BK103 := n1_; have GW103 := n2_; have GE103 := n3_; clear n0_ n1_ n2_ n3_; clear hb hbox hg) | ((with_reducible refine gate_dst (N := 3) rfl ?_); refine box_event ?hg (N := 3) ?hd (cs := #[.int .u16 a1_0, .int .u8 a1_1, .int .u8 a1_2, .slice A1_3 l1_3.length c1_3, .int .u16 a1_4, .int .u32 a1_5, .slice A1_6 l1_6.length c1_6, .slice A1_7 l1_7.length c1_7, .slice A1_8 l1_8.length c1_8, .slice A1_9 l1_9.length c1_9]) (t := 29) ?hr ?_; (case hd => rfl); (case hg => rfl); (case hr => first | (go_simp; done) | (go_simp; simp only [IntKind.wrap_u8, IntKind.wrap_u16, IntKind.wrap_u32, IntKind.wrap_u64]; done) | (go_simp; simp only [IntKind.wrap_u8, IntKind.wrap_u16, IntKind.wrap_u32, IntKind.wrap_u64, Int.tmod_eq_emod_of_nonneg (Int.natCast_nonneg _), Int.emod_emod]; done) | (go_simp; rfl)); intro gb104 hg w5 hbox hb; have n0_ := Aside0.mk (blk_below (g := gb103) (o := .cells #[.int .u16 a0_0, .int .u8 a0_1, .int .u8 a0_2, .slice A0_3 l0_3.length c0_3, .int .u16 a0_4, .int .u32 a0_5, .slice A0_6 l0_6.length c0_6, .slice A0_7 l0_7.length c0_7, .slice A0_8 l0_8.length c0_8, .slice A0_9 l0_9.length c0_9] 29 (0, 0)) (by (with_reducible repeat (first | refine blk_drewN ?_ _ | refine blk_drew ?_ | refine blk_alloc ?_ _)); exact BK103.out) hb); have n1_ := Aside0.mk (below_step (by repeat (first | (with_reducible first | exact HB.out | apply below_alloc | apply pw_below_drewN | apply below_drew1 | refine below_set ?_ GE103.out) | exact HB.out)) hb); have n2_ := Aside0.mk (hbox); have n3_ := Aside0.mk ((by rw [hg]; exact (below_size (by repeat (first | (with_reducible first | exact HB.out | apply below_alloc | apply pw_below_drewN | apply below_drew1 | refine below_set ?_ GE103.out) | exact HB.out))) : w.heap.size ≤ gb104)); have n4_ := Aside0.mk ((by rw [hg]; exact (below_size (by repeat (first | (with_reducible first | exact HB.out | apply below_alloc | apply pw_below_drewN | apply below_drew1 | refine below_set ?_ GE103.out) | exact HB.out))) : w.heap.size ≤ gb104)); have n5_ := Aside0.mk ((by rw [hg]; exact Nat.ne_of_lt (blk_lt (g := gb103) (o := .cells #[.int .u16 a0_0, .int .u8 a0_1, .int .u8 a0_2, .slice A0_3 l0_3.length c0_3, .int .u16 a0_4, .int .u32 a0_5, .slice A0_6 l0_6.length c0_6, .slice A0_7 l0_7.length c0_7, .slice A0_8 l0_8.length c0_8, .slice A0_9 l0_9.length c0_9] 29 (0, 0)) (by (with_reducible repeat (first | refine blk_drewN ?_ _ | refine blk_drew ?_ | refine blk_alloc ?_ _)); exact BK103.out)) : gb103 ≠ gb104)); have n6_ := Aside0.mk ((by rw [hg]; exact Nat.ne_of_gt (blk_lt (g := gb103) (o := .cells #[.int .u16 a0_0, .int .u8 a0_1, .int .u8 a0_2, .slice A0_3 l0_3.length c0_3, .int .u16 a0_4, .int .u32 a0_5, .slice A0_6 l0_6.length c0_6, .slice A0_7 l0_7.length c0_7, .slice A0_8 l0_8.length c0_8, .slice A0_9 l0_9.length c0_9] 29 (0, 0)) (by (with_reducible repeat (first | refine blk_drewN ?_ _ | refine blk_drew ?_ | refine blk_alloc ?_ _)); exact BK103.out)) : gb104 ≠ gb103)); clear BK103; clear HB; have BK103 := n0_; have HB := n1_; have BK104 := n2_; have GW104 := n3_; have GE104 := n4_; have NB103_104 := n5_; have NB104_103 := n6_; clear n0_ n1_ n2_ n3_ n4_ n5_ n6_; clear hb hbox hg))
 (try simp only [Act.put, List.setIfInBounds_toArray, List.set_cons_zero, List.set_cons_succ])
 go_cut [5] (fun v5 wc => ∃ (kq : Nat) (x5_2 : Bool), v5 = .bool x5_2 ∧ Aside0 (body_Same.j0 kq x5_2 a0_0 a0_1 a0_2 l0_3 a0_4 a0_5 l0_6 l0_7 l0_8 l0_9 a1_0 a1_1 a1_2 l1_3 a1_4 a1_5 l1_6 l1_7 l1_8 l1_9 = some r) ∧ Aside0 (kq ≤ k) ∧ Aside0 (wc.heap[gb103]? = some (.cells #[.int .u16 a0_0, .int .u8 a0_1, .int .u8 a0_2, (.slice A0_3 l0_3.length c0_3), .int .u16 a0_4, .int .u32 a0_5, (.slice A0_6 l0_6.length c0_6), (.slice A0_7 l0_7.length c0_7), (.slice A0_8 l0_8.length c0_8), (.slice A0_9 l0_9.length c0_9)] 29 (0, 0))) ∧ Aside0 (wc.heap[gb104]? = some (.cells #[.int .u16 a1_0, .int .u8 a1_1, .int .u8 a1_2, (.slice A1_3 l1_3.length c1_3), .int .u16 a1_4, .int .u32 a1_5, (.slice A1_6 l1_6.length c1_6), (.slice A1_7 l1_7.length c1_7), (.slice A1_8 l1_8.length c1_8), (.slice A1_9 l1_9.length c1_9)] 29 (0, 0))) ∧ Aside0 (Below w.heap.size w wc))
 case first =>
  have H := HC3.out
  clear HC3
  by_cases c6 : a0_0 = a1_0
  · rw [if_pos c6] at H
    have c6b0 : (a0_0 == a1_0) = true := beq_iff_eq.mpr c6
    have c6b1 : (a0_0 != a1_0) = false := bne_eq_false_iff_eq.mpr c6
    clear c6
    (first | rw [c6b0] | (simp only [i64_w, i32_w]; rw [c6b0]) | skip)
    by_cases c7 : a0_1 = a1_1
    · rw [if_pos c7] at H
      have c7b0 : (a0_1 == a1_1) = true := beq_iff_eq.mpr c7
      have c7b1 : (a0_1 != a1_1) = false := bne_eq_false_iff_eq.mpr c7
      clear c7
      by_cases c8 : a0_2 = a1_2
      · rw [if_pos c8] at H
        have c8b0 : (a0_2 == a1_2) = true := beq_iff_eq.mpr c8
        have c8b1 : (a0_2 != a1_2) = false := bne_eq_false_iff_eq.mpr c8
        clear c8
        by_cases c9 : a0_4 = a1_4
        · rw [if_pos c9] at H
          have c9b0 : (a0_4 == a1_4) = true := beq_iff_eq.mpr c9
          have c9b1 : (a0_4 != a1_4) = false := bne_eq_false_iff_eq.mpr c9
          clear c9
          have H' := Aside0.mk H
          clear H
          have hnb10 := NB103_104.out
          have hnc10 := NB104_103.out
          obtain ⟨⟨hcz11_0, hcz11_1, hcz11_2, hcz11_3, hcz11_4, hcz11_5, hcz11_6, hcz11_7, hcz11_8, hcz11_9⟩, hfz11_0, hfz11_1, hfz11_2, hfz11_3, hfz11_4, hfz11_5, hfz11_6, hfz11_7, hfz11_8, hfz11_9⟩ := cz10 BK103.out
          obtain ⟨⟨hcz12_0, hcz12_1, hcz12_2, hcz12_3, hcz12_4, hcz12_5, hcz12_6, hcz12_7, hcz12_8, hcz12_9⟩, hfz12_0, hfz12_1, hfz12_2, hfz12_3, hfz12_4, hfz12_5, hfz12_6, hfz12_7, hfz12_8, hfz12_9⟩ := cz10 BK104.out
          go_wp2
          go_meet
          case rel => exact ⟨_, ((a0_5 == a1_5)), (by first | rfl | (simp; done) | (simp [*]; done)), H', ⟨by first | omega | exact Nat.le_refl _⟩, ⟨by (with_reducible repeat (first | refine blk_drewN ?_ _ | refine blk_drew ?_ | refine blk_alloc ?_ _)); exact BK103.out⟩, ⟨by (with_reducible repeat (first | refine blk_drewN ?_ _ | refine blk_drew ?_ | refine blk_alloc ?_ _)); exact BK104.out⟩, ⟨by repeat (first | (with_reducible first | exact HB.out | apply below_alloc | apply pw_below_drewN | apply below_drew1 | refine below_set ?_ GE103.out | refine below_set ?_ GE104.out) | exact HB.out)⟩⟩
        · rw [if_neg c9] at H
          have c9b0 : (a0_4 == a1_4) = false := beq_eq_false_iff_ne.mpr c9
          have c9b1 : (a0_4 != a1_4) = true := bne_iff_ne.mpr c9
          have H' := Aside0.mk H
          clear H
          have hnb13 := NB103_104.out
          have hnc13 := NB104_103.out
          obtain ⟨⟨hcz14_0, hcz14_1, hcz14_2, hcz14_3, hcz14_4, hcz14_5, hcz14_6, hcz14_7, hcz14_8, hcz14_9⟩, hfz14_0, hfz14_1, hfz14_2, hfz14_3, hfz14_4, hfz14_5, hfz14_6, hfz14_7, hfz14_8, hfz14_9⟩ := cz10 BK103.out
          obtain ⟨⟨hcz15_0, hcz15_1, hcz15_2, hcz15_3, hcz15_4, hcz15_5, hcz15_6, hcz15_7, hcz15_8, hcz15_9⟩, hfz15_0, hfz15_1, hfz15_2, hfz15_3, hfz15_4, hfz15_5, hfz15_6, hfz15_7, hfz15_8, hfz15_9⟩ := cz10 BK104.out
          go_wp2
          go_meet
          case rel => exact ⟨_, (false), (by first | rfl | (simp; done) | (simp [*]; done)), H', ⟨by first | omega | exact Nat.le_refl _⟩, ⟨by (with_reducible repeat (first | refine blk_drewN ?_ _ | refine blk_drew ?_ | refine blk_alloc ?_ _)); exact BK103.out⟩, ⟨by (with_reducible repeat (first | refine blk_drewN ?_ _ | refine blk_drew ?_ | refine blk_alloc ?_ _)); exact BK104.out⟩, ⟨by repeat (first | (with_reducible first | exact HB.out | apply below_alloc | apply pw_below_drewN | apply below_drew1 | refine below_set ?_ GE103.out | refine below_set ?_ GE104.out) | exact HB.out)⟩⟩
      · rw [if_neg c8] at H
        have c8b0 : (a0_2 == a1_2) = false := beq_eq_false_iff_ne.mpr c8
        have c8b1 : (a0_2 != a1_2) = true := bne_iff_ne.mpr c8
        have H' := Aside0.mk H
        clear H
        have hnb16 := NB103_104.out
        have hnc16 := NB104_103.out
        obtain ⟨⟨hcz17_0, hcz17_1, hcz17_2, hcz17_3, hcz17_4, hcz17_5, hcz17_6, hcz17_7, hcz17_8, hcz17_9⟩, hfz17_0, hfz17_1, hfz17_2, hfz17_3, hfz17_4, hfz17_5, hfz17_6, hfz17_7, hfz17_8, hfz17_9⟩ := cz10 BK103.out
        obtain ⟨⟨hcz18_0, hcz18_1, hcz18_2, hcz18_3, hcz18_4, hcz18_5, hcz18_6, hcz18_7, hcz18_8, hcz18_9⟩, hfz18_0, hfz18_1, hfz18_2, hfz18_3, hfz18_4, hfz18_5, hfz18_6, hfz18_7, hfz18_8, hfz18_9⟩ := cz10 BK104.out
        go_wp2
        go_meet
        case rel => exact ⟨_, (false), (by first | rfl | (simp; done) | (simp [*]; done)), H', ⟨by first | omega | exact Nat.le_refl _⟩, ⟨by (with_reducible repeat (first | refine blk_drewN ?_ _ | refine blk_drew ?_ | refine blk_alloc ?_ _)); exact BK103.out⟩, ⟨by (with_reducible repeat (first | refine blk_drewN ?_ _ | refine blk_drew ?_ | refine blk_alloc ?_ _)); exact BK104.out⟩, ⟨by repeat (first | (with_reducible first | exact HB.out | apply below_alloc | apply pw_below_drewN | apply below_drew1 | refine below_set ?_ GE103.out | refine below_set ?_ GE104.out) | exact HB.out)⟩⟩
    · rw [if_neg c7] at H
      have c7b0 : (a0_1 == a1_1) = false := beq_eq_false_iff_ne.mpr c7
      have c7b1 : (a0_1 != a1_1) = true := bne_iff_ne.mpr c7
      have H' := Aside0.mk H
      clear H
      have hnb19 := NB103_104.out
      have hnc19 := NB104_103.out
      obtain ⟨⟨hcz20_0, hcz20_1, hcz20_2, hcz20_3, hcz20_4, hcz20_5, hcz20_6, hcz20_7, hcz20_8, hcz20_9⟩, hfz20_0, hfz20_1, hfz20_2, hfz20_3, hfz20_4, hfz20_5, hfz20_6, hfz20_7, hfz20_8, hfz20_9⟩ := cz10 BK103.out
      obtain ⟨⟨hcz21_0, hcz21_1, hcz21_2, hcz21_3, hcz21_4, hcz21_5, hcz21_6, hcz21_7, hcz21_8, hcz21_9⟩, hfz21_0, hfz21_1, hfz21_2, hfz21_3, hfz21_4, hfz21_5, hfz21_6, hfz21_7, hfz21_8, hfz21_9⟩ := cz10 BK104.out
      go_wp2
      go_meet
      case rel => exact ⟨_, (false), (by first | rfl | (simp; done) | (simp [*]; done)), H', ⟨by first | omega | exact Nat.le_refl _⟩, ⟨by (with_reducible repeat (first | refine blk_drewN ?_ _ | refine blk_drew ?_ | refine blk_alloc ?_ _)); exact BK103.out⟩, ⟨by (with_reducible repeat (first | refine blk_drewN ?_ _ | refine blk_drew ?_ | refine blk_alloc ?_ _)); exact BK104.out⟩, ⟨by repeat (first | (with_reducible first | exact HB.out | apply below_alloc | apply pw_below_drewN | apply below_drew1 | refine below_set ?_ GE103.out | refine below_set ?_ GE104.out) | exact HB.out)⟩⟩
  · rw [if_neg c6] at H
    have c6b0 : (a0_0 == a1_0) = false := beq_eq_false_iff_ne.mpr c6
    have c6b1 : (a0_0 != a1_0) = true := bne_iff_ne.mpr c6
    (first | rw [c6b0] | (simp only [i64_w, i32_w]; rw [c6b0]) | skip)
    have H' := Aside0.mk H
    clear H
    have hnb22 := NB103_104.out
    have hnc22 := NB104_103.out
    obtain ⟨⟨hcz23_0, hcz23_1, hcz23_2, hcz23_3, hcz23_4, hcz23_5, hcz23_6, hcz23_7, hcz23_8, hcz23_9⟩, hfz23_0, hfz23_1, hfz23_2, hfz23_3, hfz23_4, hfz23_5, hfz23_6, hfz23_7, hfz23_8, hfz23_9⟩ := cz10 BK103.out
    obtain ⟨⟨hcz24_0, hcz24_1, hcz24_2, hcz24_3, hcz24_4, hcz24_5, hcz24_6, hcz24_7, hcz24_8, hcz24_9⟩, hfz24_0, hfz24_1, hfz24_2, hfz24_3, hfz24_4, hfz24_5, hfz24_6, hfz24_7, hfz24_8, hfz24_9⟩ := cz10 BK104.out
    go_wp2
    go_meet
    case rel => exact ⟨_, (false), (by first | rfl | (simp; done) | (simp [*]; done)), H', ⟨by first | omega | exact Nat.le_refl _⟩, ⟨by (with_reducible repeat (first | refine blk_drewN ?_ _ | refine blk_drew ?_ | refine blk_alloc ?_ _)); exact BK103.out⟩, ⟨by (with_reducible repeat (first | refine blk_drewN ?_ _ | refine blk_drew ?_ | refine blk_alloc ?_ _)); exact BK104.out⟩, ⟨by repeat (first | (with_reducible first | exact HB.out | apply below_alloc | apply pw_below_drewN | apply below_drew1 | refine below_set ?_ GE103.out | refine below_set ?_ GE104.out) | exact HB.out)⟩⟩
 case rest =>
  clear HC3
  try clear c1
  try clear c2
  try clear p2
  try clear c6
  try clear c6b0
  try clear c6b1
  try clear c7
  try clear c7b0
  try clear c7b1
  try clear c8
  try clear c8b0
  try clear c8b1
  try clear c9
  try clear c9b0
  try clear c9b1
  try clear c10
  try clear c13
  try clear c16
  try clear c19
  try clear c22
  try clear hcz11_0 hcz11_1 hcz11_2 hcz11_3 hcz11_4 hcz11_5 hcz11_6 hcz11_7 hcz11_8 hcz11_9 hfz11_0 hfz11_1 hfz11_2 hfz11_3 hfz11_4 hfz11_5 hfz11_6 hfz11_7 hfz11_8 hfz11_9
  try clear hcz12_0 hcz12_1 hcz12_2 hcz12_3 hcz12_4 hcz12_5 hcz12_6 hcz12_7 hcz12_8 hcz12_9 hfz12_0 hfz12_1 hfz12_2 hfz12_3 hfz12_4 hfz12_5 hfz12_6 hfz12_7 hfz12_8 hfz12_9
  try clear hcz14_0 hcz14_1 hcz14_2 hcz14_3 hcz14_4 hcz14_5 hcz14_6 hcz14_7 hcz14_8 hcz14_9 hfz14_0 hfz14_1 hfz14_2 hfz14_3 hfz14_4 hfz14_5 hfz14_6 hfz14_7 hfz14_8 hfz14_9
  try clear hcz15_0 hcz15_1 hcz15_2 hcz15_3 hcz15_4 hcz15_5 hcz15_6 hcz15_7 hcz15_8 hcz15_9 hfz15_0 hfz15_1 hfz15_2 hfz15_3 hfz15_4 hfz15_5 hfz15_6 hfz15_7 hfz15_8 hfz15_9
  try clear hcz17_0 hcz17_1 hcz17_2 hcz17_3 hcz17_4 hcz17_5 hcz17_6 hcz17_7 hcz17_8 hcz17_9 hfz17_0 hfz17_1 hfz17_2 hfz17_3 hfz17_4 hfz17_5 hfz17_6 hfz17_7 hfz17_8 hfz17_9
  try clear hcz18_0 hcz18_1 hcz18_2 hcz18_3 hcz18_4 hcz18_5 hcz18_6 hcz18_7 hcz18_8 hcz18_9 hfz18_0 hfz18_1 hfz18_2 hfz18_3 hfz18_4 hfz18_5 hfz18_6 hfz18_7 hfz18_8 hfz18_9
  try clear hcz20_0 hcz20_1 hcz20_2 hcz20_3 hcz20_4 hcz20_5 hcz20_6 hcz20_7 hcz20_8 hcz20_9 hfz20_0 hfz20_1 hfz20_2 hfz20_3 hfz20_4 hfz20_5 hfz20_6 hfz20_7 hfz20_8 hfz20_9
  try clear hcz21_0 hcz21_1 hcz21_2 hcz21_3 hcz21_4 hcz21_5 hcz21_6 hcz21_7 hcz21_8 hcz21_9 hfz21_0 hfz21_1 hfz21_2 hfz21_3 hfz21_4 hfz21_5 hfz21_6 hfz21_7 hfz21_8 hfz21_9
  try clear hcz23_0 hcz23_1 hcz23_2 hcz23_3 hcz23_4 hcz23_5 hcz23_6 hcz23_7 hcz23_8 hcz23_9 hfz23_0 hfz23_1 hfz23_2 hfz23_3 hfz23_4 hfz23_5 hfz23_6 hfz23_7 hfz23_8 hfz23_9
  try clear hcz24_0 hcz24_1 hcz24_2 hcz24_3 hcz24_4 hcz24_5 hcz24_6 hcz24_7 hcz24_8 hcz24_9 hfz24_0 hfz24_1 hfz24_2 hfz24_3 hfz24_4 hfz24_5 hfz24_6 hfz24_7 hfz24_8 hfz24_9
  obtain ⟨kq, x5_2, rfl, HA, HJ2, BK103, BK104, HB⟩ := hcut
  cases kq with
  | zero => exact absurd HA.out (by simp [body_Same.j0])
  | succ kj2 =>
   have H := HA.out
   clear HA
   simp only [body_Same.j0] at H
   by_cases c25 : x5_2 = true
   · subst c25
     have H1 : ((tlv_Same.f l0_3 l1_3).bind fun t105 => (if t105 = true then ((bytes_Equal.f l0_6 l1_6).bind fun t106 => (if t106 = true then ((bytes_Equal.f l0_7 l1_7).bind fun t107 => (if t107 = true then ((bytes_Equal.f l0_8 l1_8).bind fun t108 => (if t108 = true then ((slices_Equal_uint32_uint32.f kj2 l0_9 l1_9).bind fun t109 => (some t109)) else (some false))) else (some false))) else (some false))) else (some false))) = some r := by rw [if_pos rfl] at H; exact H
     clear H
     have H := H1
     clear H1
     replace H := Option.bind_eq_some_iff.mp H
     obtain ⟨t105, A260, H⟩ := H
     replace H : (if t105 = true then ((bytes_Equal.f l0_6 l1_6).bind fun t106 => (if t106 = true then ((bytes_Equal.f l0_7 l1_7).bind fun t107 => (if t107 = true then ((bytes_Equal.f l0_8 l1_8).bind fun t108 => (if t108 = true then ((slices_Equal_uint32_uint32.f kj2 l0_9 l1_9).bind fun t109 => (some t109)) else (some false))) else (some false))) else (some false))) else (some false)) = some r := H
     have A26 := Aside0.mk A260
     clear A260
     by_cases c27 : t105 = true
     · subst c27
       have H1 : ((bytes_Equal.f l0_6 l1_6).bind fun t106 => (if t106 = true then ((bytes_Equal.f l0_7 l1_7).bind fun t107 => (if t107 = true then ((bytes_Equal.f l0_8 l1_8).bind fun t108 => (if t108 = true then ((slices_Equal_uint32_uint32.f kj2 l0_9 l1_9).bind fun t109 => (some t109)) else (some false))) else (some false))) else (some false))) = some r := by rw [if_pos rfl] at H; exact H
       clear H
       have H := H1
       clear H1
       replace H := Option.bind_eq_some_iff.mp H
       obtain ⟨t106, A280, H⟩ := H
       replace H : (if t106 = true then ((bytes_Equal.f l0_7 l1_7).bind fun t107 => (if t107 = true then ((bytes_Equal.f l0_8 l1_8).bind fun t108 => (if t108 = true then ((slices_Equal_uint32_uint32.f kj2 l0_9 l1_9).bind fun t109 => (some t109)) else (some false))) else (some false))) else (some false)) = some r := H
       have A28 := Aside0.mk A280
       clear A280
       by_cases c29 : t106 = true
       · subst c29
         have H1 : ((bytes_Equal.f l0_7 l1_7).bind fun t107 => (if t107 = true then ((bytes_Equal.f l0_8 l1_8).bind fun t108 => (if t108 = true then ((slices_Equal_uint32_uint32.f kj2 l0_9 l1_9).bind fun t109 => (some t109)) else (some false))) else (some false))) = some r := by rw [if_pos rfl] at H; exact H
         clear H
         have H := H1
         clear H1
         replace H := Option.bind_eq_some_iff.mp H
         obtain ⟨t107, A300, H⟩ := H
         replace H : (if t107 = true then ((bytes_Equal.f l0_8 l1_8).bind fun t108 => (if t108 = true then ((slices_Equal_uint32_uint32.f kj2 l0_9 l1_9).bind fun t109 => (some t109)) else (some false))) else (some false)) = some r := H
         have A30 := Aside0.mk A300
         clear A300
         by_cases c31 : t107 = true
         · subst c31
           have H1 : ((bytes_Equal.f l0_8 l1_8).bind fun t108 => (if t108 = true then ((slices_Equal_uint32_uint32.f kj2 l0_9 l1_9).bind fun t109 => (some t109)) else (some false))) = some r := by rw [if_pos rfl] at H; exact H
           clear H
           have H := H1
           clear H1
           replace H := Option.bind_eq_some_iff.mp H
           obtain ⟨t108, A320, H⟩ := H
           replace H : (if t108 = true then ((slices_Equal_uint32_uint32.f kj2 l0_9 l1_9).bind fun t109 => (some t109)) else (some false)) = some r := H
           have A32 := Aside0.mk A320
           clear A320
           by_cases c33 : t108 = true
           · subst c33
             have H1 : ((slices_Equal_uint32_uint32.f kj2 l0_9 l1_9).bind fun t109 => (some t109)) = some r := by rw [if_pos rfl] at H; exact H
             clear H
             have H := H1
             clear H1
             replace H := Option.bind_eq_some_iff.mp H
             obtain ⟨t109, A340, H⟩ := H
             replace H : (some t109) = some r := H
             have A34 := Aside0.mk A340
             clear A340
             obtain rfl := Option.some.inj H
             have hnb35 := NB103_104.out
             have hnc35 := NB104_103.out
             obtain ⟨⟨hcz36_0, hcz36_1, hcz36_2, hcz36_3, hcz36_4, hcz36_5, hcz36_6, hcz36_7, hcz36_8, hcz36_9⟩, hfz36_0, hfz36_1, hfz36_2, hfz36_3, hfz36_4, hfz36_5, hfz36_6, hfz36_7, hfz36_8, hfz36_9⟩ := cz10 BK103.out
             obtain ⟨⟨hcz37_0, hcz37_1, hcz37_2, hcz37_3, hcz37_4, hcz37_5, hcz37_6, hcz37_7, hcz37_8, hcz37_9⟩, hfz37_0, hfz37_1, hfz37_2, hfz37_3, hfz37_4, hfz37_5, hfz37_6, hfz37_7, hfz37_8, hfz37_9⟩ := cz10 BK104.out
             go_wp2_with (first | (go_at_call 42; (with_reducible refine (tlv_Same.calls _ _ l0_3 _ _ l1_3 true _ ?side1 ?side2 ?side3 ?side4 A26.out).mono ?_); (case side1 => repeat (first | exact (Kd.C_below HR0_3.out HB.out) | (with_reducible refine Kd.C_alloc ?_ _) | (with_reducible refine Kd.C_drewN ?_ _) | (with_reducible refine Kd.C_drew ?_))); (case side2 => exact HC0_3.out); (case side3 => repeat (first | exact (Kd.C_below HR1_3.out HB.out) | (with_reducible refine Kd.C_alloc ?_ _) | (with_reducible refine Kd.C_drewN ?_ _) | (with_reducible refine Kd.C_drew ?_))); (case side4 => exact HC1_3.out); rintro e w38 ⟨rfl, hb⟩; have n0_ := Aside0.mk (blk_below (g := gb103) (o := .cells #[.int .u16 a0_0, .int .u8 a0_1, .int .u8 a0_2, .slice A0_3 l0_3.length c0_3, .int .u16 a0_4, .int .u32 a0_5, .slice A0_6 l0_6.length c0_6, .slice A0_7 l0_7.length c0_7, .slice A0_8 l0_8.length c0_8, .slice A0_9 l0_9.length c0_9] 29 (0, 0)) (by (with_reducible repeat (first | refine blk_drewN ?_ _ | refine blk_drew ?_ | refine blk_alloc ?_ _)); exact BK103.out) hb); have n1_ := Aside0.mk (blk_below (g := gb104) (o := .cells #[.int .u16 a1_0, .int .u8 a1_1, .int .u8 a1_2, .slice A1_3 l1_3.length c1_3, .int .u16 a1_4, .int .u32 a1_5, .slice A1_6 l1_6.length c1_6, .slice A1_7 l1_7.length c1_7, .slice A1_8 l1_8.length c1_8, .slice A1_9 l1_9.length c1_9] 29 (0, 0)) (by (with_reducible repeat (first | refine blk_drewN ?_ _ | refine blk_drew ?_ | refine blk_alloc ?_ _)); exact BK104.out) hb); have n2_ := Aside0.mk (below_step (by repeat (first | (with_reducible first | exact HB.out | apply below_alloc | apply pw_below_drewN | apply below_drew1 | refine below_set ?_ GE103.out | refine below_set ?_ GE104.out) | exact HB.out)) hb); clear BK103; clear BK104; clear HB; have BK103 := n0_; have BK104 := n1_; have HB := n2_; clear n0_ n1_ n2_; (try clear hb); (try clear hb2); (try clear hk); (try clear hi); obtain ⟨⟨hcz39_0, hcz39_1, hcz39_2, hcz39_3, hcz39_4, hcz39_5, hcz39_6, hcz39_7, hcz39_8, hcz39_9⟩, hfz39_0, hfz39_1, hfz39_2, hfz39_3, hfz39_4, hfz39_5, hfz39_6, hfz39_7, hfz39_8, hfz39_9⟩ := cz10 BK103.out; obtain ⟨⟨hcz40_0, hcz40_1, hcz40_2, hcz40_3, hcz40_4, hcz40_5, hcz40_6, hcz40_7, hcz40_8, hcz40_9⟩, hfz40_0, hfz40_1, hfz40_2, hfz40_3, hfz40_4, hfz40_5, hfz40_6, hfz40_7, hfz40_8, hfz40_9⟩ := cz10 BK104.out) | (go_at_call 37; (with_reducible refine (bytes_Equal.calls _ _ l0_6 _ _ l1_6 true _ ?side1 ?side2 ?side3 ?side4 A28.out).mono ?_); (case side1 => repeat (first | exact (Kd.C_below HR0_6.out HB.out) | (with_reducible refine Kd.C_alloc ?_ _) | (with_reducible refine Kd.C_drewN ?_ _) | (with_reducible refine Kd.C_drew ?_))); (case side2 => exact HC0_6.out); (case side3 => repeat (first | exact (Kd.C_below HR1_6.out HB.out) | (with_reducible refine Kd.C_alloc ?_ _) | (with_reducible refine Kd.C_drewN ?_ _) | (with_reducible refine Kd.C_drew ?_))); (case side4 => exact HC1_6.out); rintro e w' ⟨rfl, ⟨nd, rfl⟩⟩) | (go_at_call 37; (with_reducible refine (bytes_Equal.calls _ _ l0_7 _ _ l1_7 true _ ?side1 ?side2 ?side3 ?side4 A30.out).mono ?_); (case side1 => repeat (first | exact (Kd.C_below HR0_7.out (by repeat (first | (with_reducible first | exact HB.out | apply below_alloc | apply pw_below_drewN | apply below_drew1 | refine below_set ?_ GE103.out | refine below_set ?_ GE104.out) | exact HB.out))) | (with_reducible refine Kd.C_alloc ?_ _) | (with_reducible refine Kd.C_drewN ?_ _) | (with_reducible refine Kd.C_drew ?_))); (case side2 => exact HC0_7.out); (case side3 => repeat (first | exact (Kd.C_below HR1_7.out (by repeat (first | (with_reducible first | exact HB.out | apply below_alloc | apply pw_below_drewN | apply below_drew1 | refine below_set ?_ GE103.out | refine below_set ?_ GE104.out) | exact HB.out))) | (with_reducible refine Kd.C_alloc ?_ _) | (with_reducible refine Kd.C_drewN ?_ _) | (with_reducible refine Kd.C_drew ?_))); (case side4 => exact HC1_7.out); rintro e w' ⟨rfl, ⟨nd, rfl⟩⟩) | (go_at_call 37; (with_reducible refine (bytes_Equal.calls _ _ l0_8 _ _ l1_8 true _ ?side1 ?side2 ?side3 ?side4 A32.out).mono ?_); (case side1 => repeat (first | exact (Kd.C_below HR0_8.out (by repeat (first | (with_reducible first | exact HB.out | apply below_alloc | apply pw_below_drewN | apply below_drew1 | refine below_set ?_ GE103.out | refine below_set ?_ GE104.out) | exact HB.out))) | (with_reducible refine Kd.C_alloc ?_ _) | (with_reducible refine Kd.C_drewN ?_ _) | (with_reducible refine Kd.C_drew ?_))); (case side2 => exact HC0_8.out); (case side3 => repeat (first | exact (Kd.C_below HR1_8.out (by repeat (first | (with_reducible first | exact HB.out | apply below_alloc | apply pw_below_drewN | apply below_drew1 | refine below_set ?_ GE103.out | refine below_set ?_ GE104.out) | exact HB.out))) | (with_reducible refine Kd.C_alloc ?_ _) | (with_reducible refine Kd.C_drewN ?_ _) | (with_reducible refine Kd.C_drew ?_))); (case side4 => exact HC1_8.out); rintro e w' ⟨rfl, ⟨nd, rfl⟩⟩) | (go_at_call 43; (with_reducible refine (slices_Equal_uint32_uint32.calls kj2 _ _ l0_9 _ _ l1_9 t109 _ ?side1 ?side2 ?side3 ?side4 A34.out).mono ?_); (case side1 => repeat (first | exact (Kd.C_below HR0_9.out (by repeat (first | (with_reducible first | exact HB.out | apply below_alloc | apply pw_below_drewN | apply below_drew1 | refine below_set ?_ GE103.out | refine below_set ?_ GE104.out) | exact HB.out))) | (with_reducible refine Kd.C_alloc ?_ _) | (with_reducible refine Kd.C_drewN ?_ _) | (with_reducible refine Kd.C_drew ?_))); (case side2 => exact HC0_9.out); (case side3 => repeat (first | exact (Kd.C_below HR1_9.out (by repeat (first | (with_reducible first | exact HB.out | apply below_alloc | apply pw_below_drewN | apply below_drew1 | refine below_set ?_ GE103.out | refine below_set ?_ GE104.out) | exact HB.out))) | (with_reducible refine Kd.C_alloc ?_ _) | (with_reducible refine Kd.C_drewN ?_ _) | (with_reducible refine Kd.C_drew ?_))); (case side4 => exact HC1_9.out); rintro e w' ⟨rfl, ⟨nd, rfl⟩⟩))
             go_ret
             exact ⟨by first | rfl | (simp [errW_none, errW_some] <;> rfl) | (simp [*, errW_none, errW_some] <;> rfl), by repeat (first | (with_reducible first | exact HB.out | apply below_alloc | apply pw_below_drewN | apply below_drew1 | refine below_set ?_ GE103.out | refine below_set ?_ GE104.out) | exact HB.out)⟩
           · replace c33 := Bool.eq_false_iff.mpr c33
             subst c33
             have H1 : (some false) = some r := by rw [if_neg (show ¬ (false = true) by decide)] at H; exact H
             clear H
             have H := H1
             clear H1
             obtain rfl := Option.some.inj H
             have hnb41 := NB103_104.out
             have hnc41 := NB104_103.out
             obtain ⟨⟨hcz42_0, hcz42_1, hcz42_2, hcz42_3, hcz42_4, hcz42_5, hcz42_6, hcz42_7, hcz42_8, hcz42_9⟩, hfz42_0, hfz42_1, hfz42_2, hfz42_3, hfz42_4, hfz42_5, hfz42_6, hfz42_7, hfz42_8, hfz42_9⟩ := cz10 BK103.out
             obtain ⟨⟨hcz43_0, hcz43_1, hcz43_2, hcz43_3, hcz43_4, hcz43_5, hcz43_6, hcz43_7, hcz43_8, hcz43_9⟩, hfz43_0, hfz43_1, hfz43_2, hfz43_3, hfz43_4, hfz43_5, hfz43_6, hfz43_7, hfz43_8, hfz43_9⟩ := cz10 BK104.out
             go_wp2_with (first | (go_at_call 42; (with_reducible refine (tlv_Same.calls _ _ l0_3 _ _ l1_3 true _ ?side1 ?side2 ?side3 ?side4 A26.out).mono ?_); (case side1 => repeat (first | exact (Kd.C_below HR0_3.out HB.out) | (with_reducible refine Kd.C_alloc ?_ _) | (with_reducible refine Kd.C_drewN ?_ _) | (with_reducible refine Kd.C_drew ?_))); (case side2 => exact HC0_3.out); (case side3 => repeat (first | exact (Kd.C_below HR1_3.out HB.out) | (with_reducible refine Kd.C_alloc ?_ _) | (with_reducible refine Kd.C_drewN ?_ _) | (with_reducible refine Kd.C_drew ?_))); (case side4 => exact HC1_3.out); rintro e w44 ⟨rfl, hb⟩; have n0_ := Aside0.mk (blk_below (g := gb103) (o := .cells #[.int .u16 a0_0, .int .u8 a0_1, .int .u8 a0_2, .slice A0_3 l0_3.length c0_3, .int .u16 a0_4, .int .u32 a0_5, .slice A0_6 l0_6.length c0_6, .slice A0_7 l0_7.length c0_7, .slice A0_8 l0_8.length c0_8, .slice A0_9 l0_9.length c0_9] 29 (0, 0)) (by (with_reducible repeat (first | refine blk_drewN ?_ _ | refine blk_drew ?_ | refine blk_alloc ?_ _)); exact BK103.out) hb); have n1_ := Aside0.mk (blk_below (g := gb104) (o := .cells #[.int .u16 a1_0, .int .u8 a1_1, .int .u8 a1_2, .slice A1_3 l1_3.length c1_3, .int .u16 a1_4, .int .u32 a1_5, .slice A1_6 l1_6.length c1_6, .slice A1_7 l1_7.length c1_7, .slice A1_8 l1_8.length c1_8, .slice A1_9 l1_9.length c1_9] 29 (0, 0)) (by (with_reducible repeat (first | refine blk_drewN ?_ _ | refine blk_drew ?_ | refine blk_alloc ?_ _)); exact BK104.out) hb); have n2_ := Aside0.mk (below_step (by repeat (first | (with_reducible first | exact HB.out | apply below_alloc | apply pw_below_drewN | apply below_drew1 | refine below_set ?_ GE103.out | refine below_set ?_ GE104.out) | exact HB.out)) hb); clear BK103; clear BK104; clear HB; have BK103 := n0_; have BK104 := n1_; have HB := n2_; clear n0_ n1_ n2_; (try clear hb); (try clear hb2); (try clear hk); (try clear hi); obtain ⟨⟨hcz45_0, hcz45_1, hcz45_2, hcz45_3, hcz45_4, hcz45_5, hcz45_6, hcz45_7, hcz45_8, hcz45_9⟩, hfz45_0, hfz45_1, hfz45_2, hfz45_3, hfz45_4, hfz45_5, hfz45_6, hfz45_7, hfz45_8, hfz45_9⟩ := cz10 BK103.out; obtain ⟨⟨hcz46_0, hcz46_1, hcz46_2, hcz46_3, hcz46_4, hcz46_5, hcz46_6, hcz46_7, hcz46_8, hcz46_9⟩, hfz46_0, hfz46_1, hfz46_2, hfz46_3, hfz46_4, hfz46_5, hfz46_6, hfz46_7, hfz46_8, hfz46_9⟩ := cz10 BK104.out) | (go_at_call 37; (with_reducible refine (bytes_Equal.calls _ _ l0_6 _ _ l1_6 true _ ?side1 ?side2 ?side3 ?side4 A28.out).mono ?_); (case side1 => repeat (first | exact (Kd.C_below HR0_6.out HB.out) | (with_reducible refine Kd.C_alloc ?_ _) | (with_reducible refine Kd.C_drewN ?_ _) | (with_reducible refine Kd.C_drew ?_))); (case side2 => exact HC0_6.out); (case side3 => repeat (first | exact (Kd.C_below HR1_6.out HB.out) | (with_reducible refine Kd.C_alloc ?_ _) | (with_reducible refine Kd.C_drewN ?_ _) | (with_reducible refine Kd.C_drew ?_))); (case side4 => exact HC1_6.out); rintro e w' ⟨rfl, ⟨nd, rfl⟩⟩) | (go_at_call 37; (with_reducible refine (bytes_Equal.calls _ _ l0_7 _ _ l1_7 true _ ?side1 ?side2 ?side3 ?side4 A30.out).mono ?_); (case side1 => repeat (first | exact (Kd.C_below HR0_7.out (by repeat (first | (with_reducible first | exact HB.out | apply below_alloc | apply pw_below_drewN | apply below_drew1 | refine below_set ?_ GE103.out | refine below_set ?_ GE104.out) | exact HB.out))) | (with_reducible refine Kd.C_alloc ?_ _) | (with_reducible refine Kd.C_drewN ?_ _) | (with_reducible refine Kd.C_drew ?_))); (case side2 => exact HC0_7.out); (case side3 => repeat (first | exact (Kd.C_below HR1_7.out (by repeat (first | (with_reducible first | exact HB.out | apply below_alloc | apply pw_below_drewN | apply below_drew1 | refine below_set ?_ GE103.out | refine below_set ?_ GE104.out) | exact HB.out))) | (with_reducible refine Kd.C_alloc ?_ _) | (with_reducible refine Kd.C_drewN ?_ _) | (with_reducible refine Kd.C_drew ?_))); (case side4 => exact HC1_7.out); rintro e w' ⟨rfl, ⟨nd, rfl⟩⟩) | (go_at_call 37; (with_reducible refine (bytes_Equal.calls _ _ l0_8 _ _ l1_8 false _ ?side1 ?side2 ?side3 ?side4 A32.out).mono ?_); (case side1 => repeat (first | exact (Kd.C_below HR0_8.out (by repeat (first | (with_reducible first | exact HB.out | apply below_alloc | apply pw_below_drewN | apply below_drew1 | refine below_set ?_ GE103.out | refine below_set ?_ GE104.out) | exact HB.out))) | (with_reducible refine Kd.C_alloc ?_ _) | (with_reducible refine Kd.C_drewN ?_ _) | (with_reducible refine Kd.C_drew ?_))); (case side2 => exact HC0_8.out); (case side3 => repeat (first | exact (Kd.C_below HR1_8.out (by repeat (first | (with_reducible first | exact HB.out | apply below_alloc | apply pw_below_drewN | apply below_drew1 | refine below_set ?_ GE103.out | refine below_set ?_ GE104.out) | exact HB.out))) | (with_reducible refine Kd.C_alloc ?_ _) | (with_reducible refine Kd.C_drewN ?_ _) | (with_reducible refine Kd.C_drew ?_))); (case side4 => exact HC1_8.out); rintro e w' ⟨rfl, ⟨nd, rfl⟩⟩))
             go_ret
             exact ⟨by first | rfl | (simp [errW_none, errW_some] <;> rfl) | (simp [*, errW_none, errW_some] <;> rfl), by repeat (first | (with_reducible first | exact HB.out | apply below_alloc | apply pw_below_drewN | apply below_drew1 | refine below_set ?_ GE103.out | refine below_set ?_ GE104.out) | exact HB.out)⟩
         · replace c31 := Bool.eq_false_iff.mpr c31
           subst c31
           have H1 : (some false) = some r := by rw [if_neg (show ¬ (false = true) by decide)] at H; exact H
           clear H
           have H := H1
           clear H1
           obtain rfl := Option.some.inj H
           have hnb47 := NB103_104.out
           have hnc47 := NB104_103.out
           obtain ⟨⟨hcz48_0, hcz48_1, hcz48_2, hcz48_3, hcz48_4, hcz48_5, hcz48_6, hcz48_7, hcz48_8, hcz48_9⟩, hfz48_0, hfz48_1, hfz48_2, hfz48_3, hfz48_4, hfz48_5, hfz48_6, hfz48_7, hfz48_8, hfz48_9⟩ := cz10 BK103.out
           obtain ⟨⟨hcz49_0, hcz49_1, hcz49_2, hcz49_3, hcz49_4, hcz49_5, hcz49_6, hcz49_7, hcz49_8, hcz49_9⟩, hfz49_0, hfz49_1, hfz49_2, hfz49_3, hfz49_4, hfz49_5, hfz49_6, hfz49_7, hfz49_8, hfz49_9⟩ := cz10 BK104.out
           go_wp2_with (first | (go_at_call 42; (with_reducible refine (tlv_Same.calls _ _ l0_3 _ _ l1_3 true _ ?side1 ?side2 ?side3 ?side4 A26.out).mono ?_); (case side1 => repeat (first | exact (Kd.C_below HR0_3.out HB.out) | (with_reducible refine Kd.C_alloc ?_ _) | (with_reducible refine Kd.C_drewN ?_ _) | (with_reducible refine Kd.C_drew ?_))); (case side2 => exact HC0_3.out); (case side3 => repeat (first | exact (Kd.C_below HR1_3.out HB.out) | (with_reducible refine Kd.C_alloc ?_ _) | (with_reducible refine Kd.C_drewN ?_ _) | (with_reducible refine Kd.C_drew ?_))); (case side4 => exact HC1_3.out); rintro e w50 ⟨rfl, hb⟩; have n0_ := Aside0.mk (blk_below (g := gb103) (o := .cells #[.int .u16 a0_0, .int .u8 a0_1, .int .u8 a0_2, .slice A0_3 l0_3.length c0_3, .int .u16 a0_4, .int .u32 a0_5, .slice A0_6 l0_6.length c0_6, .slice A0_7 l0_7.length c0_7, .slice A0_8 l0_8.length c0_8, .slice A0_9 l0_9.length c0_9] 29 (0, 0)) (by (with_reducible repeat (first | refine blk_drewN ?_ _ | refine blk_drew ?_ | refine blk_alloc ?_ _)); exact BK103.out) hb); have n1_ := Aside0.mk (blk_below (g := gb104) (o := .cells #[.int .u16 a1_0, .int .u8 a1_1, .int .u8 a1_2, .slice A1_3 l1_3.length c1_3, .int .u16 a1_4, .int .u32 a1_5, .slice A1_6 l1_6.length c1_6, .slice A1_7 l1_7.length c1_7, .slice A1_8 l1_8.length c1_8, .slice A1_9 l1_9.length c1_9] 29 (0, 0)) (by (with_reducible repeat (first | refine blk_drewN ?_ _ | refine blk_drew ?_ | refine blk_alloc ?_ _)); exact BK104.out) hb); have n2_ := Aside0.mk (below_step (by repeat (first | (with_reducible first | exact HB.out | apply below_alloc | apply pw_below_drewN | apply below_drew1 | refine below_set ?_ GE103.out | refine below_set ?_ GE104.out) | exact HB.out)) hb); clear BK103; clear BK104; clear HB; have BK103 := n0_; have BK104 := n1_; have HB := n2_; clear n0_ n1_ n2_; (try clear hb); (try clear hb2); (try clear hk); (try clear hi); obtain ⟨⟨hcz51_0, hcz51_1, hcz51_2, hcz51_3, hcz51_4, hcz51_5, hcz51_6, hcz51_7, hcz51_8, hcz51_9⟩, hfz51_0, hfz51_1, hfz51_2, hfz51_3, hfz51_4, hfz51_5, hfz51_6, hfz51_7, hfz51_8, hfz51_9⟩ := cz10 BK103.out; obtain ⟨⟨hcz52_0, hcz52_1, hcz52_2, hcz52_3, hcz52_4, hcz52_5, hcz52_6, hcz52_7, hcz52_8, hcz52_9⟩, hfz52_0, hfz52_1, hfz52_2, hfz52_3, hfz52_4, hfz52_5, hfz52_6, hfz52_7, hfz52_8, hfz52_9⟩ := cz10 BK104.out) | (go_at_call 37; (with_reducible refine (bytes_Equal.calls _ _ l0_6 _ _ l1_6 true _ ?side1 ?side2 ?side3 ?side4 A28.out).mono ?_); (case side1 => repeat (first | exact (Kd.C_below HR0_6.out HB.out) | (with_reducible refine Kd.C_alloc ?_ _) | (with_reducible refine Kd.C_drewN ?_ _) | (with_reducible refine Kd.C_drew ?_))); (case side2 => exact HC0_6.out); (case side3 => repeat (first | exact (Kd.C_below HR1_6.out HB.out) | (with_reducible refine Kd.C_alloc ?_ _) | (with_reducible refine Kd.C_drewN ?_ _) | (with_reducible refine Kd.C_drew ?_))); (case side4 => exact HC1_6.out); rintro e w' ⟨rfl, ⟨nd, rfl⟩⟩) | (go_at_call 37; (with_reducible refine (bytes_Equal.calls _ _ l0_7 _ _ l1_7 false _ ?side1 ?side2 ?side3 ?side4 A30.out).mono ?_); (case side1 => repeat (first | exact (Kd.C_below HR0_7.out (by repeat (first | (with_reducible first | exact HB.out | apply below_alloc | apply pw_below_drewN | apply below_drew1 | refine below_set ?_ GE103.out | refine below_set ?_ GE104.out) | exact HB.out))) | (with_reducible refine Kd.C_alloc ?_ _) | (with_reducible refine Kd.C_drewN ?_ _) | (with_reducible refine Kd.C_drew ?_))); (case side2 => exact HC0_7.out); (case side3 => repeat (first | exact (Kd.C_below HR1_7.out (by repeat (first | (with_reducible first | exact HB.out | apply below_alloc | apply pw_below_drewN | apply below_drew1 | refine below_set ?_ GE103.out | refine below_set ?_ GE104.out) | exact HB.out))) | (with_reducible refine Kd.C_alloc ?_ _) | (with_reducible refine Kd.C_drewN ?_ _) | (with_reducible refine Kd.C_drew ?_))); (case side4 => exact HC1_7.out); rintro e w' ⟨rfl, ⟨nd, rfl⟩⟩))
           go_ret
           exact ⟨by first | rfl | (simp [errW_none, errW_some] <;> rfl) | (simp [*, errW_none, errW_some] <;> rfl), by repeat (first | (with_reducible first | exact HB.out | apply below_alloc | apply pw_below_drewN | apply below_drew1 | refine below_set ?_ GE103.out | refine below_set ?_ GE104.out) | exact HB.out)⟩
       · replace c29 := Bool.eq_false_iff.mpr c29
         subst c29
         have H1 : (some false) = some r := by rw [if_neg (show ¬ (false = true) by decide)] at H; exact H
         clear H
         have H := H1
         clear H1
         obtain rfl := Option.some.inj H
         have hnb53 := NB103_104.out
         have hnc53 := NB104_103.out
         obtain ⟨⟨hcz54_0, hcz54_1, hcz54_2, hcz54_3, hcz54_4, hcz54_5, hcz54_6, hcz54_7, hcz54_8, hcz54_9⟩, hfz54_0, hfz54_1, hfz54_2, hfz54_3, hfz54_4, hfz54_5, hfz54_6, hfz54_7, hfz54_8, hfz54_9⟩ := cz10 BK103.out
         obtain ⟨⟨hcz55_0, hcz55_1, hcz55_2, hcz55_3, hcz55_4, hcz55_5, hcz55_6, hcz55_7, hcz55_8, hcz55_9⟩, hfz55_0, hfz55_1, hfz55_2, hfz55_3, hfz55_4, hfz55_5, hfz55_6, hfz55_7, hfz55_8, hfz55_9⟩ := cz10 BK104.out
         go_wp2_with (first | (go_at_call 42; (with_reducible refine (tlv_Same.calls _ _ l0_3 _ _ l1_3 true _ ?side1 ?side2 ?side3 ?side4 A26.out).mono ?_); (case side1 => repeat (first | exact (Kd.C_below HR0_3.out HB.out) | (with_reducible refine Kd.C_alloc ?_ _) | (with_reducible refine Kd.C_drewN ?_ _) | (with_reducible refine Kd.C_drew ?_))); (case side2 => exact HC0_3.out); (case side3 => repeat (first | exact (Kd.C_below HR1_3.out HB.out) | (with_reducible refine Kd.C_alloc ?_ _) | (with_reducible refine Kd.C_drewN ?_ _) | (with_reducible refine Kd.C_drew ?_))); (case side4 => exact HC1_3.out); rintro e w56 ⟨rfl, hb⟩; have n0_ := Aside0.mk (blk_below (g := gb103) (o := .cells #[.int .u16 a0_0, .int .u8 a0_1, .int .u8 a0_2, .slice A0_3 l0_3.length c0_3, .int .u16 a0_4, .int .u32 a0_5, .slice A0_6 l0_6.length c0_6, .slice A0_7 l0_7.length c0_7, .slice A0_8 l0_8.length c0_8, .slice A0_9 l0_9.length c0_9] 29 (0, 0)) (by (with_reducible repeat (first | refine blk_drewN ?_ _ | refine blk_drew ?_ | refine blk_alloc ?_ _)); exact BK103.out) hb); have n1_ := Aside0.mk (blk_below (g := gb104) (o := .cells #[.int .u16 a1_0, .int .u8 a1_1, .int .u8 a1_2, .slice A1_3 l1_3.length c1_3, .int .u16 a1_4, .int .u32 a1_5, .slice A1_6 l1_6.length c1_6, .slice A1_7 l1_7.length c1_7, .slice A1_8 l1_8.length c1_8, .slice A1_9 l1_9.length c1_9] 29 (0, 0)) (by (with_reducible repeat (first | refine blk_drewN ?_ _ | refine blk_drew ?_ | refine blk_alloc ?_ _)); exact BK104.out) hb); have n2_ := Aside0.mk (below_step (by repeat (first | (with_reducible first | exact HB.out | apply below_alloc | apply pw_below_drewN | apply below_drew1 | refine below_set ?_ GE103.out | refine below_set ?_ GE104.out) | exact HB.out)) hb); clear BK103; clear BK104; clear HB; have BK103 := n0_; have BK104 := n1_; have HB := n2_; clear n0_ n1_ n2_; (try clear hb); (try clear hb2); (try clear hk); (try clear hi); obtain ⟨⟨hcz57_0, hcz57_1, hcz57_2, hcz57_3, hcz57_4, hcz57_5, hcz57_6, hcz57_7, hcz57_8, hcz57_9⟩, hfz57_0, hfz57_1, hfz57_2, hfz57_3, hfz57_4, hfz57_5, hfz57_6, hfz57_7, hfz57_8, hfz57_9⟩ := cz10 BK103.out; obtain ⟨⟨hcz58_0, hcz58_1, hcz58_2, hcz58_3, hcz58_4, hcz58_5, hcz58_6, hcz58_7, hcz58_8, hcz58_9⟩, hfz58_0, hfz58_1, hfz58_2, hfz58_3, hfz58_4, hfz58_5, hfz58_6, hfz58_7, hfz58_8, hfz58_9⟩ := cz10 BK104.out) | (go_at_call 37; (with_reducible refine (bytes_Equal.calls _ _ l0_6 _ _ l1_6 false _ ?side1 ?side2 ?side3 ?side4 A28.out).mono ?_); (case side1 => repeat (first | exact (Kd.C_below HR0_6.out HB.out) | (with_reducible refine Kd.C_alloc ?_ _) | (with_reducible refine Kd.C_drewN ?_ _) | (with_reducible refine Kd.C_drew ?_))); (case side2 => exact HC0_6.out); (case side3 => repeat (first | exact (Kd.C_below HR1_6.out HB.out) | (with_reducible refine Kd.C_alloc ?_ _) | (with_reducible refine Kd.C_drewN ?_ _) | (with_reducible refine Kd.C_drew ?_))); (case side4 => exact HC1_6.out); rintro e w' ⟨rfl, ⟨nd, rfl⟩⟩))
         go_ret
         exact ⟨by first | rfl | (simp [errW_none, errW_some] <;> rfl) | (simp [*, errW_none, errW_some] <;> rfl), by repeat (first | (with_reducible first | exact HB.out | apply below_alloc | apply pw_below_drewN | apply below_drew1 | refine below_set ?_ GE103.out | refine below_set ?_ GE104.out) | exact HB.out)⟩
     · replace c27 := Bool.eq_false_iff.mpr c27
       subst c27
       have H1 : (some false) = some r := by rw [if_neg (show ¬ (false = true) by decide)] at H; exact H
       clear H
       have H := H1
       clear H1
       obtain rfl := Option.some.inj H
       have hnb59 := NB103_104.out
       have hnc59 := NB104_103.out
       obtain ⟨⟨hcz60_0, hcz60_1, hcz60_2, hcz60_3, hcz60_4, hcz60_5, hcz60_6, hcz60_7, hcz60_8, hcz60_9⟩, hfz60_0, hfz60_1, hfz60_2, hfz60_3, hfz60_4, hfz60_5, hfz60_6, hfz60_7, hfz60_8, hfz60_9⟩ := cz10 BK103.out
       obtain ⟨⟨hcz61_0, hcz61_1, hcz61_2, hcz61_3, hcz61_4, hcz61_5, hcz61_6, hcz61_7, hcz61_8, hcz61_9⟩, hfz61_0, hfz61_1, hfz61_2, hfz61_3, hfz61_4, hfz61_5, hfz61_6, hfz61_7, hfz61_8, hfz61_9⟩ := cz10 BK104.out
       go_wp2_with (first | (go_at_call 42; (with_reducible refine (tlv_Same.calls _ _ l0_3 _ _ l1_3 false _ ?side1 ?side2 ?side3 ?side4 A26.out).mono ?_); (case side1 => repeat (first | exact (Kd.C_below HR0_3.out HB.out) | (with_reducible refine Kd.C_alloc ?_ _) | (with_reducible refine Kd.C_drewN ?_ _) | (with_reducible refine Kd.C_drew ?_))); (case side2 => exact HC0_3.out); (case side3 => repeat (first | exact (Kd.C_below HR1_3.out HB.out) | (with_reducible refine Kd.C_alloc ?_ _) | (with_reducible refine Kd.C_drewN ?_ _) | (with_reducible refine Kd.C_drew ?_))); (case side4 => exact HC1_3.out); rintro e w62 ⟨rfl, hb⟩; have n0_ := Aside0.mk (blk_below (g := gb103) (o := .cells #[.int .u16 a0_0, .int .u8 a0_1, .int .u8 a0_2, .slice A0_3 l0_3.length c0_3, .int .u16 a0_4, .int .u32 a0_5, .slice A0_6 l0_6.length c0_6, .slice A0_7 l0_7.length c0_7, .slice A0_8 l0_8.length c0_8, .slice A0_9 l0_9.length c0_9] 29 (0, 0)) (by (with_reducible repeat (first | refine blk_drewN ?_ _ | refine blk_drew ?_ | refine blk_alloc ?_ _)); exact BK103.out) hb); have n1_ := Aside0.mk (blk_below (g := gb104) (o := .cells #[.int .u16 a1_0, .int .u8 a1_1, .int .u8 a1_2, .slice A1_3 l1_3.length c1_3, .int .u16 a1_4, .int .u32 a1_5, .slice A1_6 l1_6.length c1_6, .slice A1_7 l1_7.length c1_7, .slice A1_8 l1_8.length c1_8, .slice A1_9 l1_9.length c1_9] 29 (0, 0)) (by (with_reducible repeat (first | refine blk_drewN ?_ _ | refine blk_drew ?_ | refine blk_alloc ?_ _)); exact BK104.out) hb); have n2_ := Aside0.mk (below_step (by repeat (first | (with_reducible first | exact HB.out | apply below_alloc | apply pw_below_drewN | apply below_drew1 | refine below_set ?_ GE103.out | refine below_set ?_ GE104.out) | exact HB.out)) hb); clear BK103; clear BK104; clear HB; have BK103 := n0_; have BK104 := n1_; have HB := n2_; clear n0_ n1_ n2_; (try clear hb); (try clear hb2); (try clear hk); (try clear hi)))
       go_ret
       exact ⟨by first | rfl | (simp [errW_none, errW_some] <;> rfl) | (simp [*, errW_none, errW_some] <;> rfl), by repeat (first | (with_reducible first | exact HB.out | apply below_alloc | apply pw_below_drewN | apply below_drew1 | refine below_set ?_ GE103.out | refine below_set ?_ GE104.out) | exact HB.out)⟩
   · replace c25 := Bool.eq_false_iff.mpr c25
     subst c25
     have H1 : (some false) = some r := by rw [if_neg (show ¬ (false = true) by decide)] at H; exact H
     clear H
     have H := H1
     clear H1
     obtain rfl := Option.some.inj H
     go_wp2
     go_ret
     exact ⟨by first | rfl | (simp [errW_none, errW_some] <;> rfl) | (simp [*, errW_none, errW_some] <;> rfl), by repeat (first | (with_reducible first | exact HB.out | apply below_alloc | apply pw_below_drewN | apply below_drew1 | refine below_set ?_ GE103.out | refine below_set ?_ GE104.out) | exact HB.out)⟩
end Go.Proofs.YteanncchmenlkaaDoor.Print
namespace Go.Proofs.YteanncchmenlkaaDoor.Hw
open Go.RowKit Go.Proofs.YteanncchmenlkaaDoorW.PrintWords Go.Proofs.YteanncchmenlkaaDoorW.PrintLast
set_option linter.unusedVariables false
set_option linter.unusedSimpArgs false
structure OnlyG (W w1 : World) (g : Nat) : Prop where
 os : w1.os = W.os
 tape : w1.tape = W.tape
 output : w1.output = W.output
 size : w1.heap.size = W.heap.size
 block : ∀ k, k ≠ g → w1.heap[k]? = W.heap[k]?
theorem only_set (W : World) (g o : Nat) (v : Value) : OnlyG W (W.setCell ⟨g, o, none⟩ v) g :=
 ⟨rfl, rfl, rfl, by simp [World.setCell], fun k hk => Below.heap_setCell W ⟨g, o, none⟩ v k hk⟩
theorem OnlyG.trans {W w1 w2 : World} {g : Nat} (h : OnlyG W w1 g) (k : OnlyG w1 w2 g) : OnlyG W w2 g :=
 ⟨k.os.trans h.os, k.tape.trans h.tape, k.output.trans h.output, k.size.trans h.size, fun j hj => (k.block j hj).trans (h.block j hj)⟩
theorem OnlyG.refl (W : World) (g : Nat) : OnlyG W W g := ⟨rfl, rfl, rfl, rfl, fun _ _ => rfl⟩
theorem only_sets (g : Nat) : ∀ (vs : List Value) (o : Nat) (W : World), OnlyG W (W.setCells g o vs) g
 | [], _, W => OnlyG.refl W g
 | v :: r, o, W => (only_set W g o v).trans (only_sets g r (o + 1) _)
theorem below_only {base g : Nat} {w W w1 : World} (h : Below base w W) (k : OnlyG W w1 g) (hg : base ≤ g) : Below base w w1 :=
 ⟨k.os.trans h.os, k.tape.trans h.tape, k.output.trans h.output, by rw [k.size]; exact h.size, fun j hj => (k.block j (by omega)).trans (h.block j hj)⟩
theorem blk_only {W w1 : World} {g g' : Nat} {o : Obj} (h : W.heap[g']? = some o) (k : OnlyG W w1 g) (hne : g' ≠ g) : w1.heap[g']? = some o := (k.block g' hne).trans h
def setAll (cs : Array Value) : Nat → List Value → Array Value
 | _, [] => cs
 | o, v :: r => setAll (cs.setIfInBounds o v) (o + 1) r
theorem setAll_get : ∀ (vs : List Value) (cs : Array Value) (o i : Nat), o + vs.length ≤ cs.size → (setAll cs o vs)[i]? = if o ≤ i ∧ i < o + vs.length then vs[i - o]? else cs[i]?
 | [], cs, o, i, _ => by rw [setAll, if_neg (by simp only [List.length_nil]; omega)]
 | v :: r, cs, o, i, h => by
  simp only [List.length_cons] at h
  rw [setAll, setAll_get r _ (o + 1) i (by simp; omega)]
  by_cases h1 : o + 1 ≤ i ∧ i < o + 1 + r.length
  · rw [if_pos h1, if_pos (by simp only [List.length_cons]; omega)]
    obtain ⟨j, rfl⟩ : ∃ j, i = o + 1 + j := ⟨i - (o + 1), by omega⟩
    rw [show o + 1 + j - o = j + 1 by omega, show o + 1 + j - (o + 1) = j by omega]
    simp
  · rw [if_neg h1]
    by_cases h2 : i = o
    · subst h2
      rw [if_pos (by simp only [List.length_cons]; omega)]
      rw [Nat.sub_self, List.getElem?_cons_zero, Array.getElem?_setIfInBounds_self_of_lt (by omega)]
    · rw [if_neg (by simp only [List.length_cons]; omega), Array.getElem?_setIfInBounds_ne (by omega)]
theorem setAll_all {cs : Array Value} {vs : List Value} (h : cs.size = vs.length) : setAll cs 0 vs = vs.toArray := by
 apply Array.ext_getElem?
 intro i
 rw [setAll_get vs cs 0 i (by omega)]
 by_cases hi : i < vs.length
 · rw [if_pos (by omega)]; simp
 · rw [if_neg (by omega), Array.getElem?_eq_none (by omega)]
   simp only [List.getElem?_toArray]
   rw [List.getElem?_eq_none (by omega)]
theorem blk_sets {g : Nat} {t : TypeId} : ∀ (vs : List Value) (o : Nat) (W : World) (cs : Array Value), W.heap[g]? = some (.cells cs t (0, 0)) → (W.setCells g o vs).heap[g]? = some (.cells (setAll cs o vs) t (0, 0))
 | [], _, _, _, h => h
 | v :: r, o, W, cs, h => blk_sets r (o + 1) _ _ (blk_set h o v)
section
variable {P : Program} {ops : Array Oper} {o : Oper} {rest : List Oper} {a : Act} {Q : Exit → Act → World → Prop} {W : World} {g j : Nat} {t ty : TypeId} {cs cells : Array Value} {x y : Operand} {d : TypeDesc} {v : Value}
theorem range_blk (hb : W.heap[g]? = some (.cells cs t (0, 0))) : W.rangeAt g 0 cs.toList := fun j v hv => by
 rw [Nat.zero_add, blk_cell hb j]
 simpa using hv
theorem there_blk (hb : W.heap[g]? = some (.cells cs t (0, 0))) {n : Nat} (hn : n ≤ cs.size) : W.there g 0 n := fun j hj => by
 rw [Nat.zero_add]
 refine ⟨?_, blk_frozen hb j⟩
 rw [blk_cell hb j]
 simp; omega
theorem ev_box (hgd : o.guard = none) (ho : o.op = .box ty x) (hx : a.eval x = .agg cs)
 (h : ∀ g, g = W.heap.size → ∀ w1, w1.heap[g]? = some (.cells cs ty (0, 0)) → Below W.heap.size W w1 → wpList P ops Q rest (a.put o.dst (.pointer (some ⟨g, 0, none⟩))) w1) : wpList P ops Q (o :: rest) a W := by
 have hrun : (execOp a.eval o).run P W = .ok (.value (.pointer (some ⟨W.heap.size, 0, none⟩))) (W.alloc (.cells cs ty (0, 0))) := by
  unfold execOp
  simp only [ho, hx]
  rfl
 exact Kd.event_run hgd hrun (h _ rfl _ (blk_new W _) (below_alloc (Below.refl _ _) _))
theorem ev_slice {n : Nat} {e : TypeId} (hgd : o.guard = none) (hrun : (execOp a.eval o).run P W = .ok (.value (.slice (some ⟨W.heap.size, 0, none⟩) n n)) (W.alloc (.cells cs e (0, 0))))
 (h : ∀ g, g = W.heap.size → ∀ w1, w1.heap[g]? = some (.cells cs e (0, 0)) → Below W.heap.size W w1 → wpList P ops Q rest (a.put o.dst (.slice (some ⟨g, 0, none⟩) n n)) w1) : wpList P ops Q (o :: rest) a W :=
 Kd.event_run hgd hrun (h _ rfl _ (blk_new W _) (below_alloc (Below.refl _ _) _))
theorem ev_load (hgd : o.guard = none) (ho : o.op = .load ty x) (hx : a.eval x = .pointer (some ⟨g, 0, none⟩)) (hb : W.heap[g]? = some (.cells cs t (0, 0)))
 (hu : P.underlying ty = some d) (hd : d.isRow = true) (hi : (P.info? ty).map (·.size) = some cs.size) (h : wpList P ops Q rest (a.put o.dst (.agg cs)) W) : wpList P ops Q (o :: rest) a W :=
 wpList_load_mid hgd ty x ho g 0 hx cs.toList d (range_blk hb) hu hd (by simpa using hi) (by simpa using h)
theorem ev_store (hgd : o.guard = none) (ho : o.op = .store ty x y) (hx : a.eval x = .pointer (some ⟨g, 0, none⟩)) (hy : a.eval y = .agg cells) (hb : W.heap[g]? = some (.cells cs t (0, 0)))
 (hs : cs.size = cells.size) (hi : (P.info? ty).map (·.size) = some cells.size) (h1 : cells.all (·.oneCell') = true)
 (h : ∀ w1, w1.heap[g]? = some (.cells cells t (0, 0)) → OnlyG W w1 g → wpList P ops Q rest (a.put o.dst undef) w1) : wpList P ops Q (o :: rest) a W :=
 wpList_store_mid hgd ty x y ho g 0 cells hx hy (there_blk hb (by omega)) hi h1 (h _ (by have := blk_sets cells.toList 0 W cs hb; rw [setAll_all (by simpa using hs)] at this; simpa using this) (only_sets g _ 0 W))
theorem ev_loadf (hgd : o.guard = none) (ho : o.op = .load ty x) (hx : a.eval x = .pointer (some ⟨g, j, none⟩)) (hb : W.heap[g]? = some (.cells cs t (0, 0))) (hv : cs[j]? = some v)
 (hu : P.underlying ty = some d) (hd : d.isRow = false) (h : wpList P ops Q rest (a.put o.dst v) W) : wpList P ops Q (o :: rest) a W := by
 have hagg : ∀ w : World, (isAgg ty).run P w = .ok false w := fun w => by
  unfold isAgg
  rw [Sem.run_bind, run_underlying hu w]
  cases d <;> simp_all
 have hc : W.cell? ⟨g, j, none⟩ = some v := (blk_cell hb j).trans hv
 have hrun : (loadVar ty ⟨g, j, none⟩).run P W = .ok v W := by simp [loadVar, Sem.run_bind, hagg, hc]
 refine wpList_plain hgd fun K hK => ?_
 unfold Oper.wp execOp
 simp only [ho, hx, Instr.loadAt, Instr.sureAddr, Sem.run_bind, Sem.run_pure, Result.andThen_ok, hrun]
 exact hK _ _ h
variable {Kc : Act → World → Prop}
theorem st_store (hw : Region.wanted o (yielded ops a.tmps) = true) (ho : o.op = .store ty x y) (hx : a.eval x = .pointer (some ⟨g, 0, none⟩)) (hy : a.eval y = .agg cells) (hb : W.heap[g]? = some (.cells cs t (0, 0)))
 (hs : cs.size = cells.size) (hi : (P.info? ty).map (·.size) = some cells.size) (h1 : cells.all (·.oneCell') = true)
 (h : ∀ w1, w1.heap[g]? = some (.cells cells t (0, 0)) → OnlyG W w1 g → Kc (a.put o.dst undef) w1) :
 if Region.wanted o (yielded ops a.tmps) = true then Oper.wp P o a W Kc Q else Kc (a.put o.dst undef) W := by
 rw [if_pos hw]
 exact wp_store_mid ty x y ho g 0 cells hx hy (there_blk hb (by omega)) hi h1 (h _ (by have := blk_sets cells.toList 0 W cs hb; rw [setAll_all (by simpa using hs)] at this; simpa using this) (only_sets g _ 0 W))
end
end Go.Proofs.YteanncchmenlkaaDoor.Hw
namespace Go.Proofs.YteanncchmenlkaaDoor.Hw
open Go.RowKit Go.Proofs.YteanncchmenlkaaDoorW.PrintWords Go.Proofs.YteanncchmenlkaaDoorW.PrintLast Go.Proofs.YteanncchmenlkaaDoorW.PrintMore Go.Proofs.YteanncchmenlkaaDoor.Print
set_option linter.unusedVariables false
abbrev pk (a0 a1 a2 : Int) (v3 : Value) (a4 a5 : Int) (v6 v7 v8 v9 : Value) : Array Value := #[.int .u16 a0, .int .u8 a1, .int .u8 a2, v3, .int .u16 a4, .int .u32 a5, v6, v7, v8, v9]
theorem pk_one {a0 a1 a2 a4 a5 : Int} {v3 v6 v7 v8 v9 : Value} (h3 : v3.oneCell' = true) (h6 : v6.oneCell' = true) (h7 : v7.oneCell' = true) (h8 : v8.oneCell' = true) (h9 : v9.oneCell' = true) : (pk a0 a1 a2 v3 a4 a5 v6 v7 v8 v9).all (·.oneCell') = true := by
 simp [h3, h6, h7, h8, h9, show ∀ k n, (Value.int k n).oneCell' = true from fun _ _ => rfl]
abbrev Rd {α : Type} (d : Kd α) (W : World) (v : Value) (xs : List α) : Prop := Kd.V d 0 W 0 (fun _ => True) v xs
section
variable {α : Type} {d : Kd α} {e base : Nat} {ok : Nat → Prop} {W W1 w : World} {v : Value} {xs : List α}
theorem rd_one (h : Rd d W v xs) : v.oneCell' = true := by
 obtain ⟨A, c, rfl, _⟩ := h
 rfl
theorem rd_of_v (h : Kd.V d e W base ok v xs) : Rd d W v xs := Kd.V_mono (h : Kd.V d 0 W 0 ok v xs) (fun _ _ => trivial)
theorem rd_of_n (h : Kd.N d e W base ok v xs) : Rd d W v xs := by
 obtain ⟨A, c, rfl, hl, hc⟩ := Kd.N_reads h
 exact Kd.V_mk hl (Kd.F_mono (Kd.N_F h) (fun _ _ => trivial))
theorem _root_.Go.Proofs.YteanncchmenlkaaDoorW.PrintWords.Kd.V.below (h : Kd.V d e W base ok v xs) (hb : Below W.heap.size W W1) : Kd.V d e W1 base ok v xs := Kd.V_below h hb
theorem _root_.Go.Proofs.YteanncchmenlkaaDoorW.PrintWords.Kd.V.only {g : Nat} (h : Kd.V d e W base ok v xs) (ho : OnlyG W W1 g) (hk : ∀ k, ok k → k ≠ g) : Kd.V d e W1 base ok v xs := Kd.V_step h (fun k hk' _ => ho.block k (hk k hk'))
theorem rd_came {A : Option Addr} {c : Nat} (hd : Kd.Heap d) (hr : Kd.C d w A xs.length xs) (hc : xs.length ≤ c) (hb : Below w.heap.size w W) : Rd d W (.slice A xs.length c) xs :=
 rd_of_v (e := 0) (base := 0) (Kd.V_mk hc (Kd.F_below (Kd.C_F hd hr) hb))
theorem rd_blk1 {g : Nat} {cs : List Value} {t : TypeId} {x : α} (hd : Kd.Heap d) (hb : W.heap[g]? = some (.cells cs.toArray t (0, 0))) (hk : d.K W x cs) : Rd d W (.slice (some ⟨g, 0, none⟩) 1 1) [x] := by
 have hc : Kd.C d W (some ⟨g, 0, none⟩) 1 [x] := ⟨rfl, by decide, fun _ => ⟨_, rfl, fun j p hj => by
  have h0 : j = 0 ∧ p = x := by
   cases j with
   | zero => simpa using hj.symm
   | succ j => simp at hj
  obtain ⟨rfl, rfl⟩ := h0
  refine ⟨cs, d.K_len hk, hk, fun i u hu => ?_⟩
  rw [add_plain, blk_cell hb]
  simpa using hu⟩⟩
 exact rd_came (xs := [x]) hd hc (Nat.le_refl 1) (Below.refl _ _)
end
theorem v_blk_ints {k : IntKind} {W : World} {g n : Nat} {cs : Array Value} {t : TypeId} {xs : List Int} (hb : W.heap[g]? = some (.cells cs t (0, 0))) (hc : cs.toList = xs.map (Value.int k)) (hn : n = xs.length) (hl : xs.length ≤ 9223372036854775807) :
 Kd.V (Kd.int k) 0 W 0 (fun j => j < W.heap.size) (.slice (some ⟨g, 0, none⟩) n n) xs := by
 subst hn
 have hC : Kd.C (Kd.int k) W (some ⟨g, 0, none⟩) xs.length xs := ⟨rfl, hl, fun _ => ⟨_, rfl, fun j p hj => ⟨[.int k p], rfl, rfl, fun i u hu => by
  have h0 : i = 0 ∧ u = .int k p := by
   cases i with
   | zero => exact ⟨rfl, by simpa using hu.symm⟩
   | succ i => simp at hu
  obtain ⟨rfl, rfl⟩ := h0
  rw [add_plain, blk_cell hb]
  show cs[j * 1 + 0]? = _
  rw [Nat.mul_one, Nat.add_zero]
  have e : cs.toList[j]? = some (.int k p) := by rw [hc, List.getElem?_map, hj]; rfl
  simpa using e⟩⟩⟩
 exact Kd.V_mk (Nat.le_refl _) (Kd.C_F (Kd.heap_int k) hC)
def PkR {α : Type} (d : Kd α) (W : World) (ok : Nat → Prop) (v3 v6 v7 v8 v9 : Value) (o : List α) (l6 l7 l8 l9 : List Int) : Prop :=
 Kd.V d 0 W 0 ok v3 o ∧ Kd.V (Kd.int .u8) 0 W 0 ok v6 l6 ∧ Kd.V (Kd.int .u8) 0 W 0 ok v7 l7 ∧ Kd.V (Kd.int .u8) 0 W 0 ok v8 l8 ∧ Kd.V (Kd.int .u32) 0 W 0 ok v9 l9
section
variable {α : Type} {d : Kd α} {W W1 : World} {ok ok' : Nat → Prop} {v3 v6 v7 v8 v9 : Value} {o : List α} {l6 l7 l8 l9 : List Int}
theorem PkR.only {g : Nat} (h : PkR d W ok v3 v6 v7 v8 v9 o l6 l7 l8 l9) (ho : OnlyG W W1 g) (hk : ∀ k, ok k → k ≠ g) : PkR d W1 ok v3 v6 v7 v8 v9 o l6 l7 l8 l9 :=
 have m : ∀ k, ok k → k < W.heap.size → W1.heap[k]? = W.heap[k]? := fun k hk' _ => ho.block k (hk k hk')
 ⟨Kd.V_step h.1 m, Kd.V_step h.2.1 m, Kd.V_step h.2.2.1 m, Kd.V_step h.2.2.2.1 m, Kd.V_step h.2.2.2.2 m⟩
theorem PkR.one (h : PkR d W ok v3 v6 v7 v8 v9 o l6 l7 l8 l9) (a0 a1 a2 a4 a5 : Int) : (pk a0 a1 a2 v3 a4 a5 v6 v7 v8 v9).all (·.oneCell') = true :=
 pk_one (rd_one (rd_of_v h.1)) (rd_one (rd_of_v h.2.1)) (rd_one (rd_of_v h.2.2.1)) (rd_one (rd_of_v h.2.2.2.1)) (rd_one (rd_of_v h.2.2.2.2))
end
def PkIn {α : Type} (d : Kd α) (W : World) (x : Value) (a0 a1 a2 : Int) (o : List α) (a4 a5 : Int) (l6 l7 l8 l9 : List Int) : Prop :=
 ∃ v3 v6 v7 v8 v9 : Value, x = .agg (pk a0 a1 a2 v3 a4 a5 v6 v7 v8 v9) ∧ Rd d W v3 o ∧ Rd (Kd.int .u8) W v6 l6 ∧ Rd (Kd.int .u8) W v7 l7 ∧ Rd (Kd.int .u8) W v8 l8 ∧ Rd (Kd.int .u32) W v9 l9
def PkF {α : Type} (d : Kd α) (W : World) (ok : Nat → Prop) (x : Value) (a0 a1 a2 : Int) (o : List α) (a4 a5 : Int) (l6 l7 l8 l9 : List Int) : Prop :=
 ∃ v3 v6 v7 v8 v9 : Value, x = .agg (pk a0 a1 a2 v3 a4 a5 v6 v7 v8 v9) ∧ PkR d W ok v3 v6 v7 v8 v9 o l6 l7 l8 l9
section
variable {α : Type} {d : Kd α} {W W1 : World} {ok ok' : Nat → Prop} {x : Value} {a0 a1 a2 a4 a5 : Int} {o : List α} {l6 l7 l8 l9 : List Int}
theorem PkF.only {g : Nat} (h : PkF d W ok x a0 a1 a2 o a4 a5 l6 l7 l8 l9) (ho : OnlyG W W1 g) (hk : ∀ k, ok k → k ≠ g) : PkF d W1 ok x a0 a1 a2 o a4 a5 l6 l7 l8 l9 := by
 obtain ⟨v3, v6, v7, v8, v9, e, r⟩ := h
 exact ⟨v3, v6, v7, v8, v9, e, r.only ho hk⟩
end
theorem v_of_n {α : Type} {d : Kd α} {e base : Nat} {ok : Nat → Prop} {W : World} {v : Value} {xs : List α} (h : Kd.N d e W base ok v xs) : Kd.V d 0 W 0 ok v xs := by
 obtain ⟨A, c, rfl, hl, hc⟩ := Kd.N_reads h
 exact Kd.V_mk hl (Kd.N_F h)
end Go.Proofs.YteanncchmenlkaaDoor.Hw
namespace Go.Proofs.YteanncchmenlkaaDoor.Print
open Go.RowKit Go.Proofs.YteanncchmenlkaaDoorW.PrintWords Go.Proofs.YteanncchmenlkaaDoorW.PrintLast Go.Proofs.YteanncchmenlkaaDoorW.PrintMore
attribute [local go_sem] max2_int min2_int max_two min_two max_three min_three max_four min_four
set_option linter.unusedVariables false
set_option linter.unusedSimpArgs false
def proto_Right.f (a0 : Int) : Option (Bool) := if (Go.bits .and .u16 a0 257) = 1 then (some (a0 != 255)) else (some false)
set_option maxHeartbeats 8000000 in
set_option maxRecDepth 100000 in
theorem proto_Right.calls (a0 : Int) (r : Bool) (w : World) (h : proto_Right.f a0 = some r) :
 Calls Tryd.prog 44 #[.int .u16 a0] w fun e w' => e = .returned (.bool r) ∧ Drawn0 w w' := by
 have H : (if (Go.bits .and .u16 a0 257) = 1 then (some (a0 != 255)) else (some false)) = some r := h
 clear h
 by_cases c2 : (Go.bits .and .u16 a0 257) = 1
 · rw [if_pos c2] at H
   have c2b0 : ((Go.bits .and .u16 a0 257) == 1) = true := beq_iff_eq.mpr c2
   have c2b1 : ((Go.bits .and .u16 a0 257) != 1) = false := bne_eq_false_iff_eq.mpr c2
   clear c2
   obtain rfl := Option.some.inj H
   go_enter Tryd.func44, Tryd.ntmps44
   go_wp2
   go_ret
   exact ⟨by first | rfl | (simp; done) | (simp [*]; done), by repeat (first | exact Drawn0.refl _ | apply Drawn0.step)⟩
 · rw [if_neg c2] at H
   have c2b0 : ((Go.bits .and .u16 a0 257) == 1) = false := beq_eq_false_iff_ne.mpr c2
   have c2b1 : ((Go.bits .and .u16 a0 257) != 1) = true := bne_iff_ne.mpr c2
   obtain rfl := Option.some.inj H
   go_enter Tryd.func44, Tryd.ntmps44
   go_wp2
   go_ret
   exact ⟨by first | rfl | (simp; done) | (simp [*]; done), by repeat (first | exact Drawn0.refl _ | apply Drawn0.step)⟩
end Go.Proofs.YteanncchmenlkaaDoor.Print
namespace Go.Proofs.YteanncchmenlkaaDoor.Print
open Go.RowKit Go.Proofs.YteanncchmenlkaaDoorW.PrintWords Go.Proofs.YteanncchmenlkaaDoorW.PrintLast Go.Proofs.YteanncchmenlkaaDoorW.PrintMore
attribute [local go_sem] max2_int min2_int max_two min_two max_three min_three max_four min_four
set_option linter.unusedVariables false
set_option linter.unusedSimpArgs false
def lcp_has.j0 : Nat → Int → Bool → Option (Int)
 | 0, _, _ => none
 | k + 1, x0, x3 => if x3 = true then (some 1) else (if x0 = 8 then (some 2) else (if x0 ≥ 9 then (if x0 ≤ 11 then (some 3) else (some 0)) else (some 0)))
def lcp_has.f (k : Nat) (a0 : Int) : Option (Int) := if a0 ≥ 1 then (lcp_has.j0 k a0 (decide (a0 ≤ 4))) else (lcp_has.j0 k a0 false)
end Go.Proofs.YteanncchmenlkaaDoor.Print
namespace Go.Proofs.YteanncchmenlkaaDoor.Print
open Go.RowKit Go.Proofs.YteanncchmenlkaaDoorW.PrintWords Go.Proofs.YteanncchmenlkaaDoorW.PrintLast Go.Proofs.YteanncchmenlkaaDoorW.PrintMore
attribute [local go_sem] max2_int min2_int max_two min_two max_three min_three max_four min_four
set_option linter.unusedVariables false
set_option linter.unusedSimpArgs false
mutual
def lcp_more.j0 : Nat → Int → Bool → Int → Int → Int → List (S62) → Int → Int → List Int → List Int → List Int → List Int → Option (Bool)
 | 0, _, _, _, _, _, _, _, _, _, _, _, _ => none
 | k + 1, x3, x20, x114000, x114001, x114002, x114003, x114004, x114005, x114006, x114007, x114008, x114009 => if x20 = true then (some true) else (if x3 = 1 then (lcp_more.j1 k x3 (decide ((x114008.length : Int) > 0)) x114000 x114001 x114002 x114003 x114004 x114005 x114006 x114007 x114008 x114009) else (lcp_more.j1 k x3 false x114000 x114001 x114002 x114003 x114004 x114005 x114006 x114007 x114008 x114009))
def lcp_more.j1 : Nat → Int → Bool → Int → Int → Int → List (S62) → Int → Int → List Int → List Int → List Int → List Int → Option (Bool)
 | 0, _, _, _, _, _, _, _, _, _, _, _, _ => none
 | k + 1, x3, x29, x114000, x114001, x114002, x114003, x114004, x114005, x114006, x114007, x114008, x114009 => if x29 = true then (some true) else (if x3 = 2 then (lcp_more.j2 k x3 false x114000 x114001 x114002 x114003 x114004 x114005 x114006 x114007 x114008 x114009) else (lcp_more.j2 k x3 (x114004 != 0) x114000 x114001 x114002 x114003 x114004 x114005 x114006 x114007 x114008 x114009))
def lcp_more.j2 : Nat → Int → Bool → Int → Int → Int → List (S62) → Int → Int → List Int → List Int → List Int → List Int → Option (Bool)
 | 0, _, _, _, _, _, _, _, _, _, _, _, _ => none
 | k + 1, x3, x38, x114000, x114001, x114002, x114003, x114004, x114005, x114006, x114007, x114008, x114009 => if x38 = true then (some true) else (if x3 = 3 then (some false) else (if x114005 = 0 then (some false) else (some true)))
end
def lcp_more.f (k : Nat) (a0_0 : Int) (a0_1 : Int) (a0_2 : Int) (l0_3 : List (S62)) (a0_4 : Int) (a0_5 : Int) (l0_6 : List Int) (l0_7 : List Int) (l0_8 : List Int) (l0_9 : List Int) : Option (Bool) := (lcp_has.f k a0_1).bind fun t114 => (if (wrap64 ((wrap64 ((l0_6.length : Int) + (l0_7.length : Int))) + (l0_9.length : Int))) > 0 then (some true) else (if t114 = 1 then (lcp_more.j0 k t114 false a0_0 a0_1 a0_2 l0_3 a0_4 a0_5 l0_6 l0_7 l0_8 l0_9) else (lcp_more.j0 k t114 (decide ((l0_3.length : Int) > 0)) a0_0 a0_1 a0_2 l0_3 a0_4 a0_5 l0_6 l0_7 l0_8 l0_9)))
end Go.Proofs.YteanncchmenlkaaDoor.Print
namespace Go.Proofs.YteanncchmenlkaaDoor.Print
open Go.RowKit Go.Proofs.YteanncchmenlkaaDoorW.PrintWords Go.Proofs.YteanncchmenlkaaDoorW.PrintLast Go.Proofs.YteanncchmenlkaaDoorW.PrintMore
attribute [local go_sem] max2_int min2_int max_two min_two max_three min_three max_four min_four
set_option linter.unusedVariables false
set_option linter.unusedSimpArgs false
def opts_Put.f (a0 : Int) (l1 : List S62) : Option (List Int × Int) := none
end Go.Proofs.YteanncchmenlkaaDoor.Print
namespace Go.Proofs.YteanncchmenlkaaDoor.Print
open Go.RowKit Go.Proofs.YteanncchmenlkaaDoorW.PrintWords Go.Proofs.YteanncchmenlkaaDoorW.PrintLast Go.Proofs.YteanncchmenlkaaDoorW.PrintMore
attribute [local go_sem] max2_int min2_int max_two min_two max_three min_three max_four min_four
set_option linter.unusedVariables false
set_option linter.unusedSimpArgs false
def lcp_Put.j0 : Nat → List Int → Int → Int → Int → List (S62) → Int → Int → List Int → List Int → List Int → List Int → Option (List Int × Int)
 | 0, _, _, _, _, _, _, _, _, _, _, _ => none
 | k + 1, x4, x142000, x142001, x142002, x142003, x142004, x142005, x142006, x142007, x142008, x142009 => if x4.length + x142008.length < 140737488355328 then ((ctl_Put.f k x142001 x142002 (x4 ++ x142008)).bind fun bt157 => (some (bt157.1, bt157.2))) else (none)
def lcp_Put.f (k : Nat) (a0_0 : Int) (a0_1 : Int) (a0_2 : Int) (l0_3 : List (S62)) (a0_4 : Int) (a0_5 : Int) (l0_6 : List Int) (l0_7 : List Int) (l0_8 : List Int) (l0_9 : List Int) : Option (List Int × Int) := if a0_0 = 49185 then ((lcp_more.f k a0_0 a0_1 a0_2 l0_3 a0_4 a0_5 l0_6 l0_7 l0_8 l0_9).bind fun t142 => (if t142 = true then (some (([] : List Int), 9)) else ((lcp_has.f k a0_1).bind fun t143 => (if t143 = 1 then ((opts_Put.f 49185 l0_3).bind fun bt144 => (if bt144.2 = 0 then (lcp_Put.j0 k bt144.1 a0_0 a0_1 a0_2 l0_3 a0_4 a0_5 l0_6 l0_7 l0_8 l0_9) else (some (([] : List Int), bt144.2)))) else (if t143 = 2 then ((wire_Put.f k ([] : List Int) (IntKind.u64.wrap (a0_4)) 2).bind fun t148 => (lcp_Put.j0 k t148 a0_0 a0_1 a0_2 l0_3 a0_4 a0_5 l0_6 l0_7 l0_8 l0_9)) else (if t143 = 3 then ((wire_Put.f k ([] : List Int) (IntKind.u64.wrap (a0_5)) 4).bind fun t151 => (lcp_Put.j0 k t151 a0_0 a0_1 a0_2 l0_3 a0_4 a0_5 l0_6 l0_7 l0_8 l0_9)) else (lcp_Put.j0 k ([] : List Int) a0_0 a0_1 a0_2 l0_3 a0_4 a0_5 l0_6 l0_7 l0_8 l0_9))))))) else (some (([] : List Int), 8))
end Go.Proofs.YteanncchmenlkaaDoor.Print
namespace Go.Proofs.YteanncchmenlkaaDoor.Print
open Go.RowKit Go.Proofs.YteanncchmenlkaaDoorW.PrintWords Go.Proofs.YteanncchmenlkaaDoorW.PrintLast Go.Proofs.YteanncchmenlkaaDoorW.PrintMore
attribute [local go_sem] max2_int min2_int max_two min_two max_three min_three max_four min_four
set_option linter.unusedVariables false
set_option linter.unusedSimpArgs false
def tags_Put.l0 : Nat → List Int → List (S51) → Int → Int → Option (List Int × Int)
 | 0, _, _, _, _ => none
 | k + 1, x4, x7, x8, x9 => if x9 < x8 then (if 0 ≤ x9 then (if x9 < (x7.length : Int) then (if ((rd_T51 x7 x9).f0) = 0 then (some (([] : List Int), 8)) else (if (((rd_T51 x7 x9).f1).length : Int) > 65535 then (some (([] : List Int), 3)) else ((wire_Put.f k x4 (IntKind.u64.wrap ((rd_T51 x7 x9).f0)) 2).bind fun t312 => ((wire_Put.f k t312 (IntKind.u64.wrap ((((rd_T51 x7 x9).f1).length : Int))) 2).bind fun t315 => (if t315.length + ((rd_T51 x7 x9).f1).length < 140737488355328 then (tags_Put.l0 k (t315 ++ ((rd_T51 x7 x9).f1)) x7 x8 (wrap64 (x9 + 1))) else (none)))))) else (none)) else (none)) else (some (x4, 0))
def tags_Put.f (k : Nat) (l0 : List (S51)) : Option (List Int × Int) := tags_Put.l0 k ([] : List Int) l0 (l0.length : Int) 0
set_option maxHeartbeats 8000000 in
set_option maxRecDepth 100000 in
theorem tags_Put.calls (k : Nat) (A0 : Option Addr) (c0 : Nat) (l0 : List (S51)) (r1 : List Int) (r2 : Int) (w : World) (hr0 : Kd.C k51 w A0 l0.length l0) (hc0 : l0.length ≤ c0) (h : tags_Put.f k l0 = some (r1, r2)) :
 Calls Tryd.prog 46 #[.slice A0 l0.length c0] w fun e w' => ∃ v0_ : Value, e = .returned (.tuple #[v0_, .int .i64 r2]) ∧ Kd.R (Kd.int .u8) 5 w' w.heap.size (fun _ => True) v0_ r1 ∧ Below w.heap.size w w' := by
 have hu51 := Tryd.underlying51
 have HR0 := Aside0.mk hr0
 have HC0 := Aside0.mk hc0
 clear hr0 hc0
 have HB := Aside0.mk (Below.refl w.heap.size w)
 have H : (tags_Put.l0 k ([] : List Int) l0 (l0.length : Int) 0) = some (r1, r2) := h
 clear h
 have H' := Aside0.mk H
 clear H
 go_enter Tryd.func46, Tryd.ntmps46
 go_wp2
 go_loopg [4, 9] k (fun kq v4 v9 w' => ∃ (x4_1 : List Int) (x9_1 : Int), v9 = .int .i64 x9_1 ∧ Aside0 (tags_Put.l0 kq x4_1 l0 (l0.length : Int) x9_1 = some (r1, r2)) ∧ Aside0 (kq ≤ k) ∧ Aside0 (Kd.R (Kd.int .u8) 5 w' w.heap.size (fun _ => True) v4 x4_1) ∧ Aside0 (Below w.heap.size w w'))
 case atStart => exact ⟨(([] : List Int)), (0), (by first | rfl | (simp; done) | (simp [*]; done)), H', ⟨Nat.le_refl _⟩, ⟨by first | exact Kd.R_nil _ _ _ _ _ | exact Kd.N_nil _ _ _ _ _ | exact Kd.V_nil _ _ _ _ _ | exact Kd.Q_nil _ _ _ _ _ | exact Kd.S_nil _ _ _ _ _⟩, ⟨by repeat (first | (with_reducible first | exact HB.out | apply below_alloc | apply pw_below_drewN | apply below_drew1) | exact HB.out)⟩⟩
 case round =>
  clear H'
  obtain ⟨x4_1, x9_1, rfl, HA, HK1, HO_4, HB⟩ := hrel
  cases gk with
  | zero => exact absurd HA.out (by simp [tags_Put.l0])
  | succ k1 =>
   have H := HA.out
   clear HA
   simp only [tags_Put.l0] at H
   by_cases c2 : x9_1 < (l0.length : Int)
   · rw [if_pos c2] at H
     have c2b0 : decide (x9_1 < (l0.length : Int)) = true := decide_eq_true c2
     clear c2
     by_cases c3 : 0 ≤ x9_1
     · rw [if_pos c3] at H
       have c3b0 : decide (0 ≤ x9_1) = true := decide_eq_true c3
       clear c3
       by_cases c4 : x9_1 < (l0.length : Int)
       · rw [if_pos c4] at H
         have c4b0 : decide (x9_1 < (l0.length : Int)) = true := decide_eq_true c4
         clear c4
         by_cases c5 : ((rd_T51 l0 x9_1).f0) = 0
         · rw [if_pos c5] at H
           have c5b0 : (((rd_T51 l0 x9_1).f0) == 0) = true := beq_iff_eq.mpr c5
           have c5b1 : (((rd_T51 l0 x9_1).f0) != 0) = false := bne_eq_false_iff_eq.mpr c5
           clear c5
           simp only [Option.some.injEq, Prod.mk.injEq] at H
           obtain ⟨rfl, rfl⟩ := H
           have p310 : 0 ≤ (x9_1 : Int) := of_decide_eq_true (by first | (with_reducible assumption) | assumption)
           have q310 : x9_1 < (l0.length : Int) := of_decide_eq_true (by first | (with_reducible assumption) | assumption)
           (try clear hHeld)
           obtain ⟨ad310, A310_1, c310_1, e310, hx310_0, hx310_1, hl310_1, hi310_1⟩ := at_T51 HR0.out x9_1 p310 q310
           cases e310
           replace hx310_0 := (HB.out.cell (World.block_lt_of_cell? w _ hx310_0)).trans hx310_0
           replace hx310_1 := (HB.out.cell (World.block_lt_of_cell? w _ hx310_1)).trans hx310_1
           have HR310_1 := Aside0.mk hi310_1
           have HC310_1 := Aside0.mk hl310_1
           clear hi310_1 hl310_1
           replace p310 := eq_true p310
           replace q310 := eq_true q310
           go_wp2_with (first | ((with_reducible refine gate_dst (N := 6) rfl ?_); refine box_event ?hg (N := 6) ?hd (cs := #[.int .u16 0, .slice none 0 0]) (t := 51) ?hr ?_; (case hd => rfl); (case hg => rfl); (case hr => first | (go_simp; done) | (go_simp; simp only [IntKind.wrap_u8, IntKind.wrap_u16, IntKind.wrap_u32, IntKind.wrap_u64]; done) | (go_simp; simp only [IntKind.wrap_u8, IntKind.wrap_u16, IntKind.wrap_u32, IntKind.wrap_u64, Int.tmod_eq_emod_of_nonneg (Int.natCast_nonneg _), Int.emod_emod]; done) | (go_simp; rfl)); intro gb311 hg w6 hbox hb; have n0_ := Aside0.mk (Kd.R_below (by (with_reducible repeat (first | apply Kd.R_alloc | apply Kd.R_drewN | apply Kd.R_drew)); exact HO_4.out) hb); have n1_ := Aside0.mk (below_step (by repeat (first | (with_reducible first | exact HB.out | apply below_alloc | apply pw_below_drewN | apply below_drew1) | exact HB.out)) hb); have n2_ := Aside0.mk (hbox); have n3_ := Aside0.mk ((by rw [hg]; exact (below_size (by repeat (first | (with_reducible first | exact HB.out | apply below_alloc | apply pw_below_drewN | apply below_drew1) | exact HB.out))) : w.heap.size ≤ gb311)); have n4_ := Aside0.mk ((by rw [hg]; exact (below_size (by repeat (first | (with_reducible first | exact HB.out | apply below_alloc | apply pw_below_drewN | apply below_drew1) | exact HB.out))) : w.heap.size ≤ gb311)); clear HO_4; clear HB; have HO_4 := n0_; have HB := n1_; have BK311 := n2_; have GW311 := n3_; have GE311 := n4_; clear n0_ n1_ n2_ n3_ n4_; clear hb hbox hg; obtain ⟨⟨hcz7_0, hcz7_1⟩, hfz7_0, hfz7_1⟩ := cz2 BK311.out))
           go_ret2
           exact ⟨_, by first | rfl | (simp [errW_none, errW_some] <;> rfl) | (simp [*, errW_none, errW_some] <;> rfl), by first | exact Kd.R_nil _ _ _ _ _ | exact Kd.N_nil _ _ _ _ _ | exact Kd.V_nil _ _ _ _ _ | exact Kd.Q_nil _ _ _ _ _ | exact Kd.S_nil _ _ _ _ _, by repeat (first | (with_reducible first | exact HB.out | apply below_alloc | apply pw_below_drewN | apply below_drew1 | refine below_set ?_ GE311.out) | exact HB.out)⟩
         · rw [if_neg c5] at H
           have c5b0 : (((rd_T51 l0 x9_1).f0) == 0) = false := beq_eq_false_iff_ne.mpr c5
           have c5b1 : (((rd_T51 l0 x9_1).f0) != 0) = true := bne_iff_ne.mpr c5
           by_cases c8 : (((rd_T51 l0 x9_1).f1).length : Int) > 65535
           · rw [if_pos c8] at H
             have c8b0 : decide (65535 < (((rd_T51 l0 x9_1).f1).length : Int)) = true := decide_eq_true c8
             have c8b1 : decide (65535 < ((rd_T51 l0 x9_1).f1).length) = true := decide_eq_true (by omega)
             clear c8
             simp only [Option.some.injEq, Prod.mk.injEq] at H
             obtain ⟨rfl, rfl⟩ := H
             have p310 : 0 ≤ (x9_1 : Int) := of_decide_eq_true (by first | (with_reducible assumption) | assumption)
             have q310 : x9_1 < (l0.length : Int) := of_decide_eq_true (by first | (with_reducible assumption) | assumption)
             (try clear hHeld)
             obtain ⟨ad310, A310_1, c310_1, e310, hx310_0, hx310_1, hl310_1, hi310_1⟩ := at_T51 HR0.out x9_1 p310 q310
             cases e310
             replace hx310_0 := (HB.out.cell (World.block_lt_of_cell? w _ hx310_0)).trans hx310_0
             replace hx310_1 := (HB.out.cell (World.block_lt_of_cell? w _ hx310_1)).trans hx310_1
             have HR310_1 := Aside0.mk hi310_1
             have HC310_1 := Aside0.mk hl310_1
             clear hi310_1 hl310_1
             replace p310 := eq_true p310
             replace q310 := eq_true q310
             go_wp2_with (first | ((with_reducible refine gate_dst (N := 6) rfl ?_); refine box_event ?hg (N := 6) ?hd (cs := #[.int .u16 0, .slice none 0 0]) (t := 51) ?hr ?_; (case hd => rfl); (case hg => rfl); (case hr => first | (go_simp; done) | (go_simp; simp only [IntKind.wrap_u8, IntKind.wrap_u16, IntKind.wrap_u32, IntKind.wrap_u64]; done) | (go_simp; simp only [IntKind.wrap_u8, IntKind.wrap_u16, IntKind.wrap_u32, IntKind.wrap_u64, Int.tmod_eq_emod_of_nonneg (Int.natCast_nonneg _), Int.emod_emod]; done) | (go_simp; rfl)); intro gb311 hg w9 hbox hb; have n0_ := Aside0.mk (Kd.R_below (by (with_reducible repeat (first | apply Kd.R_alloc | apply Kd.R_drewN | apply Kd.R_drew)); exact HO_4.out) hb); have n1_ := Aside0.mk (below_step (by repeat (first | (with_reducible first | exact HB.out | apply below_alloc | apply pw_below_drewN | apply below_drew1) | exact HB.out)) hb); have n2_ := Aside0.mk (hbox); have n3_ := Aside0.mk ((by rw [hg]; exact (below_size (by repeat (first | (with_reducible first | exact HB.out | apply below_alloc | apply pw_below_drewN | apply below_drew1) | exact HB.out))) : w.heap.size ≤ gb311)); have n4_ := Aside0.mk ((by rw [hg]; exact (below_size (by repeat (first | (with_reducible first | exact HB.out | apply below_alloc | apply pw_below_drewN | apply below_drew1) | exact HB.out))) : w.heap.size ≤ gb311)); clear HO_4; clear HB; have HO_4 := n0_; have HB := n1_; have BK311 := n2_; have GW311 := n3_; have GE311 := n4_; clear n0_ n1_ n2_ n3_ n4_; clear hb hbox hg; obtain ⟨⟨hcz10_0, hcz10_1⟩, hfz10_0, hfz10_1⟩ := cz2 BK311.out))
             go_ret2
             exact ⟨_, by first | rfl | (simp [errW_none, errW_some] <;> rfl) | (simp [*, errW_none, errW_some] <;> rfl), by first | exact Kd.R_nil _ _ _ _ _ | exact Kd.N_nil _ _ _ _ _ | exact Kd.V_nil _ _ _ _ _ | exact Kd.Q_nil _ _ _ _ _ | exact Kd.S_nil _ _ _ _ _, by repeat (first | (with_reducible first | exact HB.out | apply below_alloc | apply pw_below_drewN | apply below_drew1 | refine below_set ?_ GE311.out) | exact HB.out)⟩
           · rw [if_neg c8] at H
             have c8b0 : decide (65535 < (((rd_T51 l0 x9_1).f1).length : Int)) = false := decide_eq_false c8
             have c8b1 : decide (65535 < ((rd_T51 l0 x9_1).f1).length) = false := decide_eq_false (by omega)
             clear c8
             replace H := Option.bind_eq_some_iff.mp H
             obtain ⟨t312, A110, H⟩ := H
             replace H : ((wire_Put.f k1 t312 (IntKind.u64.wrap ((((rd_T51 l0 x9_1).f1).length : Int))) 2).bind fun t315 => (if t315.length + ((rd_T51 l0 x9_1).f1).length < 140737488355328 then (tags_Put.l0 k1 (t315 ++ ((rd_T51 l0 x9_1).f1)) l0 (l0.length : Int) (wrap64 (x9_1 + 1))) else (none))) = some (r1, r2) := H
             have A11 := Aside0.mk A110
             clear A110
             replace H := Option.bind_eq_some_iff.mp H
             obtain ⟨t315, A120, H⟩ := H
             replace H : (if t315.length + ((rd_T51 l0 x9_1).f1).length < 140737488355328 then (tags_Put.l0 k1 (t315 ++ ((rd_T51 l0 x9_1).f1)) l0 (l0.length : Int) (wrap64 (x9_1 + 1))) else (none)) = some (r1, r2) := H
             have A12 := Aside0.mk A120
             clear A120
             by_cases c13 : t315.length + ((rd_T51 l0 x9_1).f1).length < 140737488355328
             · rw [if_pos c13] at H
               have LMc13 := Aside0.mk c13
               clear c13
               obtain ⟨y318, hy318⟩ : ∃ y_ : List Int, y_ = (t315 ++ ((rd_T51 l0 x9_1).f1)) := ⟨_, rfl⟩
               replace H : (tags_Put.l0 k1 y318 l0 (l0.length : Int) (wrap64 (x9_1 + 1))) = some (r1, r2) := by first | (rw [hy318]; with_reducible exact H) | (have H2_ := (Option.bind_some _ _).symm.trans H; rw [hy318]; with_reducible exact H2_) | (have H2_ := (Option.bind_some _ _).symm.trans H; with_reducible exact H2_) | with_reducible exact H | (rw [hy318]; exact H) | exact H
               have Ny318 := Aside0.mk hy318
               clear hy318
               have H' := Aside0.mk H
               clear H
               have p310 : 0 ≤ (x9_1 : Int) := of_decide_eq_true (by first | (with_reducible assumption) | assumption)
               have q310 : x9_1 < (l0.length : Int) := of_decide_eq_true (by first | (with_reducible assumption) | assumption)
               (try clear hHeld)
               obtain ⟨ad310, A310_1, c310_1, e310, hx310_0, hx310_1, hl310_1, hi310_1⟩ := at_T51 HR0.out x9_1 p310 q310
               cases e310
               replace hx310_0 := (HB.out.cell (World.block_lt_of_cell? w _ hx310_0)).trans hx310_0
               replace hx310_1 := (HB.out.cell (World.block_lt_of_cell? w _ hx310_1)).trans hx310_1
               have HR310_1 := Aside0.mk hi310_1
               have HC310_1 := Aside0.mk hl310_1
               clear hi310_1 hl310_1
               replace p310 := eq_true p310
               replace q310 := eq_true q310
               go_wp2_with (first | ((with_reducible refine gate_dst (N := 6) rfl ?_); refine box_event ?hg (N := 6) ?hd (cs := #[.int .u16 0, .slice none 0 0]) (t := 51) ?hr ?_; (case hd => rfl); (case hg => rfl); (case hr => first | (go_simp; done) | (go_simp; simp only [IntKind.wrap_u8, IntKind.wrap_u16, IntKind.wrap_u32, IntKind.wrap_u64]; done) | (go_simp; simp only [IntKind.wrap_u8, IntKind.wrap_u16, IntKind.wrap_u32, IntKind.wrap_u64, Int.tmod_eq_emod_of_nonneg (Int.natCast_nonneg _), Int.emod_emod]; done) | (go_simp; rfl)); intro gb311 hg w14 hbox hb; have n0_ := Aside0.mk (Kd.R_below (by (with_reducible repeat (first | apply Kd.R_alloc | apply Kd.R_drewN | apply Kd.R_drew)); exact HO_4.out) hb); have n1_ := Aside0.mk (below_step (by repeat (first | (with_reducible first | exact HB.out | apply below_alloc | apply pw_below_drewN | apply below_drew1) | exact HB.out)) hb); have n2_ := Aside0.mk (hbox); have n3_ := Aside0.mk ((by rw [hg]; exact (below_size (by repeat (first | (with_reducible first | exact HB.out | apply below_alloc | apply pw_below_drewN | apply below_drew1) | exact HB.out))) : w.heap.size ≤ gb311)); have n4_ := Aside0.mk ((by rw [hg]; exact (below_size (by repeat (first | (with_reducible first | exact HB.out | apply below_alloc | apply pw_below_drewN | apply below_drew1) | exact HB.out))) : w.heap.size ≤ gb311)); clear HO_4; clear HB; have HO_4 := n0_; have HB := n1_; have BK311 := n2_; have GW311 := n3_; have GE311 := n4_; clear n0_ n1_ n2_ n3_ n4_; clear hb hbox hg; obtain ⟨⟨hcz15_0, hcz15_1⟩, hfz15_0, hfz15_1⟩ := cz2 BK311.out) | ((with_reducible refine gate_store (t := 51) (p := 6) rfl ?_); refine store_event (t := 51) (p := 6) (v := ?vo_w16) (w1 := ((w14.setCell ⟨gb311, 0, none⟩ (.int .u16 ((rd_T51 l0 x9_1).f0))).setCell ⟨gb311, 1, none⟩ (.slice A310_1 ((rd_T51 l0 x9_1).f1).length c310_1))) ?hg ?ho ?hn ?hr ?_; (case ho => rfl); (case hg => rfl); (case hn => rfl); (case hr => first | (go_simp; done) | (go_simp; simp only [IntKind.wrap_u8, IntKind.wrap_u16, IntKind.wrap_u32, IntKind.wrap_u64]; done) | (go_simp; simp only [IntKind.wrap_u8, IntKind.wrap_u16, IntKind.wrap_u32, IntKind.wrap_u64, Int.tmod_eq_emod_of_nonneg (Int.natCast_nonneg _), Int.emod_emod]; done) | (go_simp; rfl)); intro w16 hw; have n0_ : Aside0 (Kd.R (Kd.int .u8) 5 w16 w.heap.size (fun _ => True) u4 x4_1) := ⟨(by rw [hw]; exact (by (with_reducible repeat (first | apply Kd.R_alloc | apply Kd.R_drewN | apply Kd.R_drew)); exact Kd.R_mono (Kd.R_far (p := ⟨gb311, 1, none⟩) (Kd.R_far (p := ⟨gb311, 0, none⟩) (Kd.R_types HO_4.out BK311.out (by decide)) (fun _ hk => hk.2) (.int .u16 ((rd_T51 l0 x9_1).f0))) (fun _ hk => hk.2) (.slice A310_1 ((rd_T51 l0 x9_1).f1).length c310_1)) (fun _ hk => trivial)))⟩; have n1_ : Aside0 (w16.heap[gb311]? = some (.cells #[.int .u16 ((rd_T51 l0 x9_1).f0), .slice A310_1 ((rd_T51 l0 x9_1).f1).length c310_1] 51 (0, 0))) := ⟨(by rw [hw]; exact (by (with_reducible repeat (first | refine blk_drewN ?_ _ | refine blk_drew ?_ | refine blk_alloc ?_ _)); refine blk_put (cs := #[.int .u16 ((rd_T51 l0 x9_1).f0), .slice none 0 0]) ?_ 1 _ rfl; (with_reducible repeat (first | refine blk_drewN ?_ _ | refine blk_drew ?_ | refine blk_alloc ?_ _)); refine blk_put (cs := #[.int .u16 0, .slice none 0 0]) ?_ 0 _ rfl; (with_reducible repeat (first | refine blk_drewN ?_ _ | refine blk_drew ?_ | refine blk_alloc ?_ _)); exact BK311.out))⟩; have n2_ : Aside0 (Below w.heap.size w w16) := ⟨(by rw [hw]; exact (by repeat (first | (with_reducible first | exact HB.out | apply below_alloc | apply pw_below_drewN | apply below_drew1 | refine below_set ?_ GE311.out) | exact HB.out)))⟩; clear hw; clear HO_4; clear BK311; clear HB; have HO_4 := n0_; have BK311 := n1_; have HB := n2_; clear n0_ n1_ n2_; have hcz17_0 : w16.cell? ⟨gb311, 0, none⟩ = some (.int .u16 ((rd_T51 l0 x9_1).f0)) := (blk_cell BK311.out 0).trans rfl; have hcz17_1 : w16.cell? ⟨gb311, 1, none⟩ = some (.slice A310_1 ((rd_T51 l0 x9_1).f1).length c310_1) := (blk_cell BK311.out 1).trans rfl; have hfz17_0 := blk_frozen BK311.out 0; have hfz17_1 := blk_frozen BK311.out 1; obtain ⟨Ao18, co18, eo18⟩ := Kd.R_slice HO_4.out; subst eo18) | ((with_reducible refine gate_callee (f := 31) rfl ?_); refine goesL_ (some 26) rfl rfl Tryd.func31 (by kernel_rfl) rfl #[.slice Ao18 x4_1.length co18, .int .u64 (IntKind.u64.wrap ((rd_T51 l0 x9_1).f0)), .int .i64 2] rfl (by (try simp only [List.map_toArray, List.map_cons, List.map_nil]); first | done | rfl | (simp only [List.length_drop, List.length_take]; rfl)) ?_; (with_reducible refine (wire_Put.calls k1 (fun k_ => some k_ = (.slice Ao18 x4_1.length co18 : Value).ownBlock) (.slice Ao18 x4_1.length co18) x4_1 (IntKind.u64.wrap ((rd_T51 l0 x9_1).f0)) 2 t312 w _ ?side1 ?side2 A11.out).mono ?_); (case side1 => repeat (first | (with_reducible first | exact HB.out | apply below_alloc | apply pw_below_drewN | apply below_drew1 | refine below_set ?_ GE311.out) | exact HB.out)); (case side2 => exact Kd.R_tight rfl HO_4.out); rintro e w19 ⟨v313, rfl, ho0, hb, hkp⟩; refine ⟨_, rfl, ?_⟩; have n0_ := Aside0.mk (blk_kept (by (with_reducible repeat (first | refine blk_drewN ?_ _ | refine blk_drew ?_ | refine blk_alloc ?_ _)); exact BK311.out) hkp (fun hs_ => (fun e_ => (Kd.R_ne HO_4.out BK311.out (by decide)) e_) hs_)); have n1_ := Aside0.mk (Kd.R_mono (ok' := fun k_ => True) ho0 (fun k_ hk_ => trivial)); have n2_ := Aside0.mk (hb); clear BK311; clear HB; clear HO_4; have BK311 := n0_; have HO314 := n1_; have HB := n2_; clear n0_ n1_ n2_; (try clear hb); (try clear hkp); (try clear ho0); have hcz20_0 : w19.cell? ⟨gb311, 0, none⟩ = some (.int .u16 ((rd_T51 l0 x9_1).f0)) := (blk_cell BK311.out 0).trans rfl; have hcz20_1 : w19.cell? ⟨gb311, 1, none⟩ = some (.slice A310_1 ((rd_T51 l0 x9_1).f1).length c310_1) := (blk_cell BK311.out 1).trans rfl; have hfz20_0 := blk_frozen BK311.out 0; have hfz20_1 := blk_frozen BK311.out 1; obtain ⟨Ao21, co21, eo21⟩ := Kd.R_slice HO314.out; subst eo21) | ((with_reducible refine gate_callee (f := 31) rfl ?_); refine goesL_ (some 32) rfl rfl Tryd.func31 (by kernel_rfl) rfl #[.slice Ao21 t312.length co21, .int .u64 (IntKind.u64.wrap ((((rd_T51 l0 x9_1).f1).length : Int))), .int .i64 2] rfl (by (try simp only [List.map_toArray, List.map_cons, List.map_nil]); first | done | rfl | (simp only [List.length_drop, List.length_take]; rfl)) ?_; (with_reducible refine (wire_Put.calls k1 (fun k_ => some k_ = (.slice Ao21 t312.length co21 : Value).ownBlock) (.slice Ao21 t312.length co21) t312 (IntKind.u64.wrap ((((rd_T51 l0 x9_1).f1).length : Int))) 2 t315 w _ ?side1 ?side2 A12.out).mono ?_); (case side1 => repeat (first | (with_reducible first | exact HB.out | apply below_alloc | apply pw_below_drewN | apply below_drew1 | refine below_set ?_ GE311.out) | exact HB.out)); (case side2 => exact Kd.R_tight rfl HO314.out); rintro e w22 ⟨v316, rfl, ho0, hb, hkp⟩; refine ⟨_, rfl, ?_⟩; have n0_ := Aside0.mk (blk_kept (by (with_reducible repeat (first | refine blk_drewN ?_ _ | refine blk_drew ?_ | refine blk_alloc ?_ _)); exact BK311.out) hkp (fun hs_ => (fun e_ => (Kd.R_ne HO314.out BK311.out (by decide)) e_) hs_)); have n1_ := Aside0.mk (Kd.R_mono (ok' := fun k_ => True) ho0 (fun k_ hk_ => trivial)); have n2_ := Aside0.mk (hb); clear BK311; clear HB; clear HO314; have BK311 := n0_; have HO317 := n1_; have HB := n2_; clear n0_ n1_ n2_; (try clear hb); (try clear hkp); (try clear ho0); have hcz23_0 : w22.cell? ⟨gb311, 0, none⟩ = some (.int .u16 ((rd_T51 l0 x9_1).f0)) := (blk_cell BK311.out 0).trans rfl; have hcz23_1 : w22.cell? ⟨gb311, 1, none⟩ = some (.slice A310_1 ((rd_T51 l0 x9_1).f1).length c310_1) := (blk_cell BK311.out 1).trans rfl; have hfz23_0 := blk_frozen BK311.out 0; have hfz23_1 := blk_frozen BK311.out 1) | ((with_reducible refine gate_builtin (b := .append) (xs := #[.tmp 33, .tmp 35]) rfl ?_); at_builtin; refine Kd.R_append_rows (Kd.int .u8) (w0 := w) w.heap.size rfl (.tmp 33) (.tmp 35) 24 5 (.int .u8 0) 1 rfl Tryd.underlying24 info5 rfl (by decide) (by omega) v316 t315 ((rd_T51 l0 x9_1).f1) _ _ _ (fun _ => True) (fun _ => False) rfl rfl ?aO ?aR (fun _ _ h => h) (fun _ h => h.elim) ?aF ?aB ?aS ?aL ?_; (case aR => repeat (first | exact (Kd.C_below HR310_1.out HB.out) | (with_reducible refine Kd.C_alloc ?_ _) | (with_reducible refine Kd.C_drewN ?_ _) | (with_reducible refine Kd.C_drew ?_))); (case aB => exact (by repeat (first | (with_reducible first | exact HB.out | apply below_alloc | apply pw_below_drewN | apply below_drew1 | refine below_set ?_ GE311.out) | exact HB.out))); (case aF => exact (fun _ _ => trivial)); (case aO => exact (by (with_reducible repeat (first | apply Kd.R_alloc | apply Kd.R_drewN | apply Kd.R_drew)); exact HO317.out)); (case aS => exact (below_size (by repeat (first | (with_reducible first | exact HB.out | apply below_alloc | apply pw_below_drewN | apply below_drew1 | refine below_set ?_ GE311.out) | exact HB.out)))); (case aL => have := LMc13.out; omega); intro v319 w24 ho hb hg hat; rw [← Ny318.out] at ho; have n0_ := Aside0.mk (blk_grown (g := gb311) (o := .cells #[.int .u16 ((rd_T51 l0 x9_1).f0), .slice A310_1 ((rd_T51 l0 x9_1).f1).length c310_1] 51 (0, 0)) (by (with_reducible repeat (first | refine blk_drewN ?_ _ | refine blk_drew ?_ | refine blk_alloc ?_ _)); exact BK311.out) hg (Kd.R_ne HO317.out BK311.out (by decide))); have n1_ := Aside0.mk (hb); have n2_ := Aside0.mk (ho); clear BK311; clear HB; clear HO317; have BK311 := n0_; have HB := n1_; have HO320 := n2_; clear n0_ n1_ n2_; clear ho hb hg hat))
               go_roundg k1
               case measure => have := HK1.out; omega
               case rel => exact ⟨(y318), (wrap64 (x9_1 + 1)), (by first | rfl | (simp; done) | (simp [*]; done)), H', ⟨by have := HK1.out; omega⟩, ⟨by (with_reducible repeat (first | apply Kd.R_alloc | apply Kd.R_drewN | apply Kd.R_drew)); exact HO320.out⟩, ⟨by repeat (first | (with_reducible first | exact HB.out | apply below_alloc | apply pw_below_drewN | apply below_drew1 | refine below_set ?_ GE311.out) | exact HB.out)⟩⟩
             · rw [if_neg c13] at H
               exact absurd H (by simp)
       · rw [if_neg c4] at H
         exact absurd H (by simp)
     · rw [if_neg c3] at H
       exact absurd H (by simp)
   · rw [if_neg c2] at H
     have c2b0 : decide (x9_1 < (l0.length : Int)) = false := decide_eq_false c2
     clear c2
     simp only [Option.some.injEq, Prod.mk.injEq] at H
     obtain ⟨rfl, rfl⟩ := H
     go_wp2
     go_ret2
     exact ⟨_, by first | rfl | (simp [errW_none, errW_some] <;> rfl) | (simp [*, errW_none, errW_some] <;> rfl), by (with_reducible repeat (first | apply Kd.R_alloc | apply Kd.R_drewN | apply Kd.R_drew)); exact HO_4.out, by repeat (first | (with_reducible first | exact HB.out | apply below_alloc | apply pw_below_drewN | apply below_drew1) | exact HB.out)⟩
end Go.Proofs.YteanncchmenlkaaDoor.Print
namespace Go.Proofs.YteanncchmenlkaaDoor.Print
open Go.RowKit Go.Proofs.YteanncchmenlkaaDoorW.PrintWords Go.Proofs.YteanncchmenlkaaDoorW.PrintLast Go.Proofs.YteanncchmenlkaaDoorW.PrintMore
attribute [local go_sem] max2_int min2_int max_two min_two max_three min_three max_four min_four
set_option linter.unusedVariables false
set_option linter.unusedSimpArgs false
def marlinelaw21_To.l0 : Nat → List (S85) → List (S51) → Int → Int → Option ((List (S85)))
 | 0, _, _, _, _ => none
 | k + 1, x3, x6, x7, x8 => if x8 < x7 then (if 0 ≤ x8 then (if x8 < (x6.length : Int) then (if x3.length < 4398046511104 then (marlinelaw21_To.l0 k (x3 ++ [(⟨(rd_T51 x6 x8).f0, (rd_T51 x6 x8).f1⟩ : S85)]) x6 x7 (wrap64 (x8 + 1))) else (none)) else (none)) else (none)) else (some x3)
def marlinelaw21_To.f (k : Nat) (l0 : List (S51)) : Option ((List (S85))) := marlinelaw21_To.l0 k ([] : List (S85)) l0 (l0.length : Int) 0
set_option maxHeartbeats 8000000 in
set_option maxRecDepth 100000 in
theorem marlinelaw21_To.calls (k : Nat) (P0_ : Nat → Prop) (A0 : Option Addr) (c0 : Nat) (l0 : List (S51)) (r : List (S85)) (w : World) (hs0 : Kd.V k51 51 w w.heap.size (fun k_ => P0_ k_) (.slice A0 l0.length c0) l0) (h : marlinelaw21_To.f k l0 = some r) :
 Calls Tryd.prog 21 #[.slice A0 l0.length c0] w fun e w' => ∃ v0_ : Value, e = .returned (v0_) ∧ Kd.N k85 85 w' w.heap.size (fun k_ => (P0_ k_ ∨ w.heap.size ≤ k_)) v0_ r ∧ Below w.heap.size w w' := by
 have hu51 := Tryd.underlying51
 have HO0 := Aside0.mk (show Kd.V k51 51 w w.heap.size (fun k_ => (P0_ k_ ∨ w.heap.size ≤ k_)) (.slice A0 l0.length c0) l0 from Kd.V_mono hs0 (fun k_ hk => .inl hk))
 have HB := Aside0.mk (Below.refl w.heap.size w)
 have H : (marlinelaw21_To.l0 k ([] : List (S85)) l0 (l0.length : Int) 0) = some r := h
 clear h
 have H' := Aside0.mk H
 clear H
 go_enter Tryd.func21, Tryd.ntmps21
 go_wp2
 go_loopg [3, 8] k (fun kq v3 v8 w' => ∃ (x3_1 : List (S85)) (x8_1 : Int), v8 = .int .i64 x8_1 ∧ Aside0 (marlinelaw21_To.l0 kq x3_1 l0 (l0.length : Int) x8_1 = some r) ∧ Aside0 (kq ≤ k) ∧ Aside0 (Kd.N k85 85 w' w.heap.size (fun k_ => (P0_ k_ ∨ w.heap.size ≤ k_)) v3 x3_1) ∧ Aside0 (Kd.V k51 51 w' w.heap.size (fun k_ => (P0_ k_ ∨ w.heap.size ≤ k_) ∧ some k_ ≠ (v3 : Value).ownBlock) (.slice A0 l0.length c0) l0) ∧ Aside0 (Below w.heap.size w w'))
 case atStart => exact ⟨(([] : List (S85))), (0), (by first | rfl | (simp; done) | (simp [*]; done)), H', ⟨Nat.le_refl _⟩, ⟨by first | exact Kd.S_nil _ _ _ _ _ | exact Kd.N_nil _ _ _ _ _ | exact Kd.V_nil _ _ _ _ _ | exact Kd.Q_nil _ _ _ _ _ | exact Kd.R_nil _ _ _ _ _⟩, ⟨by (with_reducible repeat (first | apply Kd.V_alloc | apply Kd.V_drewN | apply Kd.V_drew)); exact Kd.V_mono HO0.out (fun _ hk => ⟨hk, (by simp [Value.ownBlock])⟩)⟩, ⟨by repeat (first | (with_reducible first | exact HB.out | apply below_alloc | apply pw_below_drewN | apply below_drew1) | exact HB.out)⟩⟩
 case round =>
  clear H'
  obtain ⟨x3_1, x8_1, rfl, HA, HK1, HO_3, HO_6, HB⟩ := hrel
  cases gk with
  | zero => exact absurd HA.out (by simp [marlinelaw21_To.l0])
  | succ k1 =>
   have H := HA.out
   clear HA
   simp only [marlinelaw21_To.l0] at H
   by_cases c2 : x8_1 < (l0.length : Int)
   · rw [if_pos c2] at H
     have c2b0 : decide (x8_1 < (l0.length : Int)) = true := decide_eq_true c2
     clear c2
     by_cases c3 : 0 ≤ x8_1
     · rw [if_pos c3] at H
       have c3b0 : decide (0 ≤ x8_1) = true := decide_eq_true c3
       clear c3
       by_cases c4 : x8_1 < (l0.length : Int)
       · rw [if_pos c4] at H
         have c4b0 : decide (x8_1 < (l0.length : Int)) = true := decide_eq_true c4
         clear c4
         by_cases c5 : x3_1.length < 4398046511104
         · rw [if_pos c5] at H
           have LMc5 := Aside0.mk c5
           clear c5
           obtain ⟨y403, hy403⟩ : ∃ y_ : List (S85), y_ = (x3_1 ++ [(⟨(rd_T51 l0 x8_1).f0, (rd_T51 l0 x8_1).f1⟩ : S85)]) := ⟨_, rfl⟩
           replace H : (marlinelaw21_To.l0 k1 y403 l0 (l0.length : Int) (wrap64 (x8_1 + 1))) = some r := by first | (rw [hy403]; with_reducible exact H) | (have H2_ := (Option.bind_some _ _).symm.trans H; rw [hy403]; with_reducible exact H2_) | (have H2_ := (Option.bind_some _ _).symm.trans H; with_reducible exact H2_) | with_reducible exact H | (rw [hy403]; exact H) | exact H
           have Ny403 := Aside0.mk hy403
           clear hy403
           have H' := Aside0.mk H
           clear H
           have p401 : 0 ≤ (x8_1 : Int) := of_decide_eq_true (by first | (with_reducible assumption) | assumption)
           have q401 : x8_1 < (l0.length : Int) := of_decide_eq_true (by first | (with_reducible assumption) | assumption)
           (try clear hHeld)
           obtain ⟨ad401, A401_1, c401_1, e401, hx401_0, hx401_1, hl401_1, hi401_1⟩ := at_T51 (Kd.V_reads' HO_6.out).2.2 x8_1 p401 q401
           cases e401
           obtain ⟨ce401, hce401, hMe401, hcc401⟩ := Kd.V_get HO_6.out z51 x8_1 p401 (by first | exact q401 | exact of_decide_eq_true (by first | (with_reducible assumption) | assumption) | (have e_ := (Kd.V_reads' HO_6.out).1; omega))
           obtain ⟨ua401_1, uc401_1, rfl, ul401_1, ge401_1⟩ := k51_openF hMe401
           have hv401_1 := hcc401 1 _ rfl
           rw [add_field _ _ 1 (by omega)] at hv401_1
           replace hv401_1 := Option.some.inj (hv401_1.symm.trans hx401_1)
           injection hv401_1 with hva_ hvn_ hvc_
           rw [hva_] at ge401_1
           rw [hvc_] at ul401_1
           have HL401_1 := Aside0.mk (show Kd.V (Kd.int .u8) 5 _ w.heap.size _ _ ((rd_T51 l0 x8_1).f1) from Kd.V_mk ul401_1 ge401_1)
           clear hva_ hvn_ hvc_ ge401_1 ul401_1
           clear hcc401 hce401
           have HR401_1 := Aside0.mk hi401_1
           have HC401_1 := Aside0.mk hl401_1
           clear hi401_1 hl401_1
           replace p401 := eq_true p401
           replace q401 := eq_true q401
           go_wp2_with (first | ((with_reducible refine gate_dst (N := 5) rfl ?_); refine box_event ?hg (N := 5) ?hd (cs := #[.int .u16 0, .slice none 0 0]) (t := 51) ?hr ?_; (case hd => rfl); (case hg => rfl); (case hr => first | (go_simp; done) | (go_simp; simp only [IntKind.wrap_u8, IntKind.wrap_u16, IntKind.wrap_u32, IntKind.wrap_u64]; done) | (go_simp; simp only [IntKind.wrap_u8, IntKind.wrap_u16, IntKind.wrap_u32, IntKind.wrap_u64, Int.tmod_eq_emod_of_nonneg (Int.natCast_nonneg _), Int.emod_emod]; done) | (go_simp; rfl)); intro gb402 hg w6 hbox hb; have n0_ := Aside0.mk (Kd.N_below (Kd.N_elderB (by (with_reducible repeat (first | apply Kd.N_alloc | apply Kd.N_drewN | apply Kd.N_drew)); exact HO_3.out) gb402 (Nat.le_of_eq hg.symm)) hb); have n1_ := Aside0.mk (Kd.V_below (Kd.V_elderB (by (with_reducible repeat (first | apply Kd.V_alloc | apply Kd.V_drewN | apply Kd.V_drew)); exact HO_6.out) gb402 (Nat.le_of_eq hg.symm)) hb); have n2_ := Aside0.mk (Kd.V_below (Kd.V_elderB (by (with_reducible repeat (first | apply Kd.V_alloc | apply Kd.V_drewN | apply Kd.V_drew)); exact HL401_1.out) gb402 (Nat.le_of_eq hg.symm)) hb); have n3_ := Aside0.mk (Kd.C_below (by repeat (first | (with_reducible exact HR401_1.out) | (with_reducible refine Kd.C_alloc ?_ _) | (with_reducible refine Kd.C_drewN ?_ _) | (with_reducible refine Kd.C_drew ?_) | exact HR401_1.out)) hb); have n4_ := Aside0.mk (below_step (by repeat (first | (with_reducible first | exact HB.out | apply below_alloc | apply pw_below_drewN | apply below_drew1) | exact HB.out)) hb); have n5_ := Aside0.mk (hbox); have n6_ := Aside0.mk ((by rw [hg]; exact (below_size (by repeat (first | (with_reducible first | exact HB.out | apply below_alloc | apply pw_below_drewN | apply below_drew1) | exact HB.out))) : w.heap.size ≤ gb402)); have n7_ := Aside0.mk ((by rw [hg]; exact (below_size (by repeat (first | (with_reducible first | exact HB.out | apply below_alloc | apply pw_below_drewN | apply below_drew1) | exact HB.out))) : w.heap.size ≤ gb402)); clear HO_3; clear HO_6; clear HL401_1; clear HR401_1; clear HB; have HO_3 := n0_; have HO_6 := n1_; have HL401_1 := n2_; have HR401_1 := n3_; have HB := n4_; have BK402 := n5_; have GW402 := n6_; have GE402 := n7_; clear n0_ n1_ n2_ n3_ n4_ n5_ n6_ n7_; clear hb hbox hg; obtain ⟨⟨hcz7_0, hcz7_1⟩, hfz7_0, hfz7_1⟩ := cz2 BK402.out) | ((with_reducible refine gate_store (t := 51) (p := 5) rfl ?_); refine store_event (t := 51) (p := 5) (v := ?vo_w8) (w1 := ((w6.setCell ⟨gb402, 0, none⟩ (.int .u16 ((rd_T51 l0 x8_1).f0))).setCell ⟨gb402, 1, none⟩ (.slice A401_1 ((rd_T51 l0 x8_1).f1).length c401_1))) ?hg ?ho ?hn ?hr ?_; (case ho => rfl); (case hg => rfl); (case hn => rfl); (case hr => first | (go_simp; done) | (go_simp; simp only [IntKind.wrap_u8, IntKind.wrap_u16, IntKind.wrap_u32, IntKind.wrap_u64]; done) | (go_simp; simp only [IntKind.wrap_u8, IntKind.wrap_u16, IntKind.wrap_u32, IntKind.wrap_u64, Int.tmod_eq_emod_of_nonneg (Int.natCast_nonneg _), Int.emod_emod]; done) | (go_simp; rfl)); intro w8 hw; have n0_ : Aside0 (Kd.N k85 85 w8 w.heap.size (fun k_ => (P0_ k_ ∨ w.heap.size ≤ k_) ∧ k_ ≠ gb402) u3 x3_1) := ⟨(by rw [hw]; exact (by (with_reducible repeat (first | apply Kd.N_alloc | apply Kd.N_drewN | apply Kd.N_drew)); exact Kd.N_mono (Kd.N_far (p := ⟨gb402, 1, none⟩) (Kd.N_far (p := ⟨gb402, 0, none⟩) (Kd.N_mono HO_3.out (fun k_ hk => (⟨hk, hk.2⟩ : _ ∧ k_ ≠ gb402))) (fun _ hk => hk.2) (.int .u16 ((rd_T51 l0 x8_1).f0))) (fun _ hk => hk.2) (.slice A401_1 ((rd_T51 l0 x8_1).f1).length c401_1)) (fun _ hk => ⟨hk.1.1, hk.1.2⟩)))⟩; have n1_ : Aside0 (Kd.V k51 51 w8 w.heap.size (fun k_ => (P0_ k_ ∨ w.heap.size ≤ k_) ∧ some k_ ≠ (u3 : Value).ownBlock ∧ k_ ≠ gb402) (.slice (some ad401) l0.length c0) l0) := ⟨(by rw [hw]; exact (by (with_reducible repeat (first | apply Kd.V_alloc | apply Kd.V_drewN | apply Kd.V_drew)); exact Kd.V_mono (Kd.V_far (p := ⟨gb402, 1, none⟩) (Kd.V_far (p := ⟨gb402, 0, none⟩) (Kd.V_mono HO_6.out (fun k_ hk => (⟨hk, hk.2⟩ : _ ∧ k_ ≠ gb402))) (fun _ hk => hk.2) (.int .u16 ((rd_T51 l0 x8_1).f0))) (fun _ hk => hk.2) (.slice A401_1 ((rd_T51 l0 x8_1).f1).length c401_1)) (fun _ hk => ⟨hk.1.1.1, ⟨hk.1.1.2, hk.1.2⟩⟩)))⟩; have n2_ : Aside0 (Kd.V (Kd.int .u8) 5 w8 w.heap.size (fun k_ => (P0_ k_ ∨ w.heap.size ≤ k_) ∧ some k_ ≠ (u3 : Value).ownBlock ∧ k_ ≠ gb402) (.slice A401_1 ((rd_T51 l0 x8_1).f1).length c401_1) ((rd_T51 l0 x8_1).f1)) := ⟨(by rw [hw]; exact (by (with_reducible repeat (first | apply Kd.V_alloc | apply Kd.V_drewN | apply Kd.V_drew)); exact Kd.V_mono (Kd.V_far (p := ⟨gb402, 1, none⟩) (Kd.V_far (p := ⟨gb402, 0, none⟩) (Kd.V_mono HL401_1.out (fun k_ hk => (⟨hk, hk.2⟩ : _ ∧ k_ ≠ gb402))) (fun _ hk => hk.2) (.int .u16 ((rd_T51 l0 x8_1).f0))) (fun _ hk => hk.2) (.slice A401_1 ((rd_T51 l0 x8_1).f1).length c401_1)) (fun _ hk => ⟨hk.1.1.1, ⟨hk.1.1.2, hk.1.2⟩⟩)))⟩; have n3_ : Aside0 (w8.heap[gb402]? = some (.cells #[.int .u16 ((rd_T51 l0 x8_1).f0), .slice A401_1 ((rd_T51 l0 x8_1).f1).length c401_1] 51 (0, 0))) := ⟨(by rw [hw]; exact (by (with_reducible repeat (first | refine blk_drewN ?_ _ | refine blk_drew ?_ | refine blk_alloc ?_ _)); refine blk_put (cs := #[.int .u16 ((rd_T51 l0 x8_1).f0), .slice none 0 0]) ?_ 1 _ rfl; (with_reducible repeat (first | refine blk_drewN ?_ _ | refine blk_drew ?_ | refine blk_alloc ?_ _)); refine blk_put (cs := #[.int .u16 0, .slice none 0 0]) ?_ 0 _ rfl; (with_reducible repeat (first | refine blk_drewN ?_ _ | refine blk_drew ?_ | refine blk_alloc ?_ _)); exact BK402.out))⟩; have n4_ : Aside0 (Below w.heap.size w w8) := ⟨(by rw [hw]; exact (by repeat (first | (with_reducible first | exact HB.out | apply below_alloc | apply pw_below_drewN | apply below_drew1 | refine below_set ?_ GE402.out) | exact HB.out)))⟩; clear hw; clear HO_3; clear HO_6; clear HL401_1; clear BK402; clear HB; have HO_3 := n0_; have HO_6 := n1_; have HL401_1 := n2_; have BK402 := n3_; have HB := n4_; clear n0_ n1_ n2_ n3_ n4_; have hcz9_0 : w8.cell? ⟨gb402, 0, none⟩ = some (.int .u16 ((rd_T51 l0 x8_1).f0)) := (blk_cell BK402.out 0).trans rfl; have hcz9_1 : w8.cell? ⟨gb402, 1, none⟩ = some (.slice A401_1 ((rd_T51 l0 x8_1).f1).length c401_1) := (blk_cell BK402.out 1).trans rfl; have hfz9_0 := blk_frozen BK402.out 0; have hfz9_1 := blk_frozen BK402.out 1) | ((with_reducible refine gate_builtin (b := .append) (xs := #[.tmp 12, .tmp 14]) rfl ?_); at_builtin; refine Kd.N_append k85 (w0 := w) w.heap.size rfl (.tmp 12) (.tmp 14) 39 85 (.agg #[(.int .u16 0), (.slice none 0 0)]) 32 rfl Tryd.underlying39 info85 rfl (by decide) (by omega) u3 x3_1 (⟨(rd_T51 l0 x8_1).f0, (rd_T51 l0 x8_1).f1⟩ : S85) [.int .u16 ((rd_T51 l0 x8_1).f0), .slice A401_1 ((rd_T51 l0 x8_1).f1).length c401_1] (fun k_ => (P0_ k_ ∨ w.heap.size ≤ k_) ∧ k_ ≠ gb402) (fun k_ => ((fun k_ => (P0_ k_ ∨ w.heap.size ≤ k_) ∧ k_ ≠ gb402)) k_ ∧ some k_ ≠ (u3 : Value).ownBlock) rfl rfl ?aP (fun _ hk => hk) ?aF ?aO ?aB ?aS ?aL ?_; (case aP => exact (k85_mkF _ _ (⟨(rd_T51 l0 x8_1).f0, (rd_T51 l0 x8_1).f1⟩ : S85) (Kd.V_reads' (Kd.V_mono (ok' := (fun k_ => ((fun k_ => (P0_ k_ ∨ w.heap.size ≤ k_) ∧ k_ ≠ gb402)) k_ ∧ some k_ ≠ (u3 : Value).ownBlock)) (HL401_1.out) (fun k_ hk => ⟨⟨hk.1, hk.2.2⟩, hk.2.1⟩))).2.1 (Kd.V_F (Kd.V_mono (ok' := (fun k_ => ((fun k_ => (P0_ k_ ∨ w.heap.size ≤ k_) ∧ k_ ≠ gb402)) k_ ∧ some k_ ≠ (u3 : Value).ownBlock)) (HL401_1.out) (fun k_ hk => ⟨⟨hk.1, hk.2.2⟩, hk.2.1⟩))))); (case aB => exact (by repeat (first | (with_reducible first | exact HB.out | apply below_alloc | apply pw_below_drewN | apply below_drew1 | refine below_set ?_ GE402.out) | exact HB.out))); (case aF => exact (fun k_ hk => ⟨(.inr (Nat.le_trans (below_size (by repeat (first | (with_reducible first | exact HB.out | apply below_alloc | apply pw_below_drewN | apply below_drew1 | refine below_set ?_ GE402.out) | exact HB.out))) hk)), Kd.freshB (g := gb402) (o := .cells #[.int .u16 ((rd_T51 l0 x8_1).f0), .slice A401_1 ((rd_T51 l0 x8_1).f1).length c401_1] 51 (0, 0)) (by (with_reducible repeat (first | refine blk_drewN ?_ _ | refine blk_drew ?_ | refine blk_alloc ?_ _)); exact BK402.out) k_ hk⟩)); (case aO => exact (by (with_reducible repeat (first | apply Kd.N_alloc | apply Kd.N_drewN | apply Kd.N_drew)); exact HO_3.out)); (case aS => exact (below_size (by repeat (first | (with_reducible first | exact HB.out | apply below_alloc | apply pw_below_drewN | apply below_drew1 | refine below_set ?_ GE402.out) | exact HB.out)))); (case aL => have := LMc5.out; omega); intro v404 w10 ho hb hg hat; rw [← Ny403.out] at ho; have n0_ := Aside0.mk (Kd.V_afterv (ok := (fun k_ => (P0_ k_ ∨ w.heap.size ≤ k_) ∧ k_ ≠ gb402)) (by (with_reducible repeat (first | apply Kd.V_alloc | apply Kd.V_drewN | apply Kd.V_drew)); exact Kd.V_mono HO_6.out (fun _ hk => ⟨⟨hk.1, hk.2.2⟩, hk.2.1⟩)) hg hat); have n1_ := Aside0.mk (Kd.V_afterv (ok := (fun k_ => (P0_ k_ ∨ w.heap.size ≤ k_) ∧ k_ ≠ gb402)) (by (with_reducible repeat (first | apply Kd.V_alloc | apply Kd.V_drewN | apply Kd.V_drew)); exact Kd.V_mono HL401_1.out (fun _ hk => ⟨⟨hk.1, hk.2.2⟩, hk.2.1⟩)) hg hat); have n2_ := Aside0.mk (blk_grown (g := gb402) (o := .cells #[.int .u16 ((rd_T51 l0 x8_1).f0), .slice A401_1 ((rd_T51 l0 x8_1).f1).length c401_1] 51 (0, 0)) (by (with_reducible repeat (first | refine blk_drewN ?_ _ | refine blk_drew ?_ | refine blk_alloc ?_ _)); exact BK402.out) hg (Kd.N_ne HO_3.out BK402.out (by decide))); have n3_ := Aside0.mk (hb); have n4_ := Aside0.mk (ho); clear HO_6; clear HL401_1; clear BK402; clear HB; clear HO_3; have HO_6 := n0_; have HL401_1 := n1_; have BK402 := n2_; have HB := n3_; have HO405 := n4_; clear n0_ n1_ n2_ n3_ n4_; clear ho hb hg hat))
           go_roundg k1
           case measure => have := HK1.out; omega
           case rel => exact ⟨(y403), (wrap64 (x8_1 + 1)), (by first | rfl | (simp; done) | (simp [*]; done)), H', ⟨by have := HK1.out; omega⟩, ⟨by (with_reducible repeat (first | apply Kd.N_alloc | apply Kd.N_drewN | apply Kd.N_drew)); exact Kd.N_mono HO405.out (fun _ hk => hk.1)⟩, ⟨by (with_reducible repeat (first | apply Kd.V_alloc | apply Kd.V_drewN | apply Kd.V_drew)); exact Kd.V_mono HO_6.out (fun _ hk => ⟨hk.1.1, hk.2⟩)⟩, ⟨by repeat (first | (with_reducible first | exact HB.out | apply below_alloc | apply pw_below_drewN | apply below_drew1 | refine below_set ?_ GE402.out) | exact HB.out)⟩⟩
         · rw [if_neg c5] at H
           exact absurd H (by simp)
       · rw [if_neg c4] at H
         exact absurd H (by simp)
     · rw [if_neg c3] at H
       exact absurd H (by simp)
   · rw [if_neg c2] at H
     have c2b0 : decide (x8_1 < (l0.length : Int)) = false := decide_eq_false c2
     clear c2
     obtain rfl := Option.some.inj H
     go_wp2
     go_ret
     exact ⟨_, by first | rfl | (simp [errW_none, errW_some] <;> rfl) | (simp [*, errW_none, errW_some] <;> rfl), by (with_reducible repeat (first | apply Kd.N_alloc | apply Kd.N_drewN | apply Kd.N_drew)); exact HO_3.out, by repeat (first | (with_reducible first | exact HB.out | apply below_alloc | apply pw_below_drewN | apply below_drew1) | exact HB.out)⟩
end Go.Proofs.YteanncchmenlkaaDoor.Print
namespace Go.Proofs.YteanncchmenlkaaDoor.Print
open Go.RowKit Go.Proofs.YteanncchmenlkaaDoorW.PrintWords Go.Proofs.YteanncchmenlkaaDoorW.PrintLast Go.Proofs.YteanncchmenlkaaDoorW.PrintMore
attribute [local go_sem] max2_int min2_int max_two min_two max_three min_three max_four min_four
set_option linter.unusedVariables false
set_option linter.unusedSimpArgs false
def marlinelaw22_To.f (k : Nat) (a0_0 : Int) (a0_1 : Int) (l0_2 : List (S51)) (a0_3 : Int) (a0_4 : Int) (a0_5 : Int) (l0_6 : List (S62)) (a0_7 : Int) (a0_8 : Int) (l0_9 : List Int) (l0_10 : List Int) (l0_11 : List Int) (l0_12 : List Int) : Option (Int × Int × (List (S85)) × Int × Int × Int × (List (S105)) × Int × Int × List Int × List Int × List Int × List Int) := (marlinelaw21_To.f k l0_2).bind fun t408 => ((marlinelaw15_To.f k a0_3 a0_4 a0_5 l0_6 a0_7 a0_8 l0_9 l0_10 l0_11 l0_12).bind fun bt411 => (some (a0_0, a0_1, t408, bt411.1, bt411.2.1, bt411.2.2.1, bt411.2.2.2.1, bt411.2.2.2.2.1, bt411.2.2.2.2.2.1, bt411.2.2.2.2.2.2.1, bt411.2.2.2.2.2.2.2.1, bt411.2.2.2.2.2.2.2.2.1, bt411.2.2.2.2.2.2.2.2.2)))
def marlinelaw22_To.T1 : Bool × List (List Nat × List Nat) := (true, [([], []), ([0], [0]), ([], []), ([2], [2]), ([], []), ([4], [4]), ([5], [5]), ([], []), ([7], [7]), ([8, 6], [8]), ([1, 3, 6, 9], [1, 3, 6, 9]), ([10, 9, 0, 1, 2, 3, 4, 5, 6, 7, 8, 9, 10], [10])])
def marlinelaw22_To.B1 : List Nat := [0, 1, 0, 4, 0, 16, 48, 0, 128, 496, 1023, 2047]
theorem marlinelaw22_To.tab1 : rtab .any (opsOf Tryd.f13 1) = marlinelaw22_To.T1 := by kernel_rfl
theorem marlinelaw22_To.bits1 : waitsOk marlinelaw22_To.T1.2 marlinelaw22_To.B1 = true := by kernel_rfl
set_option maxHeartbeats 8000000 in
set_option maxRecDepth 100000 in
theorem marlinelaw22_To.calls (k : Nat) (a0_0 : Int) (a0_1 : Int) (P0_2_ : Nat → Prop) (A0_2 : Option Addr) (c0_2 : Nat) (l0_2 : List (S51)) (a0_3 : Int) (a0_4 : Int) (a0_5 : Int) (P0_6_ : Nat → Prop) (A0_6 : Option Addr) (c0_6 : Nat) (l0_6 : List (S62)) (a0_7 : Int) (a0_8 : Int) (P0_9_ : Nat → Prop) (A0_9 : Option Addr) (c0_9 : Nat) (l0_9 : List Int) (P0_10_ : Nat → Prop) (A0_10 : Option Addr) (c0_10 : Nat) (l0_10 : List Int) (P0_11_ : Nat → Prop) (A0_11 : Option Addr) (c0_11 : Nat) (l0_11 : List Int) (P0_12_ : Nat → Prop) (A0_12 : Option Addr) (c0_12 : Nat) (l0_12 : List Int) (r1 : Int) (r2 : Int) (r3 : List (S85)) (r4 : Int) (r5 : Int) (r6 : Int) (r7 : List (S105)) (r8 : Int) (r9 : Int) (r10 : List Int) (r11 : List Int) (r12 : List Int) (r13 : List Int) (w : World) (hs0_2 : Kd.V k51 51 w w.heap.size (fun k_ => P0_2_ k_) (.slice A0_2 l0_2.length c0_2) l0_2) (hs0_6 : Kd.V k62 62 w w.heap.size (fun k_ => P0_6_ k_) (.slice A0_6 l0_6.length c0_6) l0_6) (hs0_9 : Kd.V (Kd.int .u8) 5 w w.heap.size (fun k_ => P0_9_ k_) (.slice A0_9 l0_9.length c0_9) l0_9) (hs0_10 : Kd.V (Kd.int .u8) 5 w w.heap.size (fun k_ => P0_10_ k_) (.slice A0_10 l0_10.length c0_10) l0_10) (hs0_11 : Kd.V (Kd.int .u8) 5 w w.heap.size (fun k_ => P0_11_ k_) (.slice A0_11 l0_11.length c0_11) l0_11) (hs0_12 : Kd.V (Kd.int .u32) 26 w w.heap.size (fun k_ => P0_12_ k_) (.slice A0_12 l0_12.length c0_12) l0_12) (h : marlinelaw22_To.f k a0_0 a0_1 l0_2 a0_3 a0_4 a0_5 l0_6 a0_7 a0_8 l0_9 l0_10 l0_11 l0_12 = some (r1, r2, r3, r4, r5, r6, r7, r8, r9, r10, r11, r12, r13)) :
 Calls Tryd.prog 13 #[.agg #[.int .u8 a0_0, .int .u16 a0_1, .slice A0_2 l0_2.length c0_2, .int .u16 a0_3, .int .u8 a0_4, .int .u8 a0_5, .slice A0_6 l0_6.length c0_6, .int .u16 a0_7, .int .u32 a0_8, .slice A0_9 l0_9.length c0_9, .slice A0_10 l0_10.length c0_10, .slice A0_11 l0_11.length c0_11, .slice A0_12 l0_12.length c0_12]] w fun e w' => ∃ v2_ v6_ v9_ v10_ v11_ v12_ : Value, e = .returned (.agg #[.int .u8 r1, .int .u16 r2, v2_, .int .u16 r4, .int .u8 r5, .int .u8 r6, v6_, .int .u16 r8, .int .u32 r9, v9_, v10_, v11_, v12_]) ∧ Kd.N k85 85 w' w.heap.size (fun k_ => ((P0_2_ k_ ∨ P0_6_ k_ ∨ P0_9_ k_ ∨ P0_10_ k_ ∨ P0_11_ k_ ∨ P0_12_ k_) ∨ w.heap.size ≤ k_) ∧ some k_ ≠ (v6_ : Value).ownBlock) v2_ r3 ∧ Kd.N k105 105 w' w.heap.size (fun k_ => ((P0_2_ k_ ∨ P0_6_ k_ ∨ P0_9_ k_ ∨ P0_10_ k_ ∨ P0_11_ k_ ∨ P0_12_ k_) ∨ w.heap.size ≤ k_) ∧ some k_ ≠ (v2_ : Value).ownBlock) v6_ r7 ∧ Kd.V (Kd.int .u8) 5 w' w.heap.size (fun k_ => ((P0_2_ k_ ∨ P0_6_ k_ ∨ P0_9_ k_ ∨ P0_10_ k_ ∨ P0_11_ k_ ∨ P0_12_ k_) ∨ w.heap.size ≤ k_) ∧ some k_ ≠ (v2_ : Value).ownBlock ∧ some k_ ≠ (v6_ : Value).ownBlock) v9_ r10 ∧ Kd.V (Kd.int .u8) 5 w' w.heap.size (fun k_ => ((P0_2_ k_ ∨ P0_6_ k_ ∨ P0_9_ k_ ∨ P0_10_ k_ ∨ P0_11_ k_ ∨ P0_12_ k_) ∨ w.heap.size ≤ k_) ∧ some k_ ≠ (v2_ : Value).ownBlock ∧ some k_ ≠ (v6_ : Value).ownBlock) v10_ r11 ∧ Kd.V (Kd.int .u8) 5 w' w.heap.size (fun k_ => ((P0_2_ k_ ∨ P0_6_ k_ ∨ P0_9_ k_ ∨ P0_10_ k_ ∨ P0_11_ k_ ∨ P0_12_ k_) ∨ w.heap.size ≤ k_) ∧ some k_ ≠ (v2_ : Value).ownBlock ∧ some k_ ≠ (v6_ : Value).ownBlock) v11_ r12 ∧ Kd.V (Kd.int .u32) 26 w' w.heap.size (fun k_ => ((P0_2_ k_ ∨ P0_6_ k_ ∨ P0_9_ k_ ∨ P0_10_ k_ ∨ P0_11_ k_ ∨ P0_12_ k_) ∨ w.heap.size ≤ k_) ∧ some k_ ≠ (v2_ : Value).ownBlock ∧ some k_ ≠ (v6_ : Value).ownBlock) v12_ r13 ∧ Below w.heap.size w w' := by
 have hu32 := Tryd.underlying32
 have hu44 := Tryd.underlying44
 have hu29 := Tryd.underlying29
 have HO0_2 := Aside0.mk (show Kd.V k51 51 w w.heap.size (fun k_ => ((P0_2_ k_ ∨ P0_6_ k_ ∨ P0_9_ k_ ∨ P0_10_ k_ ∨ P0_11_ k_ ∨ P0_12_ k_) ∨ w.heap.size ≤ k_)) (.slice A0_2 l0_2.length c0_2) l0_2 from Kd.V_mono hs0_2 (fun k_ hk => .inl (.inl hk)))
 have HO0_6 := Aside0.mk (show Kd.V k62 62 w w.heap.size (fun k_ => ((P0_2_ k_ ∨ P0_6_ k_ ∨ P0_9_ k_ ∨ P0_10_ k_ ∨ P0_11_ k_ ∨ P0_12_ k_) ∨ w.heap.size ≤ k_)) (.slice A0_6 l0_6.length c0_6) l0_6 from Kd.V_mono hs0_6 (fun k_ hk => .inl (.inr (.inl hk))))
 have HO0_9 := Aside0.mk (show Kd.V (Kd.int .u8) 5 w w.heap.size (fun k_ => ((P0_2_ k_ ∨ P0_6_ k_ ∨ P0_9_ k_ ∨ P0_10_ k_ ∨ P0_11_ k_ ∨ P0_12_ k_) ∨ w.heap.size ≤ k_)) (.slice A0_9 l0_9.length c0_9) l0_9 from Kd.V_mono hs0_9 (fun k_ hk => .inl (.inr (.inr (.inl hk)))))
 have HO0_10 := Aside0.mk (show Kd.V (Kd.int .u8) 5 w w.heap.size (fun k_ => ((P0_2_ k_ ∨ P0_6_ k_ ∨ P0_9_ k_ ∨ P0_10_ k_ ∨ P0_11_ k_ ∨ P0_12_ k_) ∨ w.heap.size ≤ k_)) (.slice A0_10 l0_10.length c0_10) l0_10 from Kd.V_mono hs0_10 (fun k_ hk => .inl (.inr (.inr (.inr (.inl hk))))))
 have HO0_11 := Aside0.mk (show Kd.V (Kd.int .u8) 5 w w.heap.size (fun k_ => ((P0_2_ k_ ∨ P0_6_ k_ ∨ P0_9_ k_ ∨ P0_10_ k_ ∨ P0_11_ k_ ∨ P0_12_ k_) ∨ w.heap.size ≤ k_)) (.slice A0_11 l0_11.length c0_11) l0_11 from Kd.V_mono hs0_11 (fun k_ hk => .inl (.inr (.inr (.inr (.inr (.inl hk)))))))
 have HO0_12 := Aside0.mk (show Kd.V (Kd.int .u32) 26 w w.heap.size (fun k_ => ((P0_2_ k_ ∨ P0_6_ k_ ∨ P0_9_ k_ ∨ P0_10_ k_ ∨ P0_11_ k_ ∨ P0_12_ k_) ∨ w.heap.size ≤ k_)) (.slice A0_12 l0_12.length c0_12) l0_12 from Kd.V_mono hs0_12 (fun k_ hk => .inl (.inr (.inr (.inr (.inr (.inr hk)))))))
 have HB := Aside0.mk (Below.refl w.heap.size w)
 have H : ((marlinelaw21_To.f k l0_2).bind fun t408 => ((marlinelaw15_To.f k a0_3 a0_4 a0_5 l0_6 a0_7 a0_8 l0_9 l0_10 l0_11 l0_12).bind fun bt411 => (some (a0_0, a0_1, t408, bt411.1, bt411.2.1, bt411.2.2.1, bt411.2.2.2.1, bt411.2.2.2.2.1, bt411.2.2.2.2.2.1, bt411.2.2.2.2.2.2.1, bt411.2.2.2.2.2.2.2.1, bt411.2.2.2.2.2.2.2.2.1, bt411.2.2.2.2.2.2.2.2.2)))) = some (r1, r2, r3, r4, r5, r6, r7, r8, r9, r10, r11, r12, r13) := h
 clear h
 replace H := Option.bind_eq_some_iff.mp H
 obtain ⟨t408, A20, H⟩ := H
 replace H : ((marlinelaw15_To.f k a0_3 a0_4 a0_5 l0_6 a0_7 a0_8 l0_9 l0_10 l0_11 l0_12).bind fun bt411 => (some (a0_0, a0_1, t408, bt411.1, bt411.2.1, bt411.2.2.1, bt411.2.2.2.1, bt411.2.2.2.2.1, bt411.2.2.2.2.2.1, bt411.2.2.2.2.2.2.1, bt411.2.2.2.2.2.2.2.1, bt411.2.2.2.2.2.2.2.2.1, bt411.2.2.2.2.2.2.2.2.2))) = some (r1, r2, r3, r4, r5, r6, r7, r8, r9, r10, r11, r12, r13) := H
 have A2 := Aside0.mk A20
 clear A20
 replace H := Option.bind_eq_some_iff.mp H
 obtain ⟨⟨t411, t412, t413, t414, t417, t418, t419, t422, t425, t428⟩, A30, H⟩ := H
 replace H : (some (a0_0, a0_1, t408, t411, t412, t413, t414, t417, t418, t419, t422, t425, t428)) = some (r1, r2, r3, r4, r5, r6, r7, r8, r9, r10, r11, r12, r13) := H
 have A3 := Aside0.mk A30
 clear A30
 simp only [Option.some.injEq, Prod.mk.injEq] at H
 obtain ⟨rfl, rfl, rfl, rfl, rfl, rfl, rfl, rfl, rfl, rfl, rfl, rfl, rfl⟩ := H
 go_enter Tryd.func13, Tryd.ntmps13
 try go_wp2_with (first | ((with_reducible refine gate_dst (N := 1) rfl ?_); refine box_event ?hg (N := 1) ?hd (cs := #[.int .u8 a0_0, .int .u16 a0_1, .slice A0_2 l0_2.length c0_2, .int .u16 a0_3, .int .u8 a0_4, .int .u8 a0_5, .slice A0_6 l0_6.length c0_6, .int .u16 a0_7, .int .u32 a0_8, .slice A0_9 l0_9.length c0_9, .slice A0_10 l0_10.length c0_10, .slice A0_11 l0_11.length c0_11, .slice A0_12 l0_12.length c0_12]) (t := 32) ?hr ?_; (case hd => rfl); (case hg => rfl); (case hr => first | (go_simp; done) | (go_simp; simp only [IntKind.wrap_u8, IntKind.wrap_u16, IntKind.wrap_u32, IntKind.wrap_u64]; done) | (go_simp; simp only [IntKind.wrap_u8, IntKind.wrap_u16, IntKind.wrap_u32, IntKind.wrap_u64, Int.tmod_eq_emod_of_nonneg (Int.natCast_nonneg _), Int.emod_emod]; done) | (go_simp; rfl)); intro gb406 hg w4 hbox hb; have n0_ := Aside0.mk (Kd.V_below (Kd.V_elderB (by (with_reducible repeat (first | apply Kd.V_alloc | apply Kd.V_drewN | apply Kd.V_drew)); exact HO0_2.out) gb406 (Nat.le_of_eq hg.symm)) hb); have n1_ := Aside0.mk (Kd.V_below (Kd.V_elderB (by (with_reducible repeat (first | apply Kd.V_alloc | apply Kd.V_drewN | apply Kd.V_drew)); exact HO0_6.out) gb406 (Nat.le_of_eq hg.symm)) hb); have n2_ := Aside0.mk (Kd.V_below (Kd.V_elderB (by (with_reducible repeat (first | apply Kd.V_alloc | apply Kd.V_drewN | apply Kd.V_drew)); exact HO0_9.out) gb406 (Nat.le_of_eq hg.symm)) hb); have n3_ := Aside0.mk (Kd.V_below (Kd.V_elderB (by (with_reducible repeat (first | apply Kd.V_alloc | apply Kd.V_drewN | apply Kd.V_drew)); exact HO0_10.out) gb406 (Nat.le_of_eq hg.symm)) hb); have n4_ := Aside0.mk (Kd.V_below (Kd.V_elderB (by (with_reducible repeat (first | apply Kd.V_alloc | apply Kd.V_drewN | apply Kd.V_drew)); exact HO0_11.out) gb406 (Nat.le_of_eq hg.symm)) hb); have n5_ := Aside0.mk (Kd.V_below (Kd.V_elderB (by (with_reducible repeat (first | apply Kd.V_alloc | apply Kd.V_drewN | apply Kd.V_drew)); exact HO0_12.out) gb406 (Nat.le_of_eq hg.symm)) hb); have n6_ := Aside0.mk (below_step (by repeat (first | (with_reducible first | exact HB.out | apply below_alloc | apply pw_below_drewN | apply below_drew1) | exact HB.out)) hb); have n7_ := Aside0.mk (hbox); have n8_ := Aside0.mk ((by rw [hg]; exact (below_size (by repeat (first | (with_reducible first | exact HB.out | apply below_alloc | apply pw_below_drewN | apply below_drew1) | exact HB.out))) : w.heap.size ≤ gb406)); have n9_ := Aside0.mk ((by rw [hg]; exact (below_size (by repeat (first | (with_reducible first | exact HB.out | apply below_alloc | apply pw_below_drewN | apply below_drew1) | exact HB.out))) : w.heap.size ≤ gb406)); clear HO0_2; clear HO0_6; clear HO0_9; clear HO0_10; clear HO0_11; clear HO0_12; clear HB; have HO0_2 := n0_; have HO0_6 := n1_; have HO0_9 := n2_; have HO0_10 := n3_; have HO0_11 := n4_; have HO0_12 := n5_; have HB := n6_; have BK406 := n7_; have GW406 := n8_; have GE406 := n9_; clear n0_ n1_ n2_ n3_ n4_ n5_ n6_ n7_ n8_ n9_; clear hb hbox hg) | ((with_reducible refine gate_dst (N := 2) rfl ?_); refine box_event ?hg (N := 2) ?hd (cs := #[.int .u8 0, .int .u16 0, .slice none 0 0, .int .u16 0, .int .u8 0, .int .u8 0, .slice none 0 0, .int .u16 0, .int .u32 0, .slice none 0 0, .slice none 0 0, .slice none 0 0, .slice none 0 0]) (t := 44) ?hr ?_; (case hd => rfl); (case hg => rfl); (case hr => first | (go_simp; done) | (go_simp; simp only [IntKind.wrap_u8, IntKind.wrap_u16, IntKind.wrap_u32, IntKind.wrap_u64]; done) | (go_simp; simp only [IntKind.wrap_u8, IntKind.wrap_u16, IntKind.wrap_u32, IntKind.wrap_u64, Int.tmod_eq_emod_of_nonneg (Int.natCast_nonneg _), Int.emod_emod]; done) | (go_simp; rfl)); intro gb407 hg w5 hbox hb; have n0_ := Aside0.mk (Kd.V_below (Kd.V_elderB (by (with_reducible repeat (first | apply Kd.V_alloc | apply Kd.V_drewN | apply Kd.V_drew)); exact HO0_2.out) gb407 (Nat.le_of_eq hg.symm)) hb); have n1_ := Aside0.mk (Kd.V_below (Kd.V_elderB (by (with_reducible repeat (first | apply Kd.V_alloc | apply Kd.V_drewN | apply Kd.V_drew)); exact HO0_6.out) gb407 (Nat.le_of_eq hg.symm)) hb); have n2_ := Aside0.mk (Kd.V_below (Kd.V_elderB (by (with_reducible repeat (first | apply Kd.V_alloc | apply Kd.V_drewN | apply Kd.V_drew)); exact HO0_9.out) gb407 (Nat.le_of_eq hg.symm)) hb); have n3_ := Aside0.mk (Kd.V_below (Kd.V_elderB (by (with_reducible repeat (first | apply Kd.V_alloc | apply Kd.V_drewN | apply Kd.V_drew)); exact HO0_10.out) gb407 (Nat.le_of_eq hg.symm)) hb); have n4_ := Aside0.mk (Kd.V_below (Kd.V_elderB (by (with_reducible repeat (first | apply Kd.V_alloc | apply Kd.V_drewN | apply Kd.V_drew)); exact HO0_11.out) gb407 (Nat.le_of_eq hg.symm)) hb); have n5_ := Aside0.mk (Kd.V_below (Kd.V_elderB (by (with_reducible repeat (first | apply Kd.V_alloc | apply Kd.V_drewN | apply Kd.V_drew)); exact HO0_12.out) gb407 (Nat.le_of_eq hg.symm)) hb); have n6_ := Aside0.mk (blk_below (g := gb406) (o := .cells #[.int .u8 a0_0, .int .u16 a0_1, .slice A0_2 l0_2.length c0_2, .int .u16 a0_3, .int .u8 a0_4, .int .u8 a0_5, .slice A0_6 l0_6.length c0_6, .int .u16 a0_7, .int .u32 a0_8, .slice A0_9 l0_9.length c0_9, .slice A0_10 l0_10.length c0_10, .slice A0_11 l0_11.length c0_11, .slice A0_12 l0_12.length c0_12] 32 (0, 0)) (by (with_reducible repeat (first | refine blk_drewN ?_ _ | refine blk_drew ?_ | refine blk_alloc ?_ _)); exact BK406.out) hb); have n7_ := Aside0.mk (below_step (by repeat (first | (with_reducible first | exact HB.out | apply below_alloc | apply pw_below_drewN | apply below_drew1 | refine below_set ?_ GE406.out) | exact HB.out)) hb); have n8_ := Aside0.mk (hbox); have n9_ := Aside0.mk ((by rw [hg]; exact (below_size (by repeat (first | (with_reducible first | exact HB.out | apply below_alloc | apply pw_below_drewN | apply below_drew1 | refine below_set ?_ GE406.out) | exact HB.out))) : w.heap.size ≤ gb407)); have n10_ := Aside0.mk ((by rw [hg]; exact (below_size (by repeat (first | (with_reducible first | exact HB.out | apply below_alloc | apply pw_below_drewN | apply below_drew1 | refine below_set ?_ GE406.out) | exact HB.out))) : w.heap.size ≤ gb407)); have n11_ := Aside0.mk ((by rw [hg]; exact Nat.ne_of_lt (blk_lt (g := gb406) (o := .cells #[.int .u8 a0_0, .int .u16 a0_1, .slice A0_2 l0_2.length c0_2, .int .u16 a0_3, .int .u8 a0_4, .int .u8 a0_5, .slice A0_6 l0_6.length c0_6, .int .u16 a0_7, .int .u32 a0_8, .slice A0_9 l0_9.length c0_9, .slice A0_10 l0_10.length c0_10, .slice A0_11 l0_11.length c0_11, .slice A0_12 l0_12.length c0_12] 32 (0, 0)) (by (with_reducible repeat (first | refine blk_drewN ?_ _ | refine blk_drew ?_ | refine blk_alloc ?_ _)); exact BK406.out)) : gb406 ≠ gb407)); have n12_ := Aside0.mk ((by rw [hg]; exact Nat.ne_of_gt (blk_lt (g := gb406) (o := .cells #[.int .u8 a0_0, .int .u16 a0_1, .slice A0_2 l0_2.length c0_2, .int .u16 a0_3, .int .u8 a0_4, .int .u8 a0_5, .slice A0_6 l0_6.length c0_6, .int .u16 a0_7, .int .u32 a0_8, .slice A0_9 l0_9.length c0_9, .slice A0_10 l0_10.length c0_10, .slice A0_11 l0_11.length c0_11, .slice A0_12 l0_12.length c0_12] 32 (0, 0)) (by (with_reducible repeat (first | refine blk_drewN ?_ _ | refine blk_drew ?_ | refine blk_alloc ?_ _)); exact BK406.out)) : gb407 ≠ gb406)); clear HO0_2; clear HO0_6; clear HO0_9; clear HO0_10; clear HO0_11; clear HO0_12; clear BK406; clear HB; have HO0_2 := n0_; have HO0_6 := n1_; have HO0_9 := n2_; have HO0_10 := n3_; have HO0_11 := n4_; have HO0_12 := n5_; have BK406 := n6_; have HB := n7_; have BK407 := n8_; have GW407 := n9_; have GE407 := n10_; have NB406_407 := n11_; have NB407_406 := n12_; clear n0_ n1_ n2_ n3_ n4_ n5_ n6_ n7_ n8_ n9_ n10_ n11_ n12_; clear hb hbox hg))
 have n0_ := Aside0.mk (Kd.V_drew HO0_2.out)
 have n1_ := Aside0.mk (Kd.V_drew HO0_6.out)
 have n2_ := Aside0.mk (Kd.V_drew HO0_9.out)
 have n3_ := Aside0.mk (Kd.V_drew HO0_10.out)
 have n4_ := Aside0.mk (Kd.V_drew HO0_11.out)
 have n5_ := Aside0.mk (Kd.V_drew HO0_12.out)
 have n6_ := Aside0.mk (blk_drew BK406.out)
 have n7_ := Aside0.mk (blk_drew BK407.out)
 have n8_ := Aside0.mk (below_drew1 HB.out)
 clear HO0_2
 clear HO0_6
 clear HO0_9
 clear HO0_10
 clear HO0_11
 clear HO0_12
 clear BK406
 clear BK407
 clear HB
 have HO0_2 := n0_
 have HO0_6 := n1_
 have HO0_9 := n2_
 have HO0_10 := n3_
 have HO0_11 := n4_
 have HO0_12 := n5_
 have BK406 := n6_
 have BK407 := n7_
 have HB := n8_
 clear n0_ n1_ n2_ n3_ n4_ n5_ n6_ n7_ n8_
 refine start_ (n := 12) (S := fun w' => w'.cell? ⟨gb406, 0, none⟩ = some (.int .u8 a0_0) ∧ w'.cell? ⟨gb406, 1, none⟩ = some (.int .u16 a0_1) ∧ w'.cell? ⟨gb406, 2, none⟩ = some (.slice A0_2 l0_2.length c0_2) ∧ w'.cell? ⟨gb406, 3, none⟩ = some (.int .u16 a0_3) ∧ w'.cell? ⟨gb406, 4, none⟩ = some (.int .u8 a0_4) ∧ w'.cell? ⟨gb406, 5, none⟩ = some (.int .u8 a0_5) ∧ w'.cell? ⟨gb406, 6, none⟩ = some (.slice A0_6 l0_6.length c0_6) ∧ w'.cell? ⟨gb406, 7, none⟩ = some (.int .u16 a0_7) ∧ w'.cell? ⟨gb406, 8, none⟩ = some (.int .u32 a0_8) ∧ w'.cell? ⟨gb406, 9, none⟩ = some (.slice A0_9 l0_9.length c0_9) ∧ w'.cell? ⟨gb406, 10, none⟩ = some (.slice A0_10 l0_10.length c0_10) ∧ w'.cell? ⟨gb406, 11, none⟩ = some (.slice A0_11 l0_11.length c0_11) ∧ w'.cell? ⟨gb406, 12, none⟩ = some (.slice A0_12 l0_12.length c0_12)) (ds := []) #[false, false, false, false, false, false, false, false, false, false, false, false] (by kernel_rfl) rfl rfl ⟨(blk_cell BK406.out 0).trans rfl, (blk_cell BK406.out 1).trans rfl, (blk_cell BK406.out 2).trans rfl, (blk_cell BK406.out 3).trans rfl, (blk_cell BK406.out 4).trans rfl, (blk_cell BK406.out 5).trans rfl, (blk_cell BK406.out 6).trans rfl, (blk_cell BK406.out 7).trans rfl, (blk_cell BK406.out 8).trans rfl, (blk_cell BK406.out 9).trans rfl, (blk_cell BK406.out 10).trans rfl, (blk_cell BK406.out 11).trans rfl, (blk_cell BK406.out 12).trans rfl⟩ (fun hHeld => ?_); refine with_tabW marlinelaw22_To.tab1 marlinelaw22_To.bits1 (fun HT_ HW_ => ?_)
 generalize w5.drew = w6 at HO0_2 HO0_6 HO0_9 HO0_10 HO0_11 HO0_12 BK406 BK407 HB hHeld ⊢
 refine pure_ (i := 0) (N := some 3) (v := ?_) (a' := ?_) #[true, false, false, false, false, false, false, false, false, false, false, false] rfl rfl (any_of HT_.out (by kernel_rfl)) (fun _ _ _ h => h) (Or.inl ⟨by rfl, ?_⟩) ?_ ?_
 rotate_left
 · intro w'
   go_simp
   with_reducible rfl
 rotate_left
 · simp only [Act.put, List.setIfInBounds_toArray, List.set_cons_zero, List.set_cons_succ, i64_w, i32_w]
   rfl
 refine pure_ (i := 2) (N := some 5) (v := ?_) (a' := ?_) #[true, false, true, false, false, false, false, false, false, false, false, false] rfl rfl (any_of HT_.out (by kernel_rfl)) (fun _ _ _ h => h) (Or.inl ⟨by rfl, ?_⟩) ?_ ?_
 rotate_left
 · intro w'
   go_simp
   with_reducible rfl
 rotate_left
 · simp only [Act.put, List.setIfInBounds_toArray, List.set_cons_zero, List.set_cons_succ, i64_w, i32_w]
   rfl
 refine pure_ (i := 4) (N := some 7) (v := ?_) (a' := ?_) #[true, false, true, false, true, false, false, false, false, false, false, false] rfl rfl (any_of HT_.out (by kernel_rfl)) (fun _ _ _ h => h) (Or.inl ⟨by rfl, ?_⟩) ?_ ?_
 rotate_left
 · intro w'
   go_simp
   with_reducible rfl
 rotate_left
 · simp only [Act.put, List.setIfInBounds_toArray, List.set_cons_zero, List.set_cons_succ, i64_w, i32_w]
   rfl
 refine pure_ (i := 7) (N := some 10) (v := ?_) (a' := ?_) #[true, false, true, false, true, false, false, true, false, false, false, false] rfl rfl (any_of HT_.out (by kernel_rfl)) (fun _ _ _ h => h) (Or.inl ⟨by rfl, ?_⟩) ?_ ?_
 rotate_left
 · intro w'
   go_simp
   with_reducible rfl
 rotate_left
 · simp only [Act.put, List.setIfInBounds_toArray, List.set_cons_zero, List.set_cons_succ, i64_w, i32_w]
   rfl
 refine take_ (i := 1) (N := some 4) (v := ?_) (a' := ?_) #[true, true, true, false, true, false, false, true, false, false, false, false] rfl rfl (take_ofW HT_.out HW_.out (by kernel_rfl)) (fun _ _ _ h => h) (Or.inl ⟨by rfl, ?_⟩) hHeld ?_ ?_
 rotate_left
 · rintro w' ⟨s0, s1, s2, s3, s4, s5, s6, s7, s8, s9, s10, s11, s12⟩
   go_simp
   with_reducible rfl
 rotate_left
 · simp only [Act.put, List.setIfInBounds_toArray, List.set_cons_zero, List.set_cons_succ, i64_w, i32_w]
   rfl
 refine take_ (i := 3) (N := some 6) (v := ?_) (a' := ?_) #[true, true, true, true, true, false, false, true, false, false, false, false] rfl rfl (take_ofW HT_.out HW_.out (by kernel_rfl)) (fun _ _ _ h => h) (Or.inl ⟨by rfl, ?_⟩) hHeld ?_ ?_
 rotate_left
 · rintro w' ⟨s0, s1, s2, s3, s4, s5, s6, s7, s8, s9, s10, s11, s12⟩
   go_simp
   with_reducible rfl
 rotate_left
 · simp only [Act.put, List.setIfInBounds_toArray, List.set_cons_zero, List.set_cons_succ, i64_w, i32_w]
   rfl
 refine take_ (i := 5) (N := some 8) (v := ?_) (a' := ?_) #[true, true, true, true, true, true, false, true, false, false, false, false] rfl rfl (take_ofW HT_.out HW_.out (by kernel_rfl)) (fun _ _ _ h => h) (Or.inl ⟨by rfl, ?_⟩) hHeld ?_ ?_
 rotate_left
 · rintro w' ⟨s0, s1, s2, s3, s4, s5, s6, s7, s8, s9, s10, s11, s12⟩
   go_simp
   with_reducible rfl
 rotate_left
 · simp only [Act.put, List.setIfInBounds_toArray, List.set_cons_zero, List.set_cons_succ, i64_w, i32_w]
   rfl
 refine take_ (i := 8) (N := some 11) (v := ?_) (a' := ?_) #[true, true, true, true, true, true, false, true, true, false, false, false] rfl rfl (take_ofW HT_.out HW_.out (by kernel_rfl)) (fun _ _ _ h => h) (Or.inl ⟨by rfl, ?_⟩) hHeld ?_ ?_
 rotate_left
 · rintro w' ⟨s0, s1, s2, s3, s4, s5, s6, s7, s8, s9, s10, s11, s12⟩
   go_simp
   with_reducible rfl
 rotate_left
 · simp only [Act.put, List.setIfInBounds_toArray, List.set_cons_zero, List.set_cons_succ, i64_w, i32_w]
   rfl
 refine one_ (i := 6) (N := some 9) #[true, true, true, true, true, true, true, true, true, false, false, false] rfl rfl (one_of HT_.out (by kernel_rfl)) (by decide) (fun K hK => ?_)
 refine goes_ Tryd.func21 (by kernel_rfl) rfl #[.slice A0_2 l0_2.length c0_2] (by rfl) rfl rfl (by (try simp only [List.map_toArray, List.map_cons, List.map_nil]); first | done | rfl | (simp only [List.length_drop, List.length_take]; rfl)) ?_
 with_reducible refine (marlinelaw21_To.calls k (fun k_ => ((((P0_2_ k_ ∨ P0_6_ k_ ∨ P0_9_ k_ ∨ P0_10_ k_ ∨ P0_11_ k_ ∨ P0_12_ k_) ∨ w.heap.size ≤ k_) ∧ k_ ≠ gb406) ∧ k_ ≠ gb407)) _ _ l0_2 t408 _ ?side1 A2.out).mono ?_
 (case side1 => exact HO0_2.out)
 rintro e w7 ⟨v409, rfl, ho0, hb⟩
 refine ⟨_, rfl, ?_⟩
 have n0_ := Aside0.mk (Kd.V_elder' (by (with_reducible repeat (first | apply Kd.V_alloc | apply Kd.V_drewN | apply Kd.V_drew)); exact HO0_2.out) (Kd.N_base ho0) hb)
 have n1_ := Aside0.mk (Kd.V_elder' (by (with_reducible repeat (first | apply Kd.V_alloc | apply Kd.V_drewN | apply Kd.V_drew)); exact HO0_6.out) (Kd.N_base ho0) hb)
 have n2_ := Aside0.mk (Kd.V_elder' (by (with_reducible repeat (first | apply Kd.V_alloc | apply Kd.V_drewN | apply Kd.V_drew)); exact HO0_9.out) (Kd.N_base ho0) hb)
 have n3_ := Aside0.mk (Kd.V_elder' (by (with_reducible repeat (first | apply Kd.V_alloc | apply Kd.V_drewN | apply Kd.V_drew)); exact HO0_10.out) (Kd.N_base ho0) hb)
 have n4_ := Aside0.mk (Kd.V_elder' (by (with_reducible repeat (first | apply Kd.V_alloc | apply Kd.V_drewN | apply Kd.V_drew)); exact HO0_11.out) (Kd.N_base ho0) hb)
 have n5_ := Aside0.mk (Kd.V_elder' (by (with_reducible repeat (first | apply Kd.V_alloc | apply Kd.V_drewN | apply Kd.V_drew)); exact HO0_12.out) (Kd.N_base ho0) hb)
 have n6_ := Aside0.mk (Kd.N_lower (Kd.N_mono (ok' := fun k_ => ((P0_2_ k_ ∨ P0_6_ k_ ∨ P0_9_ k_ ∨ P0_10_ k_ ∨ P0_11_ k_ ∨ P0_12_ k_) ∨ w.heap.size ≤ k_) ∧ k_ ≠ gb406 ∧ k_ ≠ gb407) ho0 (fun k_ hk_ => ⟨Or.elim hk_ (fun hs_ => hs_.1.1) (fun hn_ => (.inr (Nat.le_trans (below_size (by repeat (first | (with_reducible first | exact HB.out | apply below_alloc | apply pw_below_drewN | apply below_drew1 | refine below_set ?_ GE406.out | refine below_set ?_ GE407.out) | exact HB.out))) hn_))), Or.elim hk_ (fun hs_ => hs_.1.2) (fun hn_ => (Kd.freshB (g := gb406) (o := .cells #[.int .u8 a0_0, .int .u16 a0_1, .slice A0_2 l0_2.length c0_2, .int .u16 a0_3, .int .u8 a0_4, .int .u8 a0_5, .slice A0_6 l0_6.length c0_6, .int .u16 a0_7, .int .u32 a0_8, .slice A0_9 l0_9.length c0_9, .slice A0_10 l0_10.length c0_10, .slice A0_11 l0_11.length c0_11, .slice A0_12 l0_12.length c0_12] 32 (0, 0)) (by (with_reducible repeat (first | refine blk_drewN ?_ _ | refine blk_drew ?_ | refine blk_alloc ?_ _)); exact BK406.out) k_ hn_)), Or.elim hk_ (fun hs_ => hs_.2) (fun hn_ => (Kd.freshB (g := gb407) (o := .cells #[.int .u8 0, .int .u16 0, .slice none 0 0, .int .u16 0, .int .u8 0, .int .u8 0, .slice none 0 0, .int .u16 0, .int .u32 0, .slice none 0 0, .slice none 0 0, .slice none 0 0, .slice none 0 0] 44 (0, 0)) (by (with_reducible repeat (first | refine blk_drewN ?_ _ | refine blk_drew ?_ | refine blk_alloc ?_ _)); exact BK407.out) k_ hn_))⟩)) (below_size (by repeat (first | (with_reducible first | exact HB.out | apply below_alloc | apply pw_below_drewN | apply below_drew1 | refine below_set ?_ GE406.out | refine below_set ?_ GE407.out) | exact HB.out))))
 have n7_ := Aside0.mk (blk_below (g := gb406) (o := .cells #[.int .u8 a0_0, .int .u16 a0_1, .slice A0_2 l0_2.length c0_2, .int .u16 a0_3, .int .u8 a0_4, .int .u8 a0_5, .slice A0_6 l0_6.length c0_6, .int .u16 a0_7, .int .u32 a0_8, .slice A0_9 l0_9.length c0_9, .slice A0_10 l0_10.length c0_10, .slice A0_11 l0_11.length c0_11, .slice A0_12 l0_12.length c0_12] 32 (0, 0)) (by (with_reducible repeat (first | refine blk_drewN ?_ _ | refine blk_drew ?_ | refine blk_alloc ?_ _)); exact BK406.out) hb)
 have n8_ := Aside0.mk (blk_below (g := gb407) (o := .cells #[.int .u8 0, .int .u16 0, .slice none 0 0, .int .u16 0, .int .u8 0, .int .u8 0, .slice none 0 0, .int .u16 0, .int .u32 0, .slice none 0 0, .slice none 0 0, .slice none 0 0, .slice none 0 0] 44 (0, 0)) (by (with_reducible repeat (first | refine blk_drewN ?_ _ | refine blk_drew ?_ | refine blk_alloc ?_ _)); exact BK407.out) hb)
 have n9_ := Aside0.mk (below_step (by repeat (first | (with_reducible first | exact HB.out | apply below_alloc | apply pw_below_drewN | apply below_drew1 | refine below_set ?_ GE406.out | refine below_set ?_ GE407.out) | exact HB.out)) hb)
 clear HO0_2
 clear HO0_6
 clear HO0_9
 clear HO0_10
 clear HO0_11
 clear HO0_12
 clear BK406
 clear BK407
 clear HB
 have HO0_2 := n0_
 have HO0_6 := n1_
 have HO0_9 := n2_
 have HO0_10 := n3_
 have HO0_11 := n4_
 have HO0_12 := n5_
 have HO410 := n6_
 have BK406 := n7_
 have BK407 := n8_
 have HB := n9_
 clear n0_ n1_ n2_ n3_ n4_ n5_ n6_ n7_ n8_ n9_
 (try clear hb)
 (try clear hb2)
 (try clear hk)
 (try clear hi)
 (try clear ho0)
 refine hK.out _ _ ⟨(blk_cell BK406.out 0).trans rfl, (blk_cell BK406.out 1).trans rfl, (blk_cell BK406.out 2).trans rfl, (blk_cell BK406.out 3).trans rfl, (blk_cell BK406.out 4).trans rfl, (blk_cell BK406.out 5).trans rfl, (blk_cell BK406.out 6).trans rfl, (blk_cell BK406.out 7).trans rfl, (blk_cell BK406.out 8).trans rfl, (blk_cell BK406.out 9).trans rfl, (blk_cell BK406.out 10).trans rfl, (blk_cell BK406.out 11).trans rfl, (blk_cell BK406.out 12).trans rfl⟩ (fun hHeld => ?_)
 clear hK K
 refine norm_ (a' := ?_) ?_ ?_
 rotate_left
 · show Act.put _ (some 9) _ = _
   simp only [Act.put, List.setIfInBounds_toArray, List.set_cons_zero, List.set_cons_succ, i64_w, i32_w]
   rfl
 refine one_ (i := 9) (N := some 12) #[true, true, true, true, true, true, true, true, true, true, false, false] rfl rfl (one_of HT_.out (by kernel_rfl)) (by decide) (fun K hK => ?_)
 refine goes_ Tryd.func19 (by kernel_rfl) rfl #[.agg #[.int .u16 a0_3, .int .u8 a0_4, .int .u8 a0_5, .slice A0_6 l0_6.length c0_6, .int .u16 a0_7, .int .u32 a0_8, .slice A0_9 l0_9.length c0_9, .slice A0_10 l0_10.length c0_10, .slice A0_11 l0_11.length c0_11, .slice A0_12 l0_12.length c0_12]] (by rfl) rfl rfl (by (try simp only [List.map_toArray, List.map_cons, List.map_nil]); first | done | rfl | (simp only [List.length_drop, List.length_take]; rfl)) ?_
 with_reducible refine (marlinelaw15_To.calls k a0_3 a0_4 a0_5 (fun k_ => (((((P0_2_ k_ ∨ P0_6_ k_ ∨ P0_9_ k_ ∨ P0_10_ k_ ∨ P0_11_ k_ ∨ P0_12_ k_) ∨ w.heap.size ≤ k_) ∧ k_ ≠ gb406) ∧ k_ ≠ gb407) ∧ some k_ ≠ (v409 : Value).ownBlock)) _ _ l0_6 a0_7 a0_8 (fun k_ => (((((P0_2_ k_ ∨ P0_6_ k_ ∨ P0_9_ k_ ∨ P0_10_ k_ ∨ P0_11_ k_ ∨ P0_12_ k_) ∨ w.heap.size ≤ k_) ∧ k_ ≠ gb406) ∧ k_ ≠ gb407) ∧ some k_ ≠ (v409 : Value).ownBlock)) _ _ l0_9 (fun k_ => (((((P0_2_ k_ ∨ P0_6_ k_ ∨ P0_9_ k_ ∨ P0_10_ k_ ∨ P0_11_ k_ ∨ P0_12_ k_) ∨ w.heap.size ≤ k_) ∧ k_ ≠ gb406) ∧ k_ ≠ gb407) ∧ some k_ ≠ (v409 : Value).ownBlock)) _ _ l0_10 (fun k_ => (((((P0_2_ k_ ∨ P0_6_ k_ ∨ P0_9_ k_ ∨ P0_10_ k_ ∨ P0_11_ k_ ∨ P0_12_ k_) ∨ w.heap.size ≤ k_) ∧ k_ ≠ gb406) ∧ k_ ≠ gb407) ∧ some k_ ≠ (v409 : Value).ownBlock)) _ _ l0_11 (fun k_ => (((((P0_2_ k_ ∨ P0_6_ k_ ∨ P0_9_ k_ ∨ P0_10_ k_ ∨ P0_11_ k_ ∨ P0_12_ k_) ∨ w.heap.size ≤ k_) ∧ k_ ≠ gb406) ∧ k_ ≠ gb407) ∧ some k_ ≠ (v409 : Value).ownBlock)) _ _ l0_12 t411 t412 t413 t414 t417 t418 t419 t422 t425 t428 _ ?side1 ?side2 ?side3 ?side4 ?side5 A3.out).mono ?_
 (case side1 => exact HO0_6.out)
 (case side2 => exact HO0_9.out)
 (case side3 => exact HO0_10.out)
 (case side4 => exact HO0_11.out)
 (case side5 => exact HO0_12.out)
 rintro e w8 ⟨v415, v420, v423, v426, v429, rfl, ho0, ho1, ho2, ho3, ho4, hb⟩
 refine ⟨_, rfl, ?_⟩
 have n0_ := Aside0.mk (Kd.V_elder' (by (with_reducible repeat (first | apply Kd.V_alloc | apply Kd.V_drewN | apply Kd.V_drew)); exact HO0_2.out) (Kd.N_base ho0) hb)
 have n1_ := Aside0.mk (Kd.V_elder' (by (with_reducible repeat (first | apply Kd.V_alloc | apply Kd.V_drewN | apply Kd.V_drew)); exact HO0_6.out) (Kd.N_base ho0) hb)
 have n2_ := Aside0.mk (Kd.V_elder' (by (with_reducible repeat (first | apply Kd.V_alloc | apply Kd.V_drewN | apply Kd.V_drew)); exact HO0_9.out) (Kd.N_base ho0) hb)
 have n3_ := Aside0.mk (Kd.V_elder' (by (with_reducible repeat (first | apply Kd.V_alloc | apply Kd.V_drewN | apply Kd.V_drew)); exact HO0_10.out) (Kd.N_base ho0) hb)
 have n4_ := Aside0.mk (Kd.V_elder' (by (with_reducible repeat (first | apply Kd.V_alloc | apply Kd.V_drewN | apply Kd.V_drew)); exact HO0_11.out) (Kd.N_base ho0) hb)
 have n5_ := Aside0.mk (Kd.V_elder' (by (with_reducible repeat (first | apply Kd.V_alloc | apply Kd.V_drewN | apply Kd.V_drew)); exact HO0_12.out) (Kd.N_base ho0) hb)
 have n6_ := Aside0.mk (Kd.N_elder' (by (with_reducible repeat (first | apply Kd.N_alloc | apply Kd.N_drewN | apply Kd.N_drew)); exact HO410.out) (Kd.N_base ho0) hb)
 have n7_ := Aside0.mk (Kd.N_lower (Kd.N_mono (ok' := fun k_ => ((P0_2_ k_ ∨ P0_6_ k_ ∨ P0_9_ k_ ∨ P0_10_ k_ ∨ P0_11_ k_ ∨ P0_12_ k_) ∨ w.heap.size ≤ k_) ∧ some k_ ≠ (v409 : Value).ownBlock ∧ k_ ≠ gb406 ∧ k_ ≠ gb407) ho0 (fun k_ hk_ => ⟨Or.elim hk_ (fun hs_ => Or.elim hs_ (fun hs_ => hs_.1.1.1) (fun hs_ => Or.elim hs_ (fun hs_ => hs_.1.1.1) (fun hs_ => Or.elim hs_ (fun hs_ => hs_.1.1.1) (fun hs_ => Or.elim hs_ (fun hs_ => hs_.1.1.1) (fun hs_ => hs_.1.1.1))))) (fun hn_ => (.inr (Nat.le_trans (below_size (by repeat (first | (with_reducible first | exact HB.out | apply below_alloc | apply pw_below_drewN | apply below_drew1 | refine below_set ?_ GE406.out | refine below_set ?_ GE407.out) | exact HB.out))) hn_))), Or.elim hk_ (fun hs_ => Or.elim hs_ (fun hs_ => hs_.2) (fun hs_ => Or.elim hs_ (fun hs_ => hs_.2) (fun hs_ => Or.elim hs_ (fun hs_ => hs_.2) (fun hs_ => Or.elim hs_ (fun hs_ => hs_.2) (fun hs_ => hs_.2))))) (fun hn_ => (Kd.fresh' (Kd.N_lt (by (with_reducible repeat (first | apply Kd.N_alloc | apply Kd.N_drewN | apply Kd.N_drew)); exact HO410.out)) k_ hn_)), Or.elim hk_ (fun hs_ => Or.elim hs_ (fun hs_ => hs_.1.1.2) (fun hs_ => Or.elim hs_ (fun hs_ => hs_.1.1.2) (fun hs_ => Or.elim hs_ (fun hs_ => hs_.1.1.2) (fun hs_ => Or.elim hs_ (fun hs_ => hs_.1.1.2) (fun hs_ => hs_.1.1.2))))) (fun hn_ => (Kd.freshB (g := gb406) (o := .cells #[.int .u8 a0_0, .int .u16 a0_1, .slice A0_2 l0_2.length c0_2, .int .u16 a0_3, .int .u8 a0_4, .int .u8 a0_5, .slice A0_6 l0_6.length c0_6, .int .u16 a0_7, .int .u32 a0_8, .slice A0_9 l0_9.length c0_9, .slice A0_10 l0_10.length c0_10, .slice A0_11 l0_11.length c0_11, .slice A0_12 l0_12.length c0_12] 32 (0, 0)) (by (with_reducible repeat (first | refine blk_drewN ?_ _ | refine blk_drew ?_ | refine blk_alloc ?_ _)); exact BK406.out) k_ hn_)), Or.elim hk_ (fun hs_ => Or.elim hs_ (fun hs_ => hs_.1.2) (fun hs_ => Or.elim hs_ (fun hs_ => hs_.1.2) (fun hs_ => Or.elim hs_ (fun hs_ => hs_.1.2) (fun hs_ => Or.elim hs_ (fun hs_ => hs_.1.2) (fun hs_ => hs_.1.2))))) (fun hn_ => (Kd.freshB (g := gb407) (o := .cells #[.int .u8 0, .int .u16 0, .slice none 0 0, .int .u16 0, .int .u8 0, .int .u8 0, .slice none 0 0, .int .u16 0, .int .u32 0, .slice none 0 0, .slice none 0 0, .slice none 0 0, .slice none 0 0] 44 (0, 0)) (by (with_reducible repeat (first | refine blk_drewN ?_ _ | refine blk_drew ?_ | refine blk_alloc ?_ _)); exact BK407.out) k_ hn_))⟩)) (below_size (by repeat (first | (with_reducible first | exact HB.out | apply below_alloc | apply pw_below_drewN | apply below_drew1 | refine below_set ?_ GE406.out | refine below_set ?_ GE407.out) | exact HB.out))))
 have n8_ := Aside0.mk (Kd.V_lower (Kd.V_mono (ok' := fun k_ => ((P0_2_ k_ ∨ P0_6_ k_ ∨ P0_9_ k_ ∨ P0_10_ k_ ∨ P0_11_ k_ ∨ P0_12_ k_) ∨ w.heap.size ≤ k_) ∧ some k_ ≠ (v415 : Value).ownBlock ∧ some k_ ≠ (v409 : Value).ownBlock ∧ k_ ≠ gb406 ∧ k_ ≠ gb407) ho1 (fun k_ hk_ => ⟨Or.elim hk_.1 (fun hs_ => Or.elim hs_ (fun hs_ => hs_.1.1.1) (fun hs_ => Or.elim hs_ (fun hs_ => hs_.1.1.1) (fun hs_ => Or.elim hs_ (fun hs_ => hs_.1.1.1) (fun hs_ => Or.elim hs_ (fun hs_ => hs_.1.1.1) (fun hs_ => hs_.1.1.1))))) (fun hn_ => (.inr (Nat.le_trans (below_size (by repeat (first | (with_reducible first | exact HB.out | apply below_alloc | apply pw_below_drewN | apply below_drew1 | refine below_set ?_ GE406.out | refine below_set ?_ GE407.out) | exact HB.out))) hn_))), hk_.2, Or.elim hk_.1 (fun hs_ => Or.elim hs_ (fun hs_ => hs_.2) (fun hs_ => Or.elim hs_ (fun hs_ => hs_.2) (fun hs_ => Or.elim hs_ (fun hs_ => hs_.2) (fun hs_ => Or.elim hs_ (fun hs_ => hs_.2) (fun hs_ => hs_.2))))) (fun hn_ => (Kd.fresh' (Kd.N_lt (by (with_reducible repeat (first | apply Kd.N_alloc | apply Kd.N_drewN | apply Kd.N_drew)); exact HO410.out)) k_ hn_)), Or.elim hk_.1 (fun hs_ => Or.elim hs_ (fun hs_ => hs_.1.1.2) (fun hs_ => Or.elim hs_ (fun hs_ => hs_.1.1.2) (fun hs_ => Or.elim hs_ (fun hs_ => hs_.1.1.2) (fun hs_ => Or.elim hs_ (fun hs_ => hs_.1.1.2) (fun hs_ => hs_.1.1.2))))) (fun hn_ => (Kd.freshB (g := gb406) (o := .cells #[.int .u8 a0_0, .int .u16 a0_1, .slice A0_2 l0_2.length c0_2, .int .u16 a0_3, .int .u8 a0_4, .int .u8 a0_5, .slice A0_6 l0_6.length c0_6, .int .u16 a0_7, .int .u32 a0_8, .slice A0_9 l0_9.length c0_9, .slice A0_10 l0_10.length c0_10, .slice A0_11 l0_11.length c0_11, .slice A0_12 l0_12.length c0_12] 32 (0, 0)) (by (with_reducible repeat (first | refine blk_drewN ?_ _ | refine blk_drew ?_ | refine blk_alloc ?_ _)); exact BK406.out) k_ hn_)), Or.elim hk_.1 (fun hs_ => Or.elim hs_ (fun hs_ => hs_.1.2) (fun hs_ => Or.elim hs_ (fun hs_ => hs_.1.2) (fun hs_ => Or.elim hs_ (fun hs_ => hs_.1.2) (fun hs_ => Or.elim hs_ (fun hs_ => hs_.1.2) (fun hs_ => hs_.1.2))))) (fun hn_ => (Kd.freshB (g := gb407) (o := .cells #[.int .u8 0, .int .u16 0, .slice none 0 0, .int .u16 0, .int .u8 0, .int .u8 0, .slice none 0 0, .int .u16 0, .int .u32 0, .slice none 0 0, .slice none 0 0, .slice none 0 0, .slice none 0 0] 44 (0, 0)) (by (with_reducible repeat (first | refine blk_drewN ?_ _ | refine blk_drew ?_ | refine blk_alloc ?_ _)); exact BK407.out) k_ hn_))⟩)) (below_size (by repeat (first | (with_reducible first | exact HB.out | apply below_alloc | apply pw_below_drewN | apply below_drew1 | refine below_set ?_ GE406.out | refine below_set ?_ GE407.out) | exact HB.out))))
 have n9_ := Aside0.mk (Kd.V_lower (Kd.V_mono (ok' := fun k_ => ((P0_2_ k_ ∨ P0_6_ k_ ∨ P0_9_ k_ ∨ P0_10_ k_ ∨ P0_11_ k_ ∨ P0_12_ k_) ∨ w.heap.size ≤ k_) ∧ some k_ ≠ (v415 : Value).ownBlock ∧ some k_ ≠ (v409 : Value).ownBlock ∧ k_ ≠ gb406 ∧ k_ ≠ gb407) ho2 (fun k_ hk_ => ⟨Or.elim hk_.1 (fun hs_ => Or.elim hs_ (fun hs_ => hs_.1.1.1) (fun hs_ => Or.elim hs_ (fun hs_ => hs_.1.1.1) (fun hs_ => Or.elim hs_ (fun hs_ => hs_.1.1.1) (fun hs_ => Or.elim hs_ (fun hs_ => hs_.1.1.1) (fun hs_ => hs_.1.1.1))))) (fun hn_ => (.inr (Nat.le_trans (below_size (by repeat (first | (with_reducible first | exact HB.out | apply below_alloc | apply pw_below_drewN | apply below_drew1 | refine below_set ?_ GE406.out | refine below_set ?_ GE407.out) | exact HB.out))) hn_))), hk_.2, Or.elim hk_.1 (fun hs_ => Or.elim hs_ (fun hs_ => hs_.2) (fun hs_ => Or.elim hs_ (fun hs_ => hs_.2) (fun hs_ => Or.elim hs_ (fun hs_ => hs_.2) (fun hs_ => Or.elim hs_ (fun hs_ => hs_.2) (fun hs_ => hs_.2))))) (fun hn_ => (Kd.fresh' (Kd.N_lt (by (with_reducible repeat (first | apply Kd.N_alloc | apply Kd.N_drewN | apply Kd.N_drew)); exact HO410.out)) k_ hn_)), Or.elim hk_.1 (fun hs_ => Or.elim hs_ (fun hs_ => hs_.1.1.2) (fun hs_ => Or.elim hs_ (fun hs_ => hs_.1.1.2) (fun hs_ => Or.elim hs_ (fun hs_ => hs_.1.1.2) (fun hs_ => Or.elim hs_ (fun hs_ => hs_.1.1.2) (fun hs_ => hs_.1.1.2))))) (fun hn_ => (Kd.freshB (g := gb406) (o := .cells #[.int .u8 a0_0, .int .u16 a0_1, .slice A0_2 l0_2.length c0_2, .int .u16 a0_3, .int .u8 a0_4, .int .u8 a0_5, .slice A0_6 l0_6.length c0_6, .int .u16 a0_7, .int .u32 a0_8, .slice A0_9 l0_9.length c0_9, .slice A0_10 l0_10.length c0_10, .slice A0_11 l0_11.length c0_11, .slice A0_12 l0_12.length c0_12] 32 (0, 0)) (by (with_reducible repeat (first | refine blk_drewN ?_ _ | refine blk_drew ?_ | refine blk_alloc ?_ _)); exact BK406.out) k_ hn_)), Or.elim hk_.1 (fun hs_ => Or.elim hs_ (fun hs_ => hs_.1.2) (fun hs_ => Or.elim hs_ (fun hs_ => hs_.1.2) (fun hs_ => Or.elim hs_ (fun hs_ => hs_.1.2) (fun hs_ => Or.elim hs_ (fun hs_ => hs_.1.2) (fun hs_ => hs_.1.2))))) (fun hn_ => (Kd.freshB (g := gb407) (o := .cells #[.int .u8 0, .int .u16 0, .slice none 0 0, .int .u16 0, .int .u8 0, .int .u8 0, .slice none 0 0, .int .u16 0, .int .u32 0, .slice none 0 0, .slice none 0 0, .slice none 0 0, .slice none 0 0] 44 (0, 0)) (by (with_reducible repeat (first | refine blk_drewN ?_ _ | refine blk_drew ?_ | refine blk_alloc ?_ _)); exact BK407.out) k_ hn_))⟩)) (below_size (by repeat (first | (with_reducible first | exact HB.out | apply below_alloc | apply pw_below_drewN | apply below_drew1 | refine below_set ?_ GE406.out | refine below_set ?_ GE407.out) | exact HB.out))))
 have n10_ := Aside0.mk (Kd.V_lower (Kd.V_mono (ok' := fun k_ => ((P0_2_ k_ ∨ P0_6_ k_ ∨ P0_9_ k_ ∨ P0_10_ k_ ∨ P0_11_ k_ ∨ P0_12_ k_) ∨ w.heap.size ≤ k_) ∧ some k_ ≠ (v415 : Value).ownBlock ∧ some k_ ≠ (v409 : Value).ownBlock ∧ k_ ≠ gb406 ∧ k_ ≠ gb407) ho3 (fun k_ hk_ => ⟨Or.elim hk_.1 (fun hs_ => Or.elim hs_ (fun hs_ => hs_.1.1.1) (fun hs_ => Or.elim hs_ (fun hs_ => hs_.1.1.1) (fun hs_ => Or.elim hs_ (fun hs_ => hs_.1.1.1) (fun hs_ => Or.elim hs_ (fun hs_ => hs_.1.1.1) (fun hs_ => hs_.1.1.1))))) (fun hn_ => (.inr (Nat.le_trans (below_size (by repeat (first | (with_reducible first | exact HB.out | apply below_alloc | apply pw_below_drewN | apply below_drew1 | refine below_set ?_ GE406.out | refine below_set ?_ GE407.out) | exact HB.out))) hn_))), hk_.2, Or.elim hk_.1 (fun hs_ => Or.elim hs_ (fun hs_ => hs_.2) (fun hs_ => Or.elim hs_ (fun hs_ => hs_.2) (fun hs_ => Or.elim hs_ (fun hs_ => hs_.2) (fun hs_ => Or.elim hs_ (fun hs_ => hs_.2) (fun hs_ => hs_.2))))) (fun hn_ => (Kd.fresh' (Kd.N_lt (by (with_reducible repeat (first | apply Kd.N_alloc | apply Kd.N_drewN | apply Kd.N_drew)); exact HO410.out)) k_ hn_)), Or.elim hk_.1 (fun hs_ => Or.elim hs_ (fun hs_ => hs_.1.1.2) (fun hs_ => Or.elim hs_ (fun hs_ => hs_.1.1.2) (fun hs_ => Or.elim hs_ (fun hs_ => hs_.1.1.2) (fun hs_ => Or.elim hs_ (fun hs_ => hs_.1.1.2) (fun hs_ => hs_.1.1.2))))) (fun hn_ => (Kd.freshB (g := gb406) (o := .cells #[.int .u8 a0_0, .int .u16 a0_1, .slice A0_2 l0_2.length c0_2, .int .u16 a0_3, .int .u8 a0_4, .int .u8 a0_5, .slice A0_6 l0_6.length c0_6, .int .u16 a0_7, .int .u32 a0_8, .slice A0_9 l0_9.length c0_9, .slice A0_10 l0_10.length c0_10, .slice A0_11 l0_11.length c0_11, .slice A0_12 l0_12.length c0_12] 32 (0, 0)) (by (with_reducible repeat (first | refine blk_drewN ?_ _ | refine blk_drew ?_ | refine blk_alloc ?_ _)); exact BK406.out) k_ hn_)), Or.elim hk_.1 (fun hs_ => Or.elim hs_ (fun hs_ => hs_.1.2) (fun hs_ => Or.elim hs_ (fun hs_ => hs_.1.2) (fun hs_ => Or.elim hs_ (fun hs_ => hs_.1.2) (fun hs_ => Or.elim hs_ (fun hs_ => hs_.1.2) (fun hs_ => hs_.1.2))))) (fun hn_ => (Kd.freshB (g := gb407) (o := .cells #[.int .u8 0, .int .u16 0, .slice none 0 0, .int .u16 0, .int .u8 0, .int .u8 0, .slice none 0 0, .int .u16 0, .int .u32 0, .slice none 0 0, .slice none 0 0, .slice none 0 0, .slice none 0 0] 44 (0, 0)) (by (with_reducible repeat (first | refine blk_drewN ?_ _ | refine blk_drew ?_ | refine blk_alloc ?_ _)); exact BK407.out) k_ hn_))⟩)) (below_size (by repeat (first | (with_reducible first | exact HB.out | apply below_alloc | apply pw_below_drewN | apply below_drew1 | refine below_set ?_ GE406.out | refine below_set ?_ GE407.out) | exact HB.out))))
 have n11_ := Aside0.mk (Kd.V_lower (Kd.V_mono (ok' := fun k_ => ((P0_2_ k_ ∨ P0_6_ k_ ∨ P0_9_ k_ ∨ P0_10_ k_ ∨ P0_11_ k_ ∨ P0_12_ k_) ∨ w.heap.size ≤ k_) ∧ some k_ ≠ (v415 : Value).ownBlock ∧ some k_ ≠ (v409 : Value).ownBlock ∧ k_ ≠ gb406 ∧ k_ ≠ gb407) ho4 (fun k_ hk_ => ⟨Or.elim hk_.1 (fun hs_ => Or.elim hs_ (fun hs_ => hs_.1.1.1) (fun hs_ => Or.elim hs_ (fun hs_ => hs_.1.1.1) (fun hs_ => Or.elim hs_ (fun hs_ => hs_.1.1.1) (fun hs_ => Or.elim hs_ (fun hs_ => hs_.1.1.1) (fun hs_ => hs_.1.1.1))))) (fun hn_ => (.inr (Nat.le_trans (below_size (by repeat (first | (with_reducible first | exact HB.out | apply below_alloc | apply pw_below_drewN | apply below_drew1 | refine below_set ?_ GE406.out | refine below_set ?_ GE407.out) | exact HB.out))) hn_))), hk_.2, Or.elim hk_.1 (fun hs_ => Or.elim hs_ (fun hs_ => hs_.2) (fun hs_ => Or.elim hs_ (fun hs_ => hs_.2) (fun hs_ => Or.elim hs_ (fun hs_ => hs_.2) (fun hs_ => Or.elim hs_ (fun hs_ => hs_.2) (fun hs_ => hs_.2))))) (fun hn_ => (Kd.fresh' (Kd.N_lt (by (with_reducible repeat (first | apply Kd.N_alloc | apply Kd.N_drewN | apply Kd.N_drew)); exact HO410.out)) k_ hn_)), Or.elim hk_.1 (fun hs_ => Or.elim hs_ (fun hs_ => hs_.1.1.2) (fun hs_ => Or.elim hs_ (fun hs_ => hs_.1.1.2) (fun hs_ => Or.elim hs_ (fun hs_ => hs_.1.1.2) (fun hs_ => Or.elim hs_ (fun hs_ => hs_.1.1.2) (fun hs_ => hs_.1.1.2))))) (fun hn_ => (Kd.freshB (g := gb406) (o := .cells #[.int .u8 a0_0, .int .u16 a0_1, .slice A0_2 l0_2.length c0_2, .int .u16 a0_3, .int .u8 a0_4, .int .u8 a0_5, .slice A0_6 l0_6.length c0_6, .int .u16 a0_7, .int .u32 a0_8, .slice A0_9 l0_9.length c0_9, .slice A0_10 l0_10.length c0_10, .slice A0_11 l0_11.length c0_11, .slice A0_12 l0_12.length c0_12] 32 (0, 0)) (by (with_reducible repeat (first | refine blk_drewN ?_ _ | refine blk_drew ?_ | refine blk_alloc ?_ _)); exact BK406.out) k_ hn_)), Or.elim hk_.1 (fun hs_ => Or.elim hs_ (fun hs_ => hs_.1.2) (fun hs_ => Or.elim hs_ (fun hs_ => hs_.1.2) (fun hs_ => Or.elim hs_ (fun hs_ => hs_.1.2) (fun hs_ => Or.elim hs_ (fun hs_ => hs_.1.2) (fun hs_ => hs_.1.2))))) (fun hn_ => (Kd.freshB (g := gb407) (o := .cells #[.int .u8 0, .int .u16 0, .slice none 0 0, .int .u16 0, .int .u8 0, .int .u8 0, .slice none 0 0, .int .u16 0, .int .u32 0, .slice none 0 0, .slice none 0 0, .slice none 0 0, .slice none 0 0] 44 (0, 0)) (by (with_reducible repeat (first | refine blk_drewN ?_ _ | refine blk_drew ?_ | refine blk_alloc ?_ _)); exact BK407.out) k_ hn_))⟩)) (below_size (by repeat (first | (with_reducible first | exact HB.out | apply below_alloc | apply pw_below_drewN | apply below_drew1 | refine below_set ?_ GE406.out | refine below_set ?_ GE407.out) | exact HB.out))))
 have n12_ := Aside0.mk (blk_below (g := gb406) (o := .cells #[.int .u8 a0_0, .int .u16 a0_1, .slice A0_2 l0_2.length c0_2, .int .u16 a0_3, .int .u8 a0_4, .int .u8 a0_5, .slice A0_6 l0_6.length c0_6, .int .u16 a0_7, .int .u32 a0_8, .slice A0_9 l0_9.length c0_9, .slice A0_10 l0_10.length c0_10, .slice A0_11 l0_11.length c0_11, .slice A0_12 l0_12.length c0_12] 32 (0, 0)) (by (with_reducible repeat (first | refine blk_drewN ?_ _ | refine blk_drew ?_ | refine blk_alloc ?_ _)); exact BK406.out) hb)
 have n13_ := Aside0.mk (blk_below (g := gb407) (o := .cells #[.int .u8 0, .int .u16 0, .slice none 0 0, .int .u16 0, .int .u8 0, .int .u8 0, .slice none 0 0, .int .u16 0, .int .u32 0, .slice none 0 0, .slice none 0 0, .slice none 0 0, .slice none 0 0] 44 (0, 0)) (by (with_reducible repeat (first | refine blk_drewN ?_ _ | refine blk_drew ?_ | refine blk_alloc ?_ _)); exact BK407.out) hb)
 have n14_ := Aside0.mk (below_step (by repeat (first | (with_reducible first | exact HB.out | apply below_alloc | apply pw_below_drewN | apply below_drew1 | refine below_set ?_ GE406.out | refine below_set ?_ GE407.out) | exact HB.out)) hb)
 clear HO0_2
 clear HO0_6
 clear HO0_9
 clear HO0_10
 clear HO0_11
 clear HO0_12
 clear HO410
 clear BK406
 clear BK407
 clear HB
 have HO0_2 := n0_
 have HO0_6 := n1_
 have HO0_9 := n2_
 have HO0_10 := n3_
 have HO0_11 := n4_
 have HO0_12 := n5_
 have HO410 := n6_
 have HO416 := n7_
 have HO421 := n8_
 have HO424 := n9_
 have HO427 := n10_
 have HO430 := n11_
 have BK406 := n12_
 have BK407 := n13_
 have HB := n14_
 clear n0_ n1_ n2_ n3_ n4_ n5_ n6_ n7_ n8_ n9_ n10_ n11_ n12_ n13_ n14_
 (try clear hb)
 (try clear hb2)
 (try clear hk)
 (try clear hi)
 (try clear ho0)
 (try clear ho1)
 (try clear ho2)
 (try clear ho3)
 (try clear ho4)
 obtain ⟨Ao9, co9, eo9⟩ := Kd.V_slice HO430.out
 (first | subst eo9 | (injection eo9 with f1_ f2_ f3_; have f4_ := f1_.symm; have f5_ := f3_.symm; clear f1_ f2_ f3_; subst f4_; subst f5_))
 obtain ⟨Ao10, co10, eo10⟩ := Kd.V_slice HO427.out
 (first | subst eo10 | (injection eo10 with f1_ f2_ f3_; have f4_ := f1_.symm; have f5_ := f3_.symm; clear f1_ f2_ f3_; subst f4_; subst f5_))
 obtain ⟨Ao11, co11, eo11⟩ := Kd.V_slice HO424.out
 (first | subst eo11 | (injection eo11 with f1_ f2_ f3_; have f4_ := f1_.symm; have f5_ := f3_.symm; clear f1_ f2_ f3_; subst f4_; subst f5_))
 obtain ⟨Ao12, co12, eo12⟩ := Kd.V_slice HO421.out
 (first | subst eo12 | (injection eo12 with f1_ f2_ f3_; have f4_ := f1_.symm; have f5_ := f3_.symm; clear f1_ f2_ f3_; subst f4_; subst f5_))
 obtain ⟨Ao13, co13, eo13⟩ := Kd.N_slice HO416.out
 (first | subst eo13 | (injection eo13 with f1_ f2_ f3_; have f4_ := f1_.symm; have f5_ := f3_.symm; clear f1_ f2_ f3_; subst f4_; subst f5_))
 obtain ⟨Ao14, co14, eo14⟩ := Kd.N_slice HO410.out
 (first | subst eo14 | (injection eo14 with f1_ f2_ f3_; have f4_ := f1_.symm; have f5_ := f3_.symm; clear f1_ f2_ f3_; subst f4_; subst f5_))
 refine hK.out _ _ ⟨(blk_cell BK406.out 0).trans rfl, (blk_cell BK406.out 1).trans rfl, (blk_cell BK406.out 2).trans rfl, (blk_cell BK406.out 3).trans rfl, (blk_cell BK406.out 4).trans rfl, (blk_cell BK406.out 5).trans rfl, (blk_cell BK406.out 6).trans rfl, (blk_cell BK406.out 7).trans rfl, (blk_cell BK406.out 8).trans rfl, (blk_cell BK406.out 9).trans rfl, (blk_cell BK406.out 10).trans rfl, (blk_cell BK406.out 11).trans rfl, (blk_cell BK406.out 12).trans rfl⟩ (fun hHeld => ?_)
 clear hK K
 refine norm_ (a' := ?_) ?_ ?_
 rotate_left
 · show Act.put _ (some 12) _ = _
   simp only [Act.put, List.setIfInBounds_toArray, List.set_cons_zero, List.set_cons_succ, i64_w, i32_w]
   rfl
 refine pure_ (i := 10) (N := some 13) (v := ?_) (a' := ?_) #[true, true, true, true, true, true, true, true, true, true, true, false] rfl rfl (any_of HT_.out (by kernel_rfl)) (fun _ _ _ h => h) (Or.inl ⟨by rfl, ?_⟩) ?_ ?_
 rotate_left
 · intro w'
   go_simp
   with_reducible rfl
 rotate_left
 · simp only [Act.put, List.setIfInBounds_toArray, List.set_cons_zero, List.set_cons_succ, i64_w, i32_w]
   rfl
 refine one_ (i := 11) (N := none) #[true, true, true, true, true, true, true, true, true, true, true, true] rfl rfl (one_of HT_.out (by kernel_rfl)) (by decide) (fun K hK => ?_)
 have hs15 : w8.cell? ⟨gb407, 0, none⟩ = some (.int .u8 0) := (blk_cell BK407.out 0).trans rfl
 have hfs15 := blk_frozen BK407.out 0
 have hns15_0 := NB406_407.out
 have hms15_0 := NB407_406.out
 have hs16 : w8.cell? ⟨gb407, 1, none⟩ = some (.int .u16 0) := (blk_cell BK407.out 1).trans rfl
 have hfs16 := blk_frozen BK407.out 1
 have hns16_0 := NB406_407.out
 have hms16_0 := NB407_406.out
 have hs17 : w8.cell? ⟨gb407, 2, none⟩ = some (.slice none 0 0) := (blk_cell BK407.out 2).trans rfl
 have hfs17 := blk_frozen BK407.out 2
 have hns17_0 := NB406_407.out
 have hms17_0 := NB407_406.out
 have hs18 : w8.cell? ⟨gb407, 3, none⟩ = some (.int .u16 0) := (blk_cell BK407.out 3).trans rfl
 have hfs18 := blk_frozen BK407.out 3
 have hns18_0 := NB406_407.out
 have hms18_0 := NB407_406.out
 have hs19 : w8.cell? ⟨gb407, 4, none⟩ = some (.int .u8 0) := (blk_cell BK407.out 4).trans rfl
 have hfs19 := blk_frozen BK407.out 4
 have hns19_0 := NB406_407.out
 have hms19_0 := NB407_406.out
 have hs20 : w8.cell? ⟨gb407, 5, none⟩ = some (.int .u8 0) := (blk_cell BK407.out 5).trans rfl
 have hfs20 := blk_frozen BK407.out 5
 have hns20_0 := NB406_407.out
 have hms20_0 := NB407_406.out
 have hs21 : w8.cell? ⟨gb407, 6, none⟩ = some (.slice none 0 0) := (blk_cell BK407.out 6).trans rfl
 have hfs21 := blk_frozen BK407.out 6
 have hns21_0 := NB406_407.out
 have hms21_0 := NB407_406.out
 have hs22 : w8.cell? ⟨gb407, 7, none⟩ = some (.int .u16 0) := (blk_cell BK407.out 7).trans rfl
 have hfs22 := blk_frozen BK407.out 7
 have hns22_0 := NB406_407.out
 have hms22_0 := NB407_406.out
 have hs23 : w8.cell? ⟨gb407, 8, none⟩ = some (.int .u32 0) := (blk_cell BK407.out 8).trans rfl
 have hfs23 := blk_frozen BK407.out 8
 have hns23_0 := NB406_407.out
 have hms23_0 := NB407_406.out
 have hs24 : w8.cell? ⟨gb407, 9, none⟩ = some (.slice none 0 0) := (blk_cell BK407.out 9).trans rfl
 have hfs24 := blk_frozen BK407.out 9
 have hns24_0 := NB406_407.out
 have hms24_0 := NB407_406.out
 have hs25 : w8.cell? ⟨gb407, 10, none⟩ = some (.slice none 0 0) := (blk_cell BK407.out 10).trans rfl
 have hfs25 := blk_frozen BK407.out 10
 have hns25_0 := NB406_407.out
 have hms25_0 := NB407_406.out
 have hs26 : w8.cell? ⟨gb407, 11, none⟩ = some (.slice none 0 0) := (blk_cell BK407.out 11).trans rfl
 have hfs26 := blk_frozen BK407.out 11
 have hns26_0 := NB406_407.out
 have hms26_0 := NB407_406.out
 have hs27 : w8.cell? ⟨gb407, 12, none⟩ = some (.slice none 0 0) := (blk_cell BK407.out 12).trans rfl
 have hfs27 := blk_frozen BK407.out 12
 have hns27_0 := NB406_407.out
 have hms27_0 := NB407_406.out
 refine skip_ (w1 := ?_) (by rfl) rfl ?_ ?_
 rotate_left
 · go_simp
   rfl
 refine hK.out _ _ ⟨((cell_far (p := ⟨gb407, _, none⟩) NB406_407.out _).trans (((cell_far (p := ⟨gb407, _, none⟩) NB406_407.out _).trans (((cell_far (p := ⟨gb407, _, none⟩) NB406_407.out _).trans (((cell_far (p := ⟨gb407, _, none⟩) NB406_407.out _).trans (((cell_far (p := ⟨gb407, _, none⟩) NB406_407.out _).trans (((cell_far (p := ⟨gb407, _, none⟩) NB406_407.out _).trans (((cell_far (p := ⟨gb407, _, none⟩) NB406_407.out _).trans (((cell_far (p := ⟨gb407, _, none⟩) NB406_407.out _).trans (((cell_far (p := ⟨gb407, _, none⟩) NB406_407.out _).trans (((cell_far (p := ⟨gb407, _, none⟩) NB406_407.out _).trans (((cell_far (p := ⟨gb407, _, none⟩) NB406_407.out _).trans (((cell_far (p := ⟨gb407, _, none⟩) NB406_407.out _).trans (((cell_far (p := ⟨gb407, _, none⟩) NB406_407.out _).trans (hHeld.1)))))))))))))))))))))))))), ((cell_far (p := ⟨gb407, _, none⟩) NB406_407.out _).trans (((cell_far (p := ⟨gb407, _, none⟩) NB406_407.out _).trans (((cell_far (p := ⟨gb407, _, none⟩) NB406_407.out _).trans (((cell_far (p := ⟨gb407, _, none⟩) NB406_407.out _).trans (((cell_far (p := ⟨gb407, _, none⟩) NB406_407.out _).trans (((cell_far (p := ⟨gb407, _, none⟩) NB406_407.out _).trans (((cell_far (p := ⟨gb407, _, none⟩) NB406_407.out _).trans (((cell_far (p := ⟨gb407, _, none⟩) NB406_407.out _).trans (((cell_far (p := ⟨gb407, _, none⟩) NB406_407.out _).trans (((cell_far (p := ⟨gb407, _, none⟩) NB406_407.out _).trans (((cell_far (p := ⟨gb407, _, none⟩) NB406_407.out _).trans (((cell_far (p := ⟨gb407, _, none⟩) NB406_407.out _).trans (((cell_far (p := ⟨gb407, _, none⟩) NB406_407.out _).trans (hHeld.2.1)))))))))))))))))))))))))), ((cell_far (p := ⟨gb407, _, none⟩) NB406_407.out _).trans (((cell_far (p := ⟨gb407, _, none⟩) NB406_407.out _).trans (((cell_far (p := ⟨gb407, _, none⟩) NB406_407.out _).trans (((cell_far (p := ⟨gb407, _, none⟩) NB406_407.out _).trans (((cell_far (p := ⟨gb407, _, none⟩) NB406_407.out _).trans (((cell_far (p := ⟨gb407, _, none⟩) NB406_407.out _).trans (((cell_far (p := ⟨gb407, _, none⟩) NB406_407.out _).trans (((cell_far (p := ⟨gb407, _, none⟩) NB406_407.out _).trans (((cell_far (p := ⟨gb407, _, none⟩) NB406_407.out _).trans (((cell_far (p := ⟨gb407, _, none⟩) NB406_407.out _).trans (((cell_far (p := ⟨gb407, _, none⟩) NB406_407.out _).trans (((cell_far (p := ⟨gb407, _, none⟩) NB406_407.out _).trans (((cell_far (p := ⟨gb407, _, none⟩) NB406_407.out _).trans (hHeld.2.2.1)))))))))))))))))))))))))), ((cell_far (p := ⟨gb407, _, none⟩) NB406_407.out _).trans (((cell_far (p := ⟨gb407, _, none⟩) NB406_407.out _).trans (((cell_far (p := ⟨gb407, _, none⟩) NB406_407.out _).trans (((cell_far (p := ⟨gb407, _, none⟩) NB406_407.out _).trans (((cell_far (p := ⟨gb407, _, none⟩) NB406_407.out _).trans (((cell_far (p := ⟨gb407, _, none⟩) NB406_407.out _).trans (((cell_far (p := ⟨gb407, _, none⟩) NB406_407.out _).trans (((cell_far (p := ⟨gb407, _, none⟩) NB406_407.out _).trans (((cell_far (p := ⟨gb407, _, none⟩) NB406_407.out _).trans (((cell_far (p := ⟨gb407, _, none⟩) NB406_407.out _).trans (((cell_far (p := ⟨gb407, _, none⟩) NB406_407.out _).trans (((cell_far (p := ⟨gb407, _, none⟩) NB406_407.out _).trans (((cell_far (p := ⟨gb407, _, none⟩) NB406_407.out _).trans (hHeld.2.2.2.1)))))))))))))))))))))))))), ((cell_far (p := ⟨gb407, _, none⟩) NB406_407.out _).trans (((cell_far (p := ⟨gb407, _, none⟩) NB406_407.out _).trans (((cell_far (p := ⟨gb407, _, none⟩) NB406_407.out _).trans (((cell_far (p := ⟨gb407, _, none⟩) NB406_407.out _).trans (((cell_far (p := ⟨gb407, _, none⟩) NB406_407.out _).trans (((cell_far (p := ⟨gb407, _, none⟩) NB406_407.out _).trans (((cell_far (p := ⟨gb407, _, none⟩) NB406_407.out _).trans (((cell_far (p := ⟨gb407, _, none⟩) NB406_407.out _).trans (((cell_far (p := ⟨gb407, _, none⟩) NB406_407.out _).trans (((cell_far (p := ⟨gb407, _, none⟩) NB406_407.out _).trans (((cell_far (p := ⟨gb407, _, none⟩) NB406_407.out _).trans (((cell_far (p := ⟨gb407, _, none⟩) NB406_407.out _).trans (((cell_far (p := ⟨gb407, _, none⟩) NB406_407.out _).trans (hHeld.2.2.2.2.1)))))))))))))))))))))))))), ((cell_far (p := ⟨gb407, _, none⟩) NB406_407.out _).trans (((cell_far (p := ⟨gb407, _, none⟩) NB406_407.out _).trans (((cell_far (p := ⟨gb407, _, none⟩) NB406_407.out _).trans (((cell_far (p := ⟨gb407, _, none⟩) NB406_407.out _).trans (((cell_far (p := ⟨gb407, _, none⟩) NB406_407.out _).trans (((cell_far (p := ⟨gb407, _, none⟩) NB406_407.out _).trans (((cell_far (p := ⟨gb407, _, none⟩) NB406_407.out _).trans (((cell_far (p := ⟨gb407, _, none⟩) NB406_407.out _).trans (((cell_far (p := ⟨gb407, _, none⟩) NB406_407.out _).trans (((cell_far (p := ⟨gb407, _, none⟩) NB406_407.out _).trans (((cell_far (p := ⟨gb407, _, none⟩) NB406_407.out _).trans (((cell_far (p := ⟨gb407, _, none⟩) NB406_407.out _).trans (((cell_far (p := ⟨gb407, _, none⟩) NB406_407.out _).trans (hHeld.2.2.2.2.2.1)))))))))))))))))))))))))), ((cell_far (p := ⟨gb407, _, none⟩) NB406_407.out _).trans (((cell_far (p := ⟨gb407, _, none⟩) NB406_407.out _).trans (((cell_far (p := ⟨gb407, _, none⟩) NB406_407.out _).trans (((cell_far (p := ⟨gb407, _, none⟩) NB406_407.out _).trans (((cell_far (p := ⟨gb407, _, none⟩) NB406_407.out _).trans (((cell_far (p := ⟨gb407, _, none⟩) NB406_407.out _).trans (((cell_far (p := ⟨gb407, _, none⟩) NB406_407.out _).trans (((cell_far (p := ⟨gb407, _, none⟩) NB406_407.out _).trans (((cell_far (p := ⟨gb407, _, none⟩) NB406_407.out _).trans (((cell_far (p := ⟨gb407, _, none⟩) NB406_407.out _).trans (((cell_far (p := ⟨gb407, _, none⟩) NB406_407.out _).trans (((cell_far (p := ⟨gb407, _, none⟩) NB406_407.out _).trans (((cell_far (p := ⟨gb407, _, none⟩) NB406_407.out _).trans (hHeld.2.2.2.2.2.2.1)))))))))))))))))))))))))), ((cell_far (p := ⟨gb407, _, none⟩) NB406_407.out _).trans (((cell_far (p := ⟨gb407, _, none⟩) NB406_407.out _).trans (((cell_far (p := ⟨gb407, _, none⟩) NB406_407.out _).trans (((cell_far (p := ⟨gb407, _, none⟩) NB406_407.out _).trans (((cell_far (p := ⟨gb407, _, none⟩) NB406_407.out _).trans (((cell_far (p := ⟨gb407, _, none⟩) NB406_407.out _).trans (((cell_far (p := ⟨gb407, _, none⟩) NB406_407.out _).trans (((cell_far (p := ⟨gb407, _, none⟩) NB406_407.out _).trans (((cell_far (p := ⟨gb407, _, none⟩) NB406_407.out _).trans (((cell_far (p := ⟨gb407, _, none⟩) NB406_407.out _).trans (((cell_far (p := ⟨gb407, _, none⟩) NB406_407.out _).trans (((cell_far (p := ⟨gb407, _, none⟩) NB406_407.out _).trans (((cell_far (p := ⟨gb407, _, none⟩) NB406_407.out _).trans (hHeld.2.2.2.2.2.2.2.1)))))))))))))))))))))))))), ((cell_far (p := ⟨gb407, _, none⟩) NB406_407.out _).trans (((cell_far (p := ⟨gb407, _, none⟩) NB406_407.out _).trans (((cell_far (p := ⟨gb407, _, none⟩) NB406_407.out _).trans (((cell_far (p := ⟨gb407, _, none⟩) NB406_407.out _).trans (((cell_far (p := ⟨gb407, _, none⟩) NB406_407.out _).trans (((cell_far (p := ⟨gb407, _, none⟩) NB406_407.out _).trans (((cell_far (p := ⟨gb407, _, none⟩) NB406_407.out _).trans (((cell_far (p := ⟨gb407, _, none⟩) NB406_407.out _).trans (((cell_far (p := ⟨gb407, _, none⟩) NB406_407.out _).trans (((cell_far (p := ⟨gb407, _, none⟩) NB406_407.out _).trans (((cell_far (p := ⟨gb407, _, none⟩) NB406_407.out _).trans (((cell_far (p := ⟨gb407, _, none⟩) NB406_407.out _).trans (((cell_far (p := ⟨gb407, _, none⟩) NB406_407.out _).trans (hHeld.2.2.2.2.2.2.2.2.1)))))))))))))))))))))))))), ((cell_far (p := ⟨gb407, _, none⟩) NB406_407.out _).trans (((cell_far (p := ⟨gb407, _, none⟩) NB406_407.out _).trans (((cell_far (p := ⟨gb407, _, none⟩) NB406_407.out _).trans (((cell_far (p := ⟨gb407, _, none⟩) NB406_407.out _).trans (((cell_far (p := ⟨gb407, _, none⟩) NB406_407.out _).trans (((cell_far (p := ⟨gb407, _, none⟩) NB406_407.out _).trans (((cell_far (p := ⟨gb407, _, none⟩) NB406_407.out _).trans (((cell_far (p := ⟨gb407, _, none⟩) NB406_407.out _).trans (((cell_far (p := ⟨gb407, _, none⟩) NB406_407.out _).trans (((cell_far (p := ⟨gb407, _, none⟩) NB406_407.out _).trans (((cell_far (p := ⟨gb407, _, none⟩) NB406_407.out _).trans (((cell_far (p := ⟨gb407, _, none⟩) NB406_407.out _).trans (((cell_far (p := ⟨gb407, _, none⟩) NB406_407.out _).trans (hHeld.2.2.2.2.2.2.2.2.2.1)))))))))))))))))))))))))), ((cell_far (p := ⟨gb407, _, none⟩) NB406_407.out _).trans (((cell_far (p := ⟨gb407, _, none⟩) NB406_407.out _).trans (((cell_far (p := ⟨gb407, _, none⟩) NB406_407.out _).trans (((cell_far (p := ⟨gb407, _, none⟩) NB406_407.out _).trans (((cell_far (p := ⟨gb407, _, none⟩) NB406_407.out _).trans (((cell_far (p := ⟨gb407, _, none⟩) NB406_407.out _).trans (((cell_far (p := ⟨gb407, _, none⟩) NB406_407.out _).trans (((cell_far (p := ⟨gb407, _, none⟩) NB406_407.out _).trans (((cell_far (p := ⟨gb407, _, none⟩) NB406_407.out _).trans (((cell_far (p := ⟨gb407, _, none⟩) NB406_407.out _).trans (((cell_far (p := ⟨gb407, _, none⟩) NB406_407.out _).trans (((cell_far (p := ⟨gb407, _, none⟩) NB406_407.out _).trans (((cell_far (p := ⟨gb407, _, none⟩) NB406_407.out _).trans (hHeld.2.2.2.2.2.2.2.2.2.2.1)))))))))))))))))))))))))), ((cell_far (p := ⟨gb407, _, none⟩) NB406_407.out _).trans (((cell_far (p := ⟨gb407, _, none⟩) NB406_407.out _).trans (((cell_far (p := ⟨gb407, _, none⟩) NB406_407.out _).trans (((cell_far (p := ⟨gb407, _, none⟩) NB406_407.out _).trans (((cell_far (p := ⟨gb407, _, none⟩) NB406_407.out _).trans (((cell_far (p := ⟨gb407, _, none⟩) NB406_407.out _).trans (((cell_far (p := ⟨gb407, _, none⟩) NB406_407.out _).trans (((cell_far (p := ⟨gb407, _, none⟩) NB406_407.out _).trans (((cell_far (p := ⟨gb407, _, none⟩) NB406_407.out _).trans (((cell_far (p := ⟨gb407, _, none⟩) NB406_407.out _).trans (((cell_far (p := ⟨gb407, _, none⟩) NB406_407.out _).trans (((cell_far (p := ⟨gb407, _, none⟩) NB406_407.out _).trans (((cell_far (p := ⟨gb407, _, none⟩) NB406_407.out _).trans (hHeld.2.2.2.2.2.2.2.2.2.2.2.1)))))))))))))))))))))))))), ((cell_far (p := ⟨gb407, _, none⟩) NB406_407.out _).trans (((cell_far (p := ⟨gb407, _, none⟩) NB406_407.out _).trans (((cell_far (p := ⟨gb407, _, none⟩) NB406_407.out _).trans (((cell_far (p := ⟨gb407, _, none⟩) NB406_407.out _).trans (((cell_far (p := ⟨gb407, _, none⟩) NB406_407.out _).trans (((cell_far (p := ⟨gb407, _, none⟩) NB406_407.out _).trans (((cell_far (p := ⟨gb407, _, none⟩) NB406_407.out _).trans (((cell_far (p := ⟨gb407, _, none⟩) NB406_407.out _).trans (((cell_far (p := ⟨gb407, _, none⟩) NB406_407.out _).trans (((cell_far (p := ⟨gb407, _, none⟩) NB406_407.out _).trans (((cell_far (p := ⟨gb407, _, none⟩) NB406_407.out _).trans (((cell_far (p := ⟨gb407, _, none⟩) NB406_407.out _).trans (((cell_far (p := ⟨gb407, _, none⟩) NB406_407.out _).trans (hHeld.2.2.2.2.2.2.2.2.2.2.2.2))))))))))))))))))))))))))⟩ (fun hHeld => ?_)
 clear hK K
 refine done_ (done_of HT_.out (by kernel_rfl)) ?_
 try go_wp2
 refine bodyPost_ret (results_cell_row rfl _ _ gb407 44 #[.int .u8 a0_0, .int .u16 a0_1, .slice Ao14 t408.length co14, .int .u16 t411, .int .u8 t412, .int .u8 t413, .slice Ao13 t414.length co13, .int .u16 t417, .int .u32 t418, .slice Ao12 t419.length co12, .slice Ao11 t422.length co11, .slice Ao10 t425.length co10, .slice Ao9 t428.length co9] (0, 0) _ rfl (by (with_reducible repeat (first | refine blk_drewN ?_ _ | refine blk_drew ?_ | refine blk_alloc ?_ _)); refine blk_put (cs := #[.int .u8 a0_0, .int .u16 a0_1, .slice Ao14 t408.length co14, .int .u16 t411, .int .u8 t412, .int .u8 t413, .slice Ao13 t414.length co13, .int .u16 t417, .int .u32 t418, .slice Ao12 t419.length co12, .slice Ao11 t422.length co11, .slice Ao10 t425.length co10, .slice none 0 0]) ?_ 12 _ rfl; (with_reducible repeat (first | refine blk_drewN ?_ _ | refine blk_drew ?_ | refine blk_alloc ?_ _)); refine blk_put (cs := #[.int .u8 a0_0, .int .u16 a0_1, .slice Ao14 t408.length co14, .int .u16 t411, .int .u8 t412, .int .u8 t413, .slice Ao13 t414.length co13, .int .u16 t417, .int .u32 t418, .slice Ao12 t419.length co12, .slice Ao11 t422.length co11, .slice none 0 0, .slice none 0 0]) ?_ 11 _ rfl; (with_reducible repeat (first | refine blk_drewN ?_ _ | refine blk_drew ?_ | refine blk_alloc ?_ _)); refine blk_put (cs := #[.int .u8 a0_0, .int .u16 a0_1, .slice Ao14 t408.length co14, .int .u16 t411, .int .u8 t412, .int .u8 t413, .slice Ao13 t414.length co13, .int .u16 t417, .int .u32 t418, .slice Ao12 t419.length co12, .slice none 0 0, .slice none 0 0, .slice none 0 0]) ?_ 10 _ rfl; (with_reducible repeat (first | refine blk_drewN ?_ _ | refine blk_drew ?_ | refine blk_alloc ?_ _)); refine blk_put (cs := #[.int .u8 a0_0, .int .u16 a0_1, .slice Ao14 t408.length co14, .int .u16 t411, .int .u8 t412, .int .u8 t413, .slice Ao13 t414.length co13, .int .u16 t417, .int .u32 t418, .slice none 0 0, .slice none 0 0, .slice none 0 0, .slice none 0 0]) ?_ 9 _ rfl; (with_reducible repeat (first | refine blk_drewN ?_ _ | refine blk_drew ?_ | refine blk_alloc ?_ _)); refine blk_put (cs := #[.int .u8 a0_0, .int .u16 a0_1, .slice Ao14 t408.length co14, .int .u16 t411, .int .u8 t412, .int .u8 t413, .slice Ao13 t414.length co13, .int .u16 t417, .int .u32 0, .slice none 0 0, .slice none 0 0, .slice none 0 0, .slice none 0 0]) ?_ 8 _ rfl; (with_reducible repeat (first | refine blk_drewN ?_ _ | refine blk_drew ?_ | refine blk_alloc ?_ _)); refine blk_put (cs := #[.int .u8 a0_0, .int .u16 a0_1, .slice Ao14 t408.length co14, .int .u16 t411, .int .u8 t412, .int .u8 t413, .slice Ao13 t414.length co13, .int .u16 0, .int .u32 0, .slice none 0 0, .slice none 0 0, .slice none 0 0, .slice none 0 0]) ?_ 7 _ rfl; (with_reducible repeat (first | refine blk_drewN ?_ _ | refine blk_drew ?_ | refine blk_alloc ?_ _)); refine blk_put (cs := #[.int .u8 a0_0, .int .u16 a0_1, .slice Ao14 t408.length co14, .int .u16 t411, .int .u8 t412, .int .u8 t413, .slice none 0 0, .int .u16 0, .int .u32 0, .slice none 0 0, .slice none 0 0, .slice none 0 0, .slice none 0 0]) ?_ 6 _ rfl; (with_reducible repeat (first | refine blk_drewN ?_ _ | refine blk_drew ?_ | refine blk_alloc ?_ _)); refine blk_put (cs := #[.int .u8 a0_0, .int .u16 a0_1, .slice Ao14 t408.length co14, .int .u16 t411, .int .u8 t412, .int .u8 0, .slice none 0 0, .int .u16 0, .int .u32 0, .slice none 0 0, .slice none 0 0, .slice none 0 0, .slice none 0 0]) ?_ 5 _ rfl; (with_reducible repeat (first | refine blk_drewN ?_ _ | refine blk_drew ?_ | refine blk_alloc ?_ _)); refine blk_put (cs := #[.int .u8 a0_0, .int .u16 a0_1, .slice Ao14 t408.length co14, .int .u16 t411, .int .u8 0, .int .u8 0, .slice none 0 0, .int .u16 0, .int .u32 0, .slice none 0 0, .slice none 0 0, .slice none 0 0, .slice none 0 0]) ?_ 4 _ rfl; (with_reducible repeat (first | refine blk_drewN ?_ _ | refine blk_drew ?_ | refine blk_alloc ?_ _)); refine blk_put (cs := #[.int .u8 a0_0, .int .u16 a0_1, .slice Ao14 t408.length co14, .int .u16 0, .int .u8 0, .int .u8 0, .slice none 0 0, .int .u16 0, .int .u32 0, .slice none 0 0, .slice none 0 0, .slice none 0 0, .slice none 0 0]) ?_ 3 _ rfl; (with_reducible repeat (first | refine blk_drewN ?_ _ | refine blk_drew ?_ | refine blk_alloc ?_ _)); refine blk_put (cs := #[.int .u8 a0_0, .int .u16 a0_1, .slice none 0 0, .int .u16 0, .int .u8 0, .int .u8 0, .slice none 0 0, .int .u16 0, .int .u32 0, .slice none 0 0, .slice none 0 0, .slice none 0 0, .slice none 0 0]) ?_ 2 _ rfl; (with_reducible repeat (first | refine blk_drewN ?_ _ | refine blk_drew ?_ | refine blk_alloc ?_ _)); refine blk_put (cs := #[.int .u8 a0_0, .int .u16 0, .slice none 0 0, .int .u16 0, .int .u8 0, .int .u8 0, .slice none 0 0, .int .u16 0, .int .u32 0, .slice none 0 0, .slice none 0 0, .slice none 0 0, .slice none 0 0]) ?_ 1 _ rfl; (with_reducible repeat (first | refine blk_drewN ?_ _ | refine blk_drew ?_ | refine blk_alloc ?_ _)); refine blk_put (cs := #[.int .u8 0, .int .u16 0, .slice none 0 0, .int .u16 0, .int .u8 0, .int .u8 0, .slice none 0 0, .int .u16 0, .int .u32 0, .slice none 0 0, .slice none 0 0, .slice none 0 0, .slice none 0 0]) ?_ 0 _ rfl; (with_reducible repeat (first | refine blk_drewN ?_ _ | refine blk_drew ?_ | refine blk_alloc ?_ _)); exact BK407.out) Tryd.underlying44 rfl (by kernel_rfl)) rfl ?_
 exact ⟨_, _, _, _, _, _, by first | rfl | (simp [errW_none, errW_some] <;> rfl) | (simp [*, errW_none, errW_some] <;> rfl), by (with_reducible repeat (first | apply Kd.N_alloc | apply Kd.N_drewN | apply Kd.N_drew)); exact Kd.N_mono (Kd.N_far (p := ⟨gb407, 12, none⟩) (Kd.N_far (p := ⟨gb407, 11, none⟩) (Kd.N_far (p := ⟨gb407, 10, none⟩) (Kd.N_far (p := ⟨gb407, 9, none⟩) (Kd.N_far (p := ⟨gb407, 8, none⟩) (Kd.N_far (p := ⟨gb407, 7, none⟩) (Kd.N_far (p := ⟨gb407, 6, none⟩) (Kd.N_far (p := ⟨gb407, 5, none⟩) (Kd.N_far (p := ⟨gb407, 4, none⟩) (Kd.N_far (p := ⟨gb407, 3, none⟩) (Kd.N_far (p := ⟨gb407, 2, none⟩) (Kd.N_far (p := ⟨gb407, 1, none⟩) (Kd.N_far (p := ⟨gb407, 0, none⟩) (Kd.N_mono HO410.out (fun k_ hk => (⟨hk, hk.1.2.2⟩ : _ ∧ k_ ≠ gb407))) (fun _ hk => hk.2) (.int .u8 a0_0)) (fun _ hk => hk.2) (.int .u16 a0_1)) (fun _ hk => hk.2) (.slice Ao14 t408.length co14)) (fun _ hk => hk.2) (.int .u16 t411)) (fun _ hk => hk.2) (.int .u8 t412)) (fun _ hk => hk.2) (.int .u8 t413)) (fun _ hk => hk.2) (.slice Ao13 t414.length co13)) (fun _ hk => hk.2) (.int .u16 t417)) (fun _ hk => hk.2) (.int .u32 t418)) (fun _ hk => hk.2) (.slice Ao12 t419.length co12)) (fun _ hk => hk.2) (.slice Ao11 t422.length co11)) (fun _ hk => hk.2) (.slice Ao10 t425.length co10)) (fun _ hk => hk.2) (.slice Ao9 t428.length co9)) (fun _ hk => ⟨hk.1.1.1, hk.1.2⟩), by (with_reducible repeat (first | apply Kd.N_alloc | apply Kd.N_drewN | apply Kd.N_drew)); exact Kd.N_mono (Kd.N_far (p := ⟨gb407, 12, none⟩) (Kd.N_far (p := ⟨gb407, 11, none⟩) (Kd.N_far (p := ⟨gb407, 10, none⟩) (Kd.N_far (p := ⟨gb407, 9, none⟩) (Kd.N_far (p := ⟨gb407, 8, none⟩) (Kd.N_far (p := ⟨gb407, 7, none⟩) (Kd.N_far (p := ⟨gb407, 6, none⟩) (Kd.N_far (p := ⟨gb407, 5, none⟩) (Kd.N_far (p := ⟨gb407, 4, none⟩) (Kd.N_far (p := ⟨gb407, 3, none⟩) (Kd.N_far (p := ⟨gb407, 2, none⟩) (Kd.N_far (p := ⟨gb407, 1, none⟩) (Kd.N_far (p := ⟨gb407, 0, none⟩) (Kd.N_mono HO416.out (fun k_ hk => (⟨hk, hk.2.2.2⟩ : _ ∧ k_ ≠ gb407))) (fun _ hk => hk.2) (.int .u8 a0_0)) (fun _ hk => hk.2) (.int .u16 a0_1)) (fun _ hk => hk.2) (.slice Ao14 t408.length co14)) (fun _ hk => hk.2) (.int .u16 t411)) (fun _ hk => hk.2) (.int .u8 t412)) (fun _ hk => hk.2) (.int .u8 t413)) (fun _ hk => hk.2) (.slice Ao13 t414.length co13)) (fun _ hk => hk.2) (.int .u16 t417)) (fun _ hk => hk.2) (.int .u32 t418)) (fun _ hk => hk.2) (.slice Ao12 t419.length co12)) (fun _ hk => hk.2) (.slice Ao11 t422.length co11)) (fun _ hk => hk.2) (.slice Ao10 t425.length co10)) (fun _ hk => hk.2) (.slice Ao9 t428.length co9)) (fun _ hk => ⟨hk.1.1, hk.1.2.1⟩), by (with_reducible repeat (first | apply Kd.V_alloc | apply Kd.V_drewN | apply Kd.V_drew)); exact Kd.V_mono (Kd.V_far (p := ⟨gb407, 12, none⟩) (Kd.V_far (p := ⟨gb407, 11, none⟩) (Kd.V_far (p := ⟨gb407, 10, none⟩) (Kd.V_far (p := ⟨gb407, 9, none⟩) (Kd.V_far (p := ⟨gb407, 8, none⟩) (Kd.V_far (p := ⟨gb407, 7, none⟩) (Kd.V_far (p := ⟨gb407, 6, none⟩) (Kd.V_far (p := ⟨gb407, 5, none⟩) (Kd.V_far (p := ⟨gb407, 4, none⟩) (Kd.V_far (p := ⟨gb407, 3, none⟩) (Kd.V_far (p := ⟨gb407, 2, none⟩) (Kd.V_far (p := ⟨gb407, 1, none⟩) (Kd.V_far (p := ⟨gb407, 0, none⟩) (Kd.V_mono HO421.out (fun k_ hk => (⟨hk, hk.2.2.2.2⟩ : _ ∧ k_ ≠ gb407))) (fun _ hk => hk.2) (.int .u8 a0_0)) (fun _ hk => hk.2) (.int .u16 a0_1)) (fun _ hk => hk.2) (.slice Ao14 t408.length co14)) (fun _ hk => hk.2) (.int .u16 t411)) (fun _ hk => hk.2) (.int .u8 t412)) (fun _ hk => hk.2) (.int .u8 t413)) (fun _ hk => hk.2) (.slice Ao13 t414.length co13)) (fun _ hk => hk.2) (.int .u16 t417)) (fun _ hk => hk.2) (.int .u32 t418)) (fun _ hk => hk.2) (.slice Ao12 t419.length co12)) (fun _ hk => hk.2) (.slice Ao11 t422.length co11)) (fun _ hk => hk.2) (.slice Ao10 t425.length co10)) (fun _ hk => hk.2) (.slice Ao9 t428.length co9)) (fun _ hk => ⟨hk.1.1, ⟨hk.1.2.2.1, hk.1.2.1⟩⟩), by (with_reducible repeat (first | apply Kd.V_alloc | apply Kd.V_drewN | apply Kd.V_drew)); exact Kd.V_mono (Kd.V_far (p := ⟨gb407, 12, none⟩) (Kd.V_far (p := ⟨gb407, 11, none⟩) (Kd.V_far (p := ⟨gb407, 10, none⟩) (Kd.V_far (p := ⟨gb407, 9, none⟩) (Kd.V_far (p := ⟨gb407, 8, none⟩) (Kd.V_far (p := ⟨gb407, 7, none⟩) (Kd.V_far (p := ⟨gb407, 6, none⟩) (Kd.V_far (p := ⟨gb407, 5, none⟩) (Kd.V_far (p := ⟨gb407, 4, none⟩) (Kd.V_far (p := ⟨gb407, 3, none⟩) (Kd.V_far (p := ⟨gb407, 2, none⟩) (Kd.V_far (p := ⟨gb407, 1, none⟩) (Kd.V_far (p := ⟨gb407, 0, none⟩) (Kd.V_mono HO424.out (fun k_ hk => (⟨hk, hk.2.2.2.2⟩ : _ ∧ k_ ≠ gb407))) (fun _ hk => hk.2) (.int .u8 a0_0)) (fun _ hk => hk.2) (.int .u16 a0_1)) (fun _ hk => hk.2) (.slice Ao14 t408.length co14)) (fun _ hk => hk.2) (.int .u16 t411)) (fun _ hk => hk.2) (.int .u8 t412)) (fun _ hk => hk.2) (.int .u8 t413)) (fun _ hk => hk.2) (.slice Ao13 t414.length co13)) (fun _ hk => hk.2) (.int .u16 t417)) (fun _ hk => hk.2) (.int .u32 t418)) (fun _ hk => hk.2) (.slice Ao12 t419.length co12)) (fun _ hk => hk.2) (.slice Ao11 t422.length co11)) (fun _ hk => hk.2) (.slice Ao10 t425.length co10)) (fun _ hk => hk.2) (.slice Ao9 t428.length co9)) (fun _ hk => ⟨hk.1.1, ⟨hk.1.2.2.1, hk.1.2.1⟩⟩), by (with_reducible repeat (first | apply Kd.V_alloc | apply Kd.V_drewN | apply Kd.V_drew)); exact Kd.V_mono (Kd.V_far (p := ⟨gb407, 12, none⟩) (Kd.V_far (p := ⟨gb407, 11, none⟩) (Kd.V_far (p := ⟨gb407, 10, none⟩) (Kd.V_far (p := ⟨gb407, 9, none⟩) (Kd.V_far (p := ⟨gb407, 8, none⟩) (Kd.V_far (p := ⟨gb407, 7, none⟩) (Kd.V_far (p := ⟨gb407, 6, none⟩) (Kd.V_far (p := ⟨gb407, 5, none⟩) (Kd.V_far (p := ⟨gb407, 4, none⟩) (Kd.V_far (p := ⟨gb407, 3, none⟩) (Kd.V_far (p := ⟨gb407, 2, none⟩) (Kd.V_far (p := ⟨gb407, 1, none⟩) (Kd.V_far (p := ⟨gb407, 0, none⟩) (Kd.V_mono HO427.out (fun k_ hk => (⟨hk, hk.2.2.2.2⟩ : _ ∧ k_ ≠ gb407))) (fun _ hk => hk.2) (.int .u8 a0_0)) (fun _ hk => hk.2) (.int .u16 a0_1)) (fun _ hk => hk.2) (.slice Ao14 t408.length co14)) (fun _ hk => hk.2) (.int .u16 t411)) (fun _ hk => hk.2) (.int .u8 t412)) (fun _ hk => hk.2) (.int .u8 t413)) (fun _ hk => hk.2) (.slice Ao13 t414.length co13)) (fun _ hk => hk.2) (.int .u16 t417)) (fun _ hk => hk.2) (.int .u32 t418)) (fun _ hk => hk.2) (.slice Ao12 t419.length co12)) (fun _ hk => hk.2) (.slice Ao11 t422.length co11)) (fun _ hk => hk.2) (.slice Ao10 t425.length co10)) (fun _ hk => hk.2) (.slice Ao9 t428.length co9)) (fun _ hk => ⟨hk.1.1, ⟨hk.1.2.2.1, hk.1.2.1⟩⟩), by (with_reducible repeat (first | apply Kd.V_alloc | apply Kd.V_drewN | apply Kd.V_drew)); exact Kd.V_mono (Kd.V_far (p := ⟨gb407, 12, none⟩) (Kd.V_far (p := ⟨gb407, 11, none⟩) (Kd.V_far (p := ⟨gb407, 10, none⟩) (Kd.V_far (p := ⟨gb407, 9, none⟩) (Kd.V_far (p := ⟨gb407, 8, none⟩) (Kd.V_far (p := ⟨gb407, 7, none⟩) (Kd.V_far (p := ⟨gb407, 6, none⟩) (Kd.V_far (p := ⟨gb407, 5, none⟩) (Kd.V_far (p := ⟨gb407, 4, none⟩) (Kd.V_far (p := ⟨gb407, 3, none⟩) (Kd.V_far (p := ⟨gb407, 2, none⟩) (Kd.V_far (p := ⟨gb407, 1, none⟩) (Kd.V_far (p := ⟨gb407, 0, none⟩) (Kd.V_mono HO430.out (fun k_ hk => (⟨hk, hk.2.2.2.2⟩ : _ ∧ k_ ≠ gb407))) (fun _ hk => hk.2) (.int .u8 a0_0)) (fun _ hk => hk.2) (.int .u16 a0_1)) (fun _ hk => hk.2) (.slice Ao14 t408.length co14)) (fun _ hk => hk.2) (.int .u16 t411)) (fun _ hk => hk.2) (.int .u8 t412)) (fun _ hk => hk.2) (.int .u8 t413)) (fun _ hk => hk.2) (.slice Ao13 t414.length co13)) (fun _ hk => hk.2) (.int .u16 t417)) (fun _ hk => hk.2) (.int .u32 t418)) (fun _ hk => hk.2) (.slice Ao12 t419.length co12)) (fun _ hk => hk.2) (.slice Ao11 t422.length co11)) (fun _ hk => hk.2) (.slice Ao10 t425.length co10)) (fun _ hk => hk.2) (.slice Ao9 t428.length co9)) (fun _ hk => ⟨hk.1.1, ⟨hk.1.2.2.1, hk.1.2.1⟩⟩), by repeat (first | (with_reducible first | exact HB.out | apply below_alloc | apply pw_below_drewN | apply below_drew1 | refine below_set ?_ GE406.out | refine below_set ?_ GE407.out) | exact HB.out)⟩
end Go.Proofs.YteanncchmenlkaaDoor.Print
namespace Go.Proofs.YteanncchmenlkaaDoor.Print
open Go.RowKit Go.Proofs.YteanncchmenlkaaDoorW.PrintWords Go.Proofs.YteanncchmenlkaaDoorW.PrintLast Go.Proofs.YteanncchmenlkaaDoorW.PrintMore
attribute [local go_sem] max2_int min2_int max_two min_two max_three min_three max_four min_four
set_option linter.unusedVariables false
set_option linter.unusedSimpArgs false
def marlineref21_Same.l0 : Nat → List (S85) → List (S85) → Int → Option (Bool)
 | 0, _, _, _ => none
 | k + 1, x0, x1, x5 => if x5 < (x0.length : Int) then (if 0 ≤ x5 then (if x5 < (x1.length : Int) then (if ((rd_T85 x0 x5).f0) = ((rd_T85 x1 x5).f0) then (if (strOfNums ((rd_T85 x0 x5).f1)).toList = (strOfNums ((rd_T85 x1 x5).f1)).toList then (marlineref21_Same.l0 k x0 x1 (wrap64 (x5 + 1))) else (some false)) else (some false)) else (none)) else (none)) else (some true)
def marlineref21_Same.f (k : Nat) (l0 : List (S85)) (l1 : List (S85)) : Option (Bool) := if (l0.length : Int) = (l1.length : Int) then (marlineref21_Same.l0 k l0 l1 0) else (some false)
set_option maxHeartbeats 8000000 in
set_option maxRecDepth 100000 in
theorem marlineref21_Same.calls (k : Nat) (A0 : Option Addr) (c0 : Nat) (l0 : List (S85)) (A1 : Option Addr) (c1 : Nat) (l1 : List (S85)) (r : Bool) (w : World) (hr0 : Kd.C k85 w A0 l0.length l0) (hc0 : l0.length ≤ c0) (hr1 : Kd.C k85 w A1 l1.length l1) (hc1 : l1.length ≤ c1) (h : marlineref21_Same.f k l0 l1 = some r) :
 Calls Tryd.prog 20 #[.slice A0 l0.length c0, .slice A1 l1.length c1] w fun e w' => e = .returned (.bool r) ∧ Drawn0 w w' := by
 have HR0 := Aside0.mk hr0
 have HC0 := Aside0.mk hc0
 clear hr0 hc0
 have HR1 := Aside0.mk hr1
 have HC1 := Aside0.mk hc1
 clear hr1 hc1
 have H : (if (l0.length : Int) = (l1.length : Int) then (marlineref21_Same.l0 k l0 l1 0) else (some false)) = some r := h
 clear h
 by_cases c3 : (l0.length : Int) = (l1.length : Int)
 · rw [if_pos c3] at H
   have c3b0 : ((l0.length : Int) == (l1.length : Int)) = true := beq_iff_eq.mpr c3
   have c3b1 : ((l0.length : Int) != (l1.length : Int)) = false := bne_eq_false_iff_eq.mpr c3
   have c3b2 : (l0.length == l1.length) = true := by first | simpa using c3 | (simp at c3 ⊢; omega)
   clear c3
   have H' := Aside0.mk H
   clear H
   go_enter Tryd.func20, Tryd.ntmps20
   go_wp2
   repeat (go_quiet (fail); try go_wp2)
   go_loopg [5] k (fun kq v5 w' => ∃ (x5_1 : Int), v5 = .int .i64 x5_1 ∧ Aside0 (marlineref21_Same.l0 kq l0 l1 x5_1 = some r) ∧ Aside0 (kq ≤ k) ∧ Drawn0 w w')
   case atStart => exact ⟨(0), (by first | rfl | (simp; done) | (simp [*]; done)), H', ⟨Nat.le_refl _⟩, by repeat (first | exact Drawn0.refl _ | apply Drawn0.step)⟩
   case round =>
    clear H'
    try clear c1
    try clear c2
    try clear p2
    try clear c3
    try clear c3b0
    try clear c3b1
    try clear c3b2
    obtain ⟨x5_1, rfl, HA, HK1, ⟨m1, rfl⟩⟩ := hrel
    cases gk with
    | zero => exact absurd HA.out (by simp [marlineref21_Same.l0])
    | succ k1 =>
     have H := HA.out
     clear HA
     simp only [marlineref21_Same.l0] at H
     by_cases c4 : x5_1 < (l0.length : Int)
     · rw [if_pos c4] at H
       have c4b0 : decide (x5_1 < (l0.length : Int)) = true := decide_eq_true c4
       clear c4
       by_cases c5 : 0 ≤ x5_1
       · rw [if_pos c5] at H
         have c5b0 : decide (0 ≤ x5_1) = true := decide_eq_true c5
         clear c5
         by_cases c6 : x5_1 < (l1.length : Int)
         · rw [if_pos c6] at H
           have c6b0 : decide (x5_1 < (l1.length : Int)) = true := decide_eq_true c6
           clear c6
           by_cases c7 : ((rd_T85 l0 x5_1).f0) = ((rd_T85 l1 x5_1).f0)
           · rw [if_pos c7] at H
             have c7b0 : (((rd_T85 l0 x5_1).f0) == ((rd_T85 l1 x5_1).f0)) = true := beq_iff_eq.mpr c7
             have c7b1 : (((rd_T85 l0 x5_1).f0) != ((rd_T85 l1 x5_1).f0)) = false := bne_eq_false_iff_eq.mpr c7
             clear c7
             by_cases c8 : (strOfNums ((rd_T85 l0 x5_1).f1)).toList = (strOfNums ((rd_T85 l1 x5_1).f1)).toList
             · rw [if_pos c8] at H
               have c8b0 : ((strOfNums ((rd_T85 l0 x5_1).f1)).toList == (strOfNums ((rd_T85 l1 x5_1).f1)).toList) = true := beq_iff_eq.mpr c8
               have c8b1 : ((strOfNums ((rd_T85 l0 x5_1).f1)).toList != (strOfNums ((rd_T85 l1 x5_1).f1)).toList) = false := bne_eq_false_iff_eq.mpr c8
               clear c8
               have H' := Aside0.mk H
               clear H
               have p383 : 0 ≤ (x5_1 : Int) := of_decide_eq_true (by first | (with_reducible assumption) | assumption)
               have q383 : x5_1 < (l0.length : Int) := of_decide_eq_true (by first | (with_reducible assumption) | assumption)
               (try clear hHeld)
               obtain ⟨ad383, A383_1, c383_1, e383, hx383_0, hx383_1, hl383_1, hi383_1⟩ := at_T85 HR0.out x5_1 p383 q383
               cases e383
               have HR383_1 := Aside0.mk hi383_1
               have HC383_1 := Aside0.mk hl383_1
               clear hi383_1 hl383_1
               replace p383 := eq_true p383
               replace q383 := eq_true q383
               have p384 : 0 ≤ (x5_1 : Int) := of_decide_eq_true (by first | (with_reducible assumption) | assumption)
               have q384 : x5_1 < (l1.length : Int) := of_decide_eq_true (by first | (with_reducible assumption) | assumption)
               (try clear hHeld)
               obtain ⟨ad384, A384_1, c384_1, e384, hx384_0, hx384_1, hl384_1, hi384_1⟩ := at_T85 HR1.out x5_1 p384 q384
               cases e384
               have HR384_1 := Aside0.mk hi384_1
               have HC384_1 := Aside0.mk hl384_1
               clear hi384_1 hl384_1
               replace p384 := eq_true p384
               replace q384 := eq_true q384
               have p385 : 0 ≤ (x5_1 : Int) := of_decide_eq_true (by first | (with_reducible assumption) | assumption)
               have q385 : x5_1 < (l0.length : Int) := of_decide_eq_true (by first | (with_reducible assumption) | assumption)
               (try clear hHeld)
               obtain ⟨ad385, A385_1, c385_1, e385, hx385_0, hx385_1, hl385_1, hi385_1⟩ := at_T85 HR0.out x5_1 p385 q385
               obtain rfl : ad383 = ad385 := (by injection e385)
               have HR385_1 := Aside0.mk hi385_1
               have HC385_1 := Aside0.mk hl385_1
               clear hi385_1 hl385_1
               replace p385 := eq_true p385
               replace q385 := eq_true q385
               have ea_ := Option.some.inj (hx383_1.symm.trans hx385_1)
               injection ea_ with ea_ en_ ec_
               subst ea_
               subst ec_
               clear en_
               have hcv9 := Kd.C_string (P := Tryd.prog) (A := A383_1) (c := c383_1) Tryd.underlying24 Tryd.underlying5 Tryd.underlying9 HR385_1.out
               have hcv10 := fun m_ : Nat => Kd.C_string (P := Tryd.prog) (A := A383_1) (c := c383_1) Tryd.underlying24 Tryd.underlying5 Tryd.underlying9 (Kd.C_drewN HR385_1.out m_)
               have hcv11 := fun m_ n_ : Nat => Kd.C_string (P := Tryd.prog) (A := A383_1) (c := c383_1) Tryd.underlying24 Tryd.underlying5 Tryd.underlying9 (Kd.C_drewN (Kd.C_drewN HR385_1.out m_) n_)
               have p386 : 0 ≤ (x5_1 : Int) := of_decide_eq_true (by first | (with_reducible assumption) | assumption)
               have q386 : x5_1 < (l1.length : Int) := of_decide_eq_true (by first | (with_reducible assumption) | assumption)
               (try clear hHeld)
               obtain ⟨ad386, A386_1, c386_1, e386, hx386_0, hx386_1, hl386_1, hi386_1⟩ := at_T85 HR1.out x5_1 p386 q386
               obtain rfl : ad384 = ad386 := (by injection e386)
               have HR386_1 := Aside0.mk hi386_1
               have HC386_1 := Aside0.mk hl386_1
               clear hi386_1 hl386_1
               replace p386 := eq_true p386
               replace q386 := eq_true q386
               have ea_ := Option.some.inj (hx384_1.symm.trans hx386_1)
               injection ea_ with ea_ en_ ec_
               subst ea_
               subst ec_
               clear en_
               have hcv12 := Kd.C_string (P := Tryd.prog) (A := A384_1) (c := c384_1) Tryd.underlying24 Tryd.underlying5 Tryd.underlying9 HR386_1.out
               have hcv13 := fun m_ : Nat => Kd.C_string (P := Tryd.prog) (A := A384_1) (c := c384_1) Tryd.underlying24 Tryd.underlying5 Tryd.underlying9 (Kd.C_drewN HR386_1.out m_)
               have hcv14 := fun m_ n_ : Nat => Kd.C_string (P := Tryd.prog) (A := A384_1) (c := c384_1) Tryd.underlying24 Tryd.underlying5 Tryd.underlying9 (Kd.C_drewN (Kd.C_drewN HR386_1.out m_) n_)
               go_wp2
               repeat (go_quiet (fail); try go_wp2)
               go_roundg k1
               case measure => have := HK1.out; omega
               case rel => exact ⟨(wrap64 (x5_1 + 1)), (by first | rfl | (simp; done) | (simp [*]; done)), H', ⟨by have := HK1.out; omega⟩, by repeat (first | exact Drawn0.refl _ | apply Drawn0.step)⟩
             · rw [if_neg c8] at H
               have c8b0 : ((strOfNums ((rd_T85 l0 x5_1).f1)).toList == (strOfNums ((rd_T85 l1 x5_1).f1)).toList) = false := beq_eq_false_iff_ne.mpr c8
               have c8b1 : ((strOfNums ((rd_T85 l0 x5_1).f1)).toList != (strOfNums ((rd_T85 l1 x5_1).f1)).toList) = true := bne_iff_ne.mpr c8
               obtain rfl := Option.some.inj H
               have p383 : 0 ≤ (x5_1 : Int) := of_decide_eq_true (by first | (with_reducible assumption) | assumption)
               have q383 : x5_1 < (l0.length : Int) := of_decide_eq_true (by first | (with_reducible assumption) | assumption)
               (try clear hHeld)
               obtain ⟨ad383, A383_1, c383_1, e383, hx383_0, hx383_1, hl383_1, hi383_1⟩ := at_T85 HR0.out x5_1 p383 q383
               cases e383
               have HR383_1 := Aside0.mk hi383_1
               have HC383_1 := Aside0.mk hl383_1
               clear hi383_1 hl383_1
               replace p383 := eq_true p383
               replace q383 := eq_true q383
               have p384 : 0 ≤ (x5_1 : Int) := of_decide_eq_true (by first | (with_reducible assumption) | assumption)
               have q384 : x5_1 < (l1.length : Int) := of_decide_eq_true (by first | (with_reducible assumption) | assumption)
               (try clear hHeld)
               obtain ⟨ad384, A384_1, c384_1, e384, hx384_0, hx384_1, hl384_1, hi384_1⟩ := at_T85 HR1.out x5_1 p384 q384
               cases e384
               have HR384_1 := Aside0.mk hi384_1
               have HC384_1 := Aside0.mk hl384_1
               clear hi384_1 hl384_1
               replace p384 := eq_true p384
               replace q384 := eq_true q384
               have p385 : 0 ≤ (x5_1 : Int) := of_decide_eq_true (by first | (with_reducible assumption) | assumption)
               have q385 : x5_1 < (l0.length : Int) := of_decide_eq_true (by first | (with_reducible assumption) | assumption)
               (try clear hHeld)
               obtain ⟨ad385, A385_1, c385_1, e385, hx385_0, hx385_1, hl385_1, hi385_1⟩ := at_T85 HR0.out x5_1 p385 q385
               obtain rfl : ad383 = ad385 := (by injection e385)
               have HR385_1 := Aside0.mk hi385_1
               have HC385_1 := Aside0.mk hl385_1
               clear hi385_1 hl385_1
               replace p385 := eq_true p385
               replace q385 := eq_true q385
               have ea_ := Option.some.inj (hx383_1.symm.trans hx385_1)
               injection ea_ with ea_ en_ ec_
               subst ea_
               subst ec_
               clear en_
               have hcv15 := Kd.C_string (P := Tryd.prog) (A := A383_1) (c := c383_1) Tryd.underlying24 Tryd.underlying5 Tryd.underlying9 HR385_1.out
               have hcv16 := fun m_ : Nat => Kd.C_string (P := Tryd.prog) (A := A383_1) (c := c383_1) Tryd.underlying24 Tryd.underlying5 Tryd.underlying9 (Kd.C_drewN HR385_1.out m_)
               have hcv17 := fun m_ n_ : Nat => Kd.C_string (P := Tryd.prog) (A := A383_1) (c := c383_1) Tryd.underlying24 Tryd.underlying5 Tryd.underlying9 (Kd.C_drewN (Kd.C_drewN HR385_1.out m_) n_)
               have p386 : 0 ≤ (x5_1 : Int) := of_decide_eq_true (by first | (with_reducible assumption) | assumption)
               have q386 : x5_1 < (l1.length : Int) := of_decide_eq_true (by first | (with_reducible assumption) | assumption)
               (try clear hHeld)
               obtain ⟨ad386, A386_1, c386_1, e386, hx386_0, hx386_1, hl386_1, hi386_1⟩ := at_T85 HR1.out x5_1 p386 q386
               obtain rfl : ad384 = ad386 := (by injection e386)
               have HR386_1 := Aside0.mk hi386_1
               have HC386_1 := Aside0.mk hl386_1
               clear hi386_1 hl386_1
               replace p386 := eq_true p386
               replace q386 := eq_true q386
               have ea_ := Option.some.inj (hx384_1.symm.trans hx386_1)
               injection ea_ with ea_ en_ ec_
               subst ea_
               subst ec_
               clear en_
               have hcv18 := Kd.C_string (P := Tryd.prog) (A := A384_1) (c := c384_1) Tryd.underlying24 Tryd.underlying5 Tryd.underlying9 HR386_1.out
               have hcv19 := fun m_ : Nat => Kd.C_string (P := Tryd.prog) (A := A384_1) (c := c384_1) Tryd.underlying24 Tryd.underlying5 Tryd.underlying9 (Kd.C_drewN HR386_1.out m_)
               have hcv20 := fun m_ n_ : Nat => Kd.C_string (P := Tryd.prog) (A := A384_1) (c := c384_1) Tryd.underlying24 Tryd.underlying5 Tryd.underlying9 (Kd.C_drewN (Kd.C_drewN HR386_1.out m_) n_)
               go_wp2
               repeat (go_quiet (fail); try go_wp2)
               go_ret
               exact ⟨by first | rfl | (simp; done) | (simp [*]; done), by repeat (first | exact Drawn0.refl _ | apply Drawn0.step)⟩
           · rw [if_neg c7] at H
             have c7b0 : (((rd_T85 l0 x5_1).f0) == ((rd_T85 l1 x5_1).f0)) = false := beq_eq_false_iff_ne.mpr c7
             have c7b1 : (((rd_T85 l0 x5_1).f0) != ((rd_T85 l1 x5_1).f0)) = true := bne_iff_ne.mpr c7
             obtain rfl := Option.some.inj H
             have p383 : 0 ≤ (x5_1 : Int) := of_decide_eq_true (by first | (with_reducible assumption) | assumption)
             have q383 : x5_1 < (l0.length : Int) := of_decide_eq_true (by first | (with_reducible assumption) | assumption)
             (try clear hHeld)
             obtain ⟨ad383, A383_1, c383_1, e383, hx383_0, hx383_1, hl383_1, hi383_1⟩ := at_T85 HR0.out x5_1 p383 q383
             cases e383
             have HR383_1 := Aside0.mk hi383_1
             have HC383_1 := Aside0.mk hl383_1
             clear hi383_1 hl383_1
             replace p383 := eq_true p383
             replace q383 := eq_true q383
             have p384 : 0 ≤ (x5_1 : Int) := of_decide_eq_true (by first | (with_reducible assumption) | assumption)
             have q384 : x5_1 < (l1.length : Int) := of_decide_eq_true (by first | (with_reducible assumption) | assumption)
             (try clear hHeld)
             obtain ⟨ad384, A384_1, c384_1, e384, hx384_0, hx384_1, hl384_1, hi384_1⟩ := at_T85 HR1.out x5_1 p384 q384
             cases e384
             have HR384_1 := Aside0.mk hi384_1
             have HC384_1 := Aside0.mk hl384_1
             clear hi384_1 hl384_1
             replace p384 := eq_true p384
             replace q384 := eq_true q384
             go_wp2
             repeat (go_quiet (fail); try go_wp2)
             go_ret
             exact ⟨by first | rfl | (simp; done) | (simp [*]; done), by repeat (first | exact Drawn0.refl _ | apply Drawn0.step)⟩
         · rw [if_neg c6] at H
           exact absurd H (by simp)
       · rw [if_neg c5] at H
         exact absurd H (by simp)
     · rw [if_neg c4] at H
       have c4b0 : decide (x5_1 < (l0.length : Int)) = false := decide_eq_false c4
       clear c4
       obtain rfl := Option.some.inj H
       go_wp2
       repeat (go_quiet (fail); try go_wp2)
       go_ret
       exact ⟨by first | rfl | (simp; done) | (simp [*]; done), by repeat (first | exact Drawn0.refl _ | apply Drawn0.step)⟩
 · rw [if_neg c3] at H
   have c3b0 : ((l0.length : Int) == (l1.length : Int)) = false := beq_eq_false_iff_ne.mpr c3
   have c3b1 : ((l0.length : Int) != (l1.length : Int)) = true := bne_iff_ne.mpr c3
   have c3b2 : (l0.length == l1.length) = false := by first | simpa using c3 | (simp at c3 ⊢; omega)
   obtain rfl := Option.some.inj H
   go_enter Tryd.func20, Tryd.ntmps20
   go_wp2
   repeat (go_quiet (fail); try go_wp2)
   go_ret
   exact ⟨by first | rfl | (simp; done) | (simp [*]; done), by repeat (first | exact Drawn0.refl _ | apply Drawn0.step)⟩
end Go.Proofs.YteanncchmenlkaaDoor.Print
namespace Go.Proofs.YteanncchmenlkaaDoor.Print
open Go.RowKit Go.Proofs.YteanncchmenlkaaDoorW.PrintWords Go.Proofs.YteanncchmenlkaaDoorW.PrintLast Go.Proofs.YteanncchmenlkaaDoorW.PrintMore
attribute [local go_sem] max2_int min2_int max_two min_two max_three min_three max_four min_four
set_option linter.unusedVariables false
set_option linter.unusedSimpArgs false
def marlineref22_Same.f (k : Nat) (a0_0 : Int) (a0_1 : Int) (l0_2 : List (S85)) (a0_3 : Int) (a0_4 : Int) (a0_5 : Int) (l0_6 : List (S105)) (a0_7 : Int) (a0_8 : Int) (l0_9 : List Int) (l0_10 : List Int) (l0_11 : List Int) (l0_12 : List Int) (a1_0 : Int) (a1_1 : Int) (l1_2 : List (S85)) (a1_3 : Int) (a1_4 : Int) (a1_5 : Int) (l1_6 : List (S105)) (a1_7 : Int) (a1_8 : Int) (l1_9 : List Int) (l1_10 : List Int) (l1_11 : List Int) (l1_12 : List Int) : Option (Bool) := if a0_0 = a1_0 then (if a0_1 = a1_1 then ((marlineref21_Same.f k l0_2 l1_2).bind fun t389 => (if t389 = true then ((marlineref15_Same.f k a0_3 a0_4 a0_5 l0_6 a0_7 a0_8 l0_9 l0_10 l0_11 l0_12 a1_3 a1_4 a1_5 l1_6 a1_7 a1_8 l1_9 l1_10 l1_11 l1_12).bind fun t390 => (some t390)) else (some false))) else (some false)) else (some false)
set_option maxHeartbeats 8000000 in
set_option maxRecDepth 100000 in
theorem marlineref22_Same.calls (k : Nat) (a0_0 : Int) (a0_1 : Int) (A0_2 : Option Addr) (c0_2 : Nat) (l0_2 : List (S85)) (a0_3 : Int) (a0_4 : Int) (a0_5 : Int) (A0_6 : Option Addr) (c0_6 : Nat) (l0_6 : List (S105)) (a0_7 : Int) (a0_8 : Int) (A0_9 : Option Addr) (c0_9 : Nat) (l0_9 : List Int) (A0_10 : Option Addr) (c0_10 : Nat) (l0_10 : List Int) (A0_11 : Option Addr) (c0_11 : Nat) (l0_11 : List Int) (A0_12 : Option Addr) (c0_12 : Nat) (l0_12 : List Int) (a1_0 : Int) (a1_1 : Int) (A1_2 : Option Addr) (c1_2 : Nat) (l1_2 : List (S85)) (a1_3 : Int) (a1_4 : Int) (a1_5 : Int) (A1_6 : Option Addr) (c1_6 : Nat) (l1_6 : List (S105)) (a1_7 : Int) (a1_8 : Int) (A1_9 : Option Addr) (c1_9 : Nat) (l1_9 : List Int) (A1_10 : Option Addr) (c1_10 : Nat) (l1_10 : List Int) (A1_11 : Option Addr) (c1_11 : Nat) (l1_11 : List Int) (A1_12 : Option Addr) (c1_12 : Nat) (l1_12 : List Int) (r : Bool) (w : World) (hr0_2 : Kd.C k85 w A0_2 l0_2.length l0_2) (hc0_2 : l0_2.length ≤ c0_2) (hr0_6 : Kd.C k105 w A0_6 l0_6.length l0_6) (hc0_6 : l0_6.length ≤ c0_6) (hr0_9 : Kd.C (Kd.int .u8) w A0_9 l0_9.length l0_9) (hc0_9 : l0_9.length ≤ c0_9) (hr0_10 : Kd.C (Kd.int .u8) w A0_10 l0_10.length l0_10) (hc0_10 : l0_10.length ≤ c0_10) (hr0_11 : Kd.C (Kd.int .u8) w A0_11 l0_11.length l0_11) (hc0_11 : l0_11.length ≤ c0_11) (hr0_12 : Kd.C (Kd.int .u32) w A0_12 l0_12.length l0_12) (hc0_12 : l0_12.length ≤ c0_12) (hr1_2 : Kd.C k85 w A1_2 l1_2.length l1_2) (hc1_2 : l1_2.length ≤ c1_2) (hr1_6 : Kd.C k105 w A1_6 l1_6.length l1_6) (hc1_6 : l1_6.length ≤ c1_6) (hr1_9 : Kd.C (Kd.int .u8) w A1_9 l1_9.length l1_9) (hc1_9 : l1_9.length ≤ c1_9) (hr1_10 : Kd.C (Kd.int .u8) w A1_10 l1_10.length l1_10) (hc1_10 : l1_10.length ≤ c1_10) (hr1_11 : Kd.C (Kd.int .u8) w A1_11 l1_11.length l1_11) (hc1_11 : l1_11.length ≤ c1_11) (hr1_12 : Kd.C (Kd.int .u32) w A1_12 l1_12.length l1_12) (hc1_12 : l1_12.length ≤ c1_12) (h : marlineref22_Same.f k a0_0 a0_1 l0_2 a0_3 a0_4 a0_5 l0_6 a0_7 a0_8 l0_9 l0_10 l0_11 l0_12 a1_0 a1_1 l1_2 a1_3 a1_4 a1_5 l1_6 a1_7 a1_8 l1_9 l1_10 l1_11 l1_12 = some r) :
 Calls Tryd.prog 12 #[.agg #[.int .u8 a0_0, .int .u16 a0_1, .slice A0_2 l0_2.length c0_2, .int .u16 a0_3, .int .u8 a0_4, .int .u8 a0_5, .slice A0_6 l0_6.length c0_6, .int .u16 a0_7, .int .u32 a0_8, .slice A0_9 l0_9.length c0_9, .slice A0_10 l0_10.length c0_10, .slice A0_11 l0_11.length c0_11, .slice A0_12 l0_12.length c0_12], .agg #[.int .u8 a1_0, .int .u16 a1_1, .slice A1_2 l1_2.length c1_2, .int .u16 a1_3, .int .u8 a1_4, .int .u8 a1_5, .slice A1_6 l1_6.length c1_6, .int .u16 a1_7, .int .u32 a1_8, .slice A1_9 l1_9.length c1_9, .slice A1_10 l1_10.length c1_10, .slice A1_11 l1_11.length c1_11, .slice A1_12 l1_12.length c1_12]] w fun e w' => e = .returned (.bool r) ∧ Below w.heap.size w w' := by
 have hu44 := Tryd.underlying44
 have hu42 := Tryd.underlying42
 have HR0_2 := Aside0.mk hr0_2
 have HC0_2 := Aside0.mk hc0_2
 clear hr0_2 hc0_2
 have HR0_6 := Aside0.mk hr0_6
 have HC0_6 := Aside0.mk hc0_6
 clear hr0_6 hc0_6
 have HR0_9 := Aside0.mk hr0_9
 have HC0_9 := Aside0.mk hc0_9
 clear hr0_9 hc0_9
 have HR0_10 := Aside0.mk hr0_10
 have HC0_10 := Aside0.mk hc0_10
 clear hr0_10 hc0_10
 have HR0_11 := Aside0.mk hr0_11
 have HC0_11 := Aside0.mk hc0_11
 clear hr0_11 hc0_11
 have HR0_12 := Aside0.mk hr0_12
 have HC0_12 := Aside0.mk hc0_12
 clear hr0_12 hc0_12
 have HR1_2 := Aside0.mk hr1_2
 have HC1_2 := Aside0.mk hc1_2
 clear hr1_2 hc1_2
 have HR1_6 := Aside0.mk hr1_6
 have HC1_6 := Aside0.mk hc1_6
 clear hr1_6 hc1_6
 have HR1_9 := Aside0.mk hr1_9
 have HC1_9 := Aside0.mk hc1_9
 clear hr1_9 hc1_9
 have HR1_10 := Aside0.mk hr1_10
 have HC1_10 := Aside0.mk hc1_10
 clear hr1_10 hc1_10
 have HR1_11 := Aside0.mk hr1_11
 have HC1_11 := Aside0.mk hc1_11
 clear hr1_11 hc1_11
 have HR1_12 := Aside0.mk hr1_12
 have HC1_12 := Aside0.mk hc1_12
 clear hr1_12 hc1_12
 have HB := Aside0.mk (Below.refl w.heap.size w)
 have H : (if a0_0 = a1_0 then (if a0_1 = a1_1 then ((marlineref21_Same.f k l0_2 l1_2).bind fun t389 => (if t389 = true then ((marlineref15_Same.f k a0_3 a0_4 a0_5 l0_6 a0_7 a0_8 l0_9 l0_10 l0_11 l0_12 a1_3 a1_4 a1_5 l1_6 a1_7 a1_8 l1_9 l1_10 l1_11 l1_12).bind fun t390 => (some t390)) else (some false))) else (some false)) else (some false)) = some r := h
 clear h
 by_cases c3 : a0_0 = a1_0
 · rw [if_pos c3] at H
   have c3b0 : (a0_0 == a1_0) = true := beq_iff_eq.mpr c3
   have c3b1 : (a0_0 != a1_0) = false := bne_eq_false_iff_eq.mpr c3
   clear c3
   by_cases c4 : a0_1 = a1_1
   · rw [if_pos c4] at H
     have c4b0 : (a0_1 == a1_1) = true := beq_iff_eq.mpr c4
     have c4b1 : (a0_1 != a1_1) = false := bne_eq_false_iff_eq.mpr c4
     clear c4
     replace H := Option.bind_eq_some_iff.mp H
     obtain ⟨t389, A50, H⟩ := H
     replace H : (if t389 = true then ((marlineref15_Same.f k a0_3 a0_4 a0_5 l0_6 a0_7 a0_8 l0_9 l0_10 l0_11 l0_12 a1_3 a1_4 a1_5 l1_6 a1_7 a1_8 l1_9 l1_10 l1_11 l1_12).bind fun t390 => (some t390)) else (some false)) = some r := H
     have A5 := Aside0.mk A50
     clear A50
     by_cases c6 : t389 = true
     · subst c6
       have H1 : ((marlineref15_Same.f k a0_3 a0_4 a0_5 l0_6 a0_7 a0_8 l0_9 l0_10 l0_11 l0_12 a1_3 a1_4 a1_5 l1_6 a1_7 a1_8 l1_9 l1_10 l1_11 l1_12).bind fun t390 => (some t390)) = some r := by rw [if_pos rfl] at H; exact H
       clear H
       have H := H1
       clear H1
       replace H := Option.bind_eq_some_iff.mp H
       obtain ⟨t390, A70, H⟩ := H
       replace H : (some t390) = some r := H
       have A7 := Aside0.mk A70
       clear A70
       obtain rfl := Option.some.inj H
       go_enter Tryd.func12, Tryd.ntmps12
       go_wp2_with (first | ((with_reducible refine gate_dst (N := 2) rfl ?_); refine box_event ?hg (N := 2) ?hd (cs := #[.int .u8 a0_0, .int .u16 a0_1, .slice A0_2 l0_2.length c0_2, .int .u16 a0_3, .int .u8 a0_4, .int .u8 a0_5, .slice A0_6 l0_6.length c0_6, .int .u16 a0_7, .int .u32 a0_8, .slice A0_9 l0_9.length c0_9, .slice A0_10 l0_10.length c0_10, .slice A0_11 l0_11.length c0_11, .slice A0_12 l0_12.length c0_12]) (t := 44) ?hr ?_; (case hd => rfl); (case hg => rfl); (case hr => first | (go_simp; done) | (go_simp; simp only [IntKind.wrap_u8, IntKind.wrap_u16, IntKind.wrap_u32, IntKind.wrap_u64]; done) | (go_simp; simp only [IntKind.wrap_u8, IntKind.wrap_u16, IntKind.wrap_u32, IntKind.wrap_u64, Int.tmod_eq_emod_of_nonneg (Int.natCast_nonneg _), Int.emod_emod]; done) | (go_simp; rfl)); intro gb387 hg w8 hbox hb; have n0_ := Aside0.mk (below_step (by repeat (first | (with_reducible first | exact HB.out | apply below_alloc | apply pw_below_drewN | apply below_drew1) | exact HB.out)) hb); have n1_ := Aside0.mk (hbox); have n2_ := Aside0.mk ((by rw [hg]; exact (below_size (by repeat (first | (with_reducible first | exact HB.out | apply below_alloc | apply pw_below_drewN | apply below_drew1) | exact HB.out))) : w.heap.size ≤ gb387)); have n3_ := Aside0.mk ((by rw [hg]; exact (below_size (by repeat (first | (with_reducible first | exact HB.out | apply below_alloc | apply pw_below_drewN | apply below_drew1) | exact HB.out))) : w.heap.size ≤ gb387)); clear HB; have HB := n0_; have BK387 := n1_; have GW387 := n2_; have GE387 := n3_; clear n0_ n1_ n2_ n3_; clear hb hbox hg) | ((with_reducible refine gate_dst (N := 3) rfl ?_); refine box_event ?hg (N := 3) ?hd (cs := #[.int .u8 a1_0, .int .u16 a1_1, .slice A1_2 l1_2.length c1_2, .int .u16 a1_3, .int .u8 a1_4, .int .u8 a1_5, .slice A1_6 l1_6.length c1_6, .int .u16 a1_7, .int .u32 a1_8, .slice A1_9 l1_9.length c1_9, .slice A1_10 l1_10.length c1_10, .slice A1_11 l1_11.length c1_11, .slice A1_12 l1_12.length c1_12]) (t := 44) ?hr ?_; (case hd => rfl); (case hg => rfl); (case hr => first | (go_simp; done) | (go_simp; simp only [IntKind.wrap_u8, IntKind.wrap_u16, IntKind.wrap_u32, IntKind.wrap_u64]; done) | (go_simp; simp only [IntKind.wrap_u8, IntKind.wrap_u16, IntKind.wrap_u32, IntKind.wrap_u64, Int.tmod_eq_emod_of_nonneg (Int.natCast_nonneg _), Int.emod_emod]; done) | (go_simp; rfl)); intro gb388 hg w9 hbox hb; have n0_ := Aside0.mk (blk_below (g := gb387) (o := .cells #[.int .u8 a0_0, .int .u16 a0_1, .slice A0_2 l0_2.length c0_2, .int .u16 a0_3, .int .u8 a0_4, .int .u8 a0_5, .slice A0_6 l0_6.length c0_6, .int .u16 a0_7, .int .u32 a0_8, .slice A0_9 l0_9.length c0_9, .slice A0_10 l0_10.length c0_10, .slice A0_11 l0_11.length c0_11, .slice A0_12 l0_12.length c0_12] 44 (0, 0)) (by (with_reducible repeat (first | refine blk_drewN ?_ _ | refine blk_drew ?_ | refine blk_alloc ?_ _)); exact BK387.out) hb); have n1_ := Aside0.mk (below_step (by repeat (first | (with_reducible first | exact HB.out | apply below_alloc | apply pw_below_drewN | apply below_drew1 | refine below_set ?_ GE387.out) | exact HB.out)) hb); have n2_ := Aside0.mk (hbox); have n3_ := Aside0.mk ((by rw [hg]; exact (below_size (by repeat (first | (with_reducible first | exact HB.out | apply below_alloc | apply pw_below_drewN | apply below_drew1 | refine below_set ?_ GE387.out) | exact HB.out))) : w.heap.size ≤ gb388)); have n4_ := Aside0.mk ((by rw [hg]; exact (below_size (by repeat (first | (with_reducible first | exact HB.out | apply below_alloc | apply pw_below_drewN | apply below_drew1 | refine below_set ?_ GE387.out) | exact HB.out))) : w.heap.size ≤ gb388)); have n5_ := Aside0.mk ((by rw [hg]; exact Nat.ne_of_lt (blk_lt (g := gb387) (o := .cells #[.int .u8 a0_0, .int .u16 a0_1, .slice A0_2 l0_2.length c0_2, .int .u16 a0_3, .int .u8 a0_4, .int .u8 a0_5, .slice A0_6 l0_6.length c0_6, .int .u16 a0_7, .int .u32 a0_8, .slice A0_9 l0_9.length c0_9, .slice A0_10 l0_10.length c0_10, .slice A0_11 l0_11.length c0_11, .slice A0_12 l0_12.length c0_12] 44 (0, 0)) (by (with_reducible repeat (first | refine blk_drewN ?_ _ | refine blk_drew ?_ | refine blk_alloc ?_ _)); exact BK387.out)) : gb387 ≠ gb388)); have n6_ := Aside0.mk ((by rw [hg]; exact Nat.ne_of_gt (blk_lt (g := gb387) (o := .cells #[.int .u8 a0_0, .int .u16 a0_1, .slice A0_2 l0_2.length c0_2, .int .u16 a0_3, .int .u8 a0_4, .int .u8 a0_5, .slice A0_6 l0_6.length c0_6, .int .u16 a0_7, .int .u32 a0_8, .slice A0_9 l0_9.length c0_9, .slice A0_10 l0_10.length c0_10, .slice A0_11 l0_11.length c0_11, .slice A0_12 l0_12.length c0_12] 44 (0, 0)) (by (with_reducible repeat (first | refine blk_drewN ?_ _ | refine blk_drew ?_ | refine blk_alloc ?_ _)); exact BK387.out)) : gb388 ≠ gb387)); clear BK387; clear HB; have BK387 := n0_; have HB := n1_; have BK388 := n2_; have GW388 := n3_; have GE388 := n4_; have NB387_388 := n5_; have NB388_387 := n6_; clear n0_ n1_ n2_ n3_ n4_ n5_ n6_; clear hb hbox hg; have hnb10 := NB387_388.out; have hnc10 := NB388_387.out; obtain ⟨⟨hcz11_0, hcz11_1, hcz11_2, hcz11_3, hcz11_4, hcz11_5, hcz11_6, hcz11_7, hcz11_8, hcz11_9, hcz11_10, hcz11_11, hcz11_12⟩, hfz11_0, hfz11_1, hfz11_2, hfz11_3, hfz11_4, hfz11_5, hfz11_6, hfz11_7, hfz11_8, hfz11_9, hfz11_10, hfz11_11, hfz11_12⟩ := cz13 BK387.out; obtain ⟨⟨hcz12_0, hcz12_1, hcz12_2, hcz12_3, hcz12_4, hcz12_5, hcz12_6, hcz12_7, hcz12_8, hcz12_9, hcz12_10, hcz12_11, hcz12_12⟩, hfz12_0, hfz12_1, hfz12_2, hfz12_3, hfz12_4, hfz12_5, hfz12_6, hfz12_7, hfz12_8, hfz12_9, hfz12_10, hfz12_11, hfz12_12⟩ := cz13 BK388.out) | (go_at_call 20; (with_reducible refine (marlineref21_Same.calls k _ _ l0_2 _ _ l1_2 true _ ?side1 ?side2 ?side3 ?side4 A5.out).mono ?_); (case side1 => repeat (first | exact (Kd.C_below HR0_2.out HB.out) | (with_reducible refine Kd.C_alloc ?_ _) | (with_reducible refine Kd.C_drewN ?_ _) | (with_reducible refine Kd.C_drew ?_))); (case side2 => exact HC0_2.out); (case side3 => repeat (first | exact (Kd.C_below HR1_2.out HB.out) | (with_reducible refine Kd.C_alloc ?_ _) | (with_reducible refine Kd.C_drewN ?_ _) | (with_reducible refine Kd.C_drew ?_))); (case side4 => exact HC1_2.out); rintro e w' ⟨rfl, ⟨nd, rfl⟩⟩) | (go_at_call 18; (with_reducible refine (marlineref15_Same.calls k a0_3 a0_4 a0_5 _ _ l0_6 a0_7 a0_8 _ _ l0_9 _ _ l0_10 _ _ l0_11 _ _ l0_12 a1_3 a1_4 a1_5 _ _ l1_6 a1_7 a1_8 _ _ l1_9 _ _ l1_10 _ _ l1_11 _ _ l1_12 t390 _ ?side1 ?side2 ?side3 ?side4 ?side5 ?side6 ?side7 ?side8 ?side9 ?side10 ?side11 ?side12 ?side13 ?side14 ?side15 ?side16 ?side17 ?side18 ?side19 ?side20 A7.out).mono ?_); (case side1 => repeat (first | exact (Kd.C_below HR0_6.out (by repeat (first | (with_reducible first | exact HB.out | apply below_alloc | apply pw_below_drewN | apply below_drew1 | refine below_set ?_ GE387.out | refine below_set ?_ GE388.out) | exact HB.out))) | (with_reducible refine Kd.C_alloc ?_ _) | (with_reducible refine Kd.C_drewN ?_ _) | (with_reducible refine Kd.C_drew ?_))); (case side2 => exact HC0_6.out); (case side3 => repeat (first | exact (Kd.C_below HR0_9.out (by repeat (first | (with_reducible first | exact HB.out | apply below_alloc | apply pw_below_drewN | apply below_drew1 | refine below_set ?_ GE387.out | refine below_set ?_ GE388.out) | exact HB.out))) | (with_reducible refine Kd.C_alloc ?_ _) | (with_reducible refine Kd.C_drewN ?_ _) | (with_reducible refine Kd.C_drew ?_))); (case side4 => exact HC0_9.out); (case side5 => repeat (first | exact (Kd.C_below HR0_10.out (by repeat (first | (with_reducible first | exact HB.out | apply below_alloc | apply pw_below_drewN | apply below_drew1 | refine below_set ?_ GE387.out | refine below_set ?_ GE388.out) | exact HB.out))) | (with_reducible refine Kd.C_alloc ?_ _) | (with_reducible refine Kd.C_drewN ?_ _) | (with_reducible refine Kd.C_drew ?_))); (case side6 => exact HC0_10.out); (case side7 => repeat (first | exact (Kd.C_below HR0_11.out (by repeat (first | (with_reducible first | exact HB.out | apply below_alloc | apply pw_below_drewN | apply below_drew1 | refine below_set ?_ GE387.out | refine below_set ?_ GE388.out) | exact HB.out))) | (with_reducible refine Kd.C_alloc ?_ _) | (with_reducible refine Kd.C_drewN ?_ _) | (with_reducible refine Kd.C_drew ?_))); (case side8 => exact HC0_11.out); (case side9 => repeat (first | exact (Kd.C_below HR0_12.out (by repeat (first | (with_reducible first | exact HB.out | apply below_alloc | apply pw_below_drewN | apply below_drew1 | refine below_set ?_ GE387.out | refine below_set ?_ GE388.out) | exact HB.out))) | (with_reducible refine Kd.C_alloc ?_ _) | (with_reducible refine Kd.C_drewN ?_ _) | (with_reducible refine Kd.C_drew ?_))); (case side10 => exact HC0_12.out); (case side11 => repeat (first | exact (Kd.C_below HR1_6.out (by repeat (first | (with_reducible first | exact HB.out | apply below_alloc | apply pw_below_drewN | apply below_drew1 | refine below_set ?_ GE387.out | refine below_set ?_ GE388.out) | exact HB.out))) | (with_reducible refine Kd.C_alloc ?_ _) | (with_reducible refine Kd.C_drewN ?_ _) | (with_reducible refine Kd.C_drew ?_))); (case side12 => exact HC1_6.out); (case side13 => repeat (first | exact (Kd.C_below HR1_9.out (by repeat (first | (with_reducible first | exact HB.out | apply below_alloc | apply pw_below_drewN | apply below_drew1 | refine below_set ?_ GE387.out | refine below_set ?_ GE388.out) | exact HB.out))) | (with_reducible refine Kd.C_alloc ?_ _) | (with_reducible refine Kd.C_drewN ?_ _) | (with_reducible refine Kd.C_drew ?_))); (case side14 => exact HC1_9.out); (case side15 => repeat (first | exact (Kd.C_below HR1_10.out (by repeat (first | (with_reducible first | exact HB.out | apply below_alloc | apply pw_below_drewN | apply below_drew1 | refine below_set ?_ GE387.out | refine below_set ?_ GE388.out) | exact HB.out))) | (with_reducible refine Kd.C_alloc ?_ _) | (with_reducible refine Kd.C_drewN ?_ _) | (with_reducible refine Kd.C_drew ?_))); (case side16 => exact HC1_10.out); (case side17 => repeat (first | exact (Kd.C_below HR1_11.out (by repeat (first | (with_reducible first | exact HB.out | apply below_alloc | apply pw_below_drewN | apply below_drew1 | refine below_set ?_ GE387.out | refine below_set ?_ GE388.out) | exact HB.out))) | (with_reducible refine Kd.C_alloc ?_ _) | (with_reducible refine Kd.C_drewN ?_ _) | (with_reducible refine Kd.C_drew ?_))); (case side18 => exact HC1_11.out); (case side19 => repeat (first | exact (Kd.C_below HR1_12.out (by repeat (first | (with_reducible first | exact HB.out | apply below_alloc | apply pw_below_drewN | apply below_drew1 | refine below_set ?_ GE387.out | refine below_set ?_ GE388.out) | exact HB.out))) | (with_reducible refine Kd.C_alloc ?_ _) | (with_reducible refine Kd.C_drewN ?_ _) | (with_reducible refine Kd.C_drew ?_))); (case side20 => exact HC1_12.out); rintro e w13 ⟨rfl, hb⟩; have n0_ := Aside0.mk (blk_below (g := gb387) (o := .cells #[.int .u8 a0_0, .int .u16 a0_1, .slice A0_2 l0_2.length c0_2, .int .u16 a0_3, .int .u8 a0_4, .int .u8 a0_5, .slice A0_6 l0_6.length c0_6, .int .u16 a0_7, .int .u32 a0_8, .slice A0_9 l0_9.length c0_9, .slice A0_10 l0_10.length c0_10, .slice A0_11 l0_11.length c0_11, .slice A0_12 l0_12.length c0_12] 44 (0, 0)) (by (with_reducible repeat (first | refine blk_drewN ?_ _ | refine blk_drew ?_ | refine blk_alloc ?_ _)); exact BK387.out) hb); have n1_ := Aside0.mk (blk_below (g := gb388) (o := .cells #[.int .u8 a1_0, .int .u16 a1_1, .slice A1_2 l1_2.length c1_2, .int .u16 a1_3, .int .u8 a1_4, .int .u8 a1_5, .slice A1_6 l1_6.length c1_6, .int .u16 a1_7, .int .u32 a1_8, .slice A1_9 l1_9.length c1_9, .slice A1_10 l1_10.length c1_10, .slice A1_11 l1_11.length c1_11, .slice A1_12 l1_12.length c1_12] 44 (0, 0)) (by (with_reducible repeat (first | refine blk_drewN ?_ _ | refine blk_drew ?_ | refine blk_alloc ?_ _)); exact BK388.out) hb); have n2_ := Aside0.mk (below_step (by repeat (first | (with_reducible first | exact HB.out | apply below_alloc | apply pw_below_drewN | apply below_drew1 | refine below_set ?_ GE387.out | refine below_set ?_ GE388.out) | exact HB.out)) hb); clear BK387; clear BK388; clear HB; have BK387 := n0_; have BK388 := n1_; have HB := n2_; clear n0_ n1_ n2_; (try clear hb); (try clear hb2); (try clear hk); (try clear hi)))
       go_ret
       exact ⟨by first | rfl | (simp [errW_none, errW_some] <;> rfl) | (simp [*, errW_none, errW_some] <;> rfl), by repeat (first | (with_reducible first | exact HB.out | apply below_alloc | apply pw_below_drewN | apply below_drew1 | refine below_set ?_ GE387.out | refine below_set ?_ GE388.out) | exact HB.out)⟩
     · replace c6 := Bool.eq_false_iff.mpr c6
       subst c6
       have H1 : (some false) = some r := by rw [if_neg (show ¬ (false = true) by decide)] at H; exact H
       clear H
       have H := H1
       clear H1
       obtain rfl := Option.some.inj H
       go_enter Tryd.func12, Tryd.ntmps12
       go_wp2_with (first | ((with_reducible refine gate_dst (N := 2) rfl ?_); refine box_event ?hg (N := 2) ?hd (cs := #[.int .u8 a0_0, .int .u16 a0_1, .slice A0_2 l0_2.length c0_2, .int .u16 a0_3, .int .u8 a0_4, .int .u8 a0_5, .slice A0_6 l0_6.length c0_6, .int .u16 a0_7, .int .u32 a0_8, .slice A0_9 l0_9.length c0_9, .slice A0_10 l0_10.length c0_10, .slice A0_11 l0_11.length c0_11, .slice A0_12 l0_12.length c0_12]) (t := 44) ?hr ?_; (case hd => rfl); (case hg => rfl); (case hr => first | (go_simp; done) | (go_simp; simp only [IntKind.wrap_u8, IntKind.wrap_u16, IntKind.wrap_u32, IntKind.wrap_u64]; done) | (go_simp; simp only [IntKind.wrap_u8, IntKind.wrap_u16, IntKind.wrap_u32, IntKind.wrap_u64, Int.tmod_eq_emod_of_nonneg (Int.natCast_nonneg _), Int.emod_emod]; done) | (go_simp; rfl)); intro gb387 hg w14 hbox hb; have n0_ := Aside0.mk (below_step (by repeat (first | (with_reducible first | exact HB.out | apply below_alloc | apply pw_below_drewN | apply below_drew1) | exact HB.out)) hb); have n1_ := Aside0.mk (hbox); have n2_ := Aside0.mk ((by rw [hg]; exact (below_size (by repeat (first | (with_reducible first | exact HB.out | apply below_alloc | apply pw_below_drewN | apply below_drew1) | exact HB.out))) : w.heap.size ≤ gb387)); have n3_ := Aside0.mk ((by rw [hg]; exact (below_size (by repeat (first | (with_reducible first | exact HB.out | apply below_alloc | apply pw_below_drewN | apply below_drew1) | exact HB.out))) : w.heap.size ≤ gb387)); clear HB; have HB := n0_; have BK387 := n1_; have GW387 := n2_; have GE387 := n3_; clear n0_ n1_ n2_ n3_; clear hb hbox hg) | ((with_reducible refine gate_dst (N := 3) rfl ?_); refine box_event ?hg (N := 3) ?hd (cs := #[.int .u8 a1_0, .int .u16 a1_1, .slice A1_2 l1_2.length c1_2, .int .u16 a1_3, .int .u8 a1_4, .int .u8 a1_5, .slice A1_6 l1_6.length c1_6, .int .u16 a1_7, .int .u32 a1_8, .slice A1_9 l1_9.length c1_9, .slice A1_10 l1_10.length c1_10, .slice A1_11 l1_11.length c1_11, .slice A1_12 l1_12.length c1_12]) (t := 44) ?hr ?_; (case hd => rfl); (case hg => rfl); (case hr => first | (go_simp; done) | (go_simp; simp only [IntKind.wrap_u8, IntKind.wrap_u16, IntKind.wrap_u32, IntKind.wrap_u64]; done) | (go_simp; simp only [IntKind.wrap_u8, IntKind.wrap_u16, IntKind.wrap_u32, IntKind.wrap_u64, Int.tmod_eq_emod_of_nonneg (Int.natCast_nonneg _), Int.emod_emod]; done) | (go_simp; rfl)); intro gb388 hg w15 hbox hb; have n0_ := Aside0.mk (blk_below (g := gb387) (o := .cells #[.int .u8 a0_0, .int .u16 a0_1, .slice A0_2 l0_2.length c0_2, .int .u16 a0_3, .int .u8 a0_4, .int .u8 a0_5, .slice A0_6 l0_6.length c0_6, .int .u16 a0_7, .int .u32 a0_8, .slice A0_9 l0_9.length c0_9, .slice A0_10 l0_10.length c0_10, .slice A0_11 l0_11.length c0_11, .slice A0_12 l0_12.length c0_12] 44 (0, 0)) (by (with_reducible repeat (first | refine blk_drewN ?_ _ | refine blk_drew ?_ | refine blk_alloc ?_ _)); exact BK387.out) hb); have n1_ := Aside0.mk (below_step (by repeat (first | (with_reducible first | exact HB.out | apply below_alloc | apply pw_below_drewN | apply below_drew1 | refine below_set ?_ GE387.out) | exact HB.out)) hb); have n2_ := Aside0.mk (hbox); have n3_ := Aside0.mk ((by rw [hg]; exact (below_size (by repeat (first | (with_reducible first | exact HB.out | apply below_alloc | apply pw_below_drewN | apply below_drew1 | refine below_set ?_ GE387.out) | exact HB.out))) : w.heap.size ≤ gb388)); have n4_ := Aside0.mk ((by rw [hg]; exact (below_size (by repeat (first | (with_reducible first | exact HB.out | apply below_alloc | apply pw_below_drewN | apply below_drew1 | refine below_set ?_ GE387.out) | exact HB.out))) : w.heap.size ≤ gb388)); have n5_ := Aside0.mk ((by rw [hg]; exact Nat.ne_of_lt (blk_lt (g := gb387) (o := .cells #[.int .u8 a0_0, .int .u16 a0_1, .slice A0_2 l0_2.length c0_2, .int .u16 a0_3, .int .u8 a0_4, .int .u8 a0_5, .slice A0_6 l0_6.length c0_6, .int .u16 a0_7, .int .u32 a0_8, .slice A0_9 l0_9.length c0_9, .slice A0_10 l0_10.length c0_10, .slice A0_11 l0_11.length c0_11, .slice A0_12 l0_12.length c0_12] 44 (0, 0)) (by (with_reducible repeat (first | refine blk_drewN ?_ _ | refine blk_drew ?_ | refine blk_alloc ?_ _)); exact BK387.out)) : gb387 ≠ gb388)); have n6_ := Aside0.mk ((by rw [hg]; exact Nat.ne_of_gt (blk_lt (g := gb387) (o := .cells #[.int .u8 a0_0, .int .u16 a0_1, .slice A0_2 l0_2.length c0_2, .int .u16 a0_3, .int .u8 a0_4, .int .u8 a0_5, .slice A0_6 l0_6.length c0_6, .int .u16 a0_7, .int .u32 a0_8, .slice A0_9 l0_9.length c0_9, .slice A0_10 l0_10.length c0_10, .slice A0_11 l0_11.length c0_11, .slice A0_12 l0_12.length c0_12] 44 (0, 0)) (by (with_reducible repeat (first | refine blk_drewN ?_ _ | refine blk_drew ?_ | refine blk_alloc ?_ _)); exact BK387.out)) : gb388 ≠ gb387)); clear BK387; clear HB; have BK387 := n0_; have HB := n1_; have BK388 := n2_; have GW388 := n3_; have GE388 := n4_; have NB387_388 := n5_; have NB388_387 := n6_; clear n0_ n1_ n2_ n3_ n4_ n5_ n6_; clear hb hbox hg; have hnb16 := NB387_388.out; have hnc16 := NB388_387.out; obtain ⟨⟨hcz17_0, hcz17_1, hcz17_2, hcz17_3, hcz17_4, hcz17_5, hcz17_6, hcz17_7, hcz17_8, hcz17_9, hcz17_10, hcz17_11, hcz17_12⟩, hfz17_0, hfz17_1, hfz17_2, hfz17_3, hfz17_4, hfz17_5, hfz17_6, hfz17_7, hfz17_8, hfz17_9, hfz17_10, hfz17_11, hfz17_12⟩ := cz13 BK387.out; obtain ⟨⟨hcz18_0, hcz18_1, hcz18_2, hcz18_3, hcz18_4, hcz18_5, hcz18_6, hcz18_7, hcz18_8, hcz18_9, hcz18_10, hcz18_11, hcz18_12⟩, hfz18_0, hfz18_1, hfz18_2, hfz18_3, hfz18_4, hfz18_5, hfz18_6, hfz18_7, hfz18_8, hfz18_9, hfz18_10, hfz18_11, hfz18_12⟩ := cz13 BK388.out) | (go_at_call 20; (with_reducible refine (marlineref21_Same.calls k _ _ l0_2 _ _ l1_2 false _ ?side1 ?side2 ?side3 ?side4 A5.out).mono ?_); (case side1 => repeat (first | exact (Kd.C_below HR0_2.out HB.out) | (with_reducible refine Kd.C_alloc ?_ _) | (with_reducible refine Kd.C_drewN ?_ _) | (with_reducible refine Kd.C_drew ?_))); (case side2 => exact HC0_2.out); (case side3 => repeat (first | exact (Kd.C_below HR1_2.out HB.out) | (with_reducible refine Kd.C_alloc ?_ _) | (with_reducible refine Kd.C_drewN ?_ _) | (with_reducible refine Kd.C_drew ?_))); (case side4 => exact HC1_2.out); rintro e w' ⟨rfl, ⟨nd, rfl⟩⟩))
       go_ret
       exact ⟨by first | rfl | (simp [errW_none, errW_some] <;> rfl) | (simp [*, errW_none, errW_some] <;> rfl), by repeat (first | (with_reducible first | exact HB.out | apply below_alloc | apply pw_below_drewN | apply below_drew1 | refine below_set ?_ GE387.out | refine below_set ?_ GE388.out) | exact HB.out)⟩
   · rw [if_neg c4] at H
     have c4b0 : (a0_1 == a1_1) = false := beq_eq_false_iff_ne.mpr c4
     have c4b1 : (a0_1 != a1_1) = true := bne_iff_ne.mpr c4
     obtain rfl := Option.some.inj H
     go_enter Tryd.func12, Tryd.ntmps12
     go_wp2_with (first | ((with_reducible refine gate_dst (N := 2) rfl ?_); refine box_event ?hg (N := 2) ?hd (cs := #[.int .u8 a0_0, .int .u16 a0_1, .slice A0_2 l0_2.length c0_2, .int .u16 a0_3, .int .u8 a0_4, .int .u8 a0_5, .slice A0_6 l0_6.length c0_6, .int .u16 a0_7, .int .u32 a0_8, .slice A0_9 l0_9.length c0_9, .slice A0_10 l0_10.length c0_10, .slice A0_11 l0_11.length c0_11, .slice A0_12 l0_12.length c0_12]) (t := 44) ?hr ?_; (case hd => rfl); (case hg => rfl); (case hr => first | (go_simp; done) | (go_simp; simp only [IntKind.wrap_u8, IntKind.wrap_u16, IntKind.wrap_u32, IntKind.wrap_u64]; done) | (go_simp; simp only [IntKind.wrap_u8, IntKind.wrap_u16, IntKind.wrap_u32, IntKind.wrap_u64, Int.tmod_eq_emod_of_nonneg (Int.natCast_nonneg _), Int.emod_emod]; done) | (go_simp; rfl)); intro gb387 hg w19 hbox hb; have n0_ := Aside0.mk (below_step (by repeat (first | (with_reducible first | exact HB.out | apply below_alloc | apply pw_below_drewN | apply below_drew1) | exact HB.out)) hb); have n1_ := Aside0.mk (hbox); have n2_ := Aside0.mk ((by rw [hg]; exact (below_size (by repeat (first | (with_reducible first | exact HB.out | apply below_alloc | apply pw_below_drewN | apply below_drew1) | exact HB.out))) : w.heap.size ≤ gb387)); have n3_ := Aside0.mk ((by rw [hg]; exact (below_size (by repeat (first | (with_reducible first | exact HB.out | apply below_alloc | apply pw_below_drewN | apply below_drew1) | exact HB.out))) : w.heap.size ≤ gb387)); clear HB; have HB := n0_; have BK387 := n1_; have GW387 := n2_; have GE387 := n3_; clear n0_ n1_ n2_ n3_; clear hb hbox hg) | ((with_reducible refine gate_dst (N := 3) rfl ?_); refine box_event ?hg (N := 3) ?hd (cs := #[.int .u8 a1_0, .int .u16 a1_1, .slice A1_2 l1_2.length c1_2, .int .u16 a1_3, .int .u8 a1_4, .int .u8 a1_5, .slice A1_6 l1_6.length c1_6, .int .u16 a1_7, .int .u32 a1_8, .slice A1_9 l1_9.length c1_9, .slice A1_10 l1_10.length c1_10, .slice A1_11 l1_11.length c1_11, .slice A1_12 l1_12.length c1_12]) (t := 44) ?hr ?_; (case hd => rfl); (case hg => rfl); (case hr => first | (go_simp; done) | (go_simp; simp only [IntKind.wrap_u8, IntKind.wrap_u16, IntKind.wrap_u32, IntKind.wrap_u64]; done) | (go_simp; simp only [IntKind.wrap_u8, IntKind.wrap_u16, IntKind.wrap_u32, IntKind.wrap_u64, Int.tmod_eq_emod_of_nonneg (Int.natCast_nonneg _), Int.emod_emod]; done) | (go_simp; rfl)); intro gb388 hg w20 hbox hb; have n0_ := Aside0.mk (blk_below (g := gb387) (o := .cells #[.int .u8 a0_0, .int .u16 a0_1, .slice A0_2 l0_2.length c0_2, .int .u16 a0_3, .int .u8 a0_4, .int .u8 a0_5, .slice A0_6 l0_6.length c0_6, .int .u16 a0_7, .int .u32 a0_8, .slice A0_9 l0_9.length c0_9, .slice A0_10 l0_10.length c0_10, .slice A0_11 l0_11.length c0_11, .slice A0_12 l0_12.length c0_12] 44 (0, 0)) (by (with_reducible repeat (first | refine blk_drewN ?_ _ | refine blk_drew ?_ | refine blk_alloc ?_ _)); exact BK387.out) hb); have n1_ := Aside0.mk (below_step (by repeat (first | (with_reducible first | exact HB.out | apply below_alloc | apply pw_below_drewN | apply below_drew1 | refine below_set ?_ GE387.out) | exact HB.out)) hb); have n2_ := Aside0.mk (hbox); have n3_ := Aside0.mk ((by rw [hg]; exact (below_size (by repeat (first | (with_reducible first | exact HB.out | apply below_alloc | apply pw_below_drewN | apply below_drew1 | refine below_set ?_ GE387.out) | exact HB.out))) : w.heap.size ≤ gb388)); have n4_ := Aside0.mk ((by rw [hg]; exact (below_size (by repeat (first | (with_reducible first | exact HB.out | apply below_alloc | apply pw_below_drewN | apply below_drew1 | refine below_set ?_ GE387.out) | exact HB.out))) : w.heap.size ≤ gb388)); have n5_ := Aside0.mk ((by rw [hg]; exact Nat.ne_of_lt (blk_lt (g := gb387) (o := .cells #[.int .u8 a0_0, .int .u16 a0_1, .slice A0_2 l0_2.length c0_2, .int .u16 a0_3, .int .u8 a0_4, .int .u8 a0_5, .slice A0_6 l0_6.length c0_6, .int .u16 a0_7, .int .u32 a0_8, .slice A0_9 l0_9.length c0_9, .slice A0_10 l0_10.length c0_10, .slice A0_11 l0_11.length c0_11, .slice A0_12 l0_12.length c0_12] 44 (0, 0)) (by (with_reducible repeat (first | refine blk_drewN ?_ _ | refine blk_drew ?_ | refine blk_alloc ?_ _)); exact BK387.out)) : gb387 ≠ gb388)); have n6_ := Aside0.mk ((by rw [hg]; exact Nat.ne_of_gt (blk_lt (g := gb387) (o := .cells #[.int .u8 a0_0, .int .u16 a0_1, .slice A0_2 l0_2.length c0_2, .int .u16 a0_3, .int .u8 a0_4, .int .u8 a0_5, .slice A0_6 l0_6.length c0_6, .int .u16 a0_7, .int .u32 a0_8, .slice A0_9 l0_9.length c0_9, .slice A0_10 l0_10.length c0_10, .slice A0_11 l0_11.length c0_11, .slice A0_12 l0_12.length c0_12] 44 (0, 0)) (by (with_reducible repeat (first | refine blk_drewN ?_ _ | refine blk_drew ?_ | refine blk_alloc ?_ _)); exact BK387.out)) : gb388 ≠ gb387)); clear BK387; clear HB; have BK387 := n0_; have HB := n1_; have BK388 := n2_; have GW388 := n3_; have GE388 := n4_; have NB387_388 := n5_; have NB388_387 := n6_; clear n0_ n1_ n2_ n3_ n4_ n5_ n6_; clear hb hbox hg; have hnb21 := NB387_388.out; have hnc21 := NB388_387.out; obtain ⟨⟨hcz22_0, hcz22_1, hcz22_2, hcz22_3, hcz22_4, hcz22_5, hcz22_6, hcz22_7, hcz22_8, hcz22_9, hcz22_10, hcz22_11, hcz22_12⟩, hfz22_0, hfz22_1, hfz22_2, hfz22_3, hfz22_4, hfz22_5, hfz22_6, hfz22_7, hfz22_8, hfz22_9, hfz22_10, hfz22_11, hfz22_12⟩ := cz13 BK387.out; obtain ⟨⟨hcz23_0, hcz23_1, hcz23_2, hcz23_3, hcz23_4, hcz23_5, hcz23_6, hcz23_7, hcz23_8, hcz23_9, hcz23_10, hcz23_11, hcz23_12⟩, hfz23_0, hfz23_1, hfz23_2, hfz23_3, hfz23_4, hfz23_5, hfz23_6, hfz23_7, hfz23_8, hfz23_9, hfz23_10, hfz23_11, hfz23_12⟩ := cz13 BK388.out))
     go_ret
     exact ⟨by first | rfl | (simp [errW_none, errW_some] <;> rfl) | (simp [*, errW_none, errW_some] <;> rfl), by repeat (first | (with_reducible first | exact HB.out | apply below_alloc | apply pw_below_drewN | apply below_drew1 | refine below_set ?_ GE387.out | refine below_set ?_ GE388.out) | exact HB.out)⟩
 · rw [if_neg c3] at H
   have c3b0 : (a0_0 == a1_0) = false := beq_eq_false_iff_ne.mpr c3
   have c3b1 : (a0_0 != a1_0) = true := bne_iff_ne.mpr c3
   obtain rfl := Option.some.inj H
   go_enter Tryd.func12, Tryd.ntmps12
   go_wp2_with (first | ((with_reducible refine gate_dst (N := 2) rfl ?_); refine box_event ?hg (N := 2) ?hd (cs := #[.int .u8 a0_0, .int .u16 a0_1, .slice A0_2 l0_2.length c0_2, .int .u16 a0_3, .int .u8 a0_4, .int .u8 a0_5, .slice A0_6 l0_6.length c0_6, .int .u16 a0_7, .int .u32 a0_8, .slice A0_9 l0_9.length c0_9, .slice A0_10 l0_10.length c0_10, .slice A0_11 l0_11.length c0_11, .slice A0_12 l0_12.length c0_12]) (t := 44) ?hr ?_; (case hd => rfl); (case hg => rfl); (case hr => first | (go_simp; done) | (go_simp; simp only [IntKind.wrap_u8, IntKind.wrap_u16, IntKind.wrap_u32, IntKind.wrap_u64]; done) | (go_simp; simp only [IntKind.wrap_u8, IntKind.wrap_u16, IntKind.wrap_u32, IntKind.wrap_u64, Int.tmod_eq_emod_of_nonneg (Int.natCast_nonneg _), Int.emod_emod]; done) | (go_simp; rfl)); intro gb387 hg w24 hbox hb; have n0_ := Aside0.mk (below_step (by repeat (first | (with_reducible first | exact HB.out | apply below_alloc | apply pw_below_drewN | apply below_drew1) | exact HB.out)) hb); have n1_ := Aside0.mk (hbox); have n2_ := Aside0.mk ((by rw [hg]; exact (below_size (by repeat (first | (with_reducible first | exact HB.out | apply below_alloc | apply pw_below_drewN | apply below_drew1) | exact HB.out))) : w.heap.size ≤ gb387)); have n3_ := Aside0.mk ((by rw [hg]; exact (below_size (by repeat (first | (with_reducible first | exact HB.out | apply below_alloc | apply pw_below_drewN | apply below_drew1) | exact HB.out))) : w.heap.size ≤ gb387)); clear HB; have HB := n0_; have BK387 := n1_; have GW387 := n2_; have GE387 := n3_; clear n0_ n1_ n2_ n3_; clear hb hbox hg) | ((with_reducible refine gate_dst (N := 3) rfl ?_); refine box_event ?hg (N := 3) ?hd (cs := #[.int .u8 a1_0, .int .u16 a1_1, .slice A1_2 l1_2.length c1_2, .int .u16 a1_3, .int .u8 a1_4, .int .u8 a1_5, .slice A1_6 l1_6.length c1_6, .int .u16 a1_7, .int .u32 a1_8, .slice A1_9 l1_9.length c1_9, .slice A1_10 l1_10.length c1_10, .slice A1_11 l1_11.length c1_11, .slice A1_12 l1_12.length c1_12]) (t := 44) ?hr ?_; (case hd => rfl); (case hg => rfl); (case hr => first | (go_simp; done) | (go_simp; simp only [IntKind.wrap_u8, IntKind.wrap_u16, IntKind.wrap_u32, IntKind.wrap_u64]; done) | (go_simp; simp only [IntKind.wrap_u8, IntKind.wrap_u16, IntKind.wrap_u32, IntKind.wrap_u64, Int.tmod_eq_emod_of_nonneg (Int.natCast_nonneg _), Int.emod_emod]; done) | (go_simp; rfl)); intro gb388 hg w25 hbox hb; have n0_ := Aside0.mk (blk_below (g := gb387) (o := .cells #[.int .u8 a0_0, .int .u16 a0_1, .slice A0_2 l0_2.length c0_2, .int .u16 a0_3, .int .u8 a0_4, .int .u8 a0_5, .slice A0_6 l0_6.length c0_6, .int .u16 a0_7, .int .u32 a0_8, .slice A0_9 l0_9.length c0_9, .slice A0_10 l0_10.length c0_10, .slice A0_11 l0_11.length c0_11, .slice A0_12 l0_12.length c0_12] 44 (0, 0)) (by (with_reducible repeat (first | refine blk_drewN ?_ _ | refine blk_drew ?_ | refine blk_alloc ?_ _)); exact BK387.out) hb); have n1_ := Aside0.mk (below_step (by repeat (first | (with_reducible first | exact HB.out | apply below_alloc | apply pw_below_drewN | apply below_drew1 | refine below_set ?_ GE387.out) | exact HB.out)) hb); have n2_ := Aside0.mk (hbox); have n3_ := Aside0.mk ((by rw [hg]; exact (below_size (by repeat (first | (with_reducible first | exact HB.out | apply below_alloc | apply pw_below_drewN | apply below_drew1 | refine below_set ?_ GE387.out) | exact HB.out))) : w.heap.size ≤ gb388)); have n4_ := Aside0.mk ((by rw [hg]; exact (below_size (by repeat (first | (with_reducible first | exact HB.out | apply below_alloc | apply pw_below_drewN | apply below_drew1 | refine below_set ?_ GE387.out) | exact HB.out))) : w.heap.size ≤ gb388)); have n5_ := Aside0.mk ((by rw [hg]; exact Nat.ne_of_lt (blk_lt (g := gb387) (o := .cells #[.int .u8 a0_0, .int .u16 a0_1, .slice A0_2 l0_2.length c0_2, .int .u16 a0_3, .int .u8 a0_4, .int .u8 a0_5, .slice A0_6 l0_6.length c0_6, .int .u16 a0_7, .int .u32 a0_8, .slice A0_9 l0_9.length c0_9, .slice A0_10 l0_10.length c0_10, .slice A0_11 l0_11.length c0_11, .slice A0_12 l0_12.length c0_12] 44 (0, 0)) (by (with_reducible repeat (first | refine blk_drewN ?_ _ | refine blk_drew ?_ | refine blk_alloc ?_ _)); exact BK387.out)) : gb387 ≠ gb388)); have n6_ := Aside0.mk ((by rw [hg]; exact Nat.ne_of_gt (blk_lt (g := gb387) (o := .cells #[.int .u8 a0_0, .int .u16 a0_1, .slice A0_2 l0_2.length c0_2, .int .u16 a0_3, .int .u8 a0_4, .int .u8 a0_5, .slice A0_6 l0_6.length c0_6, .int .u16 a0_7, .int .u32 a0_8, .slice A0_9 l0_9.length c0_9, .slice A0_10 l0_10.length c0_10, .slice A0_11 l0_11.length c0_11, .slice A0_12 l0_12.length c0_12] 44 (0, 0)) (by (with_reducible repeat (first | refine blk_drewN ?_ _ | refine blk_drew ?_ | refine blk_alloc ?_ _)); exact BK387.out)) : gb388 ≠ gb387)); clear BK387; clear HB; have BK387 := n0_; have HB := n1_; have BK388 := n2_; have GW388 := n3_; have GE388 := n4_; have NB387_388 := n5_; have NB388_387 := n6_; clear n0_ n1_ n2_ n3_ n4_ n5_ n6_; clear hb hbox hg; have hnb26 := NB387_388.out; have hnc26 := NB388_387.out; obtain ⟨⟨hcz27_0, hcz27_1, hcz27_2, hcz27_3, hcz27_4, hcz27_5, hcz27_6, hcz27_7, hcz27_8, hcz27_9, hcz27_10, hcz27_11, hcz27_12⟩, hfz27_0, hfz27_1, hfz27_2, hfz27_3, hfz27_4, hfz27_5, hfz27_6, hfz27_7, hfz27_8, hfz27_9, hfz27_10, hfz27_11, hfz27_12⟩ := cz13 BK387.out; obtain ⟨⟨hcz28_0, hcz28_1, hcz28_2, hcz28_3, hcz28_4, hcz28_5, hcz28_6, hcz28_7, hcz28_8, hcz28_9, hcz28_10, hcz28_11, hcz28_12⟩, hfz28_0, hfz28_1, hfz28_2, hfz28_3, hfz28_4, hfz28_5, hfz28_6, hfz28_7, hfz28_8, hfz28_9, hfz28_10, hfz28_11, hfz28_12⟩ := cz13 BK388.out))
   go_ret
   exact ⟨by first | rfl | (simp [errW_none, errW_some] <;> rfl) | (simp [*, errW_none, errW_some] <;> rfl), by repeat (first | (with_reducible first | exact HB.out | apply below_alloc | apply pw_below_drewN | apply below_drew1 | refine below_set ?_ GE387.out | refine below_set ?_ GE388.out) | exact HB.out)⟩
end Go.Proofs.YteanncchmenlkaaDoor.Print
