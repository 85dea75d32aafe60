/- Texts of this claim, several in one, told shortly by a program of this claim (wip/x/shrink.py): what Go functions come to, and plain words on it. -/
import Derived.Test.YtgjeahgagciagaaShPapBack2
namespace Go.Proofs.Ytgjeahgagciagaa.Print
open Go.RowKit Go.Proofs.YtgjeahgagciagaaW.PrintWords Go.Proofs.YtgjeahgagciagaaW.PrintLast Go.Proofs.YtgjeahgagciagaaW.PrintMore
attribute [local go_sem] max2_int min2_int max_two min_two max_three min_three max_four min_four
set_option linter.unusedVariables false
set_option linter.unusedSimpArgs false
def putF (k : Nat) (code id : Int) : List Int → List (List Int) → Option (List Int × Int)
 | b, [] => ctl_Put.f k code id b
 | b, s :: t => if (s.length : Int) > 255 then some ([], 3) else if b.length + 1 + s.length < 140737488355328 then putF k code id ((b ++ [IntKind.u8.wrap (s.length : Int)]) ++ s) t else none
def papPut2 (k : Nat) (a0 code a2 : Int) (l3 : List S57) (a4 a5 : Int) (l6 l7 l8 l9 : List Int) : Option (List Int × Int) := if a0 = 49187 then (if 0 < wrap64 (wrap64 (wrap64 (wrap64 (l3.length : Int)) + (l8.length : Int)) + (l9.length : Int)) then some ([], 9) else if a4 = 0 then (if a5 = 0 then (slices_Clone_byte_byte.f l8).bind fun t => putF k code a2 t [l6, l7] else some ([], 9)) else some ([], 9)) else some ([], 8)
def papPut1 (k : Nat) (a0 code a2 : Int) (l3 : List S57) (a4 a5 : Int) (l6 l7 l8 l9 : List Int) : Option (List Int × Int) := if a0 = 49187 then (if 0 < wrap64 (wrap64 (wrap64 (wrap64 (l3.length : Int) + (l7.length : Int)) + (l8.length : Int)) + (l9.length : Int)) then some ([], 9) else if a4 = 0 then (if a5 = 0 then (slices_Clone_byte_byte.f l8).bind fun t => putF k code a2 t [l6] else some ([], 9)) else some ([], 9)) else some ([], 8)
def papPut0 (k : Nat) (a0 code a2 : Int) (l3 : List S57) (a4 a5 : Int) (l6 l7 l8 l9 : List Int) : Option (List Int × Int) := if a0 = 49187 then (if 0 < wrap64 (wrap64 (wrap64 (wrap64 ((l3.length : Int) + (l6.length : Int)) + (l7.length : Int))) + (l9.length : Int)) then some ([], 9) else if a4 = 0 then (if a5 = 0 then (slices_Clone_byte_byte.f l8).bind fun t => putF k code a2 t [] else some ([], 9)) else some ([], 9)) else some ([], 8)
set_option maxHeartbeats 16000000 in
set_option maxRecDepth 100000 in
theorem pt_put2 (k : Nat) (a0 code a2 a4 a5 : Int) (A3 A6 A7 A8 A9 : Option Addr) (c3 c6 c7 c8 c9 : Nat) (l3 : List S57) (l6 l7 l8 l9 : List Int) (r1 : List Int) (r2 : Int) (w : World) (hc : code = 1) (hr6 : Kd.C (Kd.int .u8) w A6 l6.length l6) (hr7 : Kd.C (Kd.int .u8) w A7 l7.length l7) (hr8 : Kd.C (Kd.int .u8) w A8 l8.length l8) (hc6 : l6.length ≤ c6) (hc7 : l7.length ≤ c7) (hc8 : l8.length ≤ c8) (h : papPut2 k a0 code a2 l3 a4 a5 l6 l7 l8 l9 = some (r1, r2)) :
 Calls Try.prog 31 #[.agg #[.int .u16 a0, .int .u8 code, .int .u8 a2, .slice A3 l3.length c3, .int .u16 a4, .int .u32 a5, .slice A6 l6.length c6, .slice A7 l7.length c7, .slice A8 l8.length c8, .slice A9 l9.length c9]] w fun x w' => ∃ v0_ : Value, x = .returned (.tuple #[v0_, .int .i64 r2]) ∧ Kd.R (Kd.int .u8) 5 w' w.heap.size (fun _ => True) v0_ r1 ∧ Below w.heap.size w w' := by
 have hu47 := Try.underlying47
 have HC := Aside0.mk hc
 have HR6 := Aside0.mk hr6
 have HR7 := Aside0.mk hr7
 have HR8 := Aside0.mk hr8
 have HC6 := Aside0.mk hc6
 have HC7 := Aside0.mk hc7
 have HC8 := Aside0.mk hc8
 have H := Aside0.mk h
 clear hc hr6 hr7 hr8 hc6 hc7 hc8 h
 go_enter Try.func31, Try.ntmps31
 go_upto_region 2 with (first | ((with_reducible refine gate_dst (N := 1) rfl ?_); refine box_event ?hg (N := 1) ?hd (cs := #[.int .u16 a0, .int .u8 code, .int .u8 a2, .slice A3 l3.length c3, .int .u16 a4, .int .u32 a5, .slice A6 l6.length c6, .slice A7 l7.length c7, .slice A8 l8.length c8, .slice A9 l9.length c9]) (t := 47) ?hr ?_; (case hd => rfl); (case hg => rfl); (case hr => first | (go_simp; done) | (go_simp; rfl)); intro g hgg w1 hbox hb; have BG := Aside0.mk hbox; have GG := Aside0.mk ((by rw [hgg]; exact Nat.le_refl _) : w.heap.size ≤ g); have HB := Aside0.mk hb; clear hbox hb hgg; have hz0 : w1.cell? ⟨g, 0, none⟩ = some (.int .u16 a0) := (blk_cell BG.out 0).trans rfl; have hz1 : w1.cell? ⟨g, 1, none⟩ = some (.int .u8 code) := (blk_cell BG.out 1).trans rfl; have hz2 : w1.cell? ⟨g, 2, none⟩ = some (.int .u8 a2) := (blk_cell BG.out 2).trans rfl; have hz3 : w1.cell? ⟨g, 3, none⟩ = some (.slice A3 l3.length c3) := (blk_cell BG.out 3).trans rfl; have hz4 : w1.cell? ⟨g, 4, none⟩ = some (.int .u16 a4) := (blk_cell BG.out 4).trans rfl; have hz5 : w1.cell? ⟨g, 5, none⟩ = some (.int .u32 a5) := (blk_cell BG.out 5).trans rfl; have hz6 : w1.cell? ⟨g, 6, none⟩ = some (.slice A6 l6.length c6) := (blk_cell BG.out 6).trans rfl; have hz7 : w1.cell? ⟨g, 7, none⟩ = some (.slice A7 l7.length c7) := (blk_cell BG.out 7).trans rfl; have hz8 : w1.cell? ⟨g, 8, none⟩ = some (.slice A8 l8.length c8) := (blk_cell BG.out 8).trans rfl; have hz9 : w1.cell? ⟨g, 9, none⟩ = some (.slice A9 l9.length c9) := (blk_cell BG.out 9).trans rfl) | (go_at_call 49; refine (pt_bare2 _ _ _ _ _ _ _ _ _ _ _ _ _ _ _ _ _ _ _ _ _ HC.out).mono ?_; rintro x w2 ⟨rfl, hb⟩; have n0_ := Aside0.mk (blk_below BG.out hb); have n1_ := Aside0.mk (below_step HB.out hb); clear BG HB hb hz0 hz1 hz2 hz3 hz4 hz5 hz6 hz7 hz8 hz9; have BG := n0_; have HB := n1_; clear n0_ n1_) | ((with_reducible refine gate_dst (N := 4) rfl ?_); refine box_event ?hg (N := 4) ?hd (cs := #[.int .u16 0, .int .u8 0, .int .u8 0, .slice none 0 0, .int .u16 0, .int .u32 0, .slice none 0 0, .slice none 0 0, .slice none 0 0, .slice none 0 0]) (t := 47) ?hr ?_; (case hd => rfl); (case hg => rfl); (case hr => first | (go_simp; done) | (go_simp; rfl)); intro gr hgr w3 hbox hb; have BR := Aside0.mk hbox; have NR := Aside0.mk ((by rw [hgr]; exact Nat.ne_of_lt (blk_lt BG.out)) : g ≠ gr); have GR := Aside0.mk ((by rw [hgr]; exact HB.out.size) : w.heap.size ≤ gr); have n0_ := Aside0.mk (blk_below BG.out hb); have n1_ := Aside0.mk (below_step HB.out hb); clear BG HB hbox hb hgr; have BG := n0_; have HB := n1_; clear n0_ n1_; have hr0 : w3.cell? ⟨gr, 0, none⟩ = some (.int .u16 0) := (blk_cell BR.out 0).trans rfl; have hr1 : w3.cell? ⟨gr, 1, none⟩ = some (.int .u8 0) := (blk_cell BR.out 1).trans rfl; have hr2 : w3.cell? ⟨gr, 2, none⟩ = some (.int .u8 0) := (blk_cell BR.out 2).trans rfl; have hr3 : w3.cell? ⟨gr, 3, none⟩ = some (.slice none 0 0) := (blk_cell BR.out 3).trans rfl; have hr4 : w3.cell? ⟨gr, 4, none⟩ = some (.int .u16 0) := (blk_cell BR.out 4).trans rfl; have hr5 : w3.cell? ⟨gr, 5, none⟩ = some (.int .u32 0) := (blk_cell BR.out 5).trans rfl; have hr6 : w3.cell? ⟨gr, 6, none⟩ = some (.slice none 0 0) := (blk_cell BR.out 6).trans rfl; have hr7 : w3.cell? ⟨gr, 7, none⟩ = some (.slice none 0 0) := (blk_cell BR.out 7).trans rfl; have hr8 : w3.cell? ⟨gr, 8, none⟩ = some (.slice none 0 0) := (blk_cell BR.out 8).trans rfl; have hr9 : w3.cell? ⟨gr, 9, none⟩ = some (.slice none 0 0) := (blk_cell BR.out 9).trans rfl; have hs0 := blk_frozen BR.out 0; have hs1 := blk_frozen BR.out 1; have hs2 := blk_frozen BR.out 2; have hs3 := blk_frozen BR.out 3; have hs4 := blk_frozen BR.out 4; have hs5 := blk_frozen BR.out 5; have hs6 := blk_frozen BR.out 6; have hs7 := blk_frozen BR.out 7; have hs8 := blk_frozen BR.out 8; have hs9 := blk_frozen BR.out 9))
 clear hr0 hr1 hr2 hr3 hr4 hr5 hr6 hr7 hr8 hr9 hs0 hs1 hs2 hs3 hs4 hs5 hs6 hs7 hs8 hs9
 have q0 := blk_put BR.out 0 (.int .u16 a0) (rfl : _ = (#[.int .u16 a0, .int .u8 0, .int .u8 0, .slice none 0 0, .int .u16 0, .int .u32 0, .slice none 0 0, .slice none 0 0, .slice none 0 0, .slice none 0 0] : Array Value))
 have q1 := blk_put q0 1 (.int .u8 code) (rfl : _ = (#[.int .u16 a0, .int .u8 code, .int .u8 0, .slice none 0 0, .int .u16 0, .int .u32 0, .slice none 0 0, .slice none 0 0, .slice none 0 0, .slice none 0 0] : Array Value))
 have q2 := blk_put q1 2 (.int .u8 a2) (rfl : _ = (#[.int .u16 a0, .int .u8 code, .int .u8 a2, .slice none 0 0, .int .u16 0, .int .u32 0, .slice none 0 0, .slice none 0 0, .slice none 0 0, .slice none 0 0] : Array Value))
 have q3 := blk_put q2 3 (.slice A3 l3.length c3) (rfl : _ = (#[.int .u16 a0, .int .u8 code, .int .u8 a2, .slice A3 l3.length c3, .int .u16 0, .int .u32 0, .slice none 0 0, .slice none 0 0, .slice none 0 0, .slice none 0 0] : Array Value))
 have q4 := blk_put q3 4 (.int .u16 a4) (rfl : _ = (#[.int .u16 a0, .int .u8 code, .int .u8 a2, .slice A3 l3.length c3, .int .u16 a4, .int .u32 0, .slice none 0 0, .slice none 0 0, .slice none 0 0, .slice none 0 0] : Array Value))
 have q5 := blk_put q4 5 (.int .u32 a5) (rfl : _ = (#[.int .u16 a0, .int .u8 code, .int .u8 a2, .slice A3 l3.length c3, .int .u16 a4, .int .u32 a5, .slice none 0 0, .slice none 0 0, .slice none 0 0, .slice none 0 0] : Array Value))
 have q6 := blk_put q5 6 (.slice none 0 0) (rfl : _ = (#[.int .u16 a0, .int .u8 code, .int .u8 a2, .slice A3 l3.length c3, .int .u16 a4, .int .u32 a5, .slice none 0 0, .slice none 0 0, .slice none 0 0, .slice none 0 0] : Array Value))
 have q7 := blk_put q6 7 (.slice none 0 0) (rfl : _ = (#[.int .u16 a0, .int .u8 code, .int .u8 a2, .slice A3 l3.length c3, .int .u16 a4, .int .u32 a5, .slice none 0 0, .slice none 0 0, .slice none 0 0, .slice none 0 0] : Array Value))
 have q8 := blk_put q7 8 (.slice A8 l8.length c8) (rfl : _ = (#[.int .u16 a0, .int .u8 code, .int .u8 a2, .slice A3 l3.length c3, .int .u16 a4, .int .u32 a5, .slice none 0 0, .slice none 0 0, .slice A8 l8.length c8, .slice none 0 0] : Array Value))
 have q9 := blk_put q8 9 (.slice A9 l9.length c9) (rfl : _ = (#[.int .u16 a0, .int .u8 code, .int .u8 a2, .slice A3 l3.length c3, .int .u16 a4, .int .u32 a5, .slice none 0 0, .slice none 0 0, .slice A8 l8.length c8, .slice A9 l9.length c9] : Array Value))
 have n0_ := Aside0.mk q9
 have n1_ := Aside0.mk (show (((((((((((w3.setCell ⟨gr, 0, none⟩ (.int .u16 a0)).setCell ⟨gr, 1, none⟩ (.int .u8 code)).setCell ⟨gr, 2, none⟩ (.int .u8 a2)).setCell ⟨gr, 3, none⟩ (.slice A3 l3.length c3)).setCell ⟨gr, 4, none⟩ (.int .u16 a4)).setCell ⟨gr, 5, none⟩ (.int .u32 a5)).setCell ⟨gr, 6, none⟩ (.slice none 0 0)).setCell ⟨gr, 7, none⟩ (.slice none 0 0)).setCell ⟨gr, 8, none⟩ (.slice A8 l8.length c8)).setCell ⟨gr, 9, none⟩ (.slice A9 l9.length c9))).heap[g]? = some (.cells #[.int .u16 a0, .int .u8 code, .int .u8 a2, .slice A3 l3.length c3, .int .u16 a4, .int .u32 a5, .slice A6 l6.length c6, .slice A7 l7.length c7, .slice A8 l8.length c8, .slice A9 l9.length c9] 47 (0, 0)) from (blk_far (p := ⟨gr, 9, none⟩) (blk_far (p := ⟨gr, 8, none⟩) (blk_far (p := ⟨gr, 7, none⟩) (blk_far (p := ⟨gr, 6, none⟩) (blk_far (p := ⟨gr, 5, none⟩) (blk_far (p := ⟨gr, 4, none⟩) (blk_far (p := ⟨gr, 3, none⟩) (blk_far (p := ⟨gr, 2, none⟩) (blk_far (p := ⟨gr, 1, none⟩) (blk_far (p := ⟨gr, 0, none⟩) BG.out NR.out (.int .u16 a0)) NR.out (.int .u8 code)) NR.out (.int .u8 a2)) NR.out (.slice A3 l3.length c3)) NR.out (.int .u16 a4)) NR.out (.int .u32 a5)) NR.out (.slice none 0 0)) NR.out (.slice none 0 0)) NR.out (.slice A8 l8.length c8)) NR.out (.slice A9 l9.length c9)))
 have n2_ := Aside0.mk (show Below w.heap.size w ((((((((((w3.setCell ⟨gr, 0, none⟩ (.int .u16 a0)).setCell ⟨gr, 1, none⟩ (.int .u8 code)).setCell ⟨gr, 2, none⟩ (.int .u8 a2)).setCell ⟨gr, 3, none⟩ (.slice A3 l3.length c3)).setCell ⟨gr, 4, none⟩ (.int .u16 a4)).setCell ⟨gr, 5, none⟩ (.int .u32 a5)).setCell ⟨gr, 6, none⟩ (.slice none 0 0)).setCell ⟨gr, 7, none⟩ (.slice none 0 0)).setCell ⟨gr, 8, none⟩ (.slice A8 l8.length c8)).setCell ⟨gr, 9, none⟩ (.slice A9 l9.length c9)) from (below_set (below_set (below_set (below_set (below_set (below_set (below_set (below_set (below_set (below_set HB.out GR.out) GR.out) GR.out) GR.out) GR.out) GR.out) GR.out) GR.out) GR.out) GR.out))
 clear BG BR HB q0 q1 q2 q3 q4 q5 q6 q7 q8 q9
 generalize ((((((((((w3.setCell ⟨gr, 0, none⟩ (.int .u16 a0)).setCell ⟨gr, 1, none⟩ (.int .u8 code)).setCell ⟨gr, 2, none⟩ (.int .u8 a2)).setCell ⟨gr, 3, none⟩ (.slice A3 l3.length c3)).setCell ⟨gr, 4, none⟩ (.int .u16 a4)).setCell ⟨gr, 5, none⟩ (.int .u32 a5)).setCell ⟨gr, 6, none⟩ (.slice none 0 0)).setCell ⟨gr, 7, none⟩ (.slice none 0 0)).setCell ⟨gr, 8, none⟩ (.slice A8 l8.length c8)).setCell ⟨gr, 9, none⟩ (.slice A9 l9.length c9)) = w5 at n0_ n1_ n2_ ⊢
 have BR := n0_
 have BG := n1_
 have HB := n2_
 clear n0_ n1_ n2_
 have hz0 : w5.cell? ⟨g, 0, none⟩ = some (.int .u16 a0) := (blk_cell BG.out 0).trans rfl
 have hz1 : w5.cell? ⟨g, 1, none⟩ = some (.int .u8 code) := (blk_cell BG.out 1).trans rfl
 have hz2 : w5.cell? ⟨g, 2, none⟩ = some (.int .u8 a2) := (blk_cell BG.out 2).trans rfl
 have hz3 : w5.cell? ⟨g, 3, none⟩ = some (.slice A3 l3.length c3) := (blk_cell BG.out 3).trans rfl
 have hz4 : w5.cell? ⟨g, 4, none⟩ = some (.int .u16 a4) := (blk_cell BG.out 4).trans rfl
 have hz5 : w5.cell? ⟨g, 5, none⟩ = some (.int .u32 a5) := (blk_cell BG.out 5).trans rfl
 have hz6 : w5.cell? ⟨g, 6, none⟩ = some (.slice A6 l6.length c6) := (blk_cell BG.out 6).trans rfl
 have hz7 : w5.cell? ⟨g, 7, none⟩ = some (.slice A7 l7.length c7) := (blk_cell BG.out 7).trans rfl
 have hz8 : w5.cell? ⟨g, 8, none⟩ = some (.slice A8 l8.length c8) := (blk_cell BG.out 8).trans rfl
 have hz9 : w5.cell? ⟨g, 9, none⟩ = some (.slice A9 l9.length c9) := (blk_cell BG.out 9).trans rfl
 have hr0 : w5.cell? ⟨gr, 0, none⟩ = some (.int .u16 a0) := (blk_cell BR.out 0).trans rfl
 have hr1 : w5.cell? ⟨gr, 1, none⟩ = some (.int .u8 code) := (blk_cell BR.out 1).trans rfl
 have hr2 : w5.cell? ⟨gr, 2, none⟩ = some (.int .u8 a2) := (blk_cell BR.out 2).trans rfl
 have hr3 : w5.cell? ⟨gr, 3, none⟩ = some (.slice A3 l3.length c3) := (blk_cell BR.out 3).trans rfl
 have hr4 : w5.cell? ⟨gr, 4, none⟩ = some (.int .u16 a4) := (blk_cell BR.out 4).trans rfl
 have hr5 : w5.cell? ⟨gr, 5, none⟩ = some (.int .u32 a5) := (blk_cell BR.out 5).trans rfl
 have hr6 : w5.cell? ⟨gr, 6, none⟩ = some (.slice none 0 0) := (blk_cell BR.out 6).trans rfl
 have hr7 : w5.cell? ⟨gr, 7, none⟩ = some (.slice none 0 0) := (blk_cell BR.out 7).trans rfl
 have hr8 : w5.cell? ⟨gr, 8, none⟩ = some (.slice A8 l8.length c8) := (blk_cell BR.out 8).trans rfl
 have hr9 : w5.cell? ⟨gr, 9, none⟩ = some (.slice A9 l9.length c9) := (blk_cell BR.out 9).trans rfl
 have h := H.out
 unfold papPut2 at h
 by_cases h0 : a0 = 49187
 · rw [if_pos h0] at h
   have hp0 : (a0 != 49187) = false := bne_eq_false_iff_eq.mpr h0
   clear h0
   by_cases hs : 0 < wrap64 (wrap64 (wrap64 (wrap64 (l3.length : Int)) + (l8.length : Int)) + (l9.length : Int))
   · rw [if_pos hs] at h
     have hs0 : decide (0 < wrap64 (wrap64 (wrap64 (wrap64 (l3.length : Int)) + (l8.length : Int)) + (l9.length : Int))) = true := decide_eq_true hs
     clear hs
     simp only [Option.some.injEq, Prod.mk.injEq] at h
     obtain ⟨rfl, rfl⟩ := h
     go_wp2
     go_ret2
     exact ⟨_, rfl, Kd.R_nil _ _ _ _ _, HB.out⟩
   · rw [if_neg hs] at h
     have hs0 : decide (0 < wrap64 (wrap64 (wrap64 (wrap64 (l3.length : Int)) + (l8.length : Int)) + (l9.length : Int))) = false := decide_eq_false hs
     clear hs
     by_cases h4 : a4 = 0
     · rw [if_pos h4] at h
       have hp4 : (a4 != 0) = false := bne_eq_false_iff_eq.mpr h4
       clear h4
       by_cases h5 : a5 = 0
       · rw [if_pos h5] at h
         have hp5 : (a5 != 0) = false := bne_eq_false_iff_eq.mpr h5
         clear h5
         obtain ⟨t8, hcl, h⟩ := Option.bind_eq_some_iff.mp h
         have HCL := Aside0.mk hcl
         replace H := Aside0.mk h
         clear hcl h
         go_wp2_with (first | (go_at_call 48; refine (slices_Clone_byte_byte.calls A8 c8 l8 t8 _ ?s1 ?s2 HCL.out).mono ?_; (case s1 => exact Kd.C_below HR8.out HB.out); (case s2 => exact HC8.out); rintro x w6 ⟨v, rfl, hv, hb⟩; have HV := Aside0.mk (Kd.R_lower hv HB.out.size); have n0_ := Aside0.mk (blk_below BG.out hb); have n1_ := Aside0.mk (below_step HB.out hb); clear BG BR HB hb hv; have BG := n0_; have HB := n1_; clear n0_ n1_) | (go_at_call 50; refine (pt_texts1 g code _ _ _ _ _ _ _ _ _ _ BG.out HC.out).mono ?_; rintro x w7 ⟨b, rfl, hlt, hcs, hb⟩; have n0_ := Aside0.mk (blk_below BG.out hb); have n1_ := Aside0.mk (Kd.R_below HV.out hb); have n2_ := Aside0.mk (below_step HB.out hb); have BP := Aside0.mk hcs; clear BG HV HB hb hlt hcs; have BG := n0_; have HV := n1_; have HB := n2_; clear n0_ n1_ n2_))
         obtain ⟨A0_, c0_, e0_⟩ := Kd.R_slice HV.out
         subst e0_
         go_loopg [50, 5, 7] 3 (fun kq v50 v5 v7 w' => ∃ (x : Nat) (bx : List Int) (A : Option Addr) (cx : Nat), v50 = .int .i64 x ∧ v5 = .slice A bx.length cx ∧ Aside0 (x + kq = 3 ∧ x ≤ 2) ∧ Aside0 (putF k code a2 bx (([l6, l7] : List (List Int)).drop x) = some (r1, r2)) ∧ Aside0 (Kd.R (Kd.int .u8) 5 w' w.heap.size (fun _ => True) (.slice A bx.length cx) bx) ∧ Aside0 (w'.heap[g]? = some (.cells #[.int .u16 a0, .int .u8 code, .int .u8 a2, .slice A3 l3.length c3, .int .u16 a4, .int .u32 a5, .slice A6 l6.length c6, .slice A7 l7.length c7, .slice A8 l8.length c8, .slice A9 l9.length c9] 47 (0, 0))) ∧ Aside0 (w'.heap[b]? = some (.cells (lieAt g 2) 83 (0, 0))) ∧ Aside0 (Below w.heap.size w w'))
         case atStart => exact ⟨0, t8, _, _, rfl, rfl, ⟨by omega⟩, H, HV, BG, BP, HB⟩
         case round =>
          clear BG BP HB HV H
          obtain ⟨x, bx, A, cx, rfl, rfl, hk, HF, HU, BG, BP, HB⟩ := hrel
          have hx : x = 0 ∨ x = 1 ∨ x = 2 := by have := hk.out.2; omega
          rcases hx with rfl | rfl | rfl
          · have HK := Aside0.mk hk.out
            clear hk
            have hz6 : wr.cell? ⟨g, 6, none⟩ = some (.slice A6 l6.length c6) := (blk_cell BG.out 6).trans rfl
            have hp : wr.cell? ⟨b, 0, none⟩ = some (.pointer (some ⟨g, 6, none⟩)) := (blk_cell BP.out 0).trans rfl
            have hf := HF.out
            simp only [List.drop_zero, List.drop_succ_cons, putF] at hf
            cases gk with
            | zero => have := HK.out; omega
            | succ k1 =>
             by_cases h255 : (l6.length : Int) > 255
             · rw [if_pos h255] at hf
               have hb0 : decide (255 < (l6.length : Int)) = true := decide_eq_true h255
               simp only [Option.some.injEq, Prod.mk.injEq] at hf
               obtain ⟨rfl, rfl⟩ := hf
               clear h255
               go_wp2
               go_ret2
               exact ⟨_, rfl, Kd.R_nil _ _ _ _ _, HB.out⟩
             · rw [if_neg h255] at hf
               have hb0 : decide (255 < (l6.length : Int)) = false := decide_eq_false h255
               split at hf
               · rename_i hlen
                 have HF2 := Aside0.mk hf
                 have HLEN := Aside0.mk hlen
                 clear hf hlen h255 HF
                 go_wp2
                 have n0_ := Aside0.mk (blk_drew BG.out)
                 have n1_ := Aside0.mk (blk_drew BP.out)
                 have n2_ := Aside0.mk (Kd.R_drew HU.out)
                 have n3_ := Aside0.mk (below_drew1 HB.out)
                 clear BG BP HU HB
                 have BG := n0_
                 have BP := n1_
                 have HU := n2_
                 have HB := n3_
                 clear n0_ n1_ n2_ n3_
                 have hcd : wr.drew.cell? ⟨g, 6, none⟩ = some (.slice A6 l6.length c6) := (blk_cell BG.out 6).trans rfl
                 refine start_ (n := 13) (S := fun w' => w'.cell? ⟨g, 6, none⟩ = some (.slice A6 l6.length c6)) (ds := []) #[false, false, false, false, false, false, false, false, false, false, false, false, false] (by kernel_rfl) rfl rfl (hcd) (fun hHeld => ?_)
                 clear hcd
                 generalize wr.drew = w8 at BG BP HU HB hHeld ⊢
                 refine pure_ (i := 0) (N := some 59) (v := ?_) (a' := ?_) #[true, false, false, false, false, false, false, false, false, false, false, false, false] rfl rfl (by kernel_rfl) (fun _ _ _ h => h) (Or.inl ⟨by rfl, ?_⟩) ?_ ?_
                 rotate_left
                 · intro w'
                   go_simp
                   with_reducible rfl
                 rotate_left
                 · simp only [Act.put, List.setIfInBounds_toArray, List.set_cons_zero, List.set_cons_succ, i64_w, i32_w]
                   rfl
                 refine pure_ (i := 1) (N := some 60) (v := ?_) (a' := ?_) #[true, true, false, false, false, false, false, false, false, false, false, false, false] rfl rfl (by kernel_rfl) (fun _ _ _ h => h) (Or.inl ⟨by rfl, ?_⟩) ?_ ?_
                 rotate_left
                 · intro w'
                   go_simp
                   with_reducible rfl
                 rotate_left
                 · simp only [Act.put, List.setIfInBounds_toArray, List.set_cons_zero, List.set_cons_succ, i64_w, i32_w]
                   rfl
                 refine pure_ (i := 2) (N := some 61) (v := ?_) (a' := ?_) #[true, true, true, false, false, false, false, false, false, false, false, false, false] rfl rfl (by kernel_rfl) (fun _ _ _ h => h) (Or.inl ⟨by rfl, ?_⟩) ?_ ?_
                 rotate_left
                 · intro w'
                   go_simp
                   with_reducible rfl
                 rotate_left
                 · simp only [Act.put, List.setIfInBounds_toArray, List.set_cons_zero, List.set_cons_succ, i64_w, i32_w]
                   rfl
                 refine pure_ (i := 8) (N := some 67) (v := ?_) (a' := ?_) #[true, true, true, false, false, false, false, false, true, false, false, false, false] rfl rfl (by kernel_rfl) (fun _ _ _ h => h) (Or.inl ⟨by rfl, ?_⟩) ?_ ?_
                 rotate_left
                 · intro w'
                   go_simp
                   with_reducible rfl
                 rotate_left
                 · simp only [Act.put, List.setIfInBounds_toArray, List.set_cons_zero, List.set_cons_succ, i64_w, i32_w]
                   rfl
                 refine pure_ (i := 9) (N := some 68) (v := ?_) (a' := ?_) #[true, true, true, false, false, false, false, false, true, true, false, false, false] rfl rfl (by kernel_rfl) (fun _ _ _ h => h) (Or.inl ⟨by rfl, ?_⟩) ?_ ?_
                 rotate_left
                 · intro w'
                   go_simp
                   with_reducible rfl
                 rotate_left
                 · simp only [Act.put, List.setIfInBounds_toArray, List.set_cons_zero, List.set_cons_succ, i64_w, i32_w]
                   rfl
                 refine take_ (i := 3) (N := some 62) (v := ?_) (a' := ?_) #[true, true, true, true, false, false, false, false, true, true, false, false, false] rfl rfl (by kernel_rfl) (fun _ _ _ h => h) (Or.inl ⟨by rfl, ?_⟩) hHeld ?_ ?_
                 rotate_left
                 · intro w' s0
                   go_simp
                   with_reducible rfl
                 rotate_left
                 · simp only [Act.put, List.setIfInBounds_toArray, List.set_cons_zero, List.set_cons_succ, i64_w, i32_w]
                   rfl
                 refine pure_ (i := 4) (N := some 63) (v := ?_) (a' := ?_) #[true, true, true, true, true, false, false, false, true, true, false, false, false] rfl rfl (by kernel_rfl) (fun _ _ _ h => h) (Or.inl ⟨by rfl, ?_⟩) ?_ ?_
                 rotate_left
                 · intro w'
                   go_simp
                   with_reducible rfl
                 rotate_left
                 · simp only [Act.put, List.setIfInBounds_toArray, List.set_cons_zero, List.set_cons_succ, i64_w, i32_w]
                   rfl
                 refine pure_ (i := 5) (N := some 64) (v := ?_) (a' := ?_) #[true, true, true, true, true, true, false, false, true, true, false, false, false] rfl rfl (by kernel_rfl) (fun _ _ _ h => h) (Or.inl ⟨by rfl, ?_⟩) ?_ ?_
                 rotate_left
                 · intro w'
                   go_simp
                   with_reducible rfl
                 rotate_left
                 · simp only [Act.put, List.setIfInBounds_toArray, List.set_cons_zero, List.set_cons_succ, i64_w, i32_w]
                   rfl
                 refine take_ (i := 10) (N := some 69) (v := ?_) (a' := ?_) #[true, true, true, true, true, true, false, false, true, true, true, false, false] rfl rfl (by kernel_rfl) (fun _ _ _ h => h) (Or.inl ⟨by rfl, ?_⟩) hHeld ?_ ?_
                 rotate_left
                 · intro w' s0
                   go_simp
                   with_reducible rfl
                 rotate_left
                 · simp only [Act.put, List.setIfInBounds_toArray, List.set_cons_zero, List.set_cons_succ, i64_w, i32_w]
                   rfl
                 refine one_ (i := 6) (N := some 65) #[true, true, true, true, true, true, true, false, true, true, true, false, false] rfl rfl (by kernel_rfl) (by decide) (fun K hK => ?_)
                 refine Kd.R_lit_step (Kd.int .u8) _ 5 ?hg (N := 65) ?hd (xs := ([(IntKind.u8.wrap (l6.length : Int))] : List Int)) (inner := [.int .u8 (IntKind.u8.wrap (l6.length : Int))]) (ok := fun _ => True) (okp := fun _ => True) ?hr ?hp (fun _ hk => hk) trivial (Below.refl _ _) (Nat.le_refl _) (by simp) ?_; (case hd => rfl); (case hg => rfl); (case hr => first | (go_simp; done) | (go_simp; rfl)); (case hp => exact (Reps.one (show Kd.M (Kd.int .u8) _ _ _ (IntKind.u8.wrap (l6.length : Int)) [.int .u8 (IntKind.u8.wrap (l6.length : Int))] from rfl) (Reps.none _ _)))
                 intro v10 w10 ho hb hg_ hnew_
                 clear hg_ hnew_
                 have HN := Aside0.mk (Kd.R_lower ho HB.out.size)
                 have HNA := Aside0.mk (Kd.R_new' ho (Kd.R_lt HU.out))
                 have n0_ := Aside0.mk (blk_below BG.out hb)
                 have n1_ := Aside0.mk (blk_below BP.out hb)
                 have n2_ := Aside0.mk (Kd.R_below HU.out hb)
                 have n3_ := Aside0.mk (below_step HB.out hb)
                 clear BG BP HU HB ho hb hHeld
                 have BG := n0_
                 have BP := n1_
                 have HU := n2_
                 have HB := n3_
                 clear n0_ n1_ n2_ n3_
                 obtain ⟨A10, c10, e10⟩ := Kd.R_slice HN.out
                 subst e10
                 refine hK.out _ _ ((blk_cell BG.out 6).trans rfl) (fun hHeld => ?_)
                 clear hK K
                 refine norm_ (a' := ?_) ?_ ?_
                 rotate_left
                 · show Act.put _ (some 65) _ = _
                   simp only [Act.put, List.setIfInBounds_toArray, List.set_cons_zero, List.set_cons_succ, i64_w, i32_w]
                   rfl
                 refine one_ (i := 7) (N := some 66) #[true, true, true, true, true, true, true, true, true, true, true, false, false] rfl rfl (by kernel_rfl) (by decide) (fun K hK => ?_)
                 refine Kd.R_append_rows_step (Kd.int .u8) (w0 := w) w.heap.size (by rfl) (.tmp 59) (.tmp 65) 23 5 (.int .u8 0) 1 rfl Try.underlying23 info5 rfl (by decide) (by omega) (.slice A bx.length cx) bx [(IntKind.u8.wrap (l6.length : Int))] _ _ _ (fun _ => True) (fun _ => False) rfl rfl ?aO ?aR (fun _ _ h => h) (fun _ h => h.elim) (fun _ _ => trivial) ?aB ?aS ?aL ?_
                 (case aR => exact (Kd.R_reads' HN.out).2.2)
                 (case aB => exact HB.out)
                 (case aO => exact Kd.R_mono HU.out (fun _ _ => trivial))
                 (case aS => exact (below_size HB.out))
                 (case aL => have := HLEN.out; (try simp only [List.length_append, List.length_cons, List.length_nil]); omega)
                 intro v11 w11 ho hb hg hat
                 have n0_ := Aside0.mk (blk_grown BG.out hg (Kd.R_ne HU.out BG.out (by decide)))
                 have n1_ := Aside0.mk (blk_grown BP.out hg (Kd.R_ne HU.out BP.out (by decide)))
                 have n2_ := Aside0.mk ho
                 have n3_ := Aside0.mk hb
                 clear BG BP HU HB ho hb hg hat hHeld
                 have BG := n0_
                 have BP := n1_
                 have HU := n2_
                 have HB := n3_
                 clear n0_ n1_ n2_ n3_
                 obtain ⟨Av11, cv11, ev11⟩ := Kd.R_slice HU.out
                 subst ev11
                 refine hK.out _ _ ((blk_cell BG.out 6).trans rfl) (fun hHeld => ?_)
                 clear hK K
                 refine norm_ (a' := ?_) ?_ ?_
                 rotate_left
                 · show Act.put _ (some 66) _ = _
                   simp only [Act.put, List.setIfInBounds_toArray, List.set_cons_zero, List.set_cons_succ, i64_w, i32_w]
                   rfl
                 refine one_ (i := 11) (N := some 70) #[true, true, true, true, true, true, true, true, true, true, true, true, false] rfl rfl (by kernel_rfl) (by decide) (fun K hK => ?_)
                 refine Kd.R_append_rows_step (Kd.int .u8) (w0 := w) w.heap.size (by rfl) (.tmp 66) (.tmp 69) 23 5 (.int .u8 0) 1 rfl Try.underlying23 info5 rfl (by decide) (by omega) (.slice Av11 (bx ++ [(IntKind.u8.wrap (l6.length : Int))]).length cv11) (bx ++ [(IntKind.u8.wrap (l6.length : Int))]) l6 _ _ _ (fun _ => True) (fun _ => False) rfl rfl ?aO ?aR (fun _ _ h => h) (fun _ h => h.elim) (fun _ _ => trivial) ?aB ?aS ?aL ?_
                 (case aR => exact Kd.C_below HR6.out HB.out)
                 (case aB => exact HB.out)
                 (case aO => exact Kd.R_mono HU.out (fun _ _ => trivial))
                 (case aS => exact (below_size HB.out))
                 (case aL => have := HLEN.out; (try simp only [List.length_append, List.length_cons, List.length_nil]); omega)
                 intro v12 w12 ho hb hg hat
                 have n0_ := Aside0.mk (blk_grown BG.out hg (Kd.R_ne HU.out BG.out (by decide)))
                 have n1_ := Aside0.mk (blk_grown BP.out hg (Kd.R_ne HU.out BP.out (by decide)))
                 have n2_ := Aside0.mk ho
                 have n3_ := Aside0.mk hb
                 clear BG BP HU HB ho hb hg hat hHeld
                 have BG := n0_
                 have BP := n1_
                 have HU := n2_
                 have HB := n3_
                 clear n0_ n1_ n2_ n3_
                 obtain ⟨Av12, cv12, ev12⟩ := Kd.R_slice HU.out
                 subst ev12
                 refine hK.out _ _ ((blk_cell BG.out 6).trans rfl) (fun hHeld => ?_)
                 clear hK K
                 refine norm_ (a' := ?_) ?_ ?_
                 rotate_left
                 · show Act.put _ (some 70) _ = _
                   simp only [Act.put, List.setIfInBounds_toArray, List.set_cons_zero, List.set_cons_succ, i64_w, i32_w]
                   rfl
                 refine pure_ (i := 12) (N := some 5) (v := ?_) (a' := ?_) #[true, true, true, true, true, true, true, true, true, true, true, true, true] rfl rfl (by kernel_rfl) (fun _ _ _ h => h) (Or.inl ⟨by rfl, ?_⟩) ?_ ?_
                 rotate_left
                 · intro w'
                   go_simp
                   with_reducible rfl
                 rotate_left
                 · simp only [Act.put, List.setIfInBounds_toArray, List.set_cons_zero, List.set_cons_succ, i64_w, i32_w]
                   rfl
                 refine done_ (by kernel_rfl) ?_
                 have HF3 := Aside0.mk HF2.out
                 go_wp2
                 go_roundg k1
                 case measure => have := HK.out; omega
                 case rel => exact ⟨1, (bx ++ [(IntKind.u8.wrap (l6.length : Int))]) ++ l6, _, _, rfl, (by first | rfl | (rw [show ((bx ++ [(IntKind.u8.wrap (l6.length : Int))]) ++ l6).length = bx.length + (l6.length + 1) by simp only [List.length_append, List.length_cons, List.length_nil]; omega])), ⟨by have := HK.out; omega⟩, HF2, HU, BG, BP, HB⟩
               · cases hf
          · have HK := Aside0.mk hk.out
            clear hk
            have hz7 : wr.cell? ⟨g, 7, none⟩ = some (.slice A7 l7.length c7) := (blk_cell BG.out 7).trans rfl
            have hp : wr.cell? ⟨b, 1, none⟩ = some (.pointer (some ⟨g, 7, none⟩)) := (blk_cell BP.out 1).trans rfl
            have hf := HF.out
            simp only [List.drop_zero, List.drop_succ_cons, putF] at hf
            cases gk with
            | zero => have := HK.out; omega
            | succ k1 =>
             by_cases h255 : (l7.length : Int) > 255
             · rw [if_pos h255] at hf
               have hb0 : decide (255 < (l7.length : Int)) = true := decide_eq_true h255
               simp only [Option.some.injEq, Prod.mk.injEq] at hf
               obtain ⟨rfl, rfl⟩ := hf
               clear h255
               go_wp2
               go_ret2
               exact ⟨_, rfl, Kd.R_nil _ _ _ _ _, HB.out⟩
             · rw [if_neg h255] at hf
               have hb0 : decide (255 < (l7.length : Int)) = false := decide_eq_false h255
               split at hf
               · rename_i hlen
                 have HF2 := Aside0.mk hf
                 have HLEN := Aside0.mk hlen
                 clear hf hlen h255 HF
                 go_wp2
                 have n0_ := Aside0.mk (blk_drew BG.out)
                 have n1_ := Aside0.mk (blk_drew BP.out)
                 have n2_ := Aside0.mk (Kd.R_drew HU.out)
                 have n3_ := Aside0.mk (below_drew1 HB.out)
                 clear BG BP HU HB
                 have BG := n0_
                 have BP := n1_
                 have HU := n2_
                 have HB := n3_
                 clear n0_ n1_ n2_ n3_
                 have hcd : wr.drew.cell? ⟨g, 7, none⟩ = some (.slice A7 l7.length c7) := (blk_cell BG.out 7).trans rfl
                 refine start_ (n := 13) (S := fun w' => w'.cell? ⟨g, 7, none⟩ = some (.slice A7 l7.length c7)) (ds := []) #[false, false, false, false, false, false, false, false, false, false, false, false, false] (by kernel_rfl) rfl rfl (hcd) (fun hHeld => ?_)
                 clear hcd
                 generalize wr.drew = w8 at BG BP HU HB hHeld ⊢
                 refine pure_ (i := 0) (N := some 59) (v := ?_) (a' := ?_) #[true, false, false, false, false, false, false, false, false, false, false, false, false] rfl rfl (by kernel_rfl) (fun _ _ _ h => h) (Or.inl ⟨by rfl, ?_⟩) ?_ ?_
                 rotate_left
                 · intro w'
                   go_simp
                   with_reducible rfl
                 rotate_left
                 · simp only [Act.put, List.setIfInBounds_toArray, List.set_cons_zero, List.set_cons_succ, i64_w, i32_w]
                   rfl
                 refine pure_ (i := 1) (N := some 60) (v := ?_) (a' := ?_) #[true, true, false, false, false, false, false, false, false, false, false, false, false] rfl rfl (by kernel_rfl) (fun _ _ _ h => h) (Or.inl ⟨by rfl, ?_⟩) ?_ ?_
                 rotate_left
                 · intro w'
                   go_simp
                   with_reducible rfl
                 rotate_left
                 · simp only [Act.put, List.setIfInBounds_toArray, List.set_cons_zero, List.set_cons_succ, i64_w, i32_w]
                   rfl
                 refine pure_ (i := 2) (N := some 61) (v := ?_) (a' := ?_) #[true, true, true, false, false, false, false, false, false, false, false, false, false] rfl rfl (by kernel_rfl) (fun _ _ _ h => h) (Or.inl ⟨by rfl, ?_⟩) ?_ ?_
                 rotate_left
                 · intro w'
                   go_simp
                   with_reducible rfl
                 rotate_left
                 · simp only [Act.put, List.setIfInBounds_toArray, List.set_cons_zero, List.set_cons_succ, i64_w, i32_w]
                   rfl
                 refine pure_ (i := 8) (N := some 67) (v := ?_) (a' := ?_) #[true, true, true, false, false, false, false, false, true, false, false, false, false] rfl rfl (by kernel_rfl) (fun _ _ _ h => h) (Or.inl ⟨by rfl, ?_⟩) ?_ ?_
                 rotate_left
                 · intro w'
                   go_simp
                   with_reducible rfl
                 rotate_left
                 · simp only [Act.put, List.setIfInBounds_toArray, List.set_cons_zero, List.set_cons_succ, i64_w, i32_w]
                   rfl
                 refine pure_ (i := 9) (N := some 68) (v := ?_) (a' := ?_) #[true, true, true, false, false, false, false, false, true, true, false, false, false] rfl rfl (by kernel_rfl) (fun _ _ _ h => h) (Or.inl ⟨by rfl, ?_⟩) ?_ ?_
                 rotate_left
                 · intro w'
                   go_simp
                   with_reducible rfl
                 rotate_left
                 · simp only [Act.put, List.setIfInBounds_toArray, List.set_cons_zero, List.set_cons_succ, i64_w, i32_w]
                   rfl
                 refine take_ (i := 3) (N := some 62) (v := ?_) (a' := ?_) #[true, true, true, true, false, false, false, false, true, true, false, false, false] rfl rfl (by kernel_rfl) (fun _ _ _ h => h) (Or.inl ⟨by rfl, ?_⟩) hHeld ?_ ?_
                 rotate_left
                 · intro w' s0
                   go_simp
                   with_reducible rfl
                 rotate_left
                 · simp only [Act.put, List.setIfInBounds_toArray, List.set_cons_zero, List.set_cons_succ, i64_w, i32_w]
                   rfl
                 refine pure_ (i := 4) (N := some 63) (v := ?_) (a' := ?_) #[true, true, true, true, true, false, false, false, true, true, false, false, false] rfl rfl (by kernel_rfl) (fun _ _ _ h => h) (Or.inl ⟨by rfl, ?_⟩) ?_ ?_
                 rotate_left
                 · intro w'
                   go_simp
                   with_reducible rfl
                 rotate_left
                 · simp only [Act.put, List.setIfInBounds_toArray, List.set_cons_zero, List.set_cons_succ, i64_w, i32_w]
                   rfl
                 refine pure_ (i := 5) (N := some 64) (v := ?_) (a' := ?_) #[true, true, true, true, true, true, false, false, true, true, false, false, false] rfl rfl (by kernel_rfl) (fun _ _ _ h => h) (Or.inl ⟨by rfl, ?_⟩) ?_ ?_
                 rotate_left
                 · intro w'
                   go_simp
                   with_reducible rfl
                 rotate_left
                 · simp only [Act.put, List.setIfInBounds_toArray, List.set_cons_zero, List.set_cons_succ, i64_w, i32_w]
                   rfl
                 refine take_ (i := 10) (N := some 69) (v := ?_) (a' := ?_) #[true, true, true, true, true, true, false, false, true, true, true, false, false] rfl rfl (by kernel_rfl) (fun _ _ _ h => h) (Or.inl ⟨by rfl, ?_⟩) hHeld ?_ ?_
                 rotate_left
                 · intro w' s0
                   go_simp
                   with_reducible rfl
                 rotate_left
                 · simp only [Act.put, List.setIfInBounds_toArray, List.set_cons_zero, List.set_cons_succ, i64_w, i32_w]
                   rfl
                 refine one_ (i := 6) (N := some 65) #[true, true, true, true, true, true, true, false, true, true, true, false, false] rfl rfl (by kernel_rfl) (by decide) (fun K hK => ?_)
                 refine Kd.R_lit_step (Kd.int .u8) _ 5 ?hg (N := 65) ?hd (xs := ([(IntKind.u8.wrap (l7.length : Int))] : List Int)) (inner := [.int .u8 (IntKind.u8.wrap (l7.length : Int))]) (ok := fun _ => True) (okp := fun _ => True) ?hr ?hp (fun _ hk => hk) trivial (Below.refl _ _) (Nat.le_refl _) (by simp) ?_; (case hd => rfl); (case hg => rfl); (case hr => first | (go_simp; done) | (go_simp; rfl)); (case hp => exact (Reps.one (show Kd.M (Kd.int .u8) _ _ _ (IntKind.u8.wrap (l7.length : Int)) [.int .u8 (IntKind.u8.wrap (l7.length : Int))] from rfl) (Reps.none _ _)))
                 intro v10 w10 ho hb hg_ hnew_
                 clear hg_ hnew_
                 have HN := Aside0.mk (Kd.R_lower ho HB.out.size)
                 have HNA := Aside0.mk (Kd.R_new' ho (Kd.R_lt HU.out))
                 have n0_ := Aside0.mk (blk_below BG.out hb)
                 have n1_ := Aside0.mk (blk_below BP.out hb)
                 have n2_ := Aside0.mk (Kd.R_below HU.out hb)
                 have n3_ := Aside0.mk (below_step HB.out hb)
                 clear BG BP HU HB ho hb hHeld
                 have BG := n0_
                 have BP := n1_
                 have HU := n2_
                 have HB := n3_
                 clear n0_ n1_ n2_ n3_
                 obtain ⟨A10, c10, e10⟩ := Kd.R_slice HN.out
                 subst e10
                 refine hK.out _ _ ((blk_cell BG.out 7).trans rfl) (fun hHeld => ?_)
                 clear hK K
                 refine norm_ (a' := ?_) ?_ ?_
                 rotate_left
                 · show Act.put _ (some 65) _ = _
                   simp only [Act.put, List.setIfInBounds_toArray, List.set_cons_zero, List.set_cons_succ, i64_w, i32_w]
                   rfl
                 refine one_ (i := 7) (N := some 66) #[true, true, true, true, true, true, true, true, true, true, true, false, false] rfl rfl (by kernel_rfl) (by decide) (fun K hK => ?_)
                 refine Kd.R_append_rows_step (Kd.int .u8) (w0 := w) w.heap.size (by rfl) (.tmp 59) (.tmp 65) 23 5 (.int .u8 0) 1 rfl Try.underlying23 info5 rfl (by decide) (by omega) (.slice A bx.length cx) bx [(IntKind.u8.wrap (l7.length : Int))] _ _ _ (fun _ => True) (fun _ => False) rfl rfl ?aO ?aR (fun _ _ h => h) (fun _ h => h.elim) (fun _ _ => trivial) ?aB ?aS ?aL ?_
                 (case aR => exact (Kd.R_reads' HN.out).2.2)
                 (case aB => exact HB.out)
                 (case aO => exact Kd.R_mono HU.out (fun _ _ => trivial))
                 (case aS => exact (below_size HB.out))
                 (case aL => have := HLEN.out; (try simp only [List.length_append, List.length_cons, List.length_nil]); omega)
                 intro v11 w11 ho hb hg hat
                 have n0_ := Aside0.mk (blk_grown BG.out hg (Kd.R_ne HU.out BG.out (by decide)))
                 have n1_ := Aside0.mk (blk_grown BP.out hg (Kd.R_ne HU.out BP.out (by decide)))
                 have n2_ := Aside0.mk ho
                 have n3_ := Aside0.mk hb
                 clear BG BP HU HB ho hb hg hat hHeld
                 have BG := n0_
                 have BP := n1_
                 have HU := n2_
                 have HB := n3_
                 clear n0_ n1_ n2_ n3_
                 obtain ⟨Av11, cv11, ev11⟩ := Kd.R_slice HU.out
                 subst ev11
                 refine hK.out _ _ ((blk_cell BG.out 7).trans rfl) (fun hHeld => ?_)
                 clear hK K
                 refine norm_ (a' := ?_) ?_ ?_
                 rotate_left
                 · show Act.put _ (some 66) _ = _
                   simp only [Act.put, List.setIfInBounds_toArray, List.set_cons_zero, List.set_cons_succ, i64_w, i32_w]
                   rfl
                 refine one_ (i := 11) (N := some 70) #[true, true, true, true, true, true, true, true, true, true, true, true, false] rfl rfl (by kernel_rfl) (by decide) (fun K hK => ?_)
                 refine Kd.R_append_rows_step (Kd.int .u8) (w0 := w) w.heap.size (by rfl) (.tmp 66) (.tmp 69) 23 5 (.int .u8 0) 1 rfl Try.underlying23 info5 rfl (by decide) (by omega) (.slice Av11 (bx ++ [(IntKind.u8.wrap (l7.length : Int))]).length cv11) (bx ++ [(IntKind.u8.wrap (l7.length : Int))]) l7 _ _ _ (fun _ => True) (fun _ => False) rfl rfl ?aO ?aR (fun _ _ h => h) (fun _ h => h.elim) (fun _ _ => trivial) ?aB ?aS ?aL ?_
                 (case aR => exact Kd.C_below HR7.out HB.out)
                 (case aB => exact HB.out)
                 (case aO => exact Kd.R_mono HU.out (fun _ _ => trivial))
                 (case aS => exact (below_size HB.out))
                 (case aL => have := HLEN.out; (try simp only [List.length_append, List.length_cons, List.length_nil]); omega)
                 intro v12 w12 ho hb hg hat
                 have n0_ := Aside0.mk (blk_grown BG.out hg (Kd.R_ne HU.out BG.out (by decide)))
                 have n1_ := Aside0.mk (blk_grown BP.out hg (Kd.R_ne HU.out BP.out (by decide)))
                 have n2_ := Aside0.mk ho
                 have n3_ := Aside0.mk hb
                 clear BG BP HU HB ho hb hg hat hHeld
                 have BG := n0_
                 have BP := n1_
                 have HU := n2_
                 have HB := n3_
                 clear n0_ n1_ n2_ n3_
                 obtain ⟨Av12, cv12, ev12⟩ := Kd.R_slice HU.out
                 subst ev12
                 refine hK.out _ _ ((blk_cell BG.out 7).trans rfl) (fun hHeld => ?_)
                 clear hK K
                 refine norm_ (a' := ?_) ?_ ?_
                 rotate_left
                 · show Act.put _ (some 70) _ = _
                   simp only [Act.put, List.setIfInBounds_toArray, List.set_cons_zero, List.set_cons_succ, i64_w, i32_w]
                   rfl
                 refine pure_ (i := 12) (N := some 5) (v := ?_) (a' := ?_) #[true, true, true, true, true, true, true, true, true, true, true, true, true] rfl rfl (by kernel_rfl) (fun _ _ _ h => h) (Or.inl ⟨by rfl, ?_⟩) ?_ ?_
                 rotate_left
                 · intro w'
                   go_simp
                   with_reducible rfl
                 rotate_left
                 · simp only [Act.put, List.setIfInBounds_toArray, List.set_cons_zero, List.set_cons_succ, i64_w, i32_w]
                   rfl
                 refine done_ (by kernel_rfl) ?_
                 have HF3 := Aside0.mk HF2.out
                 go_wp2
                 go_roundg k1
                 case measure => have := HK.out; omega
                 case rel => exact ⟨2, (bx ++ [(IntKind.u8.wrap (l7.length : Int))]) ++ l7, _, _, rfl, (by first | rfl | (rw [show ((bx ++ [(IntKind.u8.wrap (l7.length : Int))]) ++ l7).length = bx.length + (l7.length + 1) by simp only [List.length_append, List.length_cons, List.length_nil]; omega])), ⟨by have := HK.out; omega⟩, HF2, HU, BG, BP, HB⟩
               · cases hf
          · clear hk
            replace HF : Aside0 (ctl_Put.f k code a2 bx = some (r1, r2)) := HF
            have hz1 : wr.cell? ⟨g, 1, none⟩ = some (.int .u8 code) := (blk_cell BG.out 1).trans rfl
            have hz2 : wr.cell? ⟨g, 2, none⟩ = some (.int .u8 a2) := (blk_cell BG.out 2).trans rfl
            go_wp2_with (first | (go_at_call 51; refine (ctl_Put.calls k code a2 _ _ bx r1 r2 _ ?s1 ?s2 HF.out).mono ?_; (case s1 => exact (Kd.R_reads' HU.out).2.2); (case s2 => exact (Kd.R_reads' HU.out).2.1); rintro x w9 ⟨v0, rfl, ho, hb⟩; have HO := Aside0.mk (Kd.R_lower ho HB.out.size); have HBF := Aside0.mk (below_step HB.out hb); clear ho hb))
            go_ret2
            exact ⟨_, rfl, HO.out, HBF.out⟩
       · rw [if_neg h5] at h
         have hp5 : (a5 != 0) = true := bne_iff_ne.mpr h5
         clear h5
         simp only [Option.some.injEq, Prod.mk.injEq] at h
         obtain ⟨rfl, rfl⟩ := h
         go_wp2
         go_ret2
         exact ⟨_, rfl, Kd.R_nil _ _ _ _ _, HB.out⟩
     · rw [if_neg h4] at h
       have hp4 : (a4 != 0) = true := bne_iff_ne.mpr h4
       clear h4
       simp only [Option.some.injEq, Prod.mk.injEq] at h
       obtain ⟨rfl, rfl⟩ := h
       go_wp2
       go_ret2
       exact ⟨_, rfl, Kd.R_nil _ _ _ _ _, HB.out⟩
 · rw [if_neg h0] at h
   have hp0 : (a0 != 49187) = true := bne_iff_ne.mpr h0
   clear h0
   simp only [Option.some.injEq, Prod.mk.injEq] at h
   obtain ⟨rfl, rfl⟩ := h
   go_wp2
   go_ret2
   exact ⟨_, rfl, Kd.R_nil _ _ _ _ _, HB.out⟩
set_option maxHeartbeats 16000000 in
set_option maxRecDepth 100000 in
theorem pt_put1 (k : Nat) (a0 code a2 a4 a5 : Int) (A3 A6 A7 A8 A9 : Option Addr) (c3 c6 c7 c8 c9 : Nat) (l3 : List S57) (l6 l7 l8 l9 : List Int) (r1 : List Int) (r2 : Int) (w : World) (hc : code = 2 ∨ code = 3) (hr6 : Kd.C (Kd.int .u8) w A6 l6.length l6) (hr7 : Kd.C (Kd.int .u8) w A7 l7.length l7) (hr8 : Kd.C (Kd.int .u8) w A8 l8.length l8) (hc6 : l6.length ≤ c6) (hc7 : l7.length ≤ c7) (hc8 : l8.length ≤ c8) (h : papPut1 k a0 code a2 l3 a4 a5 l6 l7 l8 l9 = some (r1, r2)) :
 Calls Try.prog 31 #[.agg #[.int .u16 a0, .int .u8 code, .int .u8 a2, .slice A3 l3.length c3, .int .u16 a4, .int .u32 a5, .slice A6 l6.length c6, .slice A7 l7.length c7, .slice A8 l8.length c8, .slice A9 l9.length c9]] w fun x w' => ∃ v0_ : Value, x = .returned (.tuple #[v0_, .int .i64 r2]) ∧ Kd.R (Kd.int .u8) 5 w' w.heap.size (fun _ => True) v0_ r1 ∧ Below w.heap.size w w' := by
 have hu47 := Try.underlying47
 have HC := Aside0.mk hc
 have HR6 := Aside0.mk hr6
 have HR7 := Aside0.mk hr7
 have HR8 := Aside0.mk hr8
 have HC6 := Aside0.mk hc6
 have HC7 := Aside0.mk hc7
 have HC8 := Aside0.mk hc8
 have H := Aside0.mk h
 clear hc hr6 hr7 hr8 hc6 hc7 hc8 h
 go_enter Try.func31, Try.ntmps31
 go_upto_region 2 with (first | ((with_reducible refine gate_dst (N := 1) rfl ?_); refine box_event ?hg (N := 1) ?hd (cs := #[.int .u16 a0, .int .u8 code, .int .u8 a2, .slice A3 l3.length c3, .int .u16 a4, .int .u32 a5, .slice A6 l6.length c6, .slice A7 l7.length c7, .slice A8 l8.length c8, .slice A9 l9.length c9]) (t := 47) ?hr ?_; (case hd => rfl); (case hg => rfl); (case hr => first | (go_simp; done) | (go_simp; rfl)); intro g hgg w1 hbox hb; have BG := Aside0.mk hbox; have GG := Aside0.mk ((by rw [hgg]; exact Nat.le_refl _) : w.heap.size ≤ g); have HB := Aside0.mk hb; clear hbox hb hgg; have hz0 : w1.cell? ⟨g, 0, none⟩ = some (.int .u16 a0) := (blk_cell BG.out 0).trans rfl; have hz1 : w1.cell? ⟨g, 1, none⟩ = some (.int .u8 code) := (blk_cell BG.out 1).trans rfl; have hz2 : w1.cell? ⟨g, 2, none⟩ = some (.int .u8 a2) := (blk_cell BG.out 2).trans rfl; have hz3 : w1.cell? ⟨g, 3, none⟩ = some (.slice A3 l3.length c3) := (blk_cell BG.out 3).trans rfl; have hz4 : w1.cell? ⟨g, 4, none⟩ = some (.int .u16 a4) := (blk_cell BG.out 4).trans rfl; have hz5 : w1.cell? ⟨g, 5, none⟩ = some (.int .u32 a5) := (blk_cell BG.out 5).trans rfl; have hz6 : w1.cell? ⟨g, 6, none⟩ = some (.slice A6 l6.length c6) := (blk_cell BG.out 6).trans rfl; have hz7 : w1.cell? ⟨g, 7, none⟩ = some (.slice A7 l7.length c7) := (blk_cell BG.out 7).trans rfl; have hz8 : w1.cell? ⟨g, 8, none⟩ = some (.slice A8 l8.length c8) := (blk_cell BG.out 8).trans rfl; have hz9 : w1.cell? ⟨g, 9, none⟩ = some (.slice A9 l9.length c9) := (blk_cell BG.out 9).trans rfl) | (go_at_call 49; refine (pt_bare1 _ _ _ _ _ _ _ _ _ _ _ _ _ _ _ _ _ _ _ _ _ HC.out).mono ?_; rintro x w2 ⟨rfl, hb⟩; have n0_ := Aside0.mk (blk_below BG.out hb); have n1_ := Aside0.mk (below_step HB.out hb); clear BG HB hb hz0 hz1 hz2 hz3 hz4 hz5 hz6 hz7 hz8 hz9; have BG := n0_; have HB := n1_; clear n0_ n1_) | ((with_reducible refine gate_dst (N := 4) rfl ?_); refine box_event ?hg (N := 4) ?hd (cs := #[.int .u16 0, .int .u8 0, .int .u8 0, .slice none 0 0, .int .u16 0, .int .u32 0, .slice none 0 0, .slice none 0 0, .slice none 0 0, .slice none 0 0]) (t := 47) ?hr ?_; (case hd => rfl); (case hg => rfl); (case hr => first | (go_simp; done) | (go_simp; rfl)); intro gr hgr w3 hbox hb; have BR := Aside0.mk hbox; have NR := Aside0.mk ((by rw [hgr]; exact Nat.ne_of_lt (blk_lt BG.out)) : g ≠ gr); have GR := Aside0.mk ((by rw [hgr]; exact HB.out.size) : w.heap.size ≤ gr); have n0_ := Aside0.mk (blk_below BG.out hb); have n1_ := Aside0.mk (below_step HB.out hb); clear BG HB hbox hb hgr; have BG := n0_; have HB := n1_; clear n0_ n1_; have hr0 : w3.cell? ⟨gr, 0, none⟩ = some (.int .u16 0) := (blk_cell BR.out 0).trans rfl; have hr1 : w3.cell? ⟨gr, 1, none⟩ = some (.int .u8 0) := (blk_cell BR.out 1).trans rfl; have hr2 : w3.cell? ⟨gr, 2, none⟩ = some (.int .u8 0) := (blk_cell BR.out 2).trans rfl; have hr3 : w3.cell? ⟨gr, 3, none⟩ = some (.slice none 0 0) := (blk_cell BR.out 3).trans rfl; have hr4 : w3.cell? ⟨gr, 4, none⟩ = some (.int .u16 0) := (blk_cell BR.out 4).trans rfl; have hr5 : w3.cell? ⟨gr, 5, none⟩ = some (.int .u32 0) := (blk_cell BR.out 5).trans rfl; have hr6 : w3.cell? ⟨gr, 6, none⟩ = some (.slice none 0 0) := (blk_cell BR.out 6).trans rfl; have hr7 : w3.cell? ⟨gr, 7, none⟩ = some (.slice none 0 0) := (blk_cell BR.out 7).trans rfl; have hr8 : w3.cell? ⟨gr, 8, none⟩ = some (.slice none 0 0) := (blk_cell BR.out 8).trans rfl; have hr9 : w3.cell? ⟨gr, 9, none⟩ = some (.slice none 0 0) := (blk_cell BR.out 9).trans rfl; have hs0 := blk_frozen BR.out 0; have hs1 := blk_frozen BR.out 1; have hs2 := blk_frozen BR.out 2; have hs3 := blk_frozen BR.out 3; have hs4 := blk_frozen BR.out 4; have hs5 := blk_frozen BR.out 5; have hs6 := blk_frozen BR.out 6; have hs7 := blk_frozen BR.out 7; have hs8 := blk_frozen BR.out 8; have hs9 := blk_frozen BR.out 9))
 clear hr0 hr1 hr2 hr3 hr4 hr5 hr6 hr7 hr8 hr9 hs0 hs1 hs2 hs3 hs4 hs5 hs6 hs7 hs8 hs9
 have q0 := blk_put BR.out 0 (.int .u16 a0) (rfl : _ = (#[.int .u16 a0, .int .u8 0, .int .u8 0, .slice none 0 0, .int .u16 0, .int .u32 0, .slice none 0 0, .slice none 0 0, .slice none 0 0, .slice none 0 0] : Array Value))
 have q1 := blk_put q0 1 (.int .u8 code) (rfl : _ = (#[.int .u16 a0, .int .u8 code, .int .u8 0, .slice none 0 0, .int .u16 0, .int .u32 0, .slice none 0 0, .slice none 0 0, .slice none 0 0, .slice none 0 0] : Array Value))
 have q2 := blk_put q1 2 (.int .u8 a2) (rfl : _ = (#[.int .u16 a0, .int .u8 code, .int .u8 a2, .slice none 0 0, .int .u16 0, .int .u32 0, .slice none 0 0, .slice none 0 0, .slice none 0 0, .slice none 0 0] : Array Value))
 have q3 := blk_put q2 3 (.slice A3 l3.length c3) (rfl : _ = (#[.int .u16 a0, .int .u8 code, .int .u8 a2, .slice A3 l3.length c3, .int .u16 0, .int .u32 0, .slice none 0 0, .slice none 0 0, .slice none 0 0, .slice none 0 0] : Array Value))
 have q4 := blk_put q3 4 (.int .u16 a4) (rfl : _ = (#[.int .u16 a0, .int .u8 code, .int .u8 a2, .slice A3 l3.length c3, .int .u16 a4, .int .u32 0, .slice none 0 0, .slice none 0 0, .slice none 0 0, .slice none 0 0] : Array Value))
 have q5 := blk_put q4 5 (.int .u32 a5) (rfl : _ = (#[.int .u16 a0, .int .u8 code, .int .u8 a2, .slice A3 l3.length c3, .int .u16 a4, .int .u32 a5, .slice none 0 0, .slice none 0 0, .slice none 0 0, .slice none 0 0] : Array Value))
 have q6 := blk_put q5 6 (.slice none 0 0) (rfl : _ = (#[.int .u16 a0, .int .u8 code, .int .u8 a2, .slice A3 l3.length c3, .int .u16 a4, .int .u32 a5, .slice none 0 0, .slice none 0 0, .slice none 0 0, .slice none 0 0] : Array Value))
 have q7 := blk_put q6 7 (.slice A7 l7.length c7) (rfl : _ = (#[.int .u16 a0, .int .u8 code, .int .u8 a2, .slice A3 l3.length c3, .int .u16 a4, .int .u32 a5, .slice none 0 0, .slice A7 l7.length c7, .slice none 0 0, .slice none 0 0] : Array Value))
 have q8 := blk_put q7 8 (.slice A8 l8.length c8) (rfl : _ = (#[.int .u16 a0, .int .u8 code, .int .u8 a2, .slice A3 l3.length c3, .int .u16 a4, .int .u32 a5, .slice none 0 0, .slice A7 l7.length c7, .slice A8 l8.length c8, .slice none 0 0] : Array Value))
 have q9 := blk_put q8 9 (.slice A9 l9.length c9) (rfl : _ = (#[.int .u16 a0, .int .u8 code, .int .u8 a2, .slice A3 l3.length c3, .int .u16 a4, .int .u32 a5, .slice none 0 0, .slice A7 l7.length c7, .slice A8 l8.length c8, .slice A9 l9.length c9] : Array Value))
 have n0_ := Aside0.mk q9
 have n1_ := Aside0.mk (show (((((((((((w3.setCell ⟨gr, 0, none⟩ (.int .u16 a0)).setCell ⟨gr, 1, none⟩ (.int .u8 code)).setCell ⟨gr, 2, none⟩ (.int .u8 a2)).setCell ⟨gr, 3, none⟩ (.slice A3 l3.length c3)).setCell ⟨gr, 4, none⟩ (.int .u16 a4)).setCell ⟨gr, 5, none⟩ (.int .u32 a5)).setCell ⟨gr, 6, none⟩ (.slice none 0 0)).setCell ⟨gr, 7, none⟩ (.slice A7 l7.length c7)).setCell ⟨gr, 8, none⟩ (.slice A8 l8.length c8)).setCell ⟨gr, 9, none⟩ (.slice A9 l9.length c9))).heap[g]? = some (.cells #[.int .u16 a0, .int .u8 code, .int .u8 a2, .slice A3 l3.length c3, .int .u16 a4, .int .u32 a5, .slice A6 l6.length c6, .slice A7 l7.length c7, .slice A8 l8.length c8, .slice A9 l9.length c9] 47 (0, 0)) from (blk_far (p := ⟨gr, 9, none⟩) (blk_far (p := ⟨gr, 8, none⟩) (blk_far (p := ⟨gr, 7, none⟩) (blk_far (p := ⟨gr, 6, none⟩) (blk_far (p := ⟨gr, 5, none⟩) (blk_far (p := ⟨gr, 4, none⟩) (blk_far (p := ⟨gr, 3, none⟩) (blk_far (p := ⟨gr, 2, none⟩) (blk_far (p := ⟨gr, 1, none⟩) (blk_far (p := ⟨gr, 0, none⟩) BG.out NR.out (.int .u16 a0)) NR.out (.int .u8 code)) NR.out (.int .u8 a2)) NR.out (.slice A3 l3.length c3)) NR.out (.int .u16 a4)) NR.out (.int .u32 a5)) NR.out (.slice none 0 0)) NR.out (.slice A7 l7.length c7)) NR.out (.slice A8 l8.length c8)) NR.out (.slice A9 l9.length c9)))
 have n2_ := Aside0.mk (show Below w.heap.size w ((((((((((w3.setCell ⟨gr, 0, none⟩ (.int .u16 a0)).setCell ⟨gr, 1, none⟩ (.int .u8 code)).setCell ⟨gr, 2, none⟩ (.int .u8 a2)).setCell ⟨gr, 3, none⟩ (.slice A3 l3.length c3)).setCell ⟨gr, 4, none⟩ (.int .u16 a4)).setCell ⟨gr, 5, none⟩ (.int .u32 a5)).setCell ⟨gr, 6, none⟩ (.slice none 0 0)).setCell ⟨gr, 7, none⟩ (.slice A7 l7.length c7)).setCell ⟨gr, 8, none⟩ (.slice A8 l8.length c8)).setCell ⟨gr, 9, none⟩ (.slice A9 l9.length c9)) from (below_set (below_set (below_set (below_set (below_set (below_set (below_set (below_set (below_set (below_set HB.out GR.out) GR.out) GR.out) GR.out) GR.out) GR.out) GR.out) GR.out) GR.out) GR.out))
 clear BG BR HB q0 q1 q2 q3 q4 q5 q6 q7 q8 q9
 generalize ((((((((((w3.setCell ⟨gr, 0, none⟩ (.int .u16 a0)).setCell ⟨gr, 1, none⟩ (.int .u8 code)).setCell ⟨gr, 2, none⟩ (.int .u8 a2)).setCell ⟨gr, 3, none⟩ (.slice A3 l3.length c3)).setCell ⟨gr, 4, none⟩ (.int .u16 a4)).setCell ⟨gr, 5, none⟩ (.int .u32 a5)).setCell ⟨gr, 6, none⟩ (.slice none 0 0)).setCell ⟨gr, 7, none⟩ (.slice A7 l7.length c7)).setCell ⟨gr, 8, none⟩ (.slice A8 l8.length c8)).setCell ⟨gr, 9, none⟩ (.slice A9 l9.length c9)) = w5 at n0_ n1_ n2_ ⊢
 have BR := n0_
 have BG := n1_
 have HB := n2_
 clear n0_ n1_ n2_
 have hz0 : w5.cell? ⟨g, 0, none⟩ = some (.int .u16 a0) := (blk_cell BG.out 0).trans rfl
 have hz1 : w5.cell? ⟨g, 1, none⟩ = some (.int .u8 code) := (blk_cell BG.out 1).trans rfl
 have hz2 : w5.cell? ⟨g, 2, none⟩ = some (.int .u8 a2) := (blk_cell BG.out 2).trans rfl
 have hz3 : w5.cell? ⟨g, 3, none⟩ = some (.slice A3 l3.length c3) := (blk_cell BG.out 3).trans rfl
 have hz4 : w5.cell? ⟨g, 4, none⟩ = some (.int .u16 a4) := (blk_cell BG.out 4).trans rfl
 have hz5 : w5.cell? ⟨g, 5, none⟩ = some (.int .u32 a5) := (blk_cell BG.out 5).trans rfl
 have hz6 : w5.cell? ⟨g, 6, none⟩ = some (.slice A6 l6.length c6) := (blk_cell BG.out 6).trans rfl
 have hz7 : w5.cell? ⟨g, 7, none⟩ = some (.slice A7 l7.length c7) := (blk_cell BG.out 7).trans rfl
 have hz8 : w5.cell? ⟨g, 8, none⟩ = some (.slice A8 l8.length c8) := (blk_cell BG.out 8).trans rfl
 have hz9 : w5.cell? ⟨g, 9, none⟩ = some (.slice A9 l9.length c9) := (blk_cell BG.out 9).trans rfl
 have hr0 : w5.cell? ⟨gr, 0, none⟩ = some (.int .u16 a0) := (blk_cell BR.out 0).trans rfl
 have hr1 : w5.cell? ⟨gr, 1, none⟩ = some (.int .u8 code) := (blk_cell BR.out 1).trans rfl
 have hr2 : w5.cell? ⟨gr, 2, none⟩ = some (.int .u8 a2) := (blk_cell BR.out 2).trans rfl
 have hr3 : w5.cell? ⟨gr, 3, none⟩ = some (.slice A3 l3.length c3) := (blk_cell BR.out 3).trans rfl
 have hr4 : w5.cell? ⟨gr, 4, none⟩ = some (.int .u16 a4) := (blk_cell BR.out 4).trans rfl
 have hr5 : w5.cell? ⟨gr, 5, none⟩ = some (.int .u32 a5) := (blk_cell BR.out 5).trans rfl
 have hr6 : w5.cell? ⟨gr, 6, none⟩ = some (.slice none 0 0) := (blk_cell BR.out 6).trans rfl
 have hr7 : w5.cell? ⟨gr, 7, none⟩ = some (.slice A7 l7.length c7) := (blk_cell BR.out 7).trans rfl
 have hr8 : w5.cell? ⟨gr, 8, none⟩ = some (.slice A8 l8.length c8) := (blk_cell BR.out 8).trans rfl
 have hr9 : w5.cell? ⟨gr, 9, none⟩ = some (.slice A9 l9.length c9) := (blk_cell BR.out 9).trans rfl
 have h := H.out
 unfold papPut1 at h
 by_cases h0 : a0 = 49187
 · rw [if_pos h0] at h
   have hp0 : (a0 != 49187) = false := bne_eq_false_iff_eq.mpr h0
   clear h0
   by_cases hs : 0 < wrap64 (wrap64 (wrap64 (wrap64 (l3.length : Int) + (l7.length : Int)) + (l8.length : Int)) + (l9.length : Int))
   · rw [if_pos hs] at h
     have hs0 : decide (0 < wrap64 (wrap64 (wrap64 (wrap64 (l3.length : Int) + (l7.length : Int)) + (l8.length : Int)) + (l9.length : Int))) = true := decide_eq_true hs
     clear hs
     simp only [Option.some.injEq, Prod.mk.injEq] at h
     obtain ⟨rfl, rfl⟩ := h
     go_wp2
     go_ret2
     exact ⟨_, rfl, Kd.R_nil _ _ _ _ _, HB.out⟩
   · rw [if_neg hs] at h
     have hs0 : decide (0 < wrap64 (wrap64 (wrap64 (wrap64 (l3.length : Int) + (l7.length : Int)) + (l8.length : Int)) + (l9.length : Int))) = false := decide_eq_false hs
     clear hs
     by_cases h4 : a4 = 0
     · rw [if_pos h4] at h
       have hp4 : (a4 != 0) = false := bne_eq_false_iff_eq.mpr h4
       clear h4
       by_cases h5 : a5 = 0
       · rw [if_pos h5] at h
         have hp5 : (a5 != 0) = false := bne_eq_false_iff_eq.mpr h5
         clear h5
         obtain ⟨t8, hcl, h⟩ := Option.bind_eq_some_iff.mp h
         have HCL := Aside0.mk hcl
         replace H := Aside0.mk h
         clear hcl h
         go_wp2_with (first | (go_at_call 48; refine (slices_Clone_byte_byte.calls A8 c8 l8 t8 _ ?s1 ?s2 HCL.out).mono ?_; (case s1 => exact Kd.C_below HR8.out HB.out); (case s2 => exact HC8.out); rintro x w6 ⟨v, rfl, hv, hb⟩; have HV := Aside0.mk (Kd.R_lower hv HB.out.size); have n0_ := Aside0.mk (blk_below BG.out hb); have n1_ := Aside0.mk (below_step HB.out hb); clear BG BR HB hb hv; have BG := n0_; have HB := n1_; clear n0_ n1_) | (go_at_call 50; refine (pt_texts2 g code _ _ _ _ _ _ _ _ _ _ BG.out HC.out).mono ?_; rintro x w7 ⟨b, rfl, hlt, hcs, hb⟩; have n0_ := Aside0.mk (blk_below BG.out hb); have n1_ := Aside0.mk (Kd.R_below HV.out hb); have n2_ := Aside0.mk (below_step HB.out hb); have BP := Aside0.mk hcs; clear BG HV HB hb hlt hcs; have BG := n0_; have HV := n1_; have HB := n2_; clear n0_ n1_ n2_))
         obtain ⟨A0_, c0_, e0_⟩ := Kd.R_slice HV.out
         subst e0_
         go_loopg [50, 5, 7] 2 (fun kq v50 v5 v7 w' => ∃ (x : Nat) (bx : List Int) (A : Option Addr) (cx : Nat), v50 = .int .i64 x ∧ v5 = .slice A bx.length cx ∧ Aside0 (x + kq = 2 ∧ x ≤ 1) ∧ Aside0 (putF k code a2 bx (([l6] : List (List Int)).drop x) = some (r1, r2)) ∧ Aside0 (Kd.R (Kd.int .u8) 5 w' w.heap.size (fun _ => True) (.slice A bx.length cx) bx) ∧ Aside0 (w'.heap[g]? = some (.cells #[.int .u16 a0, .int .u8 code, .int .u8 a2, .slice A3 l3.length c3, .int .u16 a4, .int .u32 a5, .slice A6 l6.length c6, .slice A7 l7.length c7, .slice A8 l8.length c8, .slice A9 l9.length c9] 47 (0, 0))) ∧ Aside0 (w'.heap[b]? = some (.cells (lieAt g 1) 83 (0, 0))) ∧ Aside0 (Below w.heap.size w w'))
         case atStart => exact ⟨0, t8, _, _, rfl, rfl, ⟨by omega⟩, H, HV, BG, BP, HB⟩
         case round =>
          clear BG BP HB HV H
          obtain ⟨x, bx, A, cx, rfl, rfl, hk, HF, HU, BG, BP, HB⟩ := hrel
          have hx : x = 0 ∨ x = 1 := by have := hk.out.2; omega
          rcases hx with rfl | rfl
          · have HK := Aside0.mk hk.out
            clear hk
            have hz6 : wr.cell? ⟨g, 6, none⟩ = some (.slice A6 l6.length c6) := (blk_cell BG.out 6).trans rfl
            have hp : wr.cell? ⟨b, 0, none⟩ = some (.pointer (some ⟨g, 6, none⟩)) := (blk_cell BP.out 0).trans rfl
            have hf := HF.out
            simp only [List.drop_zero, List.drop_succ_cons, putF] at hf
            cases gk with
            | zero => have := HK.out; omega
            | succ k1 =>
             by_cases h255 : (l6.length : Int) > 255
             · rw [if_pos h255] at hf
               have hb0 : decide (255 < (l6.length : Int)) = true := decide_eq_true h255
               simp only [Option.some.injEq, Prod.mk.injEq] at hf
               obtain ⟨rfl, rfl⟩ := hf
               clear h255
               go_wp2
               go_ret2
               exact ⟨_, rfl, Kd.R_nil _ _ _ _ _, HB.out⟩
             · rw [if_neg h255] at hf
               have hb0 : decide (255 < (l6.length : Int)) = false := decide_eq_false h255
               split at hf
               · rename_i hlen
                 have HF2 := Aside0.mk hf
                 have HLEN := Aside0.mk hlen
                 clear hf hlen h255 HF
                 go_wp2
                 have n0_ := Aside0.mk (blk_drew BG.out)
                 have n1_ := Aside0.mk (blk_drew BP.out)
                 have n2_ := Aside0.mk (Kd.R_drew HU.out)
                 have n3_ := Aside0.mk (below_drew1 HB.out)
                 clear BG BP HU HB
                 have BG := n0_
                 have BP := n1_
                 have HU := n2_
                 have HB := n3_
                 clear n0_ n1_ n2_ n3_
                 have hcd : wr.drew.cell? ⟨g, 6, none⟩ = some (.slice A6 l6.length c6) := (blk_cell BG.out 6).trans rfl
                 refine start_ (n := 13) (S := fun w' => w'.cell? ⟨g, 6, none⟩ = some (.slice A6 l6.length c6)) (ds := []) #[false, false, false, false, false, false, false, false, false, false, false, false, false] (by kernel_rfl) rfl rfl (hcd) (fun hHeld => ?_)
                 clear hcd
                 generalize wr.drew = w8 at BG BP HU HB hHeld ⊢
                 refine pure_ (i := 0) (N := some 59) (v := ?_) (a' := ?_) #[true, false, false, false, false, false, false, false, false, false, false, false, false] rfl rfl (by kernel_rfl) (fun _ _ _ h => h) (Or.inl ⟨by rfl, ?_⟩) ?_ ?_
                 rotate_left
                 · intro w'
                   go_simp
                   with_reducible rfl
                 rotate_left
                 · simp only [Act.put, List.setIfInBounds_toArray, List.set_cons_zero, List.set_cons_succ, i64_w, i32_w]
                   rfl
                 refine pure_ (i := 1) (N := some 60) (v := ?_) (a' := ?_) #[true, true, false, false, false, false, false, false, false, false, false, false, false] rfl rfl (by kernel_rfl) (fun _ _ _ h => h) (Or.inl ⟨by rfl, ?_⟩) ?_ ?_
                 rotate_left
                 · intro w'
                   go_simp
                   with_reducible rfl
                 rotate_left
                 · simp only [Act.put, List.setIfInBounds_toArray, List.set_cons_zero, List.set_cons_succ, i64_w, i32_w]
                   rfl
                 refine pure_ (i := 2) (N := some 61) (v := ?_) (a' := ?_) #[true, true, true, false, false, false, false, false, false, false, false, false, false] rfl rfl (by kernel_rfl) (fun _ _ _ h => h) (Or.inl ⟨by rfl, ?_⟩) ?_ ?_
                 rotate_left
                 · intro w'
                   go_simp
                   with_reducible rfl
                 rotate_left
                 · simp only [Act.put, List.setIfInBounds_toArray, List.set_cons_zero, List.set_cons_succ, i64_w, i32_w]
                   rfl
                 refine pure_ (i := 8) (N := some 67) (v := ?_) (a' := ?_) #[true, true, true, false, false, false, false, false, true, false, false, false, false] rfl rfl (by kernel_rfl) (fun _ _ _ h => h) (Or.inl ⟨by rfl, ?_⟩) ?_ ?_
                 rotate_left
                 · intro w'
                   go_simp
                   with_reducible rfl
                 rotate_left
                 · simp only [Act.put, List.setIfInBounds_toArray, List.set_cons_zero, List.set_cons_succ, i64_w, i32_w]
                   rfl
                 refine pure_ (i := 9) (N := some 68) (v := ?_) (a' := ?_) #[true, true, true, false, false, false, false, false, true, true, false, false, false] rfl rfl (by kernel_rfl) (fun _ _ _ h => h) (Or.inl ⟨by rfl, ?_⟩) ?_ ?_
                 rotate_left
                 · intro w'
                   go_simp
                   with_reducible rfl
                 rotate_left
                 · simp only [Act.put, List.setIfInBounds_toArray, List.set_cons_zero, List.set_cons_succ, i64_w, i32_w]
                   rfl
                 refine take_ (i := 3) (N := some 62) (v := ?_) (a' := ?_) #[true, true, true, true, false, false, false, false, true, true, false, false, false] rfl rfl (by kernel_rfl) (fun _ _ _ h => h) (Or.inl ⟨by rfl, ?_⟩) hHeld ?_ ?_
                 rotate_left
                 · intro w' s0
                   go_simp
                   with_reducible rfl
                 rotate_left
                 · simp only [Act.put, List.setIfInBounds_toArray, List.set_cons_zero, List.set_cons_succ, i64_w, i32_w]
                   rfl
                 refine pure_ (i := 4) (N := some 63) (v := ?_) (a' := ?_) #[true, true, true, true, true, false, false, false, true, true, false, false, false] rfl rfl (by kernel_rfl) (fun _ _ _ h => h) (Or.inl ⟨by rfl, ?_⟩) ?_ ?_
                 rotate_left
                 · intro w'
                   go_simp
                   with_reducible rfl
                 rotate_left
                 · simp only [Act.put, List.setIfInBounds_toArray, List.set_cons_zero, List.set_cons_succ, i64_w, i32_w]
                   rfl
                 refine pure_ (i := 5) (N := some 64) (v := ?_) (a' := ?_) #[true, true, true, true, true, true, false, false, true, true, false, false, false] rfl rfl (by kernel_rfl) (fun _ _ _ h => h) (Or.inl ⟨by rfl, ?_⟩) ?_ ?_
                 rotate_left
                 · intro w'
                   go_simp
                   with_reducible rfl
                 rotate_left
                 · simp only [Act.put, List.setIfInBounds_toArray, List.set_cons_zero, List.set_cons_succ, i64_w, i32_w]
                   rfl
                 refine take_ (i := 10) (N := some 69) (v := ?_) (a' := ?_) #[true, true, true, true, true, true, false, false, true, true, true, false, false] rfl rfl (by kernel_rfl) (fun _ _ _ h => h) (Or.inl ⟨by rfl, ?_⟩) hHeld ?_ ?_
                 rotate_left
                 · intro w' s0
                   go_simp
                   with_reducible rfl
                 rotate_left
                 · simp only [Act.put, List.setIfInBounds_toArray, List.set_cons_zero, List.set_cons_succ, i64_w, i32_w]
                   rfl
                 refine one_ (i := 6) (N := some 65) #[true, true, true, true, true, true, true, false, true, true, true, false, false] rfl rfl (by kernel_rfl) (by decide) (fun K hK => ?_)
                 refine Kd.R_lit_step (Kd.int .u8) _ 5 ?hg (N := 65) ?hd (xs := ([(IntKind.u8.wrap (l6.length : Int))] : List Int)) (inner := [.int .u8 (IntKind.u8.wrap (l6.length : Int))]) (ok := fun _ => True) (okp := fun _ => True) ?hr ?hp (fun _ hk => hk) trivial (Below.refl _ _) (Nat.le_refl _) (by simp) ?_; (case hd => rfl); (case hg => rfl); (case hr => first | (go_simp; done) | (go_simp; rfl)); (case hp => exact (Reps.one (show Kd.M (Kd.int .u8) _ _ _ (IntKind.u8.wrap (l6.length : Int)) [.int .u8 (IntKind.u8.wrap (l6.length : Int))] from rfl) (Reps.none _ _)))
                 intro v10 w10 ho hb hg_ hnew_
                 clear hg_ hnew_
                 have HN := Aside0.mk (Kd.R_lower ho HB.out.size)
                 have HNA := Aside0.mk (Kd.R_new' ho (Kd.R_lt HU.out))
                 have n0_ := Aside0.mk (blk_below BG.out hb)
                 have n1_ := Aside0.mk (blk_below BP.out hb)
                 have n2_ := Aside0.mk (Kd.R_below HU.out hb)
                 have n3_ := Aside0.mk (below_step HB.out hb)
                 clear BG BP HU HB ho hb hHeld
                 have BG := n0_
                 have BP := n1_
                 have HU := n2_
                 have HB := n3_
                 clear n0_ n1_ n2_ n3_
                 obtain ⟨A10, c10, e10⟩ := Kd.R_slice HN.out
                 subst e10
                 refine hK.out _ _ ((blk_cell BG.out 6).trans rfl) (fun hHeld => ?_)
                 clear hK K
                 refine norm_ (a' := ?_) ?_ ?_
                 rotate_left
                 · show Act.put _ (some 65) _ = _
                   simp only [Act.put, List.setIfInBounds_toArray, List.set_cons_zero, List.set_cons_succ, i64_w, i32_w]
                   rfl
                 refine one_ (i := 7) (N := some 66) #[true, true, true, true, true, true, true, true, true, true, true, false, false] rfl rfl (by kernel_rfl) (by decide) (fun K hK => ?_)
                 refine Kd.R_append_rows_step (Kd.int .u8) (w0 := w) w.heap.size (by rfl) (.tmp 59) (.tmp 65) 23 5 (.int .u8 0) 1 rfl Try.underlying23 info5 rfl (by decide) (by omega) (.slice A bx.length cx) bx [(IntKind.u8.wrap (l6.length : Int))] _ _ _ (fun _ => True) (fun _ => False) rfl rfl ?aO ?aR (fun _ _ h => h) (fun _ h => h.elim) (fun _ _ => trivial) ?aB ?aS ?aL ?_
                 (case aR => exact (Kd.R_reads' HN.out).2.2)
                 (case aB => exact HB.out)
                 (case aO => exact Kd.R_mono HU.out (fun _ _ => trivial))
                 (case aS => exact (below_size HB.out))
                 (case aL => have := HLEN.out; (try simp only [List.length_append, List.length_cons, List.length_nil]); omega)
                 intro v11 w11 ho hb hg hat
                 have n0_ := Aside0.mk (blk_grown BG.out hg (Kd.R_ne HU.out BG.out (by decide)))
                 have n1_ := Aside0.mk (blk_grown BP.out hg (Kd.R_ne HU.out BP.out (by decide)))
                 have n2_ := Aside0.mk ho
                 have n3_ := Aside0.mk hb
                 clear BG BP HU HB ho hb hg hat hHeld
                 have BG := n0_
                 have BP := n1_
                 have HU := n2_
                 have HB := n3_
                 clear n0_ n1_ n2_ n3_
                 obtain ⟨Av11, cv11, ev11⟩ := Kd.R_slice HU.out
                 subst ev11
                 refine hK.out _ _ ((blk_cell BG.out 6).trans rfl) (fun hHeld => ?_)
                 clear hK K
                 refine norm_ (a' := ?_) ?_ ?_
                 rotate_left
                 · show Act.put _ (some 66) _ = _
                   simp only [Act.put, List.setIfInBounds_toArray, List.set_cons_zero, List.set_cons_succ, i64_w, i32_w]
                   rfl
                 refine one_ (i := 11) (N := some 70) #[true, true, true, true, true, true, true, true, true, true, true, true, false] rfl rfl (by kernel_rfl) (by decide) (fun K hK => ?_)
                 refine Kd.R_append_rows_step (Kd.int .u8) (w0 := w) w.heap.size (by rfl) (.tmp 66) (.tmp 69) 23 5 (.int .u8 0) 1 rfl Try.underlying23 info5 rfl (by decide) (by omega) (.slice Av11 (bx ++ [(IntKind.u8.wrap (l6.length : Int))]).length cv11) (bx ++ [(IntKind.u8.wrap (l6.length : Int))]) l6 _ _ _ (fun _ => True) (fun _ => False) rfl rfl ?aO ?aR (fun _ _ h => h) (fun _ h => h.elim) (fun _ _ => trivial) ?aB ?aS ?aL ?_
                 (case aR => exact Kd.C_below HR6.out HB.out)
                 (case aB => exact HB.out)
                 (case aO => exact Kd.R_mono HU.out (fun _ _ => trivial))
                 (case aS => exact (below_size HB.out))
                 (case aL => have := HLEN.out; (try simp only [List.length_append, List.length_cons, List.length_nil]); omega)
                 intro v12 w12 ho hb hg hat
                 have n0_ := Aside0.mk (blk_grown BG.out hg (Kd.R_ne HU.out BG.out (by decide)))
                 have n1_ := Aside0.mk (blk_grown BP.out hg (Kd.R_ne HU.out BP.out (by decide)))
                 have n2_ := Aside0.mk ho
                 have n3_ := Aside0.mk hb
                 clear BG BP HU HB ho hb hg hat hHeld
                 have BG := n0_
                 have BP := n1_
                 have HU := n2_
                 have HB := n3_
                 clear n0_ n1_ n2_ n3_
                 obtain ⟨Av12, cv12, ev12⟩ := Kd.R_slice HU.out
                 subst ev12
                 refine hK.out _ _ ((blk_cell BG.out 6).trans rfl) (fun hHeld => ?_)
                 clear hK K
                 refine norm_ (a' := ?_) ?_ ?_
                 rotate_left
                 · show Act.put _ (some 70) _ = _
                   simp only [Act.put, List.setIfInBounds_toArray, List.set_cons_zero, List.set_cons_succ, i64_w, i32_w]
                   rfl
                 refine pure_ (i := 12) (N := some 5) (v := ?_) (a' := ?_) #[true, true, true, true, true, true, true, true, true, true, true, true, true] rfl rfl (by kernel_rfl) (fun _ _ _ h => h) (Or.inl ⟨by rfl, ?_⟩) ?_ ?_
                 rotate_left
                 · intro w'
                   go_simp
                   with_reducible rfl
                 rotate_left
                 · simp only [Act.put, List.setIfInBounds_toArray, List.set_cons_zero, List.set_cons_succ, i64_w, i32_w]
                   rfl
                 refine done_ (by kernel_rfl) ?_
                 have HF3 := Aside0.mk HF2.out
                 go_wp2
                 go_roundg k1
                 case measure => have := HK.out; omega
                 case rel => exact ⟨1, (bx ++ [(IntKind.u8.wrap (l6.length : Int))]) ++ l6, _, _, rfl, (by first | rfl | (rw [show ((bx ++ [(IntKind.u8.wrap (l6.length : Int))]) ++ l6).length = bx.length + (l6.length + 1) by simp only [List.length_append, List.length_cons, List.length_nil]; omega])), ⟨by have := HK.out; omega⟩, HF2, HU, BG, BP, HB⟩
               · cases hf
          · clear hk
            replace HF : Aside0 (ctl_Put.f k code a2 bx = some (r1, r2)) := HF
            have hz1 : wr.cell? ⟨g, 1, none⟩ = some (.int .u8 code) := (blk_cell BG.out 1).trans rfl
            have hz2 : wr.cell? ⟨g, 2, none⟩ = some (.int .u8 a2) := (blk_cell BG.out 2).trans rfl
            go_wp2_with (first | (go_at_call 51; refine (ctl_Put.calls k code a2 _ _ bx r1 r2 _ ?s1 ?s2 HF.out).mono ?_; (case s1 => exact (Kd.R_reads' HU.out).2.2); (case s2 => exact (Kd.R_reads' HU.out).2.1); rintro x w9 ⟨v0, rfl, ho, hb⟩; have HO := Aside0.mk (Kd.R_lower ho HB.out.size); have HBF := Aside0.mk (below_step HB.out hb); clear ho hb))
            go_ret2
            exact ⟨_, rfl, HO.out, HBF.out⟩
       · rw [if_neg h5] at h
         have hp5 : (a5 != 0) = true := bne_iff_ne.mpr h5
         clear h5
         simp only [Option.some.injEq, Prod.mk.injEq] at h
         obtain ⟨rfl, rfl⟩ := h
         go_wp2
         go_ret2
         exact ⟨_, rfl, Kd.R_nil _ _ _ _ _, HB.out⟩
     · rw [if_neg h4] at h
       have hp4 : (a4 != 0) = true := bne_iff_ne.mpr h4
       clear h4
       simp only [Option.some.injEq, Prod.mk.injEq] at h
       obtain ⟨rfl, rfl⟩ := h
       go_wp2
       go_ret2
       exact ⟨_, rfl, Kd.R_nil _ _ _ _ _, HB.out⟩
 · rw [if_neg h0] at h
   have hp0 : (a0 != 49187) = true := bne_iff_ne.mpr h0
   clear h0
   simp only [Option.some.injEq, Prod.mk.injEq] at h
   obtain ⟨rfl, rfl⟩ := h
   go_wp2
   go_ret2
   exact ⟨_, rfl, Kd.R_nil _ _ _ _ _, HB.out⟩
set_option maxHeartbeats 16000000 in
set_option maxRecDepth 100000 in
theorem pt_put0 (k : Nat) (a0 code a2 a4 a5 : Int) (A3 A6 A7 A8 A9 : Option Addr) (c3 c6 c7 c8 c9 : Nat) (l3 : List S57) (l6 l7 l8 l9 : List Int) (r1 : List Int) (r2 : Int) (w : World) (hc : code ≠ 1 ∧ code ≠ 2 ∧ code ≠ 3) (hr6 : Kd.C (Kd.int .u8) w A6 l6.length l6) (hr7 : Kd.C (Kd.int .u8) w A7 l7.length l7) (hr8 : Kd.C (Kd.int .u8) w A8 l8.length l8) (hc6 : l6.length ≤ c6) (hc7 : l7.length ≤ c7) (hc8 : l8.length ≤ c8) (h : papPut0 k a0 code a2 l3 a4 a5 l6 l7 l8 l9 = some (r1, r2)) :
 Calls Try.prog 31 #[.agg #[.int .u16 a0, .int .u8 code, .int .u8 a2, .slice A3 l3.length c3, .int .u16 a4, .int .u32 a5, .slice A6 l6.length c6, .slice A7 l7.length c7, .slice A8 l8.length c8, .slice A9 l9.length c9]] w fun x w' => ∃ v0_ : Value, x = .returned (.tuple #[v0_, .int .i64 r2]) ∧ Kd.R (Kd.int .u8) 5 w' w.heap.size (fun _ => True) v0_ r1 ∧ Below w.heap.size w w' := by
 have hu47 := Try.underlying47
 have HC := Aside0.mk hc
 have HR6 := Aside0.mk hr6
 have HR7 := Aside0.mk hr7
 have HR8 := Aside0.mk hr8
 have HC6 := Aside0.mk hc6
 have HC7 := Aside0.mk hc7
 have HC8 := Aside0.mk hc8
 have H := Aside0.mk h
 clear hc hr6 hr7 hr8 hc6 hc7 hc8 h
 go_enter Try.func31, Try.ntmps31
 go_upto_region 2 with (first | ((with_reducible refine gate_dst (N := 1) rfl ?_); refine box_event ?hg (N := 1) ?hd (cs := #[.int .u16 a0, .int .u8 code, .int .u8 a2, .slice A3 l3.length c3, .int .u16 a4, .int .u32 a5, .slice A6 l6.length c6, .slice A7 l7.length c7, .slice A8 l8.length c8, .slice A9 l9.length c9]) (t := 47) ?hr ?_; (case hd => rfl); (case hg => rfl); (case hr => first | (go_simp; done) | (go_simp; rfl)); intro g hgg w1 hbox hb; have BG := Aside0.mk hbox; have GG := Aside0.mk ((by rw [hgg]; exact Nat.le_refl _) : w.heap.size ≤ g); have HB := Aside0.mk hb; clear hbox hb hgg; have hz0 : w1.cell? ⟨g, 0, none⟩ = some (.int .u16 a0) := (blk_cell BG.out 0).trans rfl; have hz1 : w1.cell? ⟨g, 1, none⟩ = some (.int .u8 code) := (blk_cell BG.out 1).trans rfl; have hz2 : w1.cell? ⟨g, 2, none⟩ = some (.int .u8 a2) := (blk_cell BG.out 2).trans rfl; have hz3 : w1.cell? ⟨g, 3, none⟩ = some (.slice A3 l3.length c3) := (blk_cell BG.out 3).trans rfl; have hz4 : w1.cell? ⟨g, 4, none⟩ = some (.int .u16 a4) := (blk_cell BG.out 4).trans rfl; have hz5 : w1.cell? ⟨g, 5, none⟩ = some (.int .u32 a5) := (blk_cell BG.out 5).trans rfl; have hz6 : w1.cell? ⟨g, 6, none⟩ = some (.slice A6 l6.length c6) := (blk_cell BG.out 6).trans rfl; have hz7 : w1.cell? ⟨g, 7, none⟩ = some (.slice A7 l7.length c7) := (blk_cell BG.out 7).trans rfl; have hz8 : w1.cell? ⟨g, 8, none⟩ = some (.slice A8 l8.length c8) := (blk_cell BG.out 8).trans rfl; have hz9 : w1.cell? ⟨g, 9, none⟩ = some (.slice A9 l9.length c9) := (blk_cell BG.out 9).trans rfl) | (go_at_call 49; refine (pt_bare0 _ _ _ _ _ _ _ _ _ _ _ _ _ _ _ _ _ _ _ _ _ HC.out.1 HC.out.2.1 HC.out.2.2).mono ?_; rintro x w2 ⟨rfl, hb⟩; have n0_ := Aside0.mk (blk_below BG.out hb); have n1_ := Aside0.mk (below_step HB.out hb); clear BG HB hb hz0 hz1 hz2 hz3 hz4 hz5 hz6 hz7 hz8 hz9; have BG := n0_; have HB := n1_; clear n0_ n1_) | ((with_reducible refine gate_dst (N := 4) rfl ?_); refine box_event ?hg (N := 4) ?hd (cs := #[.int .u16 0, .int .u8 0, .int .u8 0, .slice none 0 0, .int .u16 0, .int .u32 0, .slice none 0 0, .slice none 0 0, .slice none 0 0, .slice none 0 0]) (t := 47) ?hr ?_; (case hd => rfl); (case hg => rfl); (case hr => first | (go_simp; done) | (go_simp; rfl)); intro gr hgr w3 hbox hb; have BR := Aside0.mk hbox; have NR := Aside0.mk ((by rw [hgr]; exact Nat.ne_of_lt (blk_lt BG.out)) : g ≠ gr); have GR := Aside0.mk ((by rw [hgr]; exact HB.out.size) : w.heap.size ≤ gr); have n0_ := Aside0.mk (blk_below BG.out hb); have n1_ := Aside0.mk (below_step HB.out hb); clear BG HB hbox hb hgr; have BG := n0_; have HB := n1_; clear n0_ n1_; have hr0 : w3.cell? ⟨gr, 0, none⟩ = some (.int .u16 0) := (blk_cell BR.out 0).trans rfl; have hr1 : w3.cell? ⟨gr, 1, none⟩ = some (.int .u8 0) := (blk_cell BR.out 1).trans rfl; have hr2 : w3.cell? ⟨gr, 2, none⟩ = some (.int .u8 0) := (blk_cell BR.out 2).trans rfl; have hr3 : w3.cell? ⟨gr, 3, none⟩ = some (.slice none 0 0) := (blk_cell BR.out 3).trans rfl; have hr4 : w3.cell? ⟨gr, 4, none⟩ = some (.int .u16 0) := (blk_cell BR.out 4).trans rfl; have hr5 : w3.cell? ⟨gr, 5, none⟩ = some (.int .u32 0) := (blk_cell BR.out 5).trans rfl; have hr6 : w3.cell? ⟨gr, 6, none⟩ = some (.slice none 0 0) := (blk_cell BR.out 6).trans rfl; have hr7 : w3.cell? ⟨gr, 7, none⟩ = some (.slice none 0 0) := (blk_cell BR.out 7).trans rfl; have hr8 : w3.cell? ⟨gr, 8, none⟩ = some (.slice none 0 0) := (blk_cell BR.out 8).trans rfl; have hr9 : w3.cell? ⟨gr, 9, none⟩ = some (.slice none 0 0) := (blk_cell BR.out 9).trans rfl; have hs0 := blk_frozen BR.out 0; have hs1 := blk_frozen BR.out 1; have hs2 := blk_frozen BR.out 2; have hs3 := blk_frozen BR.out 3; have hs4 := blk_frozen BR.out 4; have hs5 := blk_frozen BR.out 5; have hs6 := blk_frozen BR.out 6; have hs7 := blk_frozen BR.out 7; have hs8 := blk_frozen BR.out 8; have hs9 := blk_frozen BR.out 9))
 clear hr0 hr1 hr2 hr3 hr4 hr5 hr6 hr7 hr8 hr9 hs0 hs1 hs2 hs3 hs4 hs5 hs6 hs7 hs8 hs9
 have q0 := blk_put BR.out 0 (.int .u16 a0) (rfl : _ = (#[.int .u16 a0, .int .u8 0, .int .u8 0, .slice none 0 0, .int .u16 0, .int .u32 0, .slice none 0 0, .slice none 0 0, .slice none 0 0, .slice none 0 0] : Array Value))
 have q1 := blk_put q0 1 (.int .u8 code) (rfl : _ = (#[.int .u16 a0, .int .u8 code, .int .u8 0, .slice none 0 0, .int .u16 0, .int .u32 0, .slice none 0 0, .slice none 0 0, .slice none 0 0, .slice none 0 0] : Array Value))
 have q2 := blk_put q1 2 (.int .u8 a2) (rfl : _ = (#[.int .u16 a0, .int .u8 code, .int .u8 a2, .slice none 0 0, .int .u16 0, .int .u32 0, .slice none 0 0, .slice none 0 0, .slice none 0 0, .slice none 0 0] : Array Value))
 have q3 := blk_put q2 3 (.slice A3 l3.length c3) (rfl : _ = (#[.int .u16 a0, .int .u8 code, .int .u8 a2, .slice A3 l3.length c3, .int .u16 0, .int .u32 0, .slice none 0 0, .slice none 0 0, .slice none 0 0, .slice none 0 0] : Array Value))
 have q4 := blk_put q3 4 (.int .u16 a4) (rfl : _ = (#[.int .u16 a0, .int .u8 code, .int .u8 a2, .slice A3 l3.length c3, .int .u16 a4, .int .u32 0, .slice none 0 0, .slice none 0 0, .slice none 0 0, .slice none 0 0] : Array Value))
 have q5 := blk_put q4 5 (.int .u32 a5) (rfl : _ = (#[.int .u16 a0, .int .u8 code, .int .u8 a2, .slice A3 l3.length c3, .int .u16 a4, .int .u32 a5, .slice none 0 0, .slice none 0 0, .slice none 0 0, .slice none 0 0] : Array Value))
 have q6 := blk_put q5 6 (.slice A6 l6.length c6) (rfl : _ = (#[.int .u16 a0, .int .u8 code, .int .u8 a2, .slice A3 l3.length c3, .int .u16 a4, .int .u32 a5, .slice A6 l6.length c6, .slice none 0 0, .slice none 0 0, .slice none 0 0] : Array Value))
 have q7 := blk_put q6 7 (.slice A7 l7.length c7) (rfl : _ = (#[.int .u16 a0, .int .u8 code, .int .u8 a2, .slice A3 l3.length c3, .int .u16 a4, .int .u32 a5, .slice A6 l6.length c6, .slice A7 l7.length c7, .slice none 0 0, .slice none 0 0] : Array Value))
 have q8 := blk_put q7 8 (.slice none 0 0) (rfl : _ = (#[.int .u16 a0, .int .u8 code, .int .u8 a2, .slice A3 l3.length c3, .int .u16 a4, .int .u32 a5, .slice A6 l6.length c6, .slice A7 l7.length c7, .slice none 0 0, .slice none 0 0] : Array Value))
 have q9 := blk_put q8 9 (.slice A9 l9.length c9) (rfl : _ = (#[.int .u16 a0, .int .u8 code, .int .u8 a2, .slice A3 l3.length c3, .int .u16 a4, .int .u32 a5, .slice A6 l6.length c6, .slice A7 l7.length c7, .slice none 0 0, .slice A9 l9.length c9] : Array Value))
 have n0_ := Aside0.mk q9
 have n1_ := Aside0.mk (show (((((((((((w3.setCell ⟨gr, 0, none⟩ (.int .u16 a0)).setCell ⟨gr, 1, none⟩ (.int .u8 code)).setCell ⟨gr, 2, none⟩ (.int .u8 a2)).setCell ⟨gr, 3, none⟩ (.slice A3 l3.length c3)).setCell ⟨gr, 4, none⟩ (.int .u16 a4)).setCell ⟨gr, 5, none⟩ (.int .u32 a5)).setCell ⟨gr, 6, none⟩ (.slice A6 l6.length c6)).setCell ⟨gr, 7, none⟩ (.slice A7 l7.length c7)).setCell ⟨gr, 8, none⟩ (.slice none 0 0)).setCell ⟨gr, 9, none⟩ (.slice A9 l9.length c9))).heap[g]? = some (.cells #[.int .u16 a0, .int .u8 code, .int .u8 a2, .slice A3 l3.length c3, .int .u16 a4, .int .u32 a5, .slice A6 l6.length c6, .slice A7 l7.length c7, .slice A8 l8.length c8, .slice A9 l9.length c9] 47 (0, 0)) from (blk_far (p := ⟨gr, 9, none⟩) (blk_far (p := ⟨gr, 8, none⟩) (blk_far (p := ⟨gr, 7, none⟩) (blk_far (p := ⟨gr, 6, none⟩) (blk_far (p := ⟨gr, 5, none⟩) (blk_far (p := ⟨gr, 4, none⟩) (blk_far (p := ⟨gr, 3, none⟩) (blk_far (p := ⟨gr, 2, none⟩) (blk_far (p := ⟨gr, 1, none⟩) (blk_far (p := ⟨gr, 0, none⟩) BG.out NR.out (.int .u16 a0)) NR.out (.int .u8 code)) NR.out (.int .u8 a2)) NR.out (.slice A3 l3.length c3)) NR.out (.int .u16 a4)) NR.out (.int .u32 a5)) NR.out (.slice A6 l6.length c6)) NR.out (.slice A7 l7.length c7)) NR.out (.slice none 0 0)) NR.out (.slice A9 l9.length c9)))
 have n2_ := Aside0.mk (show Below w.heap.size w ((((((((((w3.setCell ⟨gr, 0, none⟩ (.int .u16 a0)).setCell ⟨gr, 1, none⟩ (.int .u8 code)).setCell ⟨gr, 2, none⟩ (.int .u8 a2)).setCell ⟨gr, 3, none⟩ (.slice A3 l3.length c3)).setCell ⟨gr, 4, none⟩ (.int .u16 a4)).setCell ⟨gr, 5, none⟩ (.int .u32 a5)).setCell ⟨gr, 6, none⟩ (.slice A6 l6.length c6)).setCell ⟨gr, 7, none⟩ (.slice A7 l7.length c7)).setCell ⟨gr, 8, none⟩ (.slice none 0 0)).setCell ⟨gr, 9, none⟩ (.slice A9 l9.length c9)) from (below_set (below_set (below_set (below_set (below_set (below_set (below_set (below_set (below_set (below_set HB.out GR.out) GR.out) GR.out) GR.out) GR.out) GR.out) GR.out) GR.out) GR.out) GR.out))
 clear BG BR HB q0 q1 q2 q3 q4 q5 q6 q7 q8 q9
 generalize ((((((((((w3.setCell ⟨gr, 0, none⟩ (.int .u16 a0)).setCell ⟨gr, 1, none⟩ (.int .u8 code)).setCell ⟨gr, 2, none⟩ (.int .u8 a2)).setCell ⟨gr, 3, none⟩ (.slice A3 l3.length c3)).setCell ⟨gr, 4, none⟩ (.int .u16 a4)).setCell ⟨gr, 5, none⟩ (.int .u32 a5)).setCell ⟨gr, 6, none⟩ (.slice A6 l6.length c6)).setCell ⟨gr, 7, none⟩ (.slice A7 l7.length c7)).setCell ⟨gr, 8, none⟩ (.slice none 0 0)).setCell ⟨gr, 9, none⟩ (.slice A9 l9.length c9)) = w5 at n0_ n1_ n2_ ⊢
 have BR := n0_
 have BG := n1_
 have HB := n2_
 clear n0_ n1_ n2_
 have hz0 : w5.cell? ⟨g, 0, none⟩ = some (.int .u16 a0) := (blk_cell BG.out 0).trans rfl
 have hz1 : w5.cell? ⟨g, 1, none⟩ = some (.int .u8 code) := (blk_cell BG.out 1).trans rfl
 have hz2 : w5.cell? ⟨g, 2, none⟩ = some (.int .u8 a2) := (blk_cell BG.out 2).trans rfl
 have hz3 : w5.cell? ⟨g, 3, none⟩ = some (.slice A3 l3.length c3) := (blk_cell BG.out 3).trans rfl
 have hz4 : w5.cell? ⟨g, 4, none⟩ = some (.int .u16 a4) := (blk_cell BG.out 4).trans rfl
 have hz5 : w5.cell? ⟨g, 5, none⟩ = some (.int .u32 a5) := (blk_cell BG.out 5).trans rfl
 have hz6 : w5.cell? ⟨g, 6, none⟩ = some (.slice A6 l6.length c6) := (blk_cell BG.out 6).trans rfl
 have hz7 : w5.cell? ⟨g, 7, none⟩ = some (.slice A7 l7.length c7) := (blk_cell BG.out 7).trans rfl
 have hz8 : w5.cell? ⟨g, 8, none⟩ = some (.slice A8 l8.length c8) := (blk_cell BG.out 8).trans rfl
 have hz9 : w5.cell? ⟨g, 9, none⟩ = some (.slice A9 l9.length c9) := (blk_cell BG.out 9).trans rfl
 have hr0 : w5.cell? ⟨gr, 0, none⟩ = some (.int .u16 a0) := (blk_cell BR.out 0).trans rfl
 have hr1 : w5.cell? ⟨gr, 1, none⟩ = some (.int .u8 code) := (blk_cell BR.out 1).trans rfl
 have hr2 : w5.cell? ⟨gr, 2, none⟩ = some (.int .u8 a2) := (blk_cell BR.out 2).trans rfl
 have hr3 : w5.cell? ⟨gr, 3, none⟩ = some (.slice A3 l3.length c3) := (blk_cell BR.out 3).trans rfl
 have hr4 : w5.cell? ⟨gr, 4, none⟩ = some (.int .u16 a4) := (blk_cell BR.out 4).trans rfl
 have hr5 : w5.cell? ⟨gr, 5, none⟩ = some (.int .u32 a5) := (blk_cell BR.out 5).trans rfl
 have hr6 : w5.cell? ⟨gr, 6, none⟩ = some (.slice A6 l6.length c6) := (blk_cell BR.out 6).trans rfl
 have hr7 : w5.cell? ⟨gr, 7, none⟩ = some (.slice A7 l7.length c7) := (blk_cell BR.out 7).trans rfl
 have hr8 : w5.cell? ⟨gr, 8, none⟩ = some (.slice none 0 0) := (blk_cell BR.out 8).trans rfl
 have hr9 : w5.cell? ⟨gr, 9, none⟩ = some (.slice A9 l9.length c9) := (blk_cell BR.out 9).trans rfl
 have h := H.out
 unfold papPut0 at h
 by_cases h0 : a0 = 49187
 · rw [if_pos h0] at h
   have hp0 : (a0 != 49187) = false := bne_eq_false_iff_eq.mpr h0
   clear h0
   by_cases hs : 0 < wrap64 (wrap64 (wrap64 (wrap64 ((l3.length : Int) + (l6.length : Int)) + (l7.length : Int))) + (l9.length : Int))
   · rw [if_pos hs] at h
     have hs0 : decide (0 < wrap64 (wrap64 (wrap64 (wrap64 ((l3.length : Int) + (l6.length : Int)) + (l7.length : Int))) + (l9.length : Int))) = true := decide_eq_true hs
     clear hs
     simp only [Option.some.injEq, Prod.mk.injEq] at h
     obtain ⟨rfl, rfl⟩ := h
     go_wp2
     go_ret2
     exact ⟨_, rfl, Kd.R_nil _ _ _ _ _, HB.out⟩
   · rw [if_neg hs] at h
     have hs0 : decide (0 < wrap64 (wrap64 (wrap64 (wrap64 ((l3.length : Int) + (l6.length : Int)) + (l7.length : Int))) + (l9.length : Int))) = false := decide_eq_false hs
     clear hs
     by_cases h4 : a4 = 0
     · rw [if_pos h4] at h
       have hp4 : (a4 != 0) = false := bne_eq_false_iff_eq.mpr h4
       clear h4
       by_cases h5 : a5 = 0
       · rw [if_pos h5] at h
         have hp5 : (a5 != 0) = false := bne_eq_false_iff_eq.mpr h5
         clear h5
         obtain ⟨t8, hcl, h⟩ := Option.bind_eq_some_iff.mp h
         have HCL := Aside0.mk hcl
         replace H := Aside0.mk h
         clear hcl h
         go_wp2_with (first | (go_at_call 48; refine (slices_Clone_byte_byte.calls A8 c8 l8 t8 _ ?s1 ?s2 HCL.out).mono ?_; (case s1 => exact Kd.C_below HR8.out HB.out); (case s2 => exact HC8.out); rintro x w6 ⟨v, rfl, hv, hb⟩; have HV := Aside0.mk (Kd.R_lower hv HB.out.size); have n0_ := Aside0.mk (blk_below BG.out hb); have n1_ := Aside0.mk (below_step HB.out hb); clear BG BR HB hb hv; have BG := n0_; have HB := n1_; clear n0_ n1_) | (go_at_call 50; refine (pt_texts0 g code _ _ _ _ _ _ _ _ _ _ BG.out HC.out.1 HC.out.2.1 HC.out.2.2).mono ?_; rintro x w7 ⟨rfl, hb⟩; have n0_ := Aside0.mk (blk_below BG.out hb); have n1_ := Aside0.mk (Kd.R_below HV.out hb); have n2_ := Aside0.mk (below_step HB.out hb); clear BG HV HB hb; have BG := n0_; have HV := n1_; have HB := n2_; clear n0_ n1_ n2_))
         obtain ⟨A, cx, e0_⟩ := Kd.R_slice HV.out
         subst e0_
         go_loopg [50, 5] 1 (fun kq v50 v5 w' => v50 = .int .i64 0 ∧ v5 = .slice A t8.length cx ∧ w' = w7)
         case atStart => exact ⟨rfl, rfl, rfl⟩
         case round =>
          obtain ⟨rfl, rfl, rfl⟩ := hrel
          have HU := HV
          obtain ⟨bx, ebx⟩ : ∃ bx, bx = t8 := ⟨_, rfl⟩
          subst ebx
          have HF := Aside0.mk (show ctl_Put.f k code a2 bx = some (r1, r2) from H.out)
          have hz1 : wr.cell? ⟨g, 1, none⟩ = some (.int .u8 code) := (blk_cell BG.out 1).trans rfl
          have hz2 : wr.cell? ⟨g, 2, none⟩ = some (.int .u8 a2) := (blk_cell BG.out 2).trans rfl
          go_wp2_with (first | (go_at_call 51; refine (ctl_Put.calls k code a2 _ _ bx r1 r2 _ ?s1 ?s2 HF.out).mono ?_; (case s1 => exact (Kd.R_reads' HU.out).2.2); (case s2 => exact (Kd.R_reads' HU.out).2.1); rintro x w9 ⟨v0, rfl, ho, hb⟩; have HO := Aside0.mk (Kd.R_lower ho HB.out.size); have HBF := Aside0.mk (below_step HB.out hb); clear ho hb))
          go_ret2
          exact ⟨_, rfl, HO.out, HBF.out⟩
       · rw [if_neg h5] at h
         have hp5 : (a5 != 0) = true := bne_iff_ne.mpr h5
         clear h5
         simp only [Option.some.injEq, Prod.mk.injEq] at h
         obtain ⟨rfl, rfl⟩ := h
         go_wp2
         go_ret2
         exact ⟨_, rfl, Kd.R_nil _ _ _ _ _, HB.out⟩
     · rw [if_neg h4] at h
       have hp4 : (a4 != 0) = true := bne_iff_ne.mpr h4
       clear h4
       simp only [Option.some.injEq, Prod.mk.injEq] at h
       obtain ⟨rfl, rfl⟩ := h
       go_wp2
       go_ret2
       exact ⟨_, rfl, Kd.R_nil _ _ _ _ _, HB.out⟩
 · rw [if_neg h0] at h
   have hp0 : (a0 != 49187) = true := bne_iff_ne.mpr h0
   clear h0
   simp only [Option.some.injEq, Prod.mk.injEq] at h
   obtain ⟨rfl, rfl⟩ := h
   go_wp2
   go_ret2
   exact ⟨_, rfl, Kd.R_nil _ _ _ _ _, HB.out⟩
end Go.Proofs.Ytgjeahgagciagaa.Print
namespace Go.Proofs.Ytgjeahgagciagaa.Print
open Go.RowKit Go.Proofs.YtgjeahgagciagaaW.PrintWords Go.Proofs.YtgjeahgagciagaaW.PrintLast Go.Proofs.YtgjeahgagciagaaW.PrintMore
attribute [local go_sem] max2_int min2_int max_two min_two max_three min_three max_four min_four
set_option linter.unusedVariables false
set_option linter.unusedSimpArgs false
def wire_Get.l0 : Nat → Int → List Int → Int → Int → Option (Int)
 | 0, _, _, _, _ => none
 | k + 1, x5, x10, x11, x12 => if x12 < x11 then (if 0 ≤ x12 then (if x12 < (x10.length : Int) then (wire_Get.l0 k (Go.bits .or .u64 (IntKind.u64.wrap (x5 * 256)) (IntKind.u64.wrap (rd x10 x12))) x10 x11 (wrap64 (x12 + 1))) else (none)) else (none)) else (some x5)
def wire_Get.f (k : Nat) (l0 : List Int) (a1 : Int) : Option (Int) := if 0 ≤ a1 then (if a1 ≤ (l0.length : Int) then ((some (l0.take (a1 : Int).toNat : List Int)).bind fun y496 => (wire_Get.l0 k 0 y496 (y496.length : Int) 0)) else (none)) else (none)
set_option maxHeartbeats 8000000 in
set_option maxRecDepth 100000 in
theorem wire_Get.calls (k : Nat) (A0 : Option Addr) (c0 : Nat) (l0 : List Int) (a1 : Int) (r : Int) (w : World) (hr0 : Kd.C (Kd.int .u8) w A0 l0.length l0) (hc0 : l0.length ≤ c0) (h : wire_Get.f k l0 a1 = some r) :
 Calls Try.prog 62 #[.slice A0 l0.length c0, .int .i64 a1] w fun e w' => e = .returned (.int .u64 r) ∧ Drawn0 w w' := by
 have HR0 := Aside0.mk hr0
 have HC0 := Aside0.mk hc0
 clear hr0 hc0
 have H : (if 0 ≤ a1 then (if a1 ≤ (l0.length : Int) then ((some (l0.take (a1 : Int).toNat : List Int)).bind fun y496 => (wire_Get.l0 k 0 y496 (y496.length : Int) 0)) else (none)) else (none)) = some r := h
 clear h
 by_cases c3 : 0 ≤ a1
 · rw [if_pos c3] at H
   have c3b0 := eq_true c3
   have c3b1 : decide (0 ≤ a1) = true := decide_eq_true c3
   clear c3
   by_cases c4 : a1 ≤ (l0.length : Int)
   · rw [if_pos c4] at H
     have c4b0 := eq_true c4
     have c4b1 : decide (a1 ≤ (l0.length : Int)) = true := decide_eq_true c4
     clear c4
     obtain ⟨y496, hy496⟩ : ∃ y_ : List Int, y_ = (l0.take (a1 : Int).toNat) := ⟨_, rfl⟩
     replace H : (wire_Get.l0 k 0 y496 (y496.length : Int) 0) = some r := by first | (rw [hy496]; with_reducible exact H) | (have H2_ := (Option.bind_some _ _).symm.trans H; rw [hy496]; with_reducible exact H2_) | (have H2_ := (Option.bind_some _ _).symm.trans H; with_reducible exact H2_) | with_reducible exact H | (rw [hy496]; exact H) | exact H
     have Ny496 := Aside0.mk hy496
     clear hy496
     have H' := Aside0.mk H
     clear H
     have q5 : (a1 : Int) ≤ ((l0.length : Int) : Int) := of_decide_eq_true (by first | (with_reducible assumption) | assumption)
     obtain ⟨i05, hi05, _, hsz5, _⟩ := info_parts info5
     have hroom5 : l0.length ≤ c0 := HC0.out
     have hC5 : Kd.C (Kd.int .u8) _ A0 l0.length l0 := HR0.out
     have hcut5 := cut_to (P := Try.prog) 23 5 .i64 Try.underlying23 hi05 A0 l0.length c0 a1 (of_decide_eq_true (by first | (with_reducible assumption) | assumption)) q5 hroom5
     have hr5 := Kd.C_take (m := (a1 : Int).toNat) hC5 (by omega)
     have hy5 : y496.length = (a1 : Int).toNat := (by rw [Ny496.out, List.length_take]; omega)
     rw [← Ny496.out] at hr5
     rw [← hy5] at hcut5
     have HR499 := Aside0.mk hr5
     have HC499 := Aside0.mk (show y496.length ≤ c0 from by omega)
     clear hr5 hC5 hroom5 hi05 hsz5
     have KY5 := Aside0.mk hy5
     clear hy5
     replace q5 := eq_true q5
     go_enter Try.func62, Try.ntmps62
     go_wp2
     go_loopg [5, 12] k (fun kq v5 v12 w' => ∃ (x5_1 : Int) (x12_1 : Int), v5 = .int .u64 x5_1 ∧ v12 = .int .i64 x12_1 ∧ Aside0 (wire_Get.l0 kq x5_1 y496 (y496.length : Int) x12_1 = some r) ∧ Aside0 (kq ≤ k) ∧ Drawn0 w w')
     case atStart => exact ⟨(0), (0), (by first | rfl | (simp; done) | (simp [*]; done)), (by first | rfl | (simp; done) | (simp [*]; done)), H', ⟨Nat.le_refl _⟩, by repeat (first | exact Drawn0.refl _ | apply Drawn0.step)⟩
     case round =>
      clear H'
      try clear p2
      try clear c3
      try clear c3b0
      try clear c3b1
      try clear c4
      try clear c4b0
      try clear c4b1
      try clear q5
      try clear q5
      obtain ⟨x5_1, x12_1, rfl, rfl, HA, HK1, ⟨m1, rfl⟩⟩ := hrel
      cases gk with
      | zero => exact absurd HA.out (by simp [wire_Get.l0])
      | succ k1 =>
       have H := HA.out
       clear HA
       simp only [wire_Get.l0] at H
       by_cases c6 : x12_1 < (y496.length : Int)
       · rw [if_pos c6] at H
         have c6b0 : decide (x12_1 < (y496.length : Int)) = true := decide_eq_true c6
         clear c6
         by_cases c7 : 0 ≤ x12_1
         · rw [if_pos c7] at H
           have c7b0 : decide (0 ≤ x12_1) = true := decide_eq_true c7
           clear c7
           by_cases c8 : x12_1 < (y496.length : Int)
           · rw [if_pos c8] at H
             have c8b0 : decide (x12_1 < (y496.length : Int)) = true := decide_eq_true c8
             clear c8
             have H' := Aside0.mk H
             clear H
             have p500 : 0 ≤ (x12_1 : Int) := of_decide_eq_true (by first | (with_reducible assumption) | assumption)
             have q500 : x12_1 < (y496.length : Int) := of_decide_eq_true (by first | (with_reducible assumption) | assumption)
             obtain ⟨ad500, e500, hx500_0⟩ := Kd.at_int HR499.out x12_1 p500 q500
             cases e500
             replace p500 := eq_true p500
             replace q500 := eq_true q500
             go_wp2
             go_roundg k1
             case measure => have := HK1.out; omega
             case rel => exact ⟨(Go.bits .or .u64 (IntKind.u64.wrap (x5_1 * 256)) (IntKind.u64.wrap (rd y496 x12_1))), (wrap64 (x12_1 + 1)), (by first | rfl | (simp; done) | (simp [*]; done)), (by first | rfl | (simp; done) | (simp [*]; done)), H', ⟨by have := HK1.out; omega⟩, by repeat (first | exact Drawn0.refl _ | apply Drawn0.step)⟩
           · rw [if_neg c8] at H
             exact absurd H (by simp)
         · rw [if_neg c7] at H
           exact absurd H (by simp)
       · rw [if_neg c6] at H
         have c6b0 : decide (x12_1 < (y496.length : Int)) = false := decide_eq_false c6
         clear c6
         obtain rfl := Option.some.inj H
         go_wp2
         go_ret
         exact ⟨by first | rfl | (simp; done) | (simp [*]; done), by repeat (first | exact Drawn0.refl _ | apply Drawn0.step)⟩
   · rw [if_neg c4] at H
     exact absurd H (by simp)
 · rw [if_neg c3] at H
   exact absurd H (by simp)
end Go.Proofs.Ytgjeahgagciagaa.Print
namespace Go.Proofs.Ytgjeahgagciagaa.Print
open Go.RowKit Go.Proofs.YtgjeahgagciagaaW.PrintWords Go.Proofs.YtgjeahgagciagaaW.PrintLast Go.Proofs.YtgjeahgagciagaaW.PrintMore
attribute [local go_sem] max2_int min2_int max_two min_two max_three min_three max_four min_four
set_option linter.unusedVariables false
set_option linter.unusedSimpArgs false
def ctl_size.f (k : Nat) (l0 : List Int) : Option (Int × Int) := if (l0.length : Int) < 4 then (some (0, 2)) else (if 2 ≤ (l0.length : Int) then ((wire_Get.f k (l0.drop 2) 2).bind fun t505 => (if (wrap64 (t505)) < 4 then (some (0, 4)) else (if (wrap64 (t505)) > (l0.length : Int) then (some (0, 2)) else (some (wrap64 (t505), 0))))) else (none))
set_option maxHeartbeats 8000000 in
set_option maxRecDepth 100000 in
theorem ctl_size.calls (k : Nat) (A0 : Option Addr) (c0 : Nat) (l0 : List Int) (r1 : Int) (r2 : Int) (w : World) (hr0 : Kd.C (Kd.int .u8) w A0 l0.length l0) (hc0 : l0.length ≤ c0) (h : ctl_size.f k l0 = some (r1, r2)) :
 Calls Try.prog 60 #[.slice A0 l0.length c0] w fun e w' => e = .returned (.tuple #[.int .i64 r1, .int .i64 r2]) ∧ Drawn0 w w' := by
 have HR0 := Aside0.mk hr0
 have HC0 := Aside0.mk hc0
 clear hr0 hc0
 have H : (if (l0.length : Int) < 4 then (some (0, 2)) else (if 2 ≤ (l0.length : Int) then ((wire_Get.f k (l0.drop 2) 2).bind fun t505 => (if (wrap64 (t505)) < 4 then (some (0, 4)) else (if (wrap64 (t505)) > (l0.length : Int) then (some (0, 2)) else (some (wrap64 (t505), 0))))) else (none))) = some (r1, r2) := h
 clear h
 by_cases c2 : (l0.length : Int) < 4
 · rw [if_pos c2] at H
   have c2b0 : decide ((l0.length : Int) < 4) = true := decide_eq_true c2
   have c2b1 : decide (l0.length < 4) = true := decide_eq_true (by omega)
   clear c2
   simp only [Option.some.injEq, Prod.mk.injEq] at H
   obtain ⟨rfl, rfl⟩ := H
   go_enter Try.func60, Try.ntmps60
   go_wp2
   go_ret2
   exact ⟨by first | rfl | (simp; done) | (simp [*]; done), by repeat (first | exact Drawn0.refl _ | apply Drawn0.step)⟩
 · rw [if_neg c2] at H
   have c2b0 : decide ((l0.length : Int) < 4) = false := decide_eq_false c2
   have c2b1 : decide (l0.length < 4) = false := decide_eq_false (by omega)
   clear c2
   by_cases c3 : 2 ≤ (l0.length : Int)
   · rw [if_pos c3] at H
     have c3b0 := eq_true c3
     have c3b1 : decide (2 ≤ (l0.length : Int)) = true := decide_eq_true c3
     clear c3
     obtain ⟨y501, hy501⟩ : ∃ y_ : List Int, y_ = (l0.drop 2) := ⟨_, rfl⟩
     replace H : ((wire_Get.f k y501 2).bind fun t505 => (if (wrap64 (t505)) < 4 then (some (0, 4)) else (if (wrap64 (t505)) > (l0.length : Int) then (some (0, 2)) else (some (wrap64 (t505), 0))))) = some (r1, r2) := by first | (rw [hy501]; with_reducible exact H) | (have H2_ := (Option.bind_some _ _).symm.trans H; rw [hy501]; with_reducible exact H2_) | (have H2_ := (Option.bind_some _ _).symm.trans H; with_reducible exact H2_) | with_reducible exact H | (rw [hy501]; exact H) | exact H
     have Ny501 := Aside0.mk hy501
     clear hy501
     replace H := Option.bind_eq_some_iff.mp H
     obtain ⟨t505, A40, H⟩ := H
     replace H : (if (wrap64 (t505)) < 4 then (some (0, 4)) else (if (wrap64 (t505)) > (l0.length : Int) then (some (0, 2)) else (some (wrap64 (t505), 0)))) = some (r1, r2) := H
     have A4 := Aside0.mk A40
     clear A40
     by_cases c5 : (wrap64 (t505)) < 4
     · rw [if_pos c5] at H
       have c5b0 : decide ((wrap64 (t505)) < 4) = true := decide_eq_true c5
       clear c5
       simp only [Option.some.injEq, Prod.mk.injEq] at H
       obtain ⟨rfl, rfl⟩ := H
       have q6 : (2 : Int) ≤ ((l0.length : Int) : Int) := of_decide_eq_true (by first | (with_reducible assumption) | assumption)
       obtain ⟨i06, hi06, _, hsz6, _⟩ := info_parts info5
       have hroom6 : l0.length ≤ c0 := HC0.out
       have hC6 : Kd.C (Kd.int .u8) _ A0 l0.length l0 := HR0.out
       have hcut6 := cut_from (P := Try.prog) 23 5 .i64 Try.underlying23 hi06 1 hsz6 A0 l0.length c0 2 (by omega) q6
       have hr6 := Kd.C_drop (m := (2 : Int).toNat) (c := c0) hC6 (by omega) hroom6
       obtain ⟨A6, hA6⟩ : ∃ A1_, A1_ = (if c0 = (2 : Int).toNat then A0 else (A0 : Option Addr).map (·.add ((2 : Int).toNat * 1))) := ⟨_, rfl⟩
       obtain ⟨c6, hc6⟩ : ∃ c1_, c1_ = c0 - (2 : Int).toNat := ⟨_, rfl⟩
       have hy6 : y501.length = l0.length - (2 : Int).toNat := (by rw [Ny501.out, List.length_drop] <;> omega)
       rw [show (l0).drop (2 : Int).toNat = y501 from Ny501.out.symm] at hr6
       replace hr6 : Kd.C (Kd.int .u8) _ A6 y501.length y501 := (by rw [hA6]; exact hr6)
       rw [← hy6, ← hA6, ← hc6] at hcut6
       have HR504 := Aside0.mk hr6
       have HC504 := Aside0.mk (show y501.length ≤ c6 from by rw [hy6, hc6]; exact Nat.sub_le_sub_right hroom6 _)
       clear hr6 hC6 hroom6 hi06 hsz6 hc6
       have KY6 := Aside0.mk hy6
       have KA6 := Aside0.mk hA6
       clear hy6 hA6
       replace q6 := eq_true q6
       go_enter Try.func60, Try.ntmps60
       go_wp2_with (first | ((with_reducible refine gate_callee (f := 62) rfl ?_); refine goesL_ (some 10) rfl rfl Try.func62 (by kernel_rfl) rfl #[.slice A6 y501.length c6, .int .i64 2] rfl (by (try simp only [List.map_toArray, List.map_cons, List.map_nil]); first | done | rfl | (simp only [List.length_drop, List.length_take]; rfl)) ?_; (with_reducible refine (wire_Get.calls k _ _ y501 2 t505 _ ?side1 ?side2 A4.out).mono ?_); (case side1 => repeat (first | exact HR504.out | (with_reducible refine Kd.C_alloc ?_ _) | (with_reducible refine Kd.C_drewN ?_ _) | (with_reducible refine Kd.C_drew ?_))); (case side2 => exact HC504.out); rintro e w' ⟨rfl, ⟨nd, rfl⟩⟩; refine ⟨_, rfl, ?_⟩))
       go_ret2
       exact ⟨by first | rfl | (simp; done) | (simp [*]; done), by repeat (first | exact Drawn0.refl _ | apply Drawn0.step)⟩
     · rw [if_neg c5] at H
       have c5b0 : decide ((wrap64 (t505)) < 4) = false := decide_eq_false c5
       clear c5
       by_cases c7 : (wrap64 (t505)) > (l0.length : Int)
       · rw [if_pos c7] at H
         have c7b0 : decide ((l0.length : Int) < (wrap64 (t505))) = true := decide_eq_true c7
         clear c7
         simp only [Option.some.injEq, Prod.mk.injEq] at H
         obtain ⟨rfl, rfl⟩ := H
         have q8 : (2 : Int) ≤ ((l0.length : Int) : Int) := of_decide_eq_true (by first | (with_reducible assumption) | assumption)
         obtain ⟨i08, hi08, _, hsz8, _⟩ := info_parts info5
         have hroom8 : l0.length ≤ c0 := HC0.out
         have hC8 : Kd.C (Kd.int .u8) _ A0 l0.length l0 := HR0.out
         have hcut8 := cut_from (P := Try.prog) 23 5 .i64 Try.underlying23 hi08 1 hsz8 A0 l0.length c0 2 (by omega) q8
         have hr8 := Kd.C_drop (m := (2 : Int).toNat) (c := c0) hC8 (by omega) hroom8
         obtain ⟨A8, hA8⟩ : ∃ A1_, A1_ = (if c0 = (2 : Int).toNat then A0 else (A0 : Option Addr).map (·.add ((2 : Int).toNat * 1))) := ⟨_, rfl⟩
         obtain ⟨c8, hc8⟩ : ∃ c1_, c1_ = c0 - (2 : Int).toNat := ⟨_, rfl⟩
         have hy8 : y501.length = l0.length - (2 : Int).toNat := (by rw [Ny501.out, List.length_drop] <;> omega)
         rw [show (l0).drop (2 : Int).toNat = y501 from Ny501.out.symm] at hr8
         replace hr8 : Kd.C (Kd.int .u8) _ A8 y501.length y501 := (by rw [hA8]; exact hr8)
         rw [← hy8, ← hA8, ← hc8] at hcut8
         have HR504 := Aside0.mk hr8
         have HC504 := Aside0.mk (show y501.length ≤ c8 from by rw [hy8, hc8]; exact Nat.sub_le_sub_right hroom8 _)
         clear hr8 hC8 hroom8 hi08 hsz8 hc8
         have KY8 := Aside0.mk hy8
         have KA8 := Aside0.mk hA8
         clear hy8 hA8
         replace q8 := eq_true q8
         go_enter Try.func60, Try.ntmps60
         go_wp2_with (first | ((with_reducible refine gate_callee (f := 62) rfl ?_); refine goesL_ (some 10) rfl rfl Try.func62 (by kernel_rfl) rfl #[.slice A8 y501.length c8, .int .i64 2] rfl (by (try simp only [List.map_toArray, List.map_cons, List.map_nil]); first | done | rfl | (simp only [List.length_drop, List.length_take]; rfl)) ?_; (with_reducible refine (wire_Get.calls k _ _ y501 2 t505 _ ?side1 ?side2 A4.out).mono ?_); (case side1 => repeat (first | exact HR504.out | (with_reducible refine Kd.C_alloc ?_ _) | (with_reducible refine Kd.C_drewN ?_ _) | (with_reducible refine Kd.C_drew ?_))); (case side2 => exact HC504.out); rintro e w' ⟨rfl, ⟨nd, rfl⟩⟩; refine ⟨_, rfl, ?_⟩))
         go_ret2
         exact ⟨by first | rfl | (simp; done) | (simp [*]; done), by repeat (first | exact Drawn0.refl _ | apply Drawn0.step)⟩
       · rw [if_neg c7] at H
         have c7b0 : decide ((l0.length : Int) < (wrap64 (t505))) = false := decide_eq_false c7
         clear c7
         simp only [Option.some.injEq, Prod.mk.injEq] at H
         obtain ⟨rfl, rfl⟩ := H
         have q9 : (2 : Int) ≤ ((l0.length : Int) : Int) := of_decide_eq_true (by first | (with_reducible assumption) | assumption)
         obtain ⟨i09, hi09, _, hsz9, _⟩ := info_parts info5
         have hroom9 : l0.length ≤ c0 := HC0.out
         have hC9 : Kd.C (Kd.int .u8) _ A0 l0.length l0 := HR0.out
         have hcut9 := cut_from (P := Try.prog) 23 5 .i64 Try.underlying23 hi09 1 hsz9 A0 l0.length c0 2 (by omega) q9
         have hr9 := Kd.C_drop (m := (2 : Int).toNat) (c := c0) hC9 (by omega) hroom9
         obtain ⟨A9, hA9⟩ : ∃ A1_, A1_ = (if c0 = (2 : Int).toNat then A0 else (A0 : Option Addr).map (·.add ((2 : Int).toNat * 1))) := ⟨_, rfl⟩
         obtain ⟨c9, hc9⟩ : ∃ c1_, c1_ = c0 - (2 : Int).toNat := ⟨_, rfl⟩
         have hy9 : y501.length = l0.length - (2 : Int).toNat := (by rw [Ny501.out, List.length_drop] <;> omega)
         rw [show (l0).drop (2 : Int).toNat = y501 from Ny501.out.symm] at hr9
         replace hr9 : Kd.C (Kd.int .u8) _ A9 y501.length y501 := (by rw [hA9]; exact hr9)
         rw [← hy9, ← hA9, ← hc9] at hcut9
         have HR504 := Aside0.mk hr9
         have HC504 := Aside0.mk (show y501.length ≤ c9 from by rw [hy9, hc9]; exact Nat.sub_le_sub_right hroom9 _)
         clear hr9 hC9 hroom9 hi09 hsz9 hc9
         have KY9 := Aside0.mk hy9
         have KA9 := Aside0.mk hA9
         clear hy9 hA9
         replace q9 := eq_true q9
         go_enter Try.func60, Try.ntmps60
         go_wp2_with (first | ((with_reducible refine gate_callee (f := 62) rfl ?_); refine goesL_ (some 10) rfl rfl Try.func62 (by kernel_rfl) rfl #[.slice A9 y501.length c9, .int .i64 2] rfl (by (try simp only [List.map_toArray, List.map_cons, List.map_nil]); first | done | rfl | (simp only [List.length_drop, List.length_take]; rfl)) ?_; (with_reducible refine (wire_Get.calls k _ _ y501 2 t505 _ ?side1 ?side2 A4.out).mono ?_); (case side1 => repeat (first | exact HR504.out | (with_reducible refine Kd.C_alloc ?_ _) | (with_reducible refine Kd.C_drewN ?_ _) | (with_reducible refine Kd.C_drew ?_))); (case side2 => exact HC504.out); rintro e w' ⟨rfl, ⟨nd, rfl⟩⟩; refine ⟨_, rfl, ?_⟩))
         go_ret2
         exact ⟨by first | rfl | (simp; done) | (simp [*]; done), by repeat (first | exact Drawn0.refl _ | apply Drawn0.step)⟩
   · rw [if_neg c3] at H
     exact absurd H (by simp)
end Go.Proofs.Ytgjeahgagciagaa.Print
namespace Go.Proofs.Ytgjeahgagciagaa.Print
open Go.RowKit Go.Proofs.YtgjeahgagciagaaW.PrintWords Go.Proofs.YtgjeahgagciagaaW.PrintLast Go.Proofs.YtgjeahgagciagaaW.PrintMore
attribute [local go_sem] max2_int min2_int max_two min_two max_three min_three max_four min_four
set_option linter.unusedVariables false
set_option linter.unusedSimpArgs false
def ctl_Get.f (k : Nat) (l0 : List Int) : Option (Int × Int × List Int × Int) := (ctl_size.f k l0).bind fun bt506 => (if bt506.2 = 0 then (if 0 < (l0.length : Int) then (if 1 < (l0.length : Int) then (if 4 ≤ bt506.1 then (if bt506.1 ≤ (l0.length : Int) then ((slices_Clone_byte_byte.f ((l0.take (bt506.1 : Int).toNat).drop 4)).bind fun t514 => (some (rd l0 0, rd l0 1, t514, 0))) else (none)) else (none)) else (none)) else (none)) else (some (0, 0, ([] : List Int), bt506.2)))
def ctl_Get.T4 : Bool × List (List Nat × List Nat) := (true, [([], []), ([0], [0]), ([1], [1]), ([], []), ([3], [3]), ([4], [4]), ([], []), ([], []), ([6, 7], [6, 7]), ([8], [8]), ([2, 9, 0, 1, 2], [2]), ([5, 10, 0, 1, 2, 3, 4, 5, 10], [5]), ([9, 11, 0, 1, 2, 3, 4, 5, 6, 7, 8, 9, 10, 11], [9]), ([12, 0, 1, 2, 3, 4, 5, 6, 7, 8, 9, 10, 11, 12], [])])
def ctl_Get.B4 : List Nat := [0, 1, 3, 0, 8, 24, 0, 0, 192, 448, 967, 2047, 4095, 8191]
theorem ctl_Get.tab4 : rtab .any (opsOf Try.f53 4) = ctl_Get.T4 := by kernel_rfl
theorem ctl_Get.bits4 : waitsOk ctl_Get.T4.2 ctl_Get.B4 = true := by kernel_rfl
set_option maxHeartbeats 8000000 in
set_option maxRecDepth 100000 in
theorem ctl_Get.calls (k : Nat) (A0 : Option Addr) (c0 : Nat) (l0 : List Int) (r1 : Int) (r2 : Int) (r3 : List Int) (r4 : Int) (w : World) (hr0 : Kd.C (Kd.int .u8) w A0 l0.length l0) (hc0 : l0.length ≤ c0) (h : ctl_Get.f k l0 = some (r1, r2, r3, r4)) :
 Calls Try.prog 53 #[.slice A0 l0.length c0] w fun e w' => ∃ v2_ : Value, e = .returned (.tuple #[.int .u8 r1, .int .u8 r2, v2_, .int .i64 r4]) ∧ Kd.R (Kd.int .u8) 5 w' w.heap.size (fun _ => True) v2_ r3 ∧ Below w.heap.size w w' := by
 have HR0 := Aside0.mk hr0
 have HC0 := Aside0.mk hc0
 clear hr0 hc0
 have HB := Aside0.mk (Below.refl w.heap.size w)
 have H : ((ctl_size.f k l0).bind fun bt506 => (if bt506.2 = 0 then (if 0 < (l0.length : Int) then (if 1 < (l0.length : Int) then (if 4 ≤ bt506.1 then (if bt506.1 ≤ (l0.length : Int) then ((slices_Clone_byte_byte.f ((l0.take (bt506.1 : Int).toNat).drop 4)).bind fun t514 => (some (rd l0 0, rd l0 1, t514, 0))) else (none)) else (none)) else (none)) else (none)) else (some (0, 0, ([] : List Int), bt506.2)))) = some (r1, r2, r3, r4) := h
 clear h
 replace H := Option.bind_eq_some_iff.mp H
 obtain ⟨⟨t506, t507⟩, A20, H⟩ := H
 replace H : (if t507 = 0 then (if 0 < (l0.length : Int) then (if 1 < (l0.length : Int) then (if 4 ≤ t506 then (if t506 ≤ (l0.length : Int) then ((slices_Clone_byte_byte.f ((l0.take (t506 : Int).toNat).drop 4)).bind fun t514 => (some (rd l0 0, rd l0 1, t514, 0))) else (none)) else (none)) else (none)) else (none)) else (some (0, 0, ([] : List Int), t507))) = some (r1, r2, r3, r4) := H
 have A2 := Aside0.mk A20
 clear A20
 by_cases c3 : t507 = 0
 · rw [if_pos c3] at H
   have c3b0 : (t507 == 0) = true := beq_iff_eq.mpr c3
   have c3b1 : (t507 != 0) = false := bne_eq_false_iff_eq.mpr c3
   clear c3
   by_cases c4 : 0 < (l0.length : Int)
   · rw [if_pos c4] at H
     have c4b0 : decide (0 < (l0.length : Int)) = true := decide_eq_true c4
     have c4b1 : decide (0 < l0.length) = true := decide_eq_true (by omega)
     clear c4
     by_cases c5 : 1 < (l0.length : Int)
     · rw [if_pos c5] at H
       have c5b0 : decide (1 < (l0.length : Int)) = true := decide_eq_true c5
       have c5b1 : decide (1 < l0.length) = true := decide_eq_true (by omega)
       clear c5
       by_cases c6 : 4 ≤ t506
       · rw [if_pos c6] at H
         have c6b0 := eq_true c6
         have c6b1 : decide (4 ≤ t506) = true := decide_eq_true c6
         clear c6
         by_cases c7 : t506 ≤ (l0.length : Int)
         · rw [if_pos c7] at H
           have c7b0 := eq_true c7
           have c7b1 : decide (t506 ≤ (l0.length : Int)) = true := decide_eq_true c7
           clear c7
           obtain ⟨y510, hy510⟩ : ∃ y_ : List Int, y_ = ((l0.take (t506 : Int).toNat).drop 4) := ⟨_, rfl⟩
           replace H : ((slices_Clone_byte_byte.f y510).bind fun t514 => (some (rd l0 0, rd l0 1, t514, 0))) = some (r1, r2, r3, r4) := by first | (rw [hy510]; with_reducible exact H) | (have H2_ := (Option.bind_some _ _).symm.trans H; rw [hy510]; with_reducible exact H2_) | (have H2_ := (Option.bind_some _ _).symm.trans H; with_reducible exact H2_) | with_reducible exact H | (rw [hy510]; exact H) | exact H
           have Ny510 := Aside0.mk hy510
           clear hy510
           replace H := Option.bind_eq_some_iff.mp H
           obtain ⟨t514, A80, H⟩ := H
           replace H : (some (rd l0 0, rd l0 1, t514, 0)) = some (r1, r2, r3, r4) := H
           have A8 := Aside0.mk A80
           clear A80
           simp only [Option.some.injEq, Prod.mk.injEq] at H
           obtain ⟨rfl, rfl, rfl, rfl⟩ := H
           go_enter Try.func53, Try.ntmps53
           try go_wp2_with (first | ((with_reducible refine gate_callee (f := 60) rfl ?_); refine goesL_ (some 9) rfl rfl Try.func60 (by kernel_rfl) rfl #[.slice A0 l0.length c0] rfl (by (try simp only [List.map_toArray, List.map_cons, List.map_nil]); first | done | rfl | (simp only [List.length_drop, List.length_take]; rfl)) ?_; (with_reducible refine (ctl_size.calls k _ _ l0 t506 t507 _ ?side1 ?side2 A2.out).mono ?_); (case side1 => repeat (first | exact HR0.out | (with_reducible refine Kd.C_alloc ?_ _) | (with_reducible refine Kd.C_drewN ?_ _) | (with_reducible refine Kd.C_drew ?_))); (case side2 => exact HC0.out); rintro e w' ⟨rfl, ⟨nd, rfl⟩⟩; refine ⟨_, rfl, ?_⟩))
           rw [drewN_self w]
           generalize hq_ : World.drewN w _ = w9
           have n0_ := Aside0.mk (show Below w.heap.size w w9 from by rw [← hq_]; exact pw_below_drewN HB.out _)
           clear HB hq_
           have HB := n0_
           clear n0_
           have n0_ := Aside0.mk (below_drew1 HB.out)
           clear HB
           have HB := n0_
           clear n0_
           have p508 : 0 ≤ (0 : Int) := (by omega)
           have q508 : 0 < (l0.length : Int) := of_decide_eq_true (by first | (with_reducible assumption) | assumption)
           obtain ⟨ad508, e508, hx508_0⟩ := Kd.at_int HR0.out 0 p508 q508
           have hw508_0 := hx508_0
           (try rw [show ((0 : Int)).toNat = 0 from rfl] at hw508_0)
           (try rw [show 0 * 1 = 0 from rfl] at hw508_0)
           (try rw [Addr.add_zero'] at hw508_0)
           cases e508
           have qi508 : (0 < l0.length) = True := eq_true (by omega)
           (try rw [show ((0 : Int)).toNat = 0 from rfl] at hx508_0)
           (try rw [Addr.add_zero'] at hx508_0)
           replace hx508_0 := (HB.out.cell (World.block_lt_of_cell? w _ hx508_0)).trans hx508_0
           replace p508 := eq_true p508
           replace q508 := eq_true q508
           have p509 : 0 ≤ (1 : Int) := (by omega)
           have q509 : 1 < (l0.length : Int) := of_decide_eq_true (by first | (with_reducible assumption) | assumption)
           obtain ⟨ad509, e509, hx509_0⟩ := Kd.at_int HR0.out 1 p509 q509
           have hw509_0 := hx509_0
           (try rw [show ((1 : Int)).toNat = 1 from rfl] at hw509_0)
           (try rw [show 1 * 1 = 1 from rfl] at hw509_0)
           (try simp only [Nat.reduceMul, Nat.reduceEqDiff, Go.Addr.add, ↓reduceIte] at hw509_0)
           obtain rfl : ad508 = ad509 := (by injection e509)
           (try simp only [show (1 : Int).toNat = 1 from rfl, Nat.reduceMul, Nat.reduceEqDiff, Go.Addr.add, ↓reduceIte] at hx509_0)
           have qi509 : (1 < l0.length) = True := eq_true (by omega)
           (try rw [show ((1 : Int)).toNat = 1 from rfl] at hx509_0)
           replace hx509_0 := (HB.out.cell (World.block_lt_of_cell? w _ hx509_0)).trans hx509_0
           replace p509 := eq_true p509
           replace q509 := eq_true q509
           have q11 : (t506 : Int) ≤ ((l0.length : Int) : Int) := of_decide_eq_true (by first | (with_reducible assumption) | assumption)
           obtain ⟨i011, hi011, _, hsz11, _⟩ := info_parts info5
           have hroom11 : l0.length ≤ c0 := HC0.out
           have hC11 : Kd.C (Kd.int .u8) _ (some ad508) l0.length l0 := HR0.out
           have ql11 : (4 : Int) ≤ (t506 : Int) := of_decide_eq_true (by first | (with_reducible assumption) | assumption)
           have hcut11 := cut_mid (P := Try.prog) 23 5 .i64 .i64 Try.underlying23 hi011 1 hsz11 (some ad508) l0.length c0 4 t506 (by omega) ql11 q11 hroom11
           have hr11 := Kd.C_mid (lo := (4 : Int).toNat) (hi := (t506 : Int).toNat) (c := c0) hC11 (by omega) (by omega) hroom11
           obtain ⟨A11, hA11⟩ : ∃ A1_, A1_ = (if c0 = (4 : Int).toNat then (some ad508) else ((some ad508) : Option Addr).map (·.add ((4 : Int).toNat * 1))) := ⟨_, rfl⟩
           obtain ⟨c11, hc11⟩ : ∃ c1_, c1_ = c0 - (4 : Int).toNat := ⟨_, rfl⟩
           have hy11 : y510.length = (t506 : Int).toNat - (4 : Int).toNat := (by rw [Ny510.out, List.length_drop, List.length_take] <;> omega)
           rw [show ((l0).take (t506 : Int).toNat).drop (4 : Int).toNat = y510 from Ny510.out.symm] at hr11
           replace hr11 : Kd.C (Kd.int .u8) _ A11 y510.length y510 := (by rw [hA11]; exact hr11)
           rw [← hy11, ← hA11, ← hc11] at hcut11
           have HR513 := Aside0.mk hr11
           have HC513 := Aside0.mk (show y510.length ≤ c11 from by rw [hy11, hc11]; exact Nat.sub_le_sub_right (Nat.le_trans (by omega) hroom11) _)
           clear hr11 hC11 hroom11 hi011 hsz11 hc11
           have KY11 := Aside0.mk hy11
           have KA11 := Aside0.mk hA11
           clear hy11 hA11
           replace q11 := eq_true q11
           refine start_ (n := 14) (S := fun w' => w'.cell? ad508 = some (.int .u8 (rd l0 0)) ∧ w'.cell? ⟨ad508.block, ad508.off + 1, none⟩ = some (.int .u8 (rd l0 1))) (ds := []) #[false, false, false, false, false, false, false, false, false, false, false, false, false, false] (by kernel_rfl) rfl rfl ⟨((HB.out.cell (World.block_lt_of_cell? w _ hw508_0)).trans hw508_0), ((HB.out.cell (World.block_lt_of_cell? w _ hw509_0)).trans hw509_0)⟩ (fun hHeld => ?_); refine with_tabW ctl_Get.tab4 ctl_Get.bits4 (fun HT_ HW_ => ?_)
           generalize w9.drew = w10 at HB HR513 hx508_0 hx509_0 hHeld ⊢
           refine pure_ (i := 0) (N := some 15) (v := ?_) (a' := ?_) #[true, false, false, false, false, false, false, false, false, false, false, false, false, false] rfl rfl (any_of HT_.out (by kernel_rfl)) (fun _ _ _ h => h) (Or.inl ⟨by rfl, ?_⟩) ?_ ?_
           rotate_left
           · intro w'
             go_simp
             with_reducible rfl
           rotate_left
           · simp only [Act.put, List.setIfInBounds_toArray, List.set_cons_zero, List.set_cons_succ, i64_w, i32_w]
             rfl
           refine pure_ (i := 1) (N := some 16) (v := ?_) (a' := ?_) #[true, true, false, false, false, false, false, false, false, false, false, false, false, false] rfl rfl (any_of HT_.out (by kernel_rfl)) (fun _ _ _ h => h) (Or.inl ⟨by rfl, ?_⟩) ?_ ?_
           rotate_left
           · intro w'
             go_simp
             with_reducible rfl
           rotate_left
           · simp only [Act.put, List.setIfInBounds_toArray, List.set_cons_zero, List.set_cons_succ, i64_w, i32_w]
             rfl
           refine pure_ (i := 3) (N := some 18) (v := ?_) (a' := ?_) #[true, true, false, true, false, false, false, false, false, false, false, false, false, false] rfl rfl (any_of HT_.out (by kernel_rfl)) (fun _ _ _ h => h) (Or.inl ⟨by rfl, ?_⟩) ?_ ?_
           rotate_left
           · intro w'
             go_simp
             with_reducible rfl
           rotate_left
           · simp only [Act.put, List.setIfInBounds_toArray, List.set_cons_zero, List.set_cons_succ, i64_w, i32_w]
             rfl
           refine pure_ (i := 4) (N := some 19) (v := ?_) (a' := ?_) #[true, true, false, true, true, false, false, false, false, false, false, false, false, false] rfl rfl (any_of HT_.out (by kernel_rfl)) (fun _ _ _ h => h) (Or.inl ⟨by rfl, ?_⟩) ?_ ?_
           rotate_left
           · intro w'
             go_simp
             with_reducible rfl
           rotate_left
           · simp only [Act.put, List.setIfInBounds_toArray, List.set_cons_zero, List.set_cons_succ, i64_w, i32_w]
             rfl
           refine pure_ (i := 6) (N := some 21) (v := ?_) (a' := ?_) #[true, true, false, true, true, false, true, false, false, false, false, false, false, false] rfl rfl (any_of HT_.out (by kernel_rfl)) (fun _ _ _ h => h) (Or.inl ⟨by rfl, ?_⟩) ?_ ?_
           rotate_left
           · intro w'
             go_simp
             with_reducible rfl
           rotate_left
           · simp only [Act.put, List.setIfInBounds_toArray, List.set_cons_zero, List.set_cons_succ, i64_w, i32_w]
             rfl
           refine pure_ (i := 7) (N := some 22) (v := ?_) (a' := ?_) #[true, true, false, true, true, false, true, true, false, false, false, false, false, false] rfl rfl (any_of HT_.out (by kernel_rfl)) (fun _ _ _ h => h) (Or.inl ⟨by rfl, ?_⟩) ?_ ?_
           rotate_left
           · intro w'
             go_simp
             with_reducible rfl
           rotate_left
           · simp only [Act.put, List.setIfInBounds_toArray, List.set_cons_zero, List.set_cons_succ, i64_w, i32_w]
             rfl
           refine pure_ (i := 8) (N := some 23) (v := ?_) (a' := ?_) #[true, true, false, true, true, false, true, true, true, false, false, false, false, false] rfl rfl (any_of HT_.out (by kernel_rfl)) (fun _ _ _ h => h) (Or.inl ⟨by rfl, ?_⟩) ?_ ?_
           rotate_left
           · intro w'
             go_simp
             with_reducible rfl
           rotate_left
           · simp only [Act.put, List.setIfInBounds_toArray, List.set_cons_zero, List.set_cons_succ, i64_w, i32_w]
             rfl
           refine take_ (i := 2) (N := some 17) (v := ?_) (a' := ?_) #[true, true, true, true, true, false, true, true, true, false, false, false, false, false] rfl rfl (take_ofW HT_.out HW_.out (by kernel_rfl)) (fun _ _ _ h => h) (Or.inl ⟨by rfl, ?_⟩) hHeld ?_ ?_
           rotate_left
           · rintro w' ⟨s0, s1⟩
             go_simp
             with_reducible rfl
           rotate_left
           · simp only [Act.put, List.setIfInBounds_toArray, List.set_cons_zero, List.set_cons_succ, i64_w, i32_w]
             rfl
           refine take_ (i := 5) (N := some 20) (v := ?_) (a' := ?_) #[true, true, true, true, true, true, true, true, true, false, false, false, false, false] rfl rfl (take_ofW HT_.out HW_.out (by kernel_rfl)) (fun _ _ _ h => h) (Or.inl ⟨by rfl, ?_⟩) hHeld ?_ ?_
           rotate_left
           · rintro w' ⟨s0, s1⟩
             go_simp
             with_reducible rfl
           rotate_left
           · simp only [Act.put, List.setIfInBounds_toArray, List.set_cons_zero, List.set_cons_succ, i64_w, i32_w]
             rfl
           refine one_ (i := 9) (N := some 24) #[true, true, true, true, true, true, true, true, true, true, false, false, false, false] rfl rfl (one_of HT_.out (by kernel_rfl)) (by decide) (fun K hK => ?_)
           refine goes_ Try.func48 (by kernel_rfl) rfl #[.slice A11 y510.length c11] (by rfl) rfl rfl (by (try simp only [List.map_toArray, List.map_cons, List.map_nil]); first | done | rfl | (simp only [List.length_drop, List.length_take]; rfl)) ?_
           with_reducible refine (slices_Clone_byte_byte.calls _ _ y510 t514 _ ?side1 ?side2 A8.out).mono ?_
           (case side1 => repeat (first | exact (Kd.C_below HR513.out HB.out) | (with_reducible refine Kd.C_alloc ?_ _) | (with_reducible refine Kd.C_drewN ?_ _) | (with_reducible refine Kd.C_drew ?_)))
           (case side2 => exact HC513.out)
           rintro e w12 ⟨v515, rfl, ho0, hb⟩
           refine ⟨_, rfl, ?_⟩
           have n0_ := Aside0.mk (Kd.R_lower ho0 (below_size (by repeat (first | (with_reducible first | exact HB.out | apply below_alloc | apply pw_below_drewN | apply below_drew1) | exact HB.out))))
           have n1_ := Aside0.mk (below_step (by repeat (first | (with_reducible first | exact HB.out | apply below_alloc | apply pw_below_drewN | apply below_drew1) | exact HB.out)) hb)
           clear HB
           have HO516 := n0_
           have HB := n1_
           clear n0_ n1_
           (try clear hb)
           (try clear hb2)
           (try clear hk)
           (try clear hi)
           (try clear ho0)
           refine hK.out _ _ ⟨((HB.out.cell (World.block_lt_of_cell? w _ hw508_0)).trans hw508_0), ((HB.out.cell (World.block_lt_of_cell? w _ hw509_0)).trans hw509_0)⟩ (fun hHeld => ?_)
           clear hK K
           refine norm_ (a' := ?_) ?_ ?_
           rotate_left
           · show Act.put _ (some 24) _ = _
             simp only [Act.put, List.setIfInBounds_toArray, List.set_cons_zero, List.set_cons_succ, i64_w, i32_w]
             rfl
           refine pure_ (i := 10) (N := some 2) (v := ?_) (a' := ?_) #[true, true, true, true, true, true, true, true, true, true, true, false, false, false] rfl rfl (any_of HT_.out (by kernel_rfl)) (fun _ _ _ h => h) (Or.inl ⟨by rfl, ?_⟩) ?_ ?_
           rotate_left
           · intro w'
             go_simp
             with_reducible rfl
           rotate_left
           · simp only [Act.put, List.setIfInBounds_toArray, List.set_cons_zero, List.set_cons_succ, i64_w, i32_w]
             rfl
           refine pure_ (i := 11) (N := some 3) (v := ?_) (a' := ?_) #[true, true, true, true, true, true, true, true, true, true, true, true, false, false] rfl rfl (any_of HT_.out (by kernel_rfl)) (fun _ _ _ h => h) (Or.inl ⟨by rfl, ?_⟩) ?_ ?_
           rotate_left
           · intro w'
             go_simp
             with_reducible rfl
           rotate_left
           · simp only [Act.put, List.setIfInBounds_toArray, List.set_cons_zero, List.set_cons_succ, i64_w, i32_w]
             rfl
           refine pure_ (i := 12) (N := some 4) (v := ?_) (a' := ?_) #[true, true, true, true, true, true, true, true, true, true, true, true, true, false] rfl rfl (any_of HT_.out (by kernel_rfl)) (fun _ _ _ h => h) (Or.inl ⟨by rfl, ?_⟩) ?_ ?_
           rotate_left
           · intro w'
             go_simp
             with_reducible rfl
           rotate_left
           · simp only [Act.put, List.setIfInBounds_toArray, List.set_cons_zero, List.set_cons_succ, i64_w, i32_w]
             rfl
           refine pure_ (i := 13) (N := some 5) (v := ?_) (a' := ?_) #[true, true, true, true, true, true, true, true, true, true, true, true, true, true] rfl rfl (any_of HT_.out (by kernel_rfl)) (fun _ _ _ h => h) (Or.inl ⟨by rfl, ?_⟩) ?_ ?_
           rotate_left
           · intro w'
             go_simp
             with_reducible rfl
           rotate_left
           · simp only [Act.put, List.setIfInBounds_toArray, List.set_cons_zero, List.set_cons_succ, i64_w, i32_w]
             rfl
           refine done_ (done_of HT_.out (by kernel_rfl)) ?_
           try go_wp2
           refine bodyPost_ret (results_list (rs := [.tmp 2, .tmp 3, .tmp 4, .tmp 5]) rfl (by simp) (.tmp (.tmp (.tmp (.tmp .nil))))) rfl ?_
           exact ⟨_, by first | rfl | (simp [errW_none, errW_some] <;> rfl) | (simp [*, errW_none, errW_some] <;> rfl), by (with_reducible repeat (first | apply Kd.R_alloc | apply Kd.R_drewN | apply Kd.R_drew)); exact HO516.out, by repeat (first | (with_reducible first | exact HB.out | apply below_alloc | apply pw_below_drewN | apply below_drew1) | exact HB.out)⟩
         · rw [if_neg c7] at H
           exact absurd H (by simp)
       · rw [if_neg c6] at H
         exact absurd H (by simp)
     · rw [if_neg c5] at H
       exact absurd H (by simp)
   · rw [if_neg c4] at H
     exact absurd H (by simp)
 · rw [if_neg c3] at H
   have c3b0 : (t507 == 0) = false := beq_eq_false_iff_ne.mpr c3
   have c3b1 : (t507 != 0) = true := bne_iff_ne.mpr c3
   simp only [Option.some.injEq, Prod.mk.injEq] at H
   obtain ⟨rfl, rfl, rfl, rfl⟩ := H
   go_enter Try.func53, Try.ntmps53
   go_wp2_with (first | ((with_reducible refine gate_callee (f := 60) rfl ?_); refine goesL_ (some 9) rfl rfl Try.func60 (by kernel_rfl) rfl #[.slice A0 l0.length c0] rfl (by (try simp only [List.map_toArray, List.map_cons, List.map_nil]); first | done | rfl | (simp only [List.length_drop, List.length_take]; rfl)) ?_; (with_reducible refine (ctl_size.calls k _ _ l0 t506 t507 _ ?side1 ?side2 A2.out).mono ?_); (case side1 => repeat (first | exact HR0.out | (with_reducible refine Kd.C_alloc ?_ _) | (with_reducible refine Kd.C_drewN ?_ _) | (with_reducible refine Kd.C_drew ?_))); (case side2 => exact HC0.out); rintro e w' ⟨rfl, ⟨nd, rfl⟩⟩; refine ⟨_, rfl, ?_⟩))
   refine bodyPost_ret (results_list (rs := [.tmp 2, .tmp 3, .tmp 4, .tmp 5]) rfl (by simp) (.tmp (.tmp (.tmp (.tmp .nil))))) rfl ?_
   exact ⟨_, by first | rfl | (simp [errW_none, errW_some] <;> rfl) | (simp [*, errW_none, errW_some] <;> rfl), by first | exact Kd.R_nil _ _ _ _ _ | exact Kd.N_nil _ _ _ _ _ | exact Kd.V_nil _ _ _ _ _ | exact Kd.Q_nil _ _ _ _ _ | exact Kd.S_nil _ _ _ _ _, by repeat (first | (with_reducible first | exact HB.out | apply below_alloc | apply pw_below_drewN | apply below_drew1) | exact HB.out)⟩
end Go.Proofs.Ytgjeahgagciagaa.Print
namespace Go.Proofs.Ytgjeahgagciagaa.Print
open Go.RowKit Go.Proofs.YtgjeahgagciagaaW.PrintWords Go.Proofs.YtgjeahgagciagaaW.PrintLast Go.Proofs.YtgjeahgagciagaaW.PrintMore
attribute [local go_sem] max2_int min2_int max_two min_two max_three min_three max_four min_four
set_option linter.unusedVariables false
set_option linter.unusedSimpArgs false
def pap_text.f (l0 : List Int) : Option (List Int × List Int × Bool) := if (l0.length : Int) = 0 then (some (([] : List Int), ([] : List Int), false)) else (if 0 < (l0.length : Int) then (if (l0.length : Int) ≤ (wrap64 (rd l0 0)) then (some (([] : List Int), ([] : List Int), false)) else (if 1 ≤ (wrap64 (1 + (wrap64 (rd l0 0)))) then (if (wrap64 (1 + (wrap64 (rd l0 0)))) ≤ (l0.length : Int) then ((slices_Clone_byte_byte.f ((l0.take ((wrap64 (1 + (wrap64 (rd l0 0)))) : Int).toNat).drop 1)).bind fun t918 => (if 0 ≤ (wrap64 (1 + (wrap64 (rd l0 0)))) then (some (t918, (l0.drop ((wrap64 (1 + (wrap64 (rd l0 0)))) : Int).toNat), true)) else (none))) else (none)) else (none))) else (none))
def pap_text.T4 : Bool × List (List Nat × List Nat) := (true, [([], []), ([], []), ([0, 1], [0, 1]), ([2], [2]), ([], []), ([], []), ([4, 5], [4, 5]), ([3, 3, 0, 1, 2, 3], [3]), ([6, 7, 0, 1, 2, 3, 4, 5, 6, 7], [6]), ([8, 0, 1, 2, 3, 4, 5, 6, 7, 8], [])])
def pap_text.B4 : List Nat := [0, 0, 3, 7, 0, 0, 48, 15, 255, 511]
theorem pap_text.tab4 : rtab .any (opsOf Try.f54 4) = pap_text.T4 := by kernel_rfl
theorem pap_text.bits4 : waitsOk pap_text.T4.2 pap_text.B4 = true := by kernel_rfl
set_option maxHeartbeats 8000000 in
set_option maxRecDepth 100000 in
theorem pap_text.calls (P0_ : Nat → Prop) (A0 : Option Addr) (c0 : Nat) (l0 : List Int) (r1 : List Int) (r2 : List Int) (r3 : Bool) (w : World) (hs0 : Kd.V (Kd.int .u8) 5 w w.heap.size (fun k_ => P0_ k_) (.slice A0 l0.length c0) l0) (h : pap_text.f l0 = some (r1, r2, r3)) :
 Calls Try.prog 54 #[.slice A0 l0.length c0] w fun e w' => ∃ v0_ v1_ : Value, e = .returned (.tuple #[v0_, v1_, .bool r3]) ∧ Kd.R (Kd.int .u8) 5 w' w.heap.size (fun k_ => (w.heap.size ≤ k_)) v0_ r1 ∧ Kd.V (Kd.int .u8) 5 w' w.heap.size (fun k_ => (P0_ k_ ∨ w.heap.size ≤ k_) ∧ some k_ ≠ (v0_ : Value).ownBlock) v1_ r2 ∧ Below w.heap.size w w' := by
 have HO0 := Aside0.mk (show Kd.V (Kd.int .u8) 5 w w.heap.size (fun k_ => (P0_ k_ ∨ w.heap.size ≤ k_)) (.slice A0 l0.length c0) l0 from Kd.V_mono hs0 (fun k_ hk => .inl hk))
 have HB := Aside0.mk (Below.refl w.heap.size w)
 have H : (if (l0.length : Int) = 0 then (some (([] : List Int), ([] : List Int), false)) else (if 0 < (l0.length : Int) then (if (l0.length : Int) ≤ (wrap64 (rd l0 0)) then (some (([] : List Int), ([] : List Int), false)) else (if 1 ≤ (wrap64 (1 + (wrap64 (rd l0 0)))) then (if (wrap64 (1 + (wrap64 (rd l0 0)))) ≤ (l0.length : Int) then ((slices_Clone_byte_byte.f ((l0.take ((wrap64 (1 + (wrap64 (rd l0 0)))) : Int).toNat).drop 1)).bind fun t918 => (if 0 ≤ (wrap64 (1 + (wrap64 (rd l0 0)))) then (some (t918, (l0.drop ((wrap64 (1 + (wrap64 (rd l0 0)))) : Int).toNat), true)) else (none))) else (none)) else (none))) else (none))) = some (r1, r2, r3) := h
 clear h
 by_cases c2 : (l0.length : Int) = 0
 · rw [if_pos c2] at H
   have c2b0 : ((l0.length : Int) == 0) = true := beq_iff_eq.mpr c2
   have c2b1 : ((l0.length : Int) != 0) = false := bne_eq_false_iff_eq.mpr c2
   clear c2
   simp only [Option.some.injEq, Prod.mk.injEq] at H
   obtain ⟨rfl, rfl, rfl⟩ := H
   go_enter Try.func54, Try.ntmps54
   go_wp2
   go_ret3
   exact ⟨_, _, by first | rfl | (simp [errW_none, errW_some] <;> rfl) | (simp [*, errW_none, errW_some] <;> rfl), by first | exact Kd.R_nil _ _ _ _ _ | exact Kd.N_nil _ _ _ _ _ | exact Kd.V_nil _ _ _ _ _ | exact Kd.Q_nil _ _ _ _ _ | exact Kd.S_nil _ _ _ _ _, (Kd.V_nil _ _ _ _ _), by repeat (first | (with_reducible first | exact HB.out | apply below_alloc | apply pw_below_drewN | apply below_drew1) | exact HB.out)⟩
 · rw [if_neg c2] at H
   have c2b0 : ((l0.length : Int) == 0) = false := beq_eq_false_iff_ne.mpr c2
   have c2b1 : ((l0.length : Int) != 0) = true := bne_iff_ne.mpr c2
   have c2b2 : ¬ (l0 = []) := fun h_ => c2 (by rw [h_]; rfl)
   by_cases c3 : 0 < (l0.length : Int)
   · rw [if_pos c3] at H
     have c3b0 : decide (0 < (l0.length : Int)) = true := decide_eq_true c3
     have c3b1 : decide (0 < l0.length) = true := decide_eq_true (by omega)
     clear c3
     by_cases c4 : (l0.length : Int) ≤ (wrap64 (rd l0 0))
     · rw [if_pos c4] at H
       have c4b0 : decide ((l0.length : Int) ≤ (wrap64 (rd l0 0))) = true := decide_eq_true c4
       clear c4
       simp only [Option.some.injEq, Prod.mk.injEq] at H
       obtain ⟨rfl, rfl, rfl⟩ := H
       have p911 : 0 ≤ (0 : Int) := (by omega)
       have q911 : 0 < (l0.length : Int) := of_decide_eq_true (by first | (with_reducible assumption) | assumption)
       obtain ⟨ad911, e911, hx911_0⟩ := Kd.at_int (Kd.V_reads' HO0.out).2.2 0 p911 q911
       cases e911
       have qi911 : (0 < l0.length) = True := eq_true (by omega)
       (try rw [show ((0 : Int)).toNat = 0 from rfl] at hx911_0)
       (try rw [Addr.add_zero'] at hx911_0)
       replace p911 := eq_true p911
       replace q911 := eq_true q911
       go_enter Try.func54, Try.ntmps54
       go_wp2
       go_ret3
       exact ⟨_, _, by first | rfl | (simp [errW_none, errW_some] <;> rfl) | (simp [*, errW_none, errW_some] <;> rfl), by first | exact Kd.R_nil _ _ _ _ _ | exact Kd.N_nil _ _ _ _ _ | exact Kd.V_nil _ _ _ _ _ | exact Kd.Q_nil _ _ _ _ _ | exact Kd.S_nil _ _ _ _ _, (Kd.V_nil _ _ _ _ _), by repeat (first | (with_reducible first | exact HB.out | apply below_alloc | apply pw_below_drewN | apply below_drew1) | exact HB.out)⟩
     · rw [if_neg c4] at H
       have c4b0 : decide ((l0.length : Int) ≤ (wrap64 (rd l0 0))) = false := decide_eq_false c4
       clear c4
       by_cases c5 : 1 ≤ (wrap64 (1 + (wrap64 (rd l0 0))))
       · rw [if_pos c5] at H
         have c5b0 := eq_true c5
         have c5b1 : decide (1 ≤ (wrap64 (1 + (wrap64 (rd l0 0))))) = true := decide_eq_true c5
         by_cases c6 : (wrap64 (1 + (wrap64 (rd l0 0)))) ≤ (l0.length : Int)
         · rw [if_pos c6] at H
           have c6b0 := eq_true c6
           have c6b1 : decide ((wrap64 (1 + (wrap64 (rd l0 0)))) ≤ (l0.length : Int)) = true := decide_eq_true c6
           obtain ⟨y913, hy913⟩ : ∃ y_ : List Int, y_ = ((l0.take ((wrap64 (1 + (wrap64 (rd l0 0)))) : Int).toNat).drop 1) := ⟨_, rfl⟩
           replace H : ((slices_Clone_byte_byte.f y913).bind fun t918 => (if 0 ≤ (wrap64 (1 + (wrap64 (rd l0 0)))) then (some (t918, (l0.drop ((wrap64 (1 + (wrap64 (rd l0 0)))) : Int).toNat), true)) else (none))) = some (r1, r2, r3) := by first | (rw [hy913]; with_reducible exact H) | (have H2_ := (Option.bind_some _ _).symm.trans H; rw [hy913]; with_reducible exact H2_) | (have H2_ := (Option.bind_some _ _).symm.trans H; with_reducible exact H2_) | with_reducible exact H | (rw [hy913]; exact H) | exact H
           have Ny913 := Aside0.mk hy913
           clear hy913
           replace H := Option.bind_eq_some_iff.mp H
           obtain ⟨t918, A70, H⟩ := H
           replace H : (if 0 ≤ (wrap64 (1 + (wrap64 (rd l0 0)))) then (some (t918, (l0.drop ((wrap64 (1 + (wrap64 (rd l0 0)))) : Int).toNat), true)) else (none)) = some (r1, r2, r3) := H
           have A7 := Aside0.mk A70
           clear A70
           obtain ⟨ji8, hji8⟩ : ∃ j_ : Int, (wrap64 (1 + (wrap64 (rd l0 0)))) = j_ := ⟨_, rfl⟩
           replace H : (if 0 ≤ (ji8) then (some (t918, (l0.drop ((ji8) : Int).toNat), true)) else (none)) = some (r1, r2, r3) := by first | (rw [hji8] at H; exact H) | (simp only [hji8] at H ⊢; exact H)
           (try rw [hji8] at c5b0)
           (try rw [hji8] at c5b1)
           (try rw [hji8] at c5)
           (try rw [hji8] at c6b0)
           (try rw [hji8] at c6b1)
           (try rw [hji8] at c6)
           (try rw [hji8] at Ny913)
           (try rw [hji8] at A7)
           have hji8w : (IntKind.i64.wrap (1 + (wrap64 (rd l0 0)))) = ji8 := (i64_w _).trans hji8
           by_cases c9 : 0 ≤ (ji8)
           · rw [if_pos c9] at H
             have c9b0 := eq_true c9
             have c9b1 : decide (0 ≤ (ji8)) = true := decide_eq_true c9
             clear c9
             have c10b0 := eq_true (of_decide_eq_true (by first | (with_reducible assumption) | assumption) : (ji8) ≤ (l0.length : Int))
             obtain ⟨y921, hy921⟩ : ∃ y_ : List Int, y_ = (l0.drop ((ji8) : Int).toNat) := ⟨_, rfl⟩
             replace H : (some (t918, y921, true)) = some (r1, r2, r3) := by first | (rw [hy921]; with_reducible exact H) | (have H2_ := (Option.bind_some _ _).symm.trans H; rw [hy921]; with_reducible exact H2_) | (have H2_ := (Option.bind_some _ _).symm.trans H; with_reducible exact H2_) | with_reducible exact H | (rw [hy921]; exact H) | exact H
             have Ny921 := Aside0.mk hy921
             clear hy921
             simp only [Option.some.injEq, Prod.mk.injEq] at H
             obtain ⟨rfl, rfl, rfl⟩ := H
             have p911 : 0 ≤ (0 : Int) := (by omega)
             have q911 : 0 < (l0.length : Int) := of_decide_eq_true (by first | (with_reducible assumption) | assumption)
             obtain ⟨ad911, e911, hx911_0⟩ := Kd.at_int (Kd.V_reads' HO0.out).2.2 0 p911 q911
             cases e911
             have qi911 : (0 < l0.length) = True := eq_true (by omega)
             (try rw [show ((0 : Int)).toNat = 0 from rfl] at hx911_0)
             (try rw [Addr.add_zero'] at hx911_0)
             replace p911 := eq_true p911
             replace q911 := eq_true q911
             have p912 : 0 ≤ (0 : Int) := (by omega)
             have q912 : 0 < (l0.length : Int) := of_decide_eq_true (by first | (with_reducible assumption) | assumption)
             obtain ⟨ad912, e912, hx912_0⟩ := Kd.at_int (Kd.V_reads' HO0.out).2.2 0 p912 q912
             obtain rfl : ad911 = ad912 := (by injection e912)
             have qi912 : (0 < l0.length) = True := eq_true (by omega)
             (try rw [show ((0 : Int)).toNat = 0 from rfl] at hx912_0)
             (try rw [Addr.add_zero'] at hx912_0)
             replace p912 := eq_true p912
             replace q912 := eq_true q912
             go_enter Try.func54, Try.ntmps54
             try go_wp2
             have n0_ := Aside0.mk (Kd.V_drew HO0.out)
             have n1_ := Aside0.mk (below_drew1 HB.out)
             clear HO0
             clear HB
             have HO0 := n0_
             have HB := n1_
             clear n0_ n1_
             have q12 : ((ji8) : Int) ≤ ((l0.length : Int) : Int) := of_decide_eq_true (by first | (with_reducible assumption) | assumption)
             obtain ⟨i012, hi012, _, hsz12, _⟩ := info_parts info5
             have hroom12 : l0.length ≤ c0 := (Kd.V_reads' HO0.out).2.1
             have hC12 : Kd.F (Kd.int .u8) _ _ (some ad911) l0.length l0 := (Kd.V_at (base := w.heap.size) HO0.out).2.2
             have ql12 : (1 : Int) ≤ ((ji8) : Int) := of_decide_eq_true (by first | (with_reducible assumption) | assumption)
             have hcut12 := cut_mid (P := Try.prog) 23 5 .i64 .i64 Try.underlying23 hi012 1 hsz12 (some ad911) l0.length c0 1 (ji8) (by omega) ql12 q12 hroom12
             have hr12 := Kd.F_mid (lo := (1 : Int).toNat) (hi := ((ji8) : Int).toNat) (c := c0) hC12 (by omega) (by omega) hroom12
             obtain ⟨A12, hA12⟩ : ∃ A1_, A1_ = (if c0 = (1 : Int).toNat then (some ad911) else ((some ad911) : Option Addr).map (·.add ((1 : Int).toNat * 1))) := ⟨_, rfl⟩
             obtain ⟨c12, hc12⟩ : ∃ c1_, c1_ = c0 - (1 : Int).toNat := ⟨_, rfl⟩
             have hy12 : y913.length = ((ji8) : Int).toNat - (1 : Int).toNat := (by rw [Ny913.out, List.length_drop, List.length_take] <;> omega)
             rw [show ((l0).take ((ji8) : Int).toNat).drop (1 : Int).toNat = y913 from Ny913.out.symm] at hr12
             replace hr12 : Kd.F (Kd.int .u8) _ _ A12 y913.length y913 := (by rw [hA12]; exact hr12)
             rw [← hy12, ← hA12, ← hc12] at hcut12
             have HO917 := Aside0.mk (show Kd.V (Kd.int .u8) 5 _ w.heap.size _ (.slice A12 y913.length c12) y913 from Kd.V_mk (by rw [hy12, hc12]; exact Nat.sub_le_sub_right (Nat.le_trans (by omega) hroom12) _) hr12)
             have HC917 := Aside0.mk (show y913.length ≤ c12 from by rw [hy12, hc12]; exact Nat.sub_le_sub_right (Nat.le_trans (by omega) hroom12) _)
             clear hr12 hC12 hroom12 hi012 hsz12 hc12
             have KY12 := Aside0.mk hy12
             have KA12 := Aside0.mk hA12
             clear hy12 hA12
             replace q12 := eq_true q12
             have q13 : ((ji8) : Int) ≤ ((l0.length : Int) : Int) := of_decide_eq_true (by first | (with_reducible assumption) | assumption)
             obtain ⟨i013, hi013, _, hsz13, _⟩ := info_parts info5
             have hroom13 : l0.length ≤ c0 := (Kd.V_reads' HO0.out).2.1
             have hC13 : Kd.F (Kd.int .u8) _ _ (some ad911) l0.length l0 := (Kd.V_at (base := w.heap.size) HO0.out).2.2
             have q013 : (0 : Int) ≤ ((ji8) : Int) := of_decide_eq_true (by first | (with_reducible assumption) | assumption)
             have hcut13 := cut_from (P := Try.prog) 23 5 .i64 Try.underlying23 hi013 1 hsz13 (some ad911) l0.length c0 (ji8) q013 q13
             have hr13 := Kd.F_cut (m := ((ji8) : Int).toNat) (c := c0) hC13 (by omega) hroom13
             obtain ⟨A13, hA13⟩ : ∃ A1_, A1_ = (if c0 = ((ji8) : Int).toNat then (some ad911) else ((some ad911) : Option Addr).map (·.add (((ji8) : Int).toNat * 1))) := ⟨_, rfl⟩
             obtain ⟨c13, hc13⟩ : ∃ c1_, c1_ = c0 - ((ji8) : Int).toNat := ⟨_, rfl⟩
             have hy13 : y921.length = l0.length - ((ji8) : Int).toNat := (by rw [Ny921.out, List.length_drop] <;> omega)
             rw [show (l0).drop ((ji8) : Int).toNat = y921 from Ny921.out.symm] at hr13
             replace hr13 : Kd.F (Kd.int .u8) _ _ A13 y921.length y921 := (by rw [hA13]; exact hr13)
             rw [← hy13, ← hA13, ← hc13] at hcut13
             have HO925 := Aside0.mk (show Kd.V (Kd.int .u8) 5 _ w.heap.size _ (.slice A13 y921.length c13) y921 from Kd.V_mk (by rw [hy13, hc13]; exact Nat.sub_le_sub_right hroom13 _) hr13)
             have HC925 := Aside0.mk (show y921.length ≤ c13 from by rw [hy13, hc13]; exact Nat.sub_le_sub_right hroom13 _)
             clear hr13 hC13 hroom13 hi013 hsz13 hc13
             have KY13 := Aside0.mk hy13
             have KA13 := Aside0.mk hA13
             clear hy13 hA13
             replace q13 := eq_true q13
             refine start_ (n := 10) (S := fun w' => True) (ds := []) #[false, false, false, false, false, false, false, false, false, false] (by kernel_rfl) rfl rfl trivial (fun hHeld => ?_); refine with_tabW pap_text.tab4 pap_text.bits4 (fun HT_ HW_ => ?_)
             generalize w.drew = w11 at HO0 HB HO917 HO925 hHeld ⊢
             refine pure_ (i := 0) (N := some 23) (v := ?_) (a' := ?_) #[true, false, false, false, false, false, false, false, false, false] rfl rfl (any_of HT_.out (by kernel_rfl)) (fun _ _ _ h => h) (Or.inl ⟨by rfl, ?_⟩) ?_ ?_
             rotate_left
             · intro w'
               go_simp
               with_reducible rfl
             rotate_left
             · simp only [Act.put, List.setIfInBounds_toArray, List.set_cons_zero, List.set_cons_succ, i64_w, i32_w]
               rfl
             refine pure_ (i := 1) (N := some 24) (v := ?_) (a' := ?_) #[true, true, false, false, false, false, false, false, false, false] rfl rfl (any_of HT_.out (by kernel_rfl)) (fun _ _ _ h => h) (Or.inl ⟨by rfl, ?_⟩) ?_ ?_
             rotate_left
             · intro w'
               go_simp
               with_reducible rfl
             rotate_left
             · simp only [Act.put, List.setIfInBounds_toArray, List.set_cons_zero, List.set_cons_succ, i64_w, i32_w]
               rfl
             refine pure_ (i := 2) (N := some 25) (v := ?_) (a' := ?_) #[true, true, true, false, false, false, false, false, false, false] rfl rfl (any_of HT_.out (by kernel_rfl)) (fun _ _ _ h => h) (Or.inl ⟨by rfl, ?_⟩) ?_ ?_
             rotate_left
             · intro w'
               go_simp
               with_reducible rfl
             rotate_left
             · simp only [Act.put, List.setIfInBounds_toArray, List.set_cons_zero, List.set_cons_succ, i64_w, i32_w]
               rfl
             refine pure_ (i := 4) (N := some 27) (v := ?_) (a' := ?_) #[true, true, true, false, true, false, false, false, false, false] rfl rfl (any_of HT_.out (by kernel_rfl)) (fun _ _ _ h => h) (Or.inl ⟨by rfl, ?_⟩) ?_ ?_
             rotate_left
             · intro w'
               go_simp
               with_reducible rfl
             rotate_left
             · simp only [Act.put, List.setIfInBounds_toArray, List.set_cons_zero, List.set_cons_succ, i64_w, i32_w]
               rfl
             refine pure_ (i := 5) (N := some 28) (v := ?_) (a' := ?_) #[true, true, true, false, true, true, false, false, false, false] rfl rfl (any_of HT_.out (by kernel_rfl)) (fun _ _ _ h => h) (Or.inl ⟨by rfl, ?_⟩) ?_ ?_
             rotate_left
             · intro w'
               go_simp
               with_reducible rfl
             rotate_left
             · simp only [Act.put, List.setIfInBounds_toArray, List.set_cons_zero, List.set_cons_succ, i64_w, i32_w]
               rfl
             refine pure_ (i := 6) (N := some 29) (v := ?_) (a' := ?_) #[true, true, true, false, true, true, true, false, false, false] rfl rfl (any_of HT_.out (by kernel_rfl)) (fun _ _ _ h => h) (Or.inl ⟨by rfl, ?_⟩) ?_ ?_
             rotate_left
             · intro w'
               go_simp
               with_reducible rfl
             rotate_left
             · simp only [Act.put, List.setIfInBounds_toArray, List.set_cons_zero, List.set_cons_succ, i64_w, i32_w]
               rfl
             refine one_ (i := 3) (N := some 26) #[true, true, true, true, true, true, true, false, false, false] rfl rfl (one_of HT_.out (by kernel_rfl)) (by decide) (fun K hK => ?_)
             refine goes_ Try.func48 (by kernel_rfl) rfl #[.slice A12 y913.length c12] (by rfl) rfl rfl (by (try simp only [List.map_toArray, List.map_cons, List.map_nil]); first | done | rfl | (simp only [List.length_drop, List.length_take]; rfl)) ?_
             with_reducible refine (slices_Clone_byte_byte.calls _ _ y913 t918 _ ?side1 ?side2 A7.out).mono ?_
             (case side1 => repeat (first | exact (Kd.V_reads' HO917.out).2.2 | (with_reducible refine Kd.C_alloc ?_ _) | (with_reducible refine Kd.C_drewN ?_ _) | (with_reducible refine Kd.C_drew ?_)))
             (case side2 => exact (Kd.V_reads' HO917.out).2.1)
             rintro e w14 ⟨v919, rfl, ho0, hb⟩
             refine ⟨_, rfl, ?_⟩
             have n0_ := Aside0.mk (Kd.V_elder' (by (with_reducible repeat (first | apply Kd.V_alloc | apply Kd.V_drewN | apply Kd.V_drew)); exact HO0.out) (Kd.R_base ho0) hb)
             have n1_ := Aside0.mk (Kd.V_elder' (by (with_reducible repeat (first | apply Kd.V_alloc | apply Kd.V_drewN | apply Kd.V_drew)); exact HO917.out) (Kd.R_base ho0) hb)
             have n2_ := Aside0.mk (Kd.V_elder' (by (with_reducible repeat (first | apply Kd.V_alloc | apply Kd.V_drewN | apply Kd.V_drew)); exact HO925.out) (Kd.R_base ho0) hb)
             have n3_ := Aside0.mk (Kd.R_lower (Kd.R_newM (M := fun k_ => (w.heap.size ≤ k_)) ho0 (below_size (by repeat (first | (with_reducible first | exact HB.out | apply below_alloc | apply pw_below_drewN | apply below_drew1) | exact HB.out))) (fun k_ h_ => h_)) (below_size (by repeat (first | (with_reducible first | exact HB.out | apply below_alloc | apply pw_below_drewN | apply below_drew1) | exact HB.out))))
             have n4_ := Aside0.mk (below_step (by repeat (first | (with_reducible first | exact HB.out | apply below_alloc | apply pw_below_drewN | apply below_drew1) | exact HB.out)) hb)
             clear HO0
             clear HO917
             clear HO925
             clear HB
             have HO0 := n0_
             have HO917 := n1_
             have HO925 := n2_
             have HO920 := n3_
             have HB := n4_
             clear n0_ n1_ n2_ n3_ n4_
             (try clear hb)
             (try clear hb2)
             (try clear hk)
             (try clear hi)
             (try clear ho0)
             refine hK.out _ _ trivial (fun hHeld => ?_)
             clear hK K
             refine norm_ (a' := ?_) ?_ ?_
             rotate_left
             · show Act.put _ (some 26) _ = _
               simp only [Act.put, List.setIfInBounds_toArray, List.set_cons_zero, List.set_cons_succ, i64_w, i32_w]
               rfl
             refine pure_ (i := 7) (N := some 2) (v := ?_) (a' := ?_) #[true, true, true, true, true, true, true, true, false, false] rfl rfl (any_of HT_.out (by kernel_rfl)) (fun _ _ _ h => h) (Or.inl ⟨by rfl, ?_⟩) ?_ ?_
             rotate_left
             · intro w'
               go_simp
               with_reducible rfl
             rotate_left
             · simp only [Act.put, List.setIfInBounds_toArray, List.set_cons_zero, List.set_cons_succ, i64_w, i32_w]
               rfl
             refine pure_ (i := 8) (N := some 3) (v := ?_) (a' := ?_) #[true, true, true, true, true, true, true, true, true, false] rfl rfl (any_of HT_.out (by kernel_rfl)) (fun _ _ _ h => h) (Or.inl ⟨by rfl, ?_⟩) ?_ ?_
             rotate_left
             · intro w'
               go_simp
               with_reducible rfl
             rotate_left
             · simp only [Act.put, List.setIfInBounds_toArray, List.set_cons_zero, List.set_cons_succ, i64_w, i32_w]
               rfl
             refine pure_ (i := 9) (N := some 4) (v := ?_) (a' := ?_) #[true, true, true, true, true, true, true, true, true, true] rfl rfl (any_of HT_.out (by kernel_rfl)) (fun _ _ _ h => h) (Or.inl ⟨by rfl, ?_⟩) ?_ ?_
             rotate_left
             · intro w'
               go_simp
               with_reducible rfl
             rotate_left
             · simp only [Act.put, List.setIfInBounds_toArray, List.set_cons_zero, List.set_cons_succ, i64_w, i32_w]
               rfl
             refine done_ (done_of HT_.out (by kernel_rfl)) ?_
             try go_wp2
             go_ret3
             exact ⟨_, _, by first | rfl | (simp [errW_none, errW_some] <;> rfl) | (simp only [← hji8]; first | rfl | (simp [errW_none, errW_some] <;> rfl)) | (simp [*, errW_none, errW_some] <;> rfl), by (with_reducible repeat (first | apply Kd.R_alloc | apply Kd.R_drewN | apply Kd.R_drew)); exact Kd.R_mono HO920.out (fun _ hk => hk.1), by (with_reducible repeat (first | apply Kd.V_alloc | apply Kd.V_drewN | apply Kd.V_drew)); exact HO925.out, by repeat (first | (with_reducible first | exact HB.out | apply below_alloc | apply pw_below_drewN | apply below_drew1) | exact HB.out)⟩
           · rw [if_neg c9] at H
             exact absurd H (by simp)
         · rw [if_neg c6] at H
           exact absurd H (by simp)
       · rw [if_neg c5] at H
         exact absurd H (by simp)
   · rw [if_neg c3] at H
     exact absurd H (by simp)
end Go.Proofs.Ytgjeahgagciagaa.Print
namespace Go.Proofs.Ytgjeahgagciagaa.Print
open Go.RowKit Go.Proofs.YtgjeahgagciagaaW.PrintWords Go.Proofs.YtgjeahgagciagaaW.PrintLast Go.Proofs.YtgjeahgagciagaaW.PrintMore
attribute [local go_sem] max2_int min2_int max_two min_two max_three min_three max_four min_four
set_option linter.unusedVariables false
set_option linter.unusedSimpArgs false
theorem R_own {k : IntKind} {e base : Nat} {W : World} {ok : Nat → Prop} {v : Value} {xs : List Int} (h : Kd.R (Kd.int k) e W base ok v xs) : Kd.R (Kd.int k) e W base (fun k_ => some k_ = v.ownBlock) v xs := Kd.R_tight rfl h
def papZ (e : Int) : Option (Int × Int × Int × (List S57) × Int × Int × List Int × List Int × List Int × List Int × Int) := some (0, 0, 0, [], 0, 0, [], [], [], [], e)
def papE (code id : Int) (l1 l2 rest : List Int) : Option (Int × Int × Int × (List S57) × Int × Int × List Int × List Int × List Int × List Int × Int) := if (rest.length : Int) > 0 then papZ 4 else some (49187, code, id, [], 0, 0, l1, l2, [], [], 0)
def papG2b (code id : Int) (l1 rest : List Int) : Option (Int × Int × Int × (List S57) × Int × Int × List Int × List Int × List Int × List Int × Int) := (pap_text.f rest).bind fun a => if a.2.2 = true then papE code id l1 a.1 a.2.1 else papZ 2
def papG2 (code id : Int) (rest : List Int) : Option (Int × Int × Int × (List S57) × Int × Int × List Int × List Int × List Int × List Int × Int) := (pap_text.f rest).bind fun a => if a.2.2 = true then papG2b code id a.1 a.2.1 else papZ 2
def papG1 (code id : Int) (rest : List Int) : Option (Int × Int × Int × (List S57) × Int × Int × List Int × List Int × List Int × List Int × Int) := (pap_text.f rest).bind fun a => if a.2.2 = true then papE code id a.1 [] a.2.1 else papZ 2
def papG0 (code id : Int) (rest : List Int) : Option (Int × Int × Int × (List S57) × Int × Int × List Int × List Int × List Int × List Int × Int) := some (49187, code, id, [], 0, 0, [], [], rest, [], 0)
set_option maxHeartbeats 16000000 in
set_option maxRecDepth 100000 in
theorem pt_get2 (k : Nat) (A0 : Option Addr) (c0 : Nat) (l0 : List Int) (r1 r2 r3 : Int) (r4 : List S57) (r5 r6 : Int) (r7 r8 r9 r10 : List Int) (r11 : Int) (code id e : Int) (rest : List Int) (w : World) (hr0 : Kd.C (Kd.int .u8) w A0 l0.length l0) (hc0 : l0.length ≤ c0) (hg : ctl_Get.f k l0 = some (code, id, rest, e)) (hc : code = 1) (he : e = 0) (h : papG2 code id rest = some (r1, r2, r3, r4, r5, r6, r7, r8, r9, r10, r11)) :
 Calls Try.prog 33 #[.slice A0 l0.length c0] w fun x w' => ∃ v3_ v6_ v7_ v8_ v9_ : Value, x = .returned (.tuple #[.agg #[.int .u16 r1, .int .u8 r2, .int .u8 r3, v3_, .int .u16 r5, .int .u32 r6, v6_, v7_, v8_, v9_], .int .i64 r11]) ∧ Kd.S k57 57 w' w.heap.size (fun k_ => some k_ ≠ (v6_ : Value).ownBlock ∧ some k_ ≠ (v7_ : Value).ownBlock ∧ some k_ ≠ (v8_ : Value).ownBlock) v3_ r4 ∧ Kd.R (Kd.int .u8) 5 w' w.heap.size (fun k_ => some k_ ≠ (v7_ : Value).ownBlock ∧ some k_ ≠ (v8_ : Value).ownBlock) v6_ r7 ∧ Kd.R (Kd.int .u8) 5 w' w.heap.size (fun k_ => some k_ ≠ (v6_ : Value).ownBlock ∧ some k_ ≠ (v8_ : Value).ownBlock) v7_ r8 ∧ Kd.R (Kd.int .u8) 5 w' w.heap.size (fun k_ => some k_ ≠ (v6_ : Value).ownBlock ∧ some k_ ≠ (v7_ : Value).ownBlock) v8_ r9 ∧ Kd.R (Kd.int .u32) 41 w' w.heap.size (fun _ => True) v9_ r10 ∧ Below w.heap.size w w' := by
 have hu47 := Try.underlying47
 have HR0 := Aside0.mk hr0
 have HC0 := Aside0.mk hc0
 have HG := Aside0.mk hg
 have HF := Aside0.mk h
 have HC := Aside0.mk hc
 have he0 : (e != 0) = false := bne_eq_false_iff_eq.mpr he
 clear hr0 hc0 hg h he hc
 have hq : ∀ (ad : Addr) (w : World) (n c : Nat), (Go.binOp .eql 80 (.slice (some ad) n c) (.slice none 0 0)).run Try.prog w = .ok (.bool false) w := fun ad w n c => Lib.run_eql_slice_nil (P := Try.prog) w 80 83 (some ad) n c 0 0 Try.underlying80
 go_enter Try.func33, Try.ntmps33
 go_upto_region 2 with (first | ((with_reducible refine gate_dst (N := 2) rfl ?_); refine box_event ?hg (N := 2) ?hd (cs := #[.int .u16 0, .int .u8 0, .int .u8 0, .slice none 0 0, .int .u16 0, .int .u32 0, .slice none 0 0, .slice none 0 0, .slice none 0 0, .slice none 0 0]) (t := 47) ?hr ?_; (case hd => rfl); (case hg => rfl); (case hr => first | (go_simp; done) | (go_simp; rfl)); intro gr hgr w1 hbox hb; have BR := Aside0.mk hbox; have GR := Aside0.mk ((by rw [hgr]; exact Nat.le_refl _) : w.heap.size ≤ gr); have HB := Aside0.mk hb; clear hbox hb hgr) | ((with_reducible refine gate_dst (N := 4) rfl ?_); refine box_event ?hg (N := 4) ?hd (cs := #[.int .u16 0, .int .u8 0, .int .u8 0, .slice none 0 0, .int .u16 0, .int .u32 0, .slice none 0 0, .slice none 0 0, .slice none 0 0, .slice none 0 0]) (t := 47) ?hr ?_; (case hd => rfl); (case hg => rfl); (case hr => first | (go_simp; done) | (go_simp; rfl)); intro g hgg w2 hbox hb; have BG := Aside0.mk hbox; have NR := Aside0.mk ((by rw [hgg]; exact Nat.ne_of_lt (blk_lt BR.out)) : gr ≠ g); have GG := Aside0.mk ((by rw [hgg]; exact HB.out.size) : w.heap.size ≤ g); have n0_ := Aside0.mk (blk_below BR.out hb); have n1_ := Aside0.mk (below_step HB.out hb); clear BR HB hbox hb hgg; have BR := n0_; have HB := n1_; clear n0_ n1_; have hz0 : w2.cell? ⟨g, 0, none⟩ = some (.int .u16 0) := (blk_cell BG.out 0).trans rfl; have hz1 : w2.cell? ⟨g, 1, none⟩ = some (.int .u8 0) := (blk_cell BG.out 1).trans rfl; have hz2 : w2.cell? ⟨g, 2, none⟩ = some (.int .u8 0) := (blk_cell BG.out 2).trans rfl; have hz3 : w2.cell? ⟨g, 3, none⟩ = some (.slice none 0 0) := (blk_cell BG.out 3).trans rfl; have hz4 : w2.cell? ⟨g, 4, none⟩ = some (.int .u16 0) := (blk_cell BG.out 4).trans rfl; have hz5 : w2.cell? ⟨g, 5, none⟩ = some (.int .u32 0) := (blk_cell BG.out 5).trans rfl; have hz6 : w2.cell? ⟨g, 6, none⟩ = some (.slice none 0 0) := (blk_cell BG.out 6).trans rfl; have hz7 : w2.cell? ⟨g, 7, none⟩ = some (.slice none 0 0) := (blk_cell BG.out 7).trans rfl; have hz8 : w2.cell? ⟨g, 8, none⟩ = some (.slice none 0 0) := (blk_cell BG.out 8).trans rfl; have hz9 : w2.cell? ⟨g, 9, none⟩ = some (.slice none 0 0) := (blk_cell BG.out 9).trans rfl; have hf0 := blk_frozen BG.out 0; have hf1 := blk_frozen BG.out 1; have hf2 := blk_frozen BG.out 2; have hf3 := blk_frozen BG.out 3; have hf4 := blk_frozen BG.out 4; have hf5 := blk_frozen BG.out 5; have hf6 := blk_frozen BG.out 6; have hf7 := blk_frozen BG.out 7; have hf8 := blk_frozen BG.out 8; have hf9 := blk_frozen BG.out 9))
 clear hz0 hz1 hz2 hz3 hz4 hz5 hz6 hz7 hz8 hz9 hf0 hf1 hf2 hf3 hf4 hf5 hf6 hf7 hf8 hf9
 have q0 := blk_put BG.out 0 (.int .u16 49187) (rfl : _ = (#[.int .u16 49187, .int .u8 0, .int .u8 0, .slice none 0 0, .int .u16 0, .int .u32 0, .slice none 0 0, .slice none 0 0, .slice none 0 0, .slice none 0 0] : Array Value))
 have q1 := blk_put q0 1 (.int .u8 0) (rfl : _ = (#[.int .u16 49187, .int .u8 0, .int .u8 0, .slice none 0 0, .int .u16 0, .int .u32 0, .slice none 0 0, .slice none 0 0, .slice none 0 0, .slice none 0 0] : Array Value))
 have q2 := blk_put q1 2 (.int .u8 0) (rfl : _ = (#[.int .u16 49187, .int .u8 0, .int .u8 0, .slice none 0 0, .int .u16 0, .int .u32 0, .slice none 0 0, .slice none 0 0, .slice none 0 0, .slice none 0 0] : Array Value))
 have q3 := blk_put q2 3 (.slice none 0 0) (rfl : _ = (#[.int .u16 49187, .int .u8 0, .int .u8 0, .slice none 0 0, .int .u16 0, .int .u32 0, .slice none 0 0, .slice none 0 0, .slice none 0 0, .slice none 0 0] : Array Value))
 have q4 := blk_put q3 4 (.int .u16 0) (rfl : _ = (#[.int .u16 49187, .int .u8 0, .int .u8 0, .slice none 0 0, .int .u16 0, .int .u32 0, .slice none 0 0, .slice none 0 0, .slice none 0 0, .slice none 0 0] : Array Value))
 have q5 := blk_put q4 5 (.int .u32 0) (rfl : _ = (#[.int .u16 49187, .int .u8 0, .int .u8 0, .slice none 0 0, .int .u16 0, .int .u32 0, .slice none 0 0, .slice none 0 0, .slice none 0 0, .slice none 0 0] : Array Value))
 have q6 := blk_put q5 6 (.slice none 0 0) (rfl : _ = (#[.int .u16 49187, .int .u8 0, .int .u8 0, .slice none 0 0, .int .u16 0, .int .u32 0, .slice none 0 0, .slice none 0 0, .slice none 0 0, .slice none 0 0] : Array Value))
 have q7 := blk_put q6 7 (.slice none 0 0) (rfl : _ = (#[.int .u16 49187, .int .u8 0, .int .u8 0, .slice none 0 0, .int .u16 0, .int .u32 0, .slice none 0 0, .slice none 0 0, .slice none 0 0, .slice none 0 0] : Array Value))
 have q8 := blk_put q7 8 (.slice none 0 0) (rfl : _ = (#[.int .u16 49187, .int .u8 0, .int .u8 0, .slice none 0 0, .int .u16 0, .int .u32 0, .slice none 0 0, .slice none 0 0, .slice none 0 0, .slice none 0 0] : Array Value))
 have q9 := blk_put q8 9 (.slice none 0 0) (rfl : _ = (#[.int .u16 49187, .int .u8 0, .int .u8 0, .slice none 0 0, .int .u16 0, .int .u32 0, .slice none 0 0, .slice none 0 0, .slice none 0 0, .slice none 0 0] : Array Value))
 have n0_ := Aside0.mk q9
 have n1_ := Aside0.mk (show (((((((((((w2.setCell ⟨g, 0, none⟩ (.int .u16 49187)).setCell ⟨g, 1, none⟩ (.int .u8 0)).setCell ⟨g, 2, none⟩ (.int .u8 0)).setCell ⟨g, 3, none⟩ (.slice none 0 0)).setCell ⟨g, 4, none⟩ (.int .u16 0)).setCell ⟨g, 5, none⟩ (.int .u32 0)).setCell ⟨g, 6, none⟩ (.slice none 0 0)).setCell ⟨g, 7, none⟩ (.slice none 0 0)).setCell ⟨g, 8, none⟩ (.slice none 0 0)).setCell ⟨g, 9, none⟩ (.slice none 0 0))).heap[gr]? = some (.cells #[.int .u16 0, .int .u8 0, .int .u8 0, .slice none 0 0, .int .u16 0, .int .u32 0, .slice none 0 0, .slice none 0 0, .slice none 0 0, .slice none 0 0] 47 (0, 0)) from (blk_far (p := ⟨g, 9, none⟩) (blk_far (p := ⟨g, 8, none⟩) (blk_far (p := ⟨g, 7, none⟩) (blk_far (p := ⟨g, 6, none⟩) (blk_far (p := ⟨g, 5, none⟩) (blk_far (p := ⟨g, 4, none⟩) (blk_far (p := ⟨g, 3, none⟩) (blk_far (p := ⟨g, 2, none⟩) (blk_far (p := ⟨g, 1, none⟩) (blk_far (p := ⟨g, 0, none⟩) BR.out NR.out (.int .u16 49187)) NR.out (.int .u8 0)) NR.out (.int .u8 0)) NR.out (.slice none 0 0)) NR.out (.int .u16 0)) NR.out (.int .u32 0)) NR.out (.slice none 0 0)) NR.out (.slice none 0 0)) NR.out (.slice none 0 0)) NR.out (.slice none 0 0)))
 have n2_ := Aside0.mk (show Below w.heap.size w ((((((((((w2.setCell ⟨g, 0, none⟩ (.int .u16 49187)).setCell ⟨g, 1, none⟩ (.int .u8 0)).setCell ⟨g, 2, none⟩ (.int .u8 0)).setCell ⟨g, 3, none⟩ (.slice none 0 0)).setCell ⟨g, 4, none⟩ (.int .u16 0)).setCell ⟨g, 5, none⟩ (.int .u32 0)).setCell ⟨g, 6, none⟩ (.slice none 0 0)).setCell ⟨g, 7, none⟩ (.slice none 0 0)).setCell ⟨g, 8, none⟩ (.slice none 0 0)).setCell ⟨g, 9, none⟩ (.slice none 0 0)) from (below_set (below_set (below_set (below_set (below_set (below_set (below_set (below_set (below_set (below_set HB.out GG.out) GG.out) GG.out) GG.out) GG.out) GG.out) GG.out) GG.out) GG.out) GG.out))
 clear BG BR HB q0 q1 q2 q3 q4 q5 q6 q7 q8 q9
 generalize ((((((((((w2.setCell ⟨g, 0, none⟩ (.int .u16 49187)).setCell ⟨g, 1, none⟩ (.int .u8 0)).setCell ⟨g, 2, none⟩ (.int .u8 0)).setCell ⟨g, 3, none⟩ (.slice none 0 0)).setCell ⟨g, 4, none⟩ (.int .u16 0)).setCell ⟨g, 5, none⟩ (.int .u32 0)).setCell ⟨g, 6, none⟩ (.slice none 0 0)).setCell ⟨g, 7, none⟩ (.slice none 0 0)).setCell ⟨g, 8, none⟩ (.slice none 0 0)).setCell ⟨g, 9, none⟩ (.slice none 0 0)) = w5 at n0_ n1_ n2_ ⊢
 have BG := n0_
 have BR := n1_
 have HB := n2_
 clear n0_ n1_ n2_
 go_upto_region 4 with (first | (go_at_call 53; refine (ctl_Get.calls k A0 c0 l0 code id rest e _ ?s1 HC0.out HG.out).mono ?_; (case s1 => exact Kd.C_below HR0.out HB.out); rintro x w6 ⟨v2, rfl, hv, hb⟩; have HV := Aside0.mk (Kd.R_lower hv HB.out.size); have n0_ := Aside0.mk (blk_below BG.out hb); have n1_ := Aside0.mk (blk_below BR.out hb); have n2_ := Aside0.mk (below_step HB.out hb); clear BG BR HB hb hv; have BG := n0_; have BR := n1_; have HB := n2_; clear n0_ n1_ n2_; obtain ⟨Av, cv, ev⟩ := Kd.R_slice HV.out; subst ev; have hz1 : w6.cell? ⟨g, 1, none⟩ = some (.int .u8 0) := (blk_cell BG.out 1).trans rfl; have hz2 : w6.cell? ⟨g, 2, none⟩ = some (.int .u8 0) := (blk_cell BG.out 2).trans rfl; have hf1 := blk_frozen BG.out 1; have hf2 := blk_frozen BG.out 2))
 clear hz1 hz2 hf1 hf2
 have n0_ := Aside0.mk (show ((w6.setCell ⟨g, 1, none⟩ (.int .u8 code)).setCell ⟨g, 2, none⟩ (.int .u8 id)).heap[g]? = some (.cells #[.int .u16 49187, .int .u8 code, .int .u8 id, .slice none 0 0, .int .u16 0, .int .u32 0, .slice none 0 0, .slice none 0 0, .slice none 0 0, .slice none 0 0] 47 (0, 0)) from blk_put (blk_put BG.out 1 (.int .u8 code) rfl) 2 (.int .u8 id) rfl)
 have n1_ := Aside0.mk (show ((w6.setCell ⟨g, 1, none⟩ (.int .u8 code)).setCell ⟨g, 2, none⟩ (.int .u8 id)).heap[gr]? = some (.cells #[.int .u16 0, .int .u8 0, .int .u8 0, .slice none 0 0, .int .u16 0, .int .u32 0, .slice none 0 0, .slice none 0 0, .slice none 0 0, .slice none 0 0] 47 (0, 0)) from blk_far (p := ⟨g, 2, none⟩) (blk_far (p := ⟨g, 1, none⟩) BR.out NR.out _) NR.out _)
 have n2_ := Aside0.mk (show Below w.heap.size w ((w6.setCell ⟨g, 1, none⟩ (.int .u8 code)).setCell ⟨g, 2, none⟩ (.int .u8 id)) from below_set (below_set HB.out GG.out) GG.out)
 have n3_ := Aside0.mk (show Kd.R (Kd.int .u8) 5 ((w6.setCell ⟨g, 1, none⟩ (.int .u8 code)).setCell ⟨g, 2, none⟩ (.int .u8 id)) w.heap.size (fun k_ => True) (.slice Av rest.length cv) rest from Kd.R_mono (Kd.R_far (p := ⟨g, 2, none⟩) (Kd.R_far (p := ⟨g, 1, none⟩) (Kd.R_types HV.out BG.out (by decide)) (fun _ hk => hk.2) _) (fun _ hk => hk.2) _) (fun _ _ => trivial))
 clear BG BR HB HV
 generalize ((w6.setCell ⟨g, 1, none⟩ (.int .u8 code)).setCell ⟨g, 2, none⟩ (.int .u8 id)) = w7 at n0_ n1_ n2_ n3_ ⊢
 have BG := n0_
 have BR := n1_
 have HB := n2_
 have HV := n3_
 clear n0_ n1_ n2_ n3_
 go_wp2_with (first | (go_at_call 50; refine (pt_texts1 g code _ _ _ _ _ _ _ _ _ _ BG.out HC.out).mono ?_; rintro x w8 ⟨b, rfl, hlt, hcs, hb⟩; have NGB := Aside0.mk (show g ≠ b from by have := blk_lt BG.out; omega); have NRB := Aside0.mk (show gr ≠ b from by have := blk_lt BR.out; omega); have n4_ := Aside0.mk (show b ≠ g from NGB.out.symm); have n0_ := Aside0.mk (blk_below BG.out hb); have n1_ := Aside0.mk (blk_below BR.out hb); have n2_ := Aside0.mk (Kd.R_below HV.out hb); have n3_ := Aside0.mk (below_step HB.out hb); have BP := Aside0.mk hcs; clear BG BR HV HB hb hcs hlt; have BG := n0_; have BR := n1_; have HB := n3_; have HV := Aside0.mk (Kd.R_V (base' := 0) (Kd.R_mono (Kd.R_types (Kd.R_types (Kd.R_types n2_.out BG.out (by decide)) BR.out (by decide)) BP.out (by decide)) (ok' := fun k_ => k_ ≠ g ∧ k_ ≠ gr ∧ k_ ≠ b) (fun _ hk => ⟨hk.1.1.2, hk.1.2, hk.2⟩))); clear n0_ n1_ n2_ n3_ n4_))
 go_loopg [33, 6, 9, 10] 3 (fun kq v33 v6 v9 v10 w' => ∃ (x : Nat) (rx : List Int) (A : Option Addr) (cx : Nat) (L1 : List Int) (B1 : Option Addr) (d1 : Nat) (L2 : List Int) (B2 : Option Addr) (d2 : Nat), v33 = .int .i64 x ∧ v6 = .slice A rx.length cx ∧ Aside0 (x + kq = 3 ∧ x ≤ 2) ∧ Aside0 ((x ≤ 0 → B1 = none ∧ L1 = [] ∧ d1 = 0) ∧ (x ≤ 1 → B2 = none ∧ L2 = [] ∧ d2 = 0)) ∧ Aside0 ((if x = 0 then papG2 code id rx else if x = 1 then papG2b code id L1 rx else papE code id L1 L2 rx) = some (r1, r2, r3, r4, r5, r6, r7, r8, r9, r10, r11)) ∧ Aside0 (Kd.R (Kd.int .u8) 5 w' w.heap.size (fun k_ => some k_ ≠ (.slice B2 L2.length d2 : Value).ownBlock) (.slice B1 L1.length d1) L1) ∧ Aside0 (Kd.R (Kd.int .u8) 5 w' w.heap.size (fun k_ => some k_ ≠ (.slice B1 L1.length d1 : Value).ownBlock) (.slice B2 L2.length d2) L2) ∧ Aside0 (Kd.V (Kd.int .u8) 5 w' 0 (fun k_ => k_ ≠ g ∧ k_ ≠ gr ∧ k_ ≠ b) (.slice A rx.length cx) rx) ∧ Aside0 (w'.heap[g]? = some (.cells #[.int .u16 49187, .int .u8 code, .int .u8 id, .slice none 0 0, .int .u16 0, .int .u32 0, .slice B1 L1.length d1, .slice B2 L2.length d2, .slice none 0 0, .slice none 0 0] 47 (0, 0))) ∧ Aside0 (w'.heap[gr]? = some (.cells #[.int .u16 0, .int .u8 0, .int .u8 0, .slice none 0 0, .int .u16 0, .int .u32 0, .slice none 0 0, .slice none 0 0, .slice none 0 0, .slice none 0 0] 47 (0, 0))) ∧ Aside0 (w'.heap[b]? = some (.cells (lieAt g 2) 83 (0, 0))) ∧ Aside0 (Below w.heap.size w w'))
 case atStart => exact ⟨0, rest, Av, cv, [], none, 0, [], none, 0, rfl, rfl, ⟨by omega⟩, ⟨fun _ => ⟨rfl, rfl, rfl⟩, fun _ => ⟨rfl, rfl, rfl⟩⟩, HF, ⟨Kd.R_nil _ _ _ _ _⟩, ⟨Kd.R_nil _ _ _ _ _⟩, HV, BG, BR, BP, HB⟩
 case round =>
  clear BG BR BP HB HV HF
  obtain ⟨x, rx, A, cx, L1, B1, d1, L2, B2, d2, rfl, rfl, hk, HZ, HF, HL1, HL2, HV, BG, BR, BP, HB⟩ := hrel
  have hr_ := NR.out
  have hr2_ := NR.out.symm
  have hx : x = 0 ∨ x = 1 ∨ x = 2 := by have := hk.out.2; omega
  rcases hx with rfl | rfl | rfl
  · have HK := Aside0.mk hk.out
    clear hk
    obtain ⟨rfl, rfl, rfl⟩ := HZ.out.1 (by omega)
    obtain ⟨rfl, rfl, rfl⟩ := HZ.out.2 (by omega)
    have hf : papG2 code id rx = some (r1, r2, r3, r4, r5, r6, r7, r8, r9, r10, r11) := HF.out
    unfold papG2 at hf
    obtain ⟨⟨s1, s2, ok⟩, ht, hf⟩ := Option.bind_eq_some_iff.mp hf
    have HT := Aside0.mk ht
    clear ht HF
    have hp : wr.cell? ⟨b, 0, none⟩ = some (.pointer (some ⟨g, 6, none⟩)) := (blk_cell BP.out 0).trans rfl
    cases ok with
    | false =>
     simp only [Bool.false_eq_true, if_false] at hf
     simp only [papZ, Option.some.injEq, Prod.mk.injEq] at hf
     obtain ⟨rfl, rfl, rfl, rfl, rfl, rfl, rfl, rfl, rfl, rfl, rfl⟩ := hf
     go_wp2_with (first | (go_at_call 54; refine (pap_text.calls (fun k_ => k_ ≠ g ∧ k_ ≠ gr ∧ k_ ≠ b) A cx rx s1 s2 false _ ?s HT.out).mono ?_; (case s => exact HV.out); rintro x w8 ⟨v0, v1, rfl, ho0, ho1, hb⟩; have HN := Aside0.mk ho0; have HV2 := Aside0.mk (Kd.V_mono (ok' := fun k_ => k_ ≠ g ∧ k_ ≠ gr ∧ k_ ≠ b) ho1 (fun k_ hk => hk.1.elim (fun h => h) (fun h => ⟨fun e => by have := blk_lt BG.out; omega, fun e => by have := blk_lt BR.out; omega, fun e => by have := blk_lt BP.out; omega⟩))); have LG := Aside0.mk (Kd.R_lt HL1.out); have SZ := Aside0.mk HB.out.size; have n0_ := Aside0.mk (blk_below BG.out hb); have n1_ := Aside0.mk (blk_below BR.out hb); have n2_ := Aside0.mk (blk_below BP.out hb); have n3_ := Aside0.mk (Kd.R_below HL1.out hb); have n4_ := Aside0.mk (below_step HB.out hb); clear BG BR BP HB HL1 HL2 HV hb ho0 ho1; have BG := n0_; have BR := n1_; have BP := n2_; have HL1 := n3_; have HB := n4_; clear n0_ n1_ n2_ n3_ n4_; obtain ⟨A8, c8, e8⟩ := Kd.R_slice HN.out; subst e8; obtain ⟨A9, c9, e9⟩ := Kd.V_slice HV2.out; subst e9; have hz : w8.cell? ⟨g, 6, none⟩ = some (.slice none 0 0) := (blk_cell BG.out 6).trans rfl; have hfz := blk_frozen BG.out 6; have hr0 : w8.cell? ⟨gr, 0, none⟩ = some (.int .u16 0) := (blk_cell BR.out 0).trans rfl; have hr1 : w8.cell? ⟨gr, 1, none⟩ = some (.int .u8 0) := (blk_cell BR.out 1).trans rfl; have hr2 : w8.cell? ⟨gr, 2, none⟩ = some (.int .u8 0) := (blk_cell BR.out 2).trans rfl; have hr3 : w8.cell? ⟨gr, 3, none⟩ = some (.slice none 0 0) := (blk_cell BR.out 3).trans rfl; have hr4 : w8.cell? ⟨gr, 4, none⟩ = some (.int .u16 0) := (blk_cell BR.out 4).trans rfl; have hr5 : w8.cell? ⟨gr, 5, none⟩ = some (.int .u32 0) := (blk_cell BR.out 5).trans rfl; have hr6 : w8.cell? ⟨gr, 6, none⟩ = some (.slice none 0 0) := (blk_cell BR.out 6).trans rfl; have hr7 : w8.cell? ⟨gr, 7, none⟩ = some (.slice none 0 0) := (blk_cell BR.out 7).trans rfl; have hr8 : w8.cell? ⟨gr, 8, none⟩ = some (.slice none 0 0) := (blk_cell BR.out 8).trans rfl; have hr9 : w8.cell? ⟨gr, 9, none⟩ = some (.slice none 0 0) := (blk_cell BR.out 9).trans rfl; have hs0 := blk_frozen BR.out 0; have hs1 := blk_frozen BR.out 1; have hs2 := blk_frozen BR.out 2; have hs3 := blk_frozen BR.out 3; have hs4 := blk_frozen BR.out 4; have hs5 := blk_frozen BR.out 5; have hs6 := blk_frozen BR.out 6; have hs7 := blk_frozen BR.out 7; have hs8 := blk_frozen BR.out 8; have hs9 := blk_frozen BR.out 9))
     have q_ := blk_far (p := ⟨g, 6, none⟩) BR.out NR.out (.slice A8 s1.length c8)
     have q0 := blk_put q_ 0 (.int .u16 0) (rfl : _ = (#[.int .u16 0, .int .u8 0, .int .u8 0, .slice none 0 0, .int .u16 0, .int .u32 0, .slice none 0 0, .slice none 0 0, .slice none 0 0, .slice none 0 0] : Array Value))
     have q1 := blk_put q0 1 (.int .u8 0) (rfl : _ = (#[.int .u16 0, .int .u8 0, .int .u8 0, .slice none 0 0, .int .u16 0, .int .u32 0, .slice none 0 0, .slice none 0 0, .slice none 0 0, .slice none 0 0] : Array Value))
     have q2 := blk_put q1 2 (.int .u8 0) (rfl : _ = (#[.int .u16 0, .int .u8 0, .int .u8 0, .slice none 0 0, .int .u16 0, .int .u32 0, .slice none 0 0, .slice none 0 0, .slice none 0 0, .slice none 0 0] : Array Value))
     have q3 := blk_put q2 3 (.slice none 0 0) (rfl : _ = (#[.int .u16 0, .int .u8 0, .int .u8 0, .slice none 0 0, .int .u16 0, .int .u32 0, .slice none 0 0, .slice none 0 0, .slice none 0 0, .slice none 0 0] : Array Value))
     have q4 := blk_put q3 4 (.int .u16 0) (rfl : _ = (#[.int .u16 0, .int .u8 0, .int .u8 0, .slice none 0 0, .int .u16 0, .int .u32 0, .slice none 0 0, .slice none 0 0, .slice none 0 0, .slice none 0 0] : Array Value))
     have q5 := blk_put q4 5 (.int .u32 0) (rfl : _ = (#[.int .u16 0, .int .u8 0, .int .u8 0, .slice none 0 0, .int .u16 0, .int .u32 0, .slice none 0 0, .slice none 0 0, .slice none 0 0, .slice none 0 0] : Array Value))
     have q6 := blk_put q5 6 (.slice none 0 0) (rfl : _ = (#[.int .u16 0, .int .u8 0, .int .u8 0, .slice none 0 0, .int .u16 0, .int .u32 0, .slice none 0 0, .slice none 0 0, .slice none 0 0, .slice none 0 0] : Array Value))
     have q7 := blk_put q6 7 (.slice none 0 0) (rfl : _ = (#[.int .u16 0, .int .u8 0, .int .u8 0, .slice none 0 0, .int .u16 0, .int .u32 0, .slice none 0 0, .slice none 0 0, .slice none 0 0, .slice none 0 0] : Array Value))
     have q8 := blk_put q7 8 (.slice none 0 0) (rfl : _ = (#[.int .u16 0, .int .u8 0, .int .u8 0, .slice none 0 0, .int .u16 0, .int .u32 0, .slice none 0 0, .slice none 0 0, .slice none 0 0, .slice none 0 0] : Array Value))
     have q9 := blk_put q8 9 (.slice none 0 0) (rfl : _ = (#[.int .u16 0, .int .u8 0, .int .u8 0, .slice none 0 0, .int .u16 0, .int .u32 0, .slice none 0 0, .slice none 0 0, .slice none 0 0, .slice none 0 0] : Array Value))
     refine bodyPost_ret (results_ct rfl _ _ gr 47 #[.int .u16 0, .int .u8 0, .int .u8 0, .slice none 0 0, .int .u16 0, .int .u32 0, .slice none 0 0, .slice none 0 0, .slice none 0 0, .slice none 0 0] (0, 0) _ rfl q9 hu47 rfl (by kernel_rfl)) rfl ?_
     exact ⟨_, _, _, _, _, rfl, Kd.S_nil _ _ _ _ _, Kd.R_nil _ _ _ _ _, Kd.R_nil _ _ _ _ _, Kd.R_nil _ _ _ _ _, Kd.R_nil _ _ _ _ _, below_set (below_set (below_set (below_set (below_set (below_set (below_set (below_set (below_set (below_set (below_set HB.out GG.out) GR.out) GR.out) GR.out) GR.out) GR.out) GR.out) GR.out) GR.out) GR.out) GR.out⟩
    | true =>
     simp only [if_true] at hf
     have HF := Aside0.mk hf
     clear hf
     cases gk with
     | zero => have := HK.out; omega
     | succ k1 =>
      go_wp2_with (first | (go_at_call 54; refine (pap_text.calls (fun k_ => k_ ≠ g ∧ k_ ≠ gr ∧ k_ ≠ b) A cx rx s1 s2 true _ ?s HT.out).mono ?_; (case s => exact HV.out); rintro x w8 ⟨v0, v1, rfl, ho0, ho1, hb⟩; have HN := Aside0.mk ho0; have HV2 := Aside0.mk (Kd.V_mono (ok' := fun k_ => k_ ≠ g ∧ k_ ≠ gr ∧ k_ ≠ b) ho1 (fun k_ hk => hk.1.elim (fun h => h) (fun h => ⟨fun e => by have := blk_lt BG.out; omega, fun e => by have := blk_lt BR.out; omega, fun e => by have := blk_lt BP.out; omega⟩))); have LG := Aside0.mk (Kd.R_lt HL1.out); have SZ := Aside0.mk HB.out.size; have n0_ := Aside0.mk (blk_below BG.out hb); have n1_ := Aside0.mk (blk_below BR.out hb); have n2_ := Aside0.mk (blk_below BP.out hb); have n3_ := Aside0.mk (Kd.R_below HL1.out hb); have n4_ := Aside0.mk (below_step HB.out hb); clear BG BR BP HB HL1 HL2 HV hb ho0 ho1; have BG := n0_; have BR := n1_; have BP := n2_; have HL1 := n3_; have HB := n4_; clear n0_ n1_ n2_ n3_ n4_; obtain ⟨A8, c8, e8⟩ := Kd.R_slice HN.out; subst e8; obtain ⟨A9, c9, e9⟩ := Kd.V_slice HV2.out; subst e9; have hz : w8.cell? ⟨g, 6, none⟩ = some (.slice none 0 0) := (blk_cell BG.out 6).trans rfl; have hfz := blk_frozen BG.out 6; have hr0 : w8.cell? ⟨gr, 0, none⟩ = some (.int .u16 0) := (blk_cell BR.out 0).trans rfl; have hr1 : w8.cell? ⟨gr, 1, none⟩ = some (.int .u8 0) := (blk_cell BR.out 1).trans rfl; have hr2 : w8.cell? ⟨gr, 2, none⟩ = some (.int .u8 0) := (blk_cell BR.out 2).trans rfl; have hr3 : w8.cell? ⟨gr, 3, none⟩ = some (.slice none 0 0) := (blk_cell BR.out 3).trans rfl; have hr4 : w8.cell? ⟨gr, 4, none⟩ = some (.int .u16 0) := (blk_cell BR.out 4).trans rfl; have hr5 : w8.cell? ⟨gr, 5, none⟩ = some (.int .u32 0) := (blk_cell BR.out 5).trans rfl; have hr6 : w8.cell? ⟨gr, 6, none⟩ = some (.slice none 0 0) := (blk_cell BR.out 6).trans rfl; have hr7 : w8.cell? ⟨gr, 7, none⟩ = some (.slice none 0 0) := (blk_cell BR.out 7).trans rfl; have hr8 : w8.cell? ⟨gr, 8, none⟩ = some (.slice none 0 0) := (blk_cell BR.out 8).trans rfl; have hr9 : w8.cell? ⟨gr, 9, none⟩ = some (.slice none 0 0) := (blk_cell BR.out 9).trans rfl; have hs0 := blk_frozen BR.out 0; have hs1 := blk_frozen BR.out 1; have hs2 := blk_frozen BR.out 2; have hs3 := blk_frozen BR.out 3; have hs4 := blk_frozen BR.out 4; have hs5 := blk_frozen BR.out 5; have hs6 := blk_frozen BR.out 6; have hs7 := blk_frozen BR.out 7; have hs8 := blk_frozen BR.out 8; have hs9 := blk_frozen BR.out 9))
      go_roundg k1
      case measure => have := HK.out; omega
      case rel => exact ⟨1, s2, A9, c9, s1, A8, c8, [], none, 0, rfl, rfl, ⟨by have := HK.out; omega⟩, ⟨fun h => absurd h (by omega), fun h => ⟨rfl, rfl, rfl⟩⟩, HF, ⟨Kd.R_mono (Kd.R_far (p := ⟨g, 6, none⟩) (Kd.R_types (Kd.R_lower HN.out SZ.out) BG.out (by decide)) (fun _ hk => hk.2) (.slice A8 s1.length c8)) (fun k_ hk => (by simp [Value.ownBlock]))⟩, ⟨Kd.R_nil _ _ _ _ _⟩, ⟨Kd.V_far HV2.out (fun _ hk => hk.1) _⟩, ⟨blk_put BG.out 6 (.slice A8 s1.length c8) rfl⟩, ⟨blk_far BR.out NR.out _⟩, ⟨blk_far BP.out NGB.out.symm _⟩, ⟨below_set HB.out GG.out⟩⟩
  · have HK := Aside0.mk hk.out
    clear hk
    obtain ⟨rfl, rfl, rfl⟩ := HZ.out.2 (by omega)
    have hf : papG2b code id L1 rx = some (r1, r2, r3, r4, r5, r6, r7, r8, r9, r10, r11) := HF.out
    unfold papG2b at hf
    obtain ⟨⟨s1, s2, ok⟩, ht, hf⟩ := Option.bind_eq_some_iff.mp hf
    have HT := Aside0.mk ht
    clear ht HF
    have hp : wr.cell? ⟨b, 1, none⟩ = some (.pointer (some ⟨g, 7, none⟩)) := (blk_cell BP.out 1).trans rfl
    cases ok with
    | false =>
     simp only [Bool.false_eq_true, if_false] at hf
     simp only [papZ, Option.some.injEq, Prod.mk.injEq] at hf
     obtain ⟨rfl, rfl, rfl, rfl, rfl, rfl, rfl, rfl, rfl, rfl, rfl⟩ := hf
     go_wp2_with (first | (go_at_call 54; refine (pap_text.calls (fun k_ => k_ ≠ g ∧ k_ ≠ gr ∧ k_ ≠ b) A cx rx s1 s2 false _ ?s HT.out).mono ?_; (case s => exact HV.out); rintro x w8 ⟨v0, v1, rfl, ho0, ho1, hb⟩; have HN := Aside0.mk ho0; have HV2 := Aside0.mk (Kd.V_mono (ok' := fun k_ => k_ ≠ g ∧ k_ ≠ gr ∧ k_ ≠ b) ho1 (fun k_ hk => hk.1.elim (fun h => h) (fun h => ⟨fun e => by have := blk_lt BG.out; omega, fun e => by have := blk_lt BR.out; omega, fun e => by have := blk_lt BP.out; omega⟩))); have LG := Aside0.mk (Kd.R_lt HL1.out); have SZ := Aside0.mk HB.out.size; have n0_ := Aside0.mk (blk_below BG.out hb); have n1_ := Aside0.mk (blk_below BR.out hb); have n2_ := Aside0.mk (blk_below BP.out hb); have n3_ := Aside0.mk (Kd.R_below HL1.out hb); have n4_ := Aside0.mk (below_step HB.out hb); clear BG BR BP HB HL1 HL2 HV hb ho0 ho1; have BG := n0_; have BR := n1_; have BP := n2_; have HL1 := n3_; have HB := n4_; clear n0_ n1_ n2_ n3_ n4_; obtain ⟨A8, c8, e8⟩ := Kd.R_slice HN.out; subst e8; obtain ⟨A9, c9, e9⟩ := Kd.V_slice HV2.out; subst e9; have hz : w8.cell? ⟨g, 7, none⟩ = some (.slice none 0 0) := (blk_cell BG.out 7).trans rfl; have hfz := blk_frozen BG.out 7; have hr0 : w8.cell? ⟨gr, 0, none⟩ = some (.int .u16 0) := (blk_cell BR.out 0).trans rfl; have hr1 : w8.cell? ⟨gr, 1, none⟩ = some (.int .u8 0) := (blk_cell BR.out 1).trans rfl; have hr2 : w8.cell? ⟨gr, 2, none⟩ = some (.int .u8 0) := (blk_cell BR.out 2).trans rfl; have hr3 : w8.cell? ⟨gr, 3, none⟩ = some (.slice none 0 0) := (blk_cell BR.out 3).trans rfl; have hr4 : w8.cell? ⟨gr, 4, none⟩ = some (.int .u16 0) := (blk_cell BR.out 4).trans rfl; have hr5 : w8.cell? ⟨gr, 5, none⟩ = some (.int .u32 0) := (blk_cell BR.out 5).trans rfl; have hr6 : w8.cell? ⟨gr, 6, none⟩ = some (.slice none 0 0) := (blk_cell BR.out 6).trans rfl; have hr7 : w8.cell? ⟨gr, 7, none⟩ = some (.slice none 0 0) := (blk_cell BR.out 7).trans rfl; have hr8 : w8.cell? ⟨gr, 8, none⟩ = some (.slice none 0 0) := (blk_cell BR.out 8).trans rfl; have hr9 : w8.cell? ⟨gr, 9, none⟩ = some (.slice none 0 0) := (blk_cell BR.out 9).trans rfl; have hs0 := blk_frozen BR.out 0; have hs1 := blk_frozen BR.out 1; have hs2 := blk_frozen BR.out 2; have hs3 := blk_frozen BR.out 3; have hs4 := blk_frozen BR.out 4; have hs5 := blk_frozen BR.out 5; have hs6 := blk_frozen BR.out 6; have hs7 := blk_frozen BR.out 7; have hs8 := blk_frozen BR.out 8; have hs9 := blk_frozen BR.out 9))
     have q_ := blk_far (p := ⟨g, 7, none⟩) BR.out NR.out (.slice A8 s1.length c8)
     have q0 := blk_put q_ 0 (.int .u16 0) (rfl : _ = (#[.int .u16 0, .int .u8 0, .int .u8 0, .slice none 0 0, .int .u16 0, .int .u32 0, .slice none 0 0, .slice none 0 0, .slice none 0 0, .slice none 0 0] : Array Value))
     have q1 := blk_put q0 1 (.int .u8 0) (rfl : _ = (#[.int .u16 0, .int .u8 0, .int .u8 0, .slice none 0 0, .int .u16 0, .int .u32 0, .slice none 0 0, .slice none 0 0, .slice none 0 0, .slice none 0 0] : Array Value))
     have q2 := blk_put q1 2 (.int .u8 0) (rfl : _ = (#[.int .u16 0, .int .u8 0, .int .u8 0, .slice none 0 0, .int .u16 0, .int .u32 0, .slice none 0 0, .slice none 0 0, .slice none 0 0, .slice none 0 0] : Array Value))
     have q3 := blk_put q2 3 (.slice none 0 0) (rfl : _ = (#[.int .u16 0, .int .u8 0, .int .u8 0, .slice none 0 0, .int .u16 0, .int .u32 0, .slice none 0 0, .slice none 0 0, .slice none 0 0, .slice none 0 0] : Array Value))
     have q4 := blk_put q3 4 (.int .u16 0) (rfl : _ = (#[.int .u16 0, .int .u8 0, .int .u8 0, .slice none 0 0, .int .u16 0, .int .u32 0, .slice none 0 0, .slice none 0 0, .slice none 0 0, .slice none 0 0] : Array Value))
     have q5 := blk_put q4 5 (.int .u32 0) (rfl : _ = (#[.int .u16 0, .int .u8 0, .int .u8 0, .slice none 0 0, .int .u16 0, .int .u32 0, .slice none 0 0, .slice none 0 0, .slice none 0 0, .slice none 0 0] : Array Value))
     have q6 := blk_put q5 6 (.slice none 0 0) (rfl : _ = (#[.int .u16 0, .int .u8 0, .int .u8 0, .slice none 0 0, .int .u16 0, .int .u32 0, .slice none 0 0, .slice none 0 0, .slice none 0 0, .slice none 0 0] : Array Value))
     have q7 := blk_put q6 7 (.slice none 0 0) (rfl : _ = (#[.int .u16 0, .int .u8 0, .int .u8 0, .slice none 0 0, .int .u16 0, .int .u32 0, .slice none 0 0, .slice none 0 0, .slice none 0 0, .slice none 0 0] : Array Value))
     have q8 := blk_put q7 8 (.slice none 0 0) (rfl : _ = (#[.int .u16 0, .int .u8 0, .int .u8 0, .slice none 0 0, .int .u16 0, .int .u32 0, .slice none 0 0, .slice none 0 0, .slice none 0 0, .slice none 0 0] : Array Value))
     have q9 := blk_put q8 9 (.slice none 0 0) (rfl : _ = (#[.int .u16 0, .int .u8 0, .int .u8 0, .slice none 0 0, .int .u16 0, .int .u32 0, .slice none 0 0, .slice none 0 0, .slice none 0 0, .slice none 0 0] : Array Value))
     refine bodyPost_ret (results_ct rfl _ _ gr 47 #[.int .u16 0, .int .u8 0, .int .u8 0, .slice none 0 0, .int .u16 0, .int .u32 0, .slice none 0 0, .slice none 0 0, .slice none 0 0, .slice none 0 0] (0, 0) _ rfl q9 hu47 rfl (by kernel_rfl)) rfl ?_
     exact ⟨_, _, _, _, _, rfl, Kd.S_nil _ _ _ _ _, Kd.R_nil _ _ _ _ _, Kd.R_nil _ _ _ _ _, Kd.R_nil _ _ _ _ _, Kd.R_nil _ _ _ _ _, below_set (below_set (below_set (below_set (below_set (below_set (below_set (below_set (below_set (below_set (below_set HB.out GG.out) GR.out) GR.out) GR.out) GR.out) GR.out) GR.out) GR.out) GR.out) GR.out) GR.out⟩
    | true =>
     simp only [if_true] at hf
     have HF := Aside0.mk hf
     clear hf
     cases gk with
     | zero => have := HK.out; omega
     | succ k1 =>
      go_wp2_with (first | (go_at_call 54; refine (pap_text.calls (fun k_ => k_ ≠ g ∧ k_ ≠ gr ∧ k_ ≠ b) A cx rx s1 s2 true _ ?s HT.out).mono ?_; (case s => exact HV.out); rintro x w8 ⟨v0, v1, rfl, ho0, ho1, hb⟩; have HN := Aside0.mk ho0; have HV2 := Aside0.mk (Kd.V_mono (ok' := fun k_ => k_ ≠ g ∧ k_ ≠ gr ∧ k_ ≠ b) ho1 (fun k_ hk => hk.1.elim (fun h => h) (fun h => ⟨fun e => by have := blk_lt BG.out; omega, fun e => by have := blk_lt BR.out; omega, fun e => by have := blk_lt BP.out; omega⟩))); have LG := Aside0.mk (Kd.R_lt HL1.out); have SZ := Aside0.mk HB.out.size; have n0_ := Aside0.mk (blk_below BG.out hb); have n1_ := Aside0.mk (blk_below BR.out hb); have n2_ := Aside0.mk (blk_below BP.out hb); have n3_ := Aside0.mk (Kd.R_below HL1.out hb); have n4_ := Aside0.mk (below_step HB.out hb); clear BG BR BP HB HL1 HL2 HV hb ho0 ho1; have BG := n0_; have BR := n1_; have BP := n2_; have HL1 := n3_; have HB := n4_; clear n0_ n1_ n2_ n3_ n4_; obtain ⟨A8, c8, e8⟩ := Kd.R_slice HN.out; subst e8; obtain ⟨A9, c9, e9⟩ := Kd.V_slice HV2.out; subst e9; have hz : w8.cell? ⟨g, 7, none⟩ = some (.slice none 0 0) := (blk_cell BG.out 7).trans rfl; have hfz := blk_frozen BG.out 7; have hr0 : w8.cell? ⟨gr, 0, none⟩ = some (.int .u16 0) := (blk_cell BR.out 0).trans rfl; have hr1 : w8.cell? ⟨gr, 1, none⟩ = some (.int .u8 0) := (blk_cell BR.out 1).trans rfl; have hr2 : w8.cell? ⟨gr, 2, none⟩ = some (.int .u8 0) := (blk_cell BR.out 2).trans rfl; have hr3 : w8.cell? ⟨gr, 3, none⟩ = some (.slice none 0 0) := (blk_cell BR.out 3).trans rfl; have hr4 : w8.cell? ⟨gr, 4, none⟩ = some (.int .u16 0) := (blk_cell BR.out 4).trans rfl; have hr5 : w8.cell? ⟨gr, 5, none⟩ = some (.int .u32 0) := (blk_cell BR.out 5).trans rfl; have hr6 : w8.cell? ⟨gr, 6, none⟩ = some (.slice none 0 0) := (blk_cell BR.out 6).trans rfl; have hr7 : w8.cell? ⟨gr, 7, none⟩ = some (.slice none 0 0) := (blk_cell BR.out 7).trans rfl; have hr8 : w8.cell? ⟨gr, 8, none⟩ = some (.slice none 0 0) := (blk_cell BR.out 8).trans rfl; have hr9 : w8.cell? ⟨gr, 9, none⟩ = some (.slice none 0 0) := (blk_cell BR.out 9).trans rfl; have hs0 := blk_frozen BR.out 0; have hs1 := blk_frozen BR.out 1; have hs2 := blk_frozen BR.out 2; have hs3 := blk_frozen BR.out 3; have hs4 := blk_frozen BR.out 4; have hs5 := blk_frozen BR.out 5; have hs6 := blk_frozen BR.out 6; have hs7 := blk_frozen BR.out 7; have hs8 := blk_frozen BR.out 8; have hs9 := blk_frozen BR.out 9))
      go_roundg k1
      case measure => have := HK.out; omega
      case rel => exact ⟨2, s2, A9, c9, L1, B1, d1, s1, A8, c8, rfl, rfl, ⟨by have := HK.out; omega⟩, ⟨fun h => absurd h (by omega), fun h => absurd h (by omega)⟩, HF, ⟨Kd.R_mono (Kd.R_far (p := ⟨g, 7, none⟩) (Kd.R_types (R_own HL1.out) BG.out (by decide)) (fun _ hk => hk.2) (.slice A8 s1.length c8)) (fun k_ hk e_ => by have := HN.out.1 k_ e_.symm; have := LG.out k_ hk.1.symm; omega)⟩, ⟨Kd.R_mono (Kd.R_far (p := ⟨g, 7, none⟩) (Kd.R_types (Kd.R_lower HN.out SZ.out) BG.out (by decide)) (fun _ hk => hk.2) (.slice A8 s1.length c8)) (fun k_ hk => fun e_ => by have := LG.out k_ e_.symm; have := hk.1; omega)⟩, ⟨Kd.V_far HV2.out (fun _ hk => hk.1) _⟩, ⟨blk_put BG.out 7 (.slice A8 s1.length c8) rfl⟩, ⟨blk_far BR.out NR.out _⟩, ⟨blk_far BP.out NGB.out.symm _⟩, ⟨below_set HB.out GG.out⟩⟩
  · clear hk
    have hf : papE code id L1 L2 rx = some (r1, r2, r3, r4, r5, r6, r7, r8, r9, r10, r11) := HF.out
    unfold papE at hf
    have hz0 : wr.cell? ⟨g, 0, none⟩ = some (.int .u16 49187) := (blk_cell BG.out 0).trans rfl
    have hz1 : wr.cell? ⟨g, 1, none⟩ = some (.int .u8 code) := (blk_cell BG.out 1).trans rfl
    have hz2 : wr.cell? ⟨g, 2, none⟩ = some (.int .u8 id) := (blk_cell BG.out 2).trans rfl
    have hz3 : wr.cell? ⟨g, 3, none⟩ = some (.slice none 0 0) := (blk_cell BG.out 3).trans rfl
    have hz4 : wr.cell? ⟨g, 4, none⟩ = some (.int .u16 0) := (blk_cell BG.out 4).trans rfl
    have hz5 : wr.cell? ⟨g, 5, none⟩ = some (.int .u32 0) := (blk_cell BG.out 5).trans rfl
    have hz6 : wr.cell? ⟨g, 6, none⟩ = some (.slice B1 L1.length d1) := (blk_cell BG.out 6).trans rfl
    have hz7 : wr.cell? ⟨g, 7, none⟩ = some (.slice B2 L2.length d2) := (blk_cell BG.out 7).trans rfl
    have hz8 : wr.cell? ⟨g, 8, none⟩ = some (.slice none 0 0) := (blk_cell BG.out 8).trans rfl
    have hz9 : wr.cell? ⟨g, 9, none⟩ = some (.slice none 0 0) := (blk_cell BG.out 9).trans rfl
    have hr0 : wr.cell? ⟨gr, 0, none⟩ = some (.int .u16 0) := (blk_cell BR.out 0).trans rfl
    have hr1 : wr.cell? ⟨gr, 1, none⟩ = some (.int .u8 0) := (blk_cell BR.out 1).trans rfl
    have hr2 : wr.cell? ⟨gr, 2, none⟩ = some (.int .u8 0) := (blk_cell BR.out 2).trans rfl
    have hr3 : wr.cell? ⟨gr, 3, none⟩ = some (.slice none 0 0) := (blk_cell BR.out 3).trans rfl
    have hr4 : wr.cell? ⟨gr, 4, none⟩ = some (.int .u16 0) := (blk_cell BR.out 4).trans rfl
    have hr5 : wr.cell? ⟨gr, 5, none⟩ = some (.int .u32 0) := (blk_cell BR.out 5).trans rfl
    have hr6 : wr.cell? ⟨gr, 6, none⟩ = some (.slice none 0 0) := (blk_cell BR.out 6).trans rfl
    have hr7 : wr.cell? ⟨gr, 7, none⟩ = some (.slice none 0 0) := (blk_cell BR.out 7).trans rfl
    have hr8 : wr.cell? ⟨gr, 8, none⟩ = some (.slice none 0 0) := (blk_cell BR.out 8).trans rfl
    have hr9 : wr.cell? ⟨gr, 9, none⟩ = some (.slice none 0 0) := (blk_cell BR.out 9).trans rfl
    have hs0 := blk_frozen BR.out 0
    have hs1 := blk_frozen BR.out 1
    have hs2 := blk_frozen BR.out 2
    have hs3 := blk_frozen BR.out 3
    have hs4 := blk_frozen BR.out 4
    have hs5 := blk_frozen BR.out 5
    have hs6 := blk_frozen BR.out 6
    have hs7 := blk_frozen BR.out 7
    have hs8 := blk_frozen BR.out 8
    have hs9 := blk_frozen BR.out 9
    by_cases hl : (rx.length : Int) > 0
    · rw [if_pos hl] at hf
      have hl0 : decide (0 < rx.length) = true := decide_eq_true (by omega)
      have hl1 : (0 < rx.length) = True := eq_true (by omega)
      clear hl
      simp only [papZ, Option.some.injEq, Prod.mk.injEq] at hf
      obtain ⟨rfl, rfl, rfl, rfl, rfl, rfl, rfl, rfl, rfl, rfl, rfl⟩ := hf
      go_wp2
      have q0 := blk_put BR.out 0 (.int .u16 0) (rfl : _ = (#[.int .u16 0, .int .u8 0, .int .u8 0, .slice none 0 0, .int .u16 0, .int .u32 0, .slice none 0 0, .slice none 0 0, .slice none 0 0, .slice none 0 0] : Array Value))
      have q1 := blk_put q0 1 (.int .u8 0) (rfl : _ = (#[.int .u16 0, .int .u8 0, .int .u8 0, .slice none 0 0, .int .u16 0, .int .u32 0, .slice none 0 0, .slice none 0 0, .slice none 0 0, .slice none 0 0] : Array Value))
      have q2 := blk_put q1 2 (.int .u8 0) (rfl : _ = (#[.int .u16 0, .int .u8 0, .int .u8 0, .slice none 0 0, .int .u16 0, .int .u32 0, .slice none 0 0, .slice none 0 0, .slice none 0 0, .slice none 0 0] : Array Value))
      have q3 := blk_put q2 3 (.slice none 0 0) (rfl : _ = (#[.int .u16 0, .int .u8 0, .int .u8 0, .slice none 0 0, .int .u16 0, .int .u32 0, .slice none 0 0, .slice none 0 0, .slice none 0 0, .slice none 0 0] : Array Value))
      have q4 := blk_put q3 4 (.int .u16 0) (rfl : _ = (#[.int .u16 0, .int .u8 0, .int .u8 0, .slice none 0 0, .int .u16 0, .int .u32 0, .slice none 0 0, .slice none 0 0, .slice none 0 0, .slice none 0 0] : Array Value))
      have q5 := blk_put q4 5 (.int .u32 0) (rfl : _ = (#[.int .u16 0, .int .u8 0, .int .u8 0, .slice none 0 0, .int .u16 0, .int .u32 0, .slice none 0 0, .slice none 0 0, .slice none 0 0, .slice none 0 0] : Array Value))
      have q6 := blk_put q5 6 (.slice none 0 0) (rfl : _ = (#[.int .u16 0, .int .u8 0, .int .u8 0, .slice none 0 0, .int .u16 0, .int .u32 0, .slice none 0 0, .slice none 0 0, .slice none 0 0, .slice none 0 0] : Array Value))
      have q7 := blk_put q6 7 (.slice none 0 0) (rfl : _ = (#[.int .u16 0, .int .u8 0, .int .u8 0, .slice none 0 0, .int .u16 0, .int .u32 0, .slice none 0 0, .slice none 0 0, .slice none 0 0, .slice none 0 0] : Array Value))
      have q8 := blk_put q7 8 (.slice none 0 0) (rfl : _ = (#[.int .u16 0, .int .u8 0, .int .u8 0, .slice none 0 0, .int .u16 0, .int .u32 0, .slice none 0 0, .slice none 0 0, .slice none 0 0, .slice none 0 0] : Array Value))
      have q9 := blk_put q8 9 (.slice none 0 0) (rfl : _ = (#[.int .u16 0, .int .u8 0, .int .u8 0, .slice none 0 0, .int .u16 0, .int .u32 0, .slice none 0 0, .slice none 0 0, .slice none 0 0, .slice none 0 0] : Array Value))
      refine bodyPost_ret (results_ct rfl _ _ gr 47 #[.int .u16 0, .int .u8 0, .int .u8 0, .slice none 0 0, .int .u16 0, .int .u32 0, .slice none 0 0, .slice none 0 0, .slice none 0 0, .slice none 0 0] (0, 0) _ rfl q9 hu47 rfl (by kernel_rfl)) rfl ?_
      exact ⟨_, _, _, _, _, rfl, Kd.S_nil _ _ _ _ _, Kd.R_nil _ _ _ _ _, Kd.R_nil _ _ _ _ _, Kd.R_nil _ _ _ _ _, Kd.R_nil _ _ _ _ _, below_set (below_set (below_set (below_set (below_set (below_set (below_set (below_set (below_set (below_set (HB.out) GR.out) GR.out) GR.out) GR.out) GR.out) GR.out) GR.out) GR.out) GR.out) GR.out⟩
    · rw [if_neg hl] at hf
      have hl0 : decide (0 < rx.length) = false := decide_eq_false (by omega)
      have hl1 : (0 < rx.length) = False := eq_false (by omega)
      clear hl
      simp only [Option.some.injEq, Prod.mk.injEq] at hf
      obtain ⟨rfl, rfl, rfl, rfl, rfl, rfl, rfl, rfl, rfl, rfl, rfl⟩ := hf
      go_wp2
      have q0 := blk_put BR.out 0 (.int .u16 49187) (rfl : _ = (#[.int .u16 49187, .int .u8 0, .int .u8 0, .slice none 0 0, .int .u16 0, .int .u32 0, .slice none 0 0, .slice none 0 0, .slice none 0 0, .slice none 0 0] : Array Value))
      have q1 := blk_put q0 1 (.int .u8 code) (rfl : _ = (#[.int .u16 49187, .int .u8 code, .int .u8 0, .slice none 0 0, .int .u16 0, .int .u32 0, .slice none 0 0, .slice none 0 0, .slice none 0 0, .slice none 0 0] : Array Value))
      have q2 := blk_put q1 2 (.int .u8 id) (rfl : _ = (#[.int .u16 49187, .int .u8 code, .int .u8 id, .slice none 0 0, .int .u16 0, .int .u32 0, .slice none 0 0, .slice none 0 0, .slice none 0 0, .slice none 0 0] : Array Value))
      have q3 := blk_put q2 3 (.slice none 0 0) (rfl : _ = (#[.int .u16 49187, .int .u8 code, .int .u8 id, .slice none 0 0, .int .u16 0, .int .u32 0, .slice none 0 0, .slice none 0 0, .slice none 0 0, .slice none 0 0] : Array Value))
      have q4 := blk_put q3 4 (.int .u16 0) (rfl : _ = (#[.int .u16 49187, .int .u8 code, .int .u8 id, .slice none 0 0, .int .u16 0, .int .u32 0, .slice none 0 0, .slice none 0 0, .slice none 0 0, .slice none 0 0] : Array Value))
      have q5 := blk_put q4 5 (.int .u32 0) (rfl : _ = (#[.int .u16 49187, .int .u8 code, .int .u8 id, .slice none 0 0, .int .u16 0, .int .u32 0, .slice none 0 0, .slice none 0 0, .slice none 0 0, .slice none 0 0] : Array Value))
      have q6 := blk_put q5 6 (.slice B1 L1.length d1) (rfl : _ = (#[.int .u16 49187, .int .u8 code, .int .u8 id, .slice none 0 0, .int .u16 0, .int .u32 0, .slice B1 L1.length d1, .slice none 0 0, .slice none 0 0, .slice none 0 0] : Array Value))
      have q7 := blk_put q6 7 (.slice B2 L2.length d2) (rfl : _ = (#[.int .u16 49187, .int .u8 code, .int .u8 id, .slice none 0 0, .int .u16 0, .int .u32 0, .slice B1 L1.length d1, .slice B2 L2.length d2, .slice none 0 0, .slice none 0 0] : Array Value))
      have q8 := blk_put q7 8 (.slice none 0 0) (rfl : _ = (#[.int .u16 49187, .int .u8 code, .int .u8 id, .slice none 0 0, .int .u16 0, .int .u32 0, .slice B1 L1.length d1, .slice B2 L2.length d2, .slice none 0 0, .slice none 0 0] : Array Value))
      have q9 := blk_put q8 9 (.slice none 0 0) (rfl : _ = (#[.int .u16 49187, .int .u8 code, .int .u8 id, .slice none 0 0, .int .u16 0, .int .u32 0, .slice B1 L1.length d1, .slice B2 L2.length d2, .slice none 0 0, .slice none 0 0] : Array Value))
      refine bodyPost_ret (results_ct rfl _ _ gr 47 #[.int .u16 49187, .int .u8 code, .int .u8 id, .slice none 0 0, .int .u16 0, .int .u32 0, .slice B1 L1.length d1, .slice B2 L2.length d2, .slice none 0 0, .slice none 0 0] (0, 0) _ rfl q9 hu47 rfl (by kernel_rfl)) rfl ?_
      exact ⟨_, _, _, _, _, rfl, Kd.S_nil _ _ _ _ _, Kd.R_mono (Kd.R_far (p := ⟨gr, 9, none⟩) (Kd.R_far (p := ⟨gr, 8, none⟩) (Kd.R_far (p := ⟨gr, 7, none⟩) (Kd.R_far (p := ⟨gr, 6, none⟩) (Kd.R_far (p := ⟨gr, 5, none⟩) (Kd.R_far (p := ⟨gr, 4, none⟩) (Kd.R_far (p := ⟨gr, 3, none⟩) (Kd.R_far (p := ⟨gr, 2, none⟩) (Kd.R_far (p := ⟨gr, 1, none⟩) (Kd.R_far (p := ⟨gr, 0, none⟩) (Kd.R_types (HL1.out) BR.out (by decide)) (fun _ hk => hk.2) _) (fun _ hk => hk.2) _) (fun _ hk => hk.2) _) (fun _ hk => hk.2) _) (fun _ hk => hk.2) _) (fun _ hk => hk.2) _) (fun _ hk => hk.2) _) (fun _ hk => hk.2) _) (fun _ hk => hk.2) _) (fun _ hk => hk.2) _) (fun _ hk => ⟨hk.1, by simp [Value.ownBlock]⟩), Kd.R_mono (Kd.R_far (p := ⟨gr, 9, none⟩) (Kd.R_far (p := ⟨gr, 8, none⟩) (Kd.R_far (p := ⟨gr, 7, none⟩) (Kd.R_far (p := ⟨gr, 6, none⟩) (Kd.R_far (p := ⟨gr, 5, none⟩) (Kd.R_far (p := ⟨gr, 4, none⟩) (Kd.R_far (p := ⟨gr, 3, none⟩) (Kd.R_far (p := ⟨gr, 2, none⟩) (Kd.R_far (p := ⟨gr, 1, none⟩) (Kd.R_far (p := ⟨gr, 0, none⟩) (Kd.R_types (HL2.out) BR.out (by decide)) (fun _ hk => hk.2) _) (fun _ hk => hk.2) _) (fun _ hk => hk.2) _) (fun _ hk => hk.2) _) (fun _ hk => hk.2) _) (fun _ hk => hk.2) _) (fun _ hk => hk.2) _) (fun _ hk => hk.2) _) (fun _ hk => hk.2) _) (fun _ hk => hk.2) _) (fun _ hk => ⟨hk.1, by simp [Value.ownBlock]⟩), Kd.R_nil _ _ _ _ _, Kd.R_nil _ _ _ _ _, below_set (below_set (below_set (below_set (below_set (below_set (below_set (below_set (below_set (below_set (HB.out) GR.out) GR.out) GR.out) GR.out) GR.out) GR.out) GR.out) GR.out) GR.out) GR.out⟩
set_option maxHeartbeats 16000000 in
set_option maxRecDepth 100000 in
theorem pt_get1 (k : Nat) (A0 : Option Addr) (c0 : Nat) (l0 : List Int) (r1 r2 r3 : Int) (r4 : List S57) (r5 r6 : Int) (r7 r8 r9 r10 : List Int) (r11 : Int) (code id e : Int) (rest : List Int) (w : World) (hr0 : Kd.C (Kd.int .u8) w A0 l0.length l0) (hc0 : l0.length ≤ c0) (hg : ctl_Get.f k l0 = some (code, id, rest, e)) (hc : code = 2 ∨ code = 3) (he : e = 0) (h : papG1 code id rest = some (r1, r2, r3, r4, r5, r6, r7, r8, r9, r10, r11)) :
 Calls Try.prog 33 #[.slice A0 l0.length c0] w fun x w' => ∃ v3_ v6_ v7_ v8_ v9_ : Value, x = .returned (.tuple #[.agg #[.int .u16 r1, .int .u8 r2, .int .u8 r3, v3_, .int .u16 r5, .int .u32 r6, v6_, v7_, v8_, v9_], .int .i64 r11]) ∧ Kd.S k57 57 w' w.heap.size (fun k_ => some k_ ≠ (v6_ : Value).ownBlock ∧ some k_ ≠ (v7_ : Value).ownBlock ∧ some k_ ≠ (v8_ : Value).ownBlock) v3_ r4 ∧ Kd.R (Kd.int .u8) 5 w' w.heap.size (fun k_ => some k_ ≠ (v7_ : Value).ownBlock ∧ some k_ ≠ (v8_ : Value).ownBlock) v6_ r7 ∧ Kd.R (Kd.int .u8) 5 w' w.heap.size (fun k_ => some k_ ≠ (v6_ : Value).ownBlock ∧ some k_ ≠ (v8_ : Value).ownBlock) v7_ r8 ∧ Kd.R (Kd.int .u8) 5 w' w.heap.size (fun k_ => some k_ ≠ (v6_ : Value).ownBlock ∧ some k_ ≠ (v7_ : Value).ownBlock) v8_ r9 ∧ Kd.R (Kd.int .u32) 41 w' w.heap.size (fun _ => True) v9_ r10 ∧ Below w.heap.size w w' := by
 have hu47 := Try.underlying47
 have HR0 := Aside0.mk hr0
 have HC0 := Aside0.mk hc0
 have HG := Aside0.mk hg
 have HF := Aside0.mk h
 have HC := Aside0.mk hc
 have he0 : (e != 0) = false := bne_eq_false_iff_eq.mpr he
 clear hr0 hc0 hg h he hc
 have hq : ∀ (ad : Addr) (w : World) (n c : Nat), (Go.binOp .eql 80 (.slice (some ad) n c) (.slice none 0 0)).run Try.prog w = .ok (.bool false) w := fun ad w n c => Lib.run_eql_slice_nil (P := Try.prog) w 80 83 (some ad) n c 0 0 Try.underlying80
 go_enter Try.func33, Try.ntmps33
 go_upto_region 2 with (first | ((with_reducible refine gate_dst (N := 2) rfl ?_); refine box_event ?hg (N := 2) ?hd (cs := #[.int .u16 0, .int .u8 0, .int .u8 0, .slice none 0 0, .int .u16 0, .int .u32 0, .slice none 0 0, .slice none 0 0, .slice none 0 0, .slice none 0 0]) (t := 47) ?hr ?_; (case hd => rfl); (case hg => rfl); (case hr => first | (go_simp; done) | (go_simp; rfl)); intro gr hgr w1 hbox hb; have BR := Aside0.mk hbox; have GR := Aside0.mk ((by rw [hgr]; exact Nat.le_refl _) : w.heap.size ≤ gr); have HB := Aside0.mk hb; clear hbox hb hgr) | ((with_reducible refine gate_dst (N := 4) rfl ?_); refine box_event ?hg (N := 4) ?hd (cs := #[.int .u16 0, .int .u8 0, .int .u8 0, .slice none 0 0, .int .u16 0, .int .u32 0, .slice none 0 0, .slice none 0 0, .slice none 0 0, .slice none 0 0]) (t := 47) ?hr ?_; (case hd => rfl); (case hg => rfl); (case hr => first | (go_simp; done) | (go_simp; rfl)); intro g hgg w2 hbox hb; have BG := Aside0.mk hbox; have NR := Aside0.mk ((by rw [hgg]; exact Nat.ne_of_lt (blk_lt BR.out)) : gr ≠ g); have GG := Aside0.mk ((by rw [hgg]; exact HB.out.size) : w.heap.size ≤ g); have n0_ := Aside0.mk (blk_below BR.out hb); have n1_ := Aside0.mk (below_step HB.out hb); clear BR HB hbox hb hgg; have BR := n0_; have HB := n1_; clear n0_ n1_; have hz0 : w2.cell? ⟨g, 0, none⟩ = some (.int .u16 0) := (blk_cell BG.out 0).trans rfl; have hz1 : w2.cell? ⟨g, 1, none⟩ = some (.int .u8 0) := (blk_cell BG.out 1).trans rfl; have hz2 : w2.cell? ⟨g, 2, none⟩ = some (.int .u8 0) := (blk_cell BG.out 2).trans rfl; have hz3 : w2.cell? ⟨g, 3, none⟩ = some (.slice none 0 0) := (blk_cell BG.out 3).trans rfl; have hz4 : w2.cell? ⟨g, 4, none⟩ = some (.int .u16 0) := (blk_cell BG.out 4).trans rfl; have hz5 : w2.cell? ⟨g, 5, none⟩ = some (.int .u32 0) := (blk_cell BG.out 5).trans rfl; have hz6 : w2.cell? ⟨g, 6, none⟩ = some (.slice none 0 0) := (blk_cell BG.out 6).trans rfl; have hz7 : w2.cell? ⟨g, 7, none⟩ = some (.slice none 0 0) := (blk_cell BG.out 7).trans rfl; have hz8 : w2.cell? ⟨g, 8, none⟩ = some (.slice none 0 0) := (blk_cell BG.out 8).trans rfl; have hz9 : w2.cell? ⟨g, 9, none⟩ = some (.slice none 0 0) := (blk_cell BG.out 9).trans rfl; have hf0 := blk_frozen BG.out 0; have hf1 := blk_frozen BG.out 1; have hf2 := blk_frozen BG.out 2; have hf3 := blk_frozen BG.out 3; have hf4 := blk_frozen BG.out 4; have hf5 := blk_frozen BG.out 5; have hf6 := blk_frozen BG.out 6; have hf7 := blk_frozen BG.out 7; have hf8 := blk_frozen BG.out 8; have hf9 := blk_frozen BG.out 9))
 clear hz0 hz1 hz2 hz3 hz4 hz5 hz6 hz7 hz8 hz9 hf0 hf1 hf2 hf3 hf4 hf5 hf6 hf7 hf8 hf9
 have q0 := blk_put BG.out 0 (.int .u16 49187) (rfl : _ = (#[.int .u16 49187, .int .u8 0, .int .u8 0, .slice none 0 0, .int .u16 0, .int .u32 0, .slice none 0 0, .slice none 0 0, .slice none 0 0, .slice none 0 0] : Array Value))
 have q1 := blk_put q0 1 (.int .u8 0) (rfl : _ = (#[.int .u16 49187, .int .u8 0, .int .u8 0, .slice none 0 0, .int .u16 0, .int .u32 0, .slice none 0 0, .slice none 0 0, .slice none 0 0, .slice none 0 0] : Array Value))
 have q2 := blk_put q1 2 (.int .u8 0) (rfl : _ = (#[.int .u16 49187, .int .u8 0, .int .u8 0, .slice none 0 0, .int .u16 0, .int .u32 0, .slice none 0 0, .slice none 0 0, .slice none 0 0, .slice none 0 0] : Array Value))
 have q3 := blk_put q2 3 (.slice none 0 0) (rfl : _ = (#[.int .u16 49187, .int .u8 0, .int .u8 0, .slice none 0 0, .int .u16 0, .int .u32 0, .slice none 0 0, .slice none 0 0, .slice none 0 0, .slice none 0 0] : Array Value))
 have q4 := blk_put q3 4 (.int .u16 0) (rfl : _ = (#[.int .u16 49187, .int .u8 0, .int .u8 0, .slice none 0 0, .int .u16 0, .int .u32 0, .slice none 0 0, .slice none 0 0, .slice none 0 0, .slice none 0 0] : Array Value))
 have q5 := blk_put q4 5 (.int .u32 0) (rfl : _ = (#[.int .u16 49187, .int .u8 0, .int .u8 0, .slice none 0 0, .int .u16 0, .int .u32 0, .slice none 0 0, .slice none 0 0, .slice none 0 0, .slice none 0 0] : Array Value))
 have q6 := blk_put q5 6 (.slice none 0 0) (rfl : _ = (#[.int .u16 49187, .int .u8 0, .int .u8 0, .slice none 0 0, .int .u16 0, .int .u32 0, .slice none 0 0, .slice none 0 0, .slice none 0 0, .slice none 0 0] : Array Value))
 have q7 := blk_put q6 7 (.slice none 0 0) (rfl : _ = (#[.int .u16 49187, .int .u8 0, .int .u8 0, .slice none 0 0, .int .u16 0, .int .u32 0, .slice none 0 0, .slice none 0 0, .slice none 0 0, .slice none 0 0] : Array Value))
 have q8 := blk_put q7 8 (.slice none 0 0) (rfl : _ = (#[.int .u16 49187, .int .u8 0, .int .u8 0, .slice none 0 0, .int .u16 0, .int .u32 0, .slice none 0 0, .slice none 0 0, .slice none 0 0, .slice none 0 0] : Array Value))
 have q9 := blk_put q8 9 (.slice none 0 0) (rfl : _ = (#[.int .u16 49187, .int .u8 0, .int .u8 0, .slice none 0 0, .int .u16 0, .int .u32 0, .slice none 0 0, .slice none 0 0, .slice none 0 0, .slice none 0 0] : Array Value))
 have n0_ := Aside0.mk q9
 have n1_ := Aside0.mk (show (((((((((((w2.setCell ⟨g, 0, none⟩ (.int .u16 49187)).setCell ⟨g, 1, none⟩ (.int .u8 0)).setCell ⟨g, 2, none⟩ (.int .u8 0)).setCell ⟨g, 3, none⟩ (.slice none 0 0)).setCell ⟨g, 4, none⟩ (.int .u16 0)).setCell ⟨g, 5, none⟩ (.int .u32 0)).setCell ⟨g, 6, none⟩ (.slice none 0 0)).setCell ⟨g, 7, none⟩ (.slice none 0 0)).setCell ⟨g, 8, none⟩ (.slice none 0 0)).setCell ⟨g, 9, none⟩ (.slice none 0 0))).heap[gr]? = some (.cells #[.int .u16 0, .int .u8 0, .int .u8 0, .slice none 0 0, .int .u16 0, .int .u32 0, .slice none 0 0, .slice none 0 0, .slice none 0 0, .slice none 0 0] 47 (0, 0)) from (blk_far (p := ⟨g, 9, none⟩) (blk_far (p := ⟨g, 8, none⟩) (blk_far (p := ⟨g, 7, none⟩) (blk_far (p := ⟨g, 6, none⟩) (blk_far (p := ⟨g, 5, none⟩) (blk_far (p := ⟨g, 4, none⟩) (blk_far (p := ⟨g, 3, none⟩) (blk_far (p := ⟨g, 2, none⟩) (blk_far (p := ⟨g, 1, none⟩) (blk_far (p := ⟨g, 0, none⟩) BR.out NR.out (.int .u16 49187)) NR.out (.int .u8 0)) NR.out (.int .u8 0)) NR.out (.slice none 0 0)) NR.out (.int .u16 0)) NR.out (.int .u32 0)) NR.out (.slice none 0 0)) NR.out (.slice none 0 0)) NR.out (.slice none 0 0)) NR.out (.slice none 0 0)))
 have n2_ := Aside0.mk (show Below w.heap.size w ((((((((((w2.setCell ⟨g, 0, none⟩ (.int .u16 49187)).setCell ⟨g, 1, none⟩ (.int .u8 0)).setCell ⟨g, 2, none⟩ (.int .u8 0)).setCell ⟨g, 3, none⟩ (.slice none 0 0)).setCell ⟨g, 4, none⟩ (.int .u16 0)).setCell ⟨g, 5, none⟩ (.int .u32 0)).setCell ⟨g, 6, none⟩ (.slice none 0 0)).setCell ⟨g, 7, none⟩ (.slice none 0 0)).setCell ⟨g, 8, none⟩ (.slice none 0 0)).setCell ⟨g, 9, none⟩ (.slice none 0 0)) from (below_set (below_set (below_set (below_set (below_set (below_set (below_set (below_set (below_set (below_set HB.out GG.out) GG.out) GG.out) GG.out) GG.out) GG.out) GG.out) GG.out) GG.out) GG.out))
 clear BG BR HB q0 q1 q2 q3 q4 q5 q6 q7 q8 q9
 generalize ((((((((((w2.setCell ⟨g, 0, none⟩ (.int .u16 49187)).setCell ⟨g, 1, none⟩ (.int .u8 0)).setCell ⟨g, 2, none⟩ (.int .u8 0)).setCell ⟨g, 3, none⟩ (.slice none 0 0)).setCell ⟨g, 4, none⟩ (.int .u16 0)).setCell ⟨g, 5, none⟩ (.int .u32 0)).setCell ⟨g, 6, none⟩ (.slice none 0 0)).setCell ⟨g, 7, none⟩ (.slice none 0 0)).setCell ⟨g, 8, none⟩ (.slice none 0 0)).setCell ⟨g, 9, none⟩ (.slice none 0 0)) = w5 at n0_ n1_ n2_ ⊢
 have BG := n0_
 have BR := n1_
 have HB := n2_
 clear n0_ n1_ n2_
 go_upto_region 4 with (first | (go_at_call 53; refine (ctl_Get.calls k A0 c0 l0 code id rest e _ ?s1 HC0.out HG.out).mono ?_; (case s1 => exact Kd.C_below HR0.out HB.out); rintro x w6 ⟨v2, rfl, hv, hb⟩; have HV := Aside0.mk (Kd.R_lower hv HB.out.size); have n0_ := Aside0.mk (blk_below BG.out hb); have n1_ := Aside0.mk (blk_below BR.out hb); have n2_ := Aside0.mk (below_step HB.out hb); clear BG BR HB hb hv; have BG := n0_; have BR := n1_; have HB := n2_; clear n0_ n1_ n2_; obtain ⟨Av, cv, ev⟩ := Kd.R_slice HV.out; subst ev; have hz1 : w6.cell? ⟨g, 1, none⟩ = some (.int .u8 0) := (blk_cell BG.out 1).trans rfl; have hz2 : w6.cell? ⟨g, 2, none⟩ = some (.int .u8 0) := (blk_cell BG.out 2).trans rfl; have hf1 := blk_frozen BG.out 1; have hf2 := blk_frozen BG.out 2))
 clear hz1 hz2 hf1 hf2
 have n0_ := Aside0.mk (show ((w6.setCell ⟨g, 1, none⟩ (.int .u8 code)).setCell ⟨g, 2, none⟩ (.int .u8 id)).heap[g]? = some (.cells #[.int .u16 49187, .int .u8 code, .int .u8 id, .slice none 0 0, .int .u16 0, .int .u32 0, .slice none 0 0, .slice none 0 0, .slice none 0 0, .slice none 0 0] 47 (0, 0)) from blk_put (blk_put BG.out 1 (.int .u8 code) rfl) 2 (.int .u8 id) rfl)
 have n1_ := Aside0.mk (show ((w6.setCell ⟨g, 1, none⟩ (.int .u8 code)).setCell ⟨g, 2, none⟩ (.int .u8 id)).heap[gr]? = some (.cells #[.int .u16 0, .int .u8 0, .int .u8 0, .slice none 0 0, .int .u16 0, .int .u32 0, .slice none 0 0, .slice none 0 0, .slice none 0 0, .slice none 0 0] 47 (0, 0)) from blk_far (p := ⟨g, 2, none⟩) (blk_far (p := ⟨g, 1, none⟩) BR.out NR.out _) NR.out _)
 have n2_ := Aside0.mk (show Below w.heap.size w ((w6.setCell ⟨g, 1, none⟩ (.int .u8 code)).setCell ⟨g, 2, none⟩ (.int .u8 id)) from below_set (below_set HB.out GG.out) GG.out)
 have n3_ := Aside0.mk (show Kd.R (Kd.int .u8) 5 ((w6.setCell ⟨g, 1, none⟩ (.int .u8 code)).setCell ⟨g, 2, none⟩ (.int .u8 id)) w.heap.size (fun k_ => True) (.slice Av rest.length cv) rest from Kd.R_mono (Kd.R_far (p := ⟨g, 2, none⟩) (Kd.R_far (p := ⟨g, 1, none⟩) (Kd.R_types HV.out BG.out (by decide)) (fun _ hk => hk.2) _) (fun _ hk => hk.2) _) (fun _ _ => trivial))
 clear BG BR HB HV
 generalize ((w6.setCell ⟨g, 1, none⟩ (.int .u8 code)).setCell ⟨g, 2, none⟩ (.int .u8 id)) = w7 at n0_ n1_ n2_ n3_ ⊢
 have BG := n0_
 have BR := n1_
 have HB := n2_
 have HV := n3_
 clear n0_ n1_ n2_ n3_
 go_wp2_with (first | (go_at_call 50; refine (pt_texts2 g code _ _ _ _ _ _ _ _ _ _ BG.out HC.out).mono ?_; rintro x w8 ⟨b, rfl, hlt, hcs, hb⟩; have NGB := Aside0.mk (show g ≠ b from by have := blk_lt BG.out; omega); have NRB := Aside0.mk (show gr ≠ b from by have := blk_lt BR.out; omega); have n4_ := Aside0.mk (show b ≠ g from NGB.out.symm); have n0_ := Aside0.mk (blk_below BG.out hb); have n1_ := Aside0.mk (blk_below BR.out hb); have n2_ := Aside0.mk (Kd.R_below HV.out hb); have n3_ := Aside0.mk (below_step HB.out hb); have BP := Aside0.mk hcs; clear BG BR HV HB hb hcs hlt; have BG := n0_; have BR := n1_; have HB := n3_; have HV := Aside0.mk (Kd.R_V (base' := 0) (Kd.R_mono (Kd.R_types (Kd.R_types (Kd.R_types n2_.out BG.out (by decide)) BR.out (by decide)) BP.out (by decide)) (ok' := fun k_ => k_ ≠ g ∧ k_ ≠ gr ∧ k_ ≠ b) (fun _ hk => ⟨hk.1.1.2, hk.1.2, hk.2⟩))); clear n0_ n1_ n2_ n3_ n4_))
 go_loopg [33, 6, 9, 10] 2 (fun kq v33 v6 v9 v10 w' => ∃ (x : Nat) (rx : List Int) (A : Option Addr) (cx : Nat) (L1 : List Int) (B1 : Option Addr) (d1 : Nat) (L2 : List Int) (B2 : Option Addr) (d2 : Nat), v33 = .int .i64 x ∧ v6 = .slice A rx.length cx ∧ Aside0 (x + kq = 2 ∧ x ≤ 1) ∧ Aside0 ((x ≤ 0 → B1 = none ∧ L1 = [] ∧ d1 = 0) ∧ (x ≤ 1 → B2 = none ∧ L2 = [] ∧ d2 = 0)) ∧ Aside0 ((if x = 0 then papG1 code id rx else papE code id L1 [] rx) = some (r1, r2, r3, r4, r5, r6, r7, r8, r9, r10, r11)) ∧ Aside0 (Kd.R (Kd.int .u8) 5 w' w.heap.size (fun k_ => some k_ ≠ (.slice B2 L2.length d2 : Value).ownBlock) (.slice B1 L1.length d1) L1) ∧ Aside0 (Kd.R (Kd.int .u8) 5 w' w.heap.size (fun k_ => some k_ ≠ (.slice B1 L1.length d1 : Value).ownBlock) (.slice B2 L2.length d2) L2) ∧ Aside0 (Kd.V (Kd.int .u8) 5 w' 0 (fun k_ => k_ ≠ g ∧ k_ ≠ gr ∧ k_ ≠ b) (.slice A rx.length cx) rx) ∧ Aside0 (w'.heap[g]? = some (.cells #[.int .u16 49187, .int .u8 code, .int .u8 id, .slice none 0 0, .int .u16 0, .int .u32 0, .slice B1 L1.length d1, .slice B2 L2.length d2, .slice none 0 0, .slice none 0 0] 47 (0, 0))) ∧ Aside0 (w'.heap[gr]? = some (.cells #[.int .u16 0, .int .u8 0, .int .u8 0, .slice none 0 0, .int .u16 0, .int .u32 0, .slice none 0 0, .slice none 0 0, .slice none 0 0, .slice none 0 0] 47 (0, 0))) ∧ Aside0 (w'.heap[b]? = some (.cells (lieAt g 1) 83 (0, 0))) ∧ Aside0 (Below w.heap.size w w'))
 case atStart => exact ⟨0, rest, Av, cv, [], none, 0, [], none, 0, rfl, rfl, ⟨by omega⟩, ⟨fun _ => ⟨rfl, rfl, rfl⟩, fun _ => ⟨rfl, rfl, rfl⟩⟩, HF, ⟨Kd.R_nil _ _ _ _ _⟩, ⟨Kd.R_nil _ _ _ _ _⟩, HV, BG, BR, BP, HB⟩
 case round =>
  clear BG BR BP HB HV HF
  obtain ⟨x, rx, A, cx, L1, B1, d1, L2, B2, d2, rfl, rfl, hk, HZ, HF, HL1, HL2, HV, BG, BR, BP, HB⟩ := hrel
  have hr_ := NR.out
  have hr2_ := NR.out.symm
  have hx : x = 0 ∨ x = 1 := by have := hk.out.2; omega
  rcases hx with rfl | rfl
  · have HK := Aside0.mk hk.out
    clear hk
    obtain ⟨rfl, rfl, rfl⟩ := HZ.out.1 (by omega)
    obtain ⟨rfl, rfl, rfl⟩ := HZ.out.2 (by omega)
    have hf : papG1 code id rx = some (r1, r2, r3, r4, r5, r6, r7, r8, r9, r10, r11) := HF.out
    unfold papG1 at hf
    obtain ⟨⟨s1, s2, ok⟩, ht, hf⟩ := Option.bind_eq_some_iff.mp hf
    have HT := Aside0.mk ht
    clear ht HF
    have hp : wr.cell? ⟨b, 0, none⟩ = some (.pointer (some ⟨g, 6, none⟩)) := (blk_cell BP.out 0).trans rfl
    cases ok with
    | false =>
     simp only [Bool.false_eq_true, if_false] at hf
     simp only [papZ, Option.some.injEq, Prod.mk.injEq] at hf
     obtain ⟨rfl, rfl, rfl, rfl, rfl, rfl, rfl, rfl, rfl, rfl, rfl⟩ := hf
     go_wp2_with (first | (go_at_call 54; refine (pap_text.calls (fun k_ => k_ ≠ g ∧ k_ ≠ gr ∧ k_ ≠ b) A cx rx s1 s2 false _ ?s HT.out).mono ?_; (case s => exact HV.out); rintro x w8 ⟨v0, v1, rfl, ho0, ho1, hb⟩; have HN := Aside0.mk ho0; have HV2 := Aside0.mk (Kd.V_mono (ok' := fun k_ => k_ ≠ g ∧ k_ ≠ gr ∧ k_ ≠ b) ho1 (fun k_ hk => hk.1.elim (fun h => h) (fun h => ⟨fun e => by have := blk_lt BG.out; omega, fun e => by have := blk_lt BR.out; omega, fun e => by have := blk_lt BP.out; omega⟩))); have LG := Aside0.mk (Kd.R_lt HL1.out); have SZ := Aside0.mk HB.out.size; have n0_ := Aside0.mk (blk_below BG.out hb); have n1_ := Aside0.mk (blk_below BR.out hb); have n2_ := Aside0.mk (blk_below BP.out hb); have n3_ := Aside0.mk (Kd.R_below HL1.out hb); have n4_ := Aside0.mk (below_step HB.out hb); clear BG BR BP HB HL1 HL2 HV hb ho0 ho1; have BG := n0_; have BR := n1_; have BP := n2_; have HL1 := n3_; have HB := n4_; clear n0_ n1_ n2_ n3_ n4_; obtain ⟨A8, c8, e8⟩ := Kd.R_slice HN.out; subst e8; obtain ⟨A9, c9, e9⟩ := Kd.V_slice HV2.out; subst e9; have hz : w8.cell? ⟨g, 6, none⟩ = some (.slice none 0 0) := (blk_cell BG.out 6).trans rfl; have hfz := blk_frozen BG.out 6; have hr0 : w8.cell? ⟨gr, 0, none⟩ = some (.int .u16 0) := (blk_cell BR.out 0).trans rfl; have hr1 : w8.cell? ⟨gr, 1, none⟩ = some (.int .u8 0) := (blk_cell BR.out 1).trans rfl; have hr2 : w8.cell? ⟨gr, 2, none⟩ = some (.int .u8 0) := (blk_cell BR.out 2).trans rfl; have hr3 : w8.cell? ⟨gr, 3, none⟩ = some (.slice none 0 0) := (blk_cell BR.out 3).trans rfl; have hr4 : w8.cell? ⟨gr, 4, none⟩ = some (.int .u16 0) := (blk_cell BR.out 4).trans rfl; have hr5 : w8.cell? ⟨gr, 5, none⟩ = some (.int .u32 0) := (blk_cell BR.out 5).trans rfl; have hr6 : w8.cell? ⟨gr, 6, none⟩ = some (.slice none 0 0) := (blk_cell BR.out 6).trans rfl; have hr7 : w8.cell? ⟨gr, 7, none⟩ = some (.slice none 0 0) := (blk_cell BR.out 7).trans rfl; have hr8 : w8.cell? ⟨gr, 8, none⟩ = some (.slice none 0 0) := (blk_cell BR.out 8).trans rfl; have hr9 : w8.cell? ⟨gr, 9, none⟩ = some (.slice none 0 0) := (blk_cell BR.out 9).trans rfl; have hs0 := blk_frozen BR.out 0; have hs1 := blk_frozen BR.out 1; have hs2 := blk_frozen BR.out 2; have hs3 := blk_frozen BR.out 3; have hs4 := blk_frozen BR.out 4; have hs5 := blk_frozen BR.out 5; have hs6 := blk_frozen BR.out 6; have hs7 := blk_frozen BR.out 7; have hs8 := blk_frozen BR.out 8; have hs9 := blk_frozen BR.out 9))
     have q_ := blk_far (p := ⟨g, 6, none⟩) BR.out NR.out (.slice A8 s1.length c8)
     have q0 := blk_put q_ 0 (.int .u16 0) (rfl : _ = (#[.int .u16 0, .int .u8 0, .int .u8 0, .slice none 0 0, .int .u16 0, .int .u32 0, .slice none 0 0, .slice none 0 0, .slice none 0 0, .slice none 0 0] : Array Value))
     have q1 := blk_put q0 1 (.int .u8 0) (rfl : _ = (#[.int .u16 0, .int .u8 0, .int .u8 0, .slice none 0 0, .int .u16 0, .int .u32 0, .slice none 0 0, .slice none 0 0, .slice none 0 0, .slice none 0 0] : Array Value))
     have q2 := blk_put q1 2 (.int .u8 0) (rfl : _ = (#[.int .u16 0, .int .u8 0, .int .u8 0, .slice none 0 0, .int .u16 0, .int .u32 0, .slice none 0 0, .slice none 0 0, .slice none 0 0, .slice none 0 0] : Array Value))
     have q3 := blk_put q2 3 (.slice none 0 0) (rfl : _ = (#[.int .u16 0, .int .u8 0, .int .u8 0, .slice none 0 0, .int .u16 0, .int .u32 0, .slice none 0 0, .slice none 0 0, .slice none 0 0, .slice none 0 0] : Array Value))
     have q4 := blk_put q3 4 (.int .u16 0) (rfl : _ = (#[.int .u16 0, .int .u8 0, .int .u8 0, .slice none 0 0, .int .u16 0, .int .u32 0, .slice none 0 0, .slice none 0 0, .slice none 0 0, .slice none 0 0] : Array Value))
     have q5 := blk_put q4 5 (.int .u32 0) (rfl : _ = (#[.int .u16 0, .int .u8 0, .int .u8 0, .slice none 0 0, .int .u16 0, .int .u32 0, .slice none 0 0, .slice none 0 0, .slice none 0 0, .slice none 0 0] : Array Value))
     have q6 := blk_put q5 6 (.slice none 0 0) (rfl : _ = (#[.int .u16 0, .int .u8 0, .int .u8 0, .slice none 0 0, .int .u16 0, .int .u32 0, .slice none 0 0, .slice none 0 0, .slice none 0 0, .slice none 0 0] : Array Value))
     have q7 := blk_put q6 7 (.slice none 0 0) (rfl : _ = (#[.int .u16 0, .int .u8 0, .int .u8 0, .slice none 0 0, .int .u16 0, .int .u32 0, .slice none 0 0, .slice none 0 0, .slice none 0 0, .slice none 0 0] : Array Value))
     have q8 := blk_put q7 8 (.slice none 0 0) (rfl : _ = (#[.int .u16 0, .int .u8 0, .int .u8 0, .slice none 0 0, .int .u16 0, .int .u32 0, .slice none 0 0, .slice none 0 0, .slice none 0 0, .slice none 0 0] : Array Value))
     have q9 := blk_put q8 9 (.slice none 0 0) (rfl : _ = (#[.int .u16 0, .int .u8 0, .int .u8 0, .slice none 0 0, .int .u16 0, .int .u32 0, .slice none 0 0, .slice none 0 0, .slice none 0 0, .slice none 0 0] : Array Value))
     refine bodyPost_ret (results_ct rfl _ _ gr 47 #[.int .u16 0, .int .u8 0, .int .u8 0, .slice none 0 0, .int .u16 0, .int .u32 0, .slice none 0 0, .slice none 0 0, .slice none 0 0, .slice none 0 0] (0, 0) _ rfl q9 hu47 rfl (by kernel_rfl)) rfl ?_
     exact ⟨_, _, _, _, _, rfl, Kd.S_nil _ _ _ _ _, Kd.R_nil _ _ _ _ _, Kd.R_nil _ _ _ _ _, Kd.R_nil _ _ _ _ _, Kd.R_nil _ _ _ _ _, below_set (below_set (below_set (below_set (below_set (below_set (below_set (below_set (below_set (below_set (below_set HB.out GG.out) GR.out) GR.out) GR.out) GR.out) GR.out) GR.out) GR.out) GR.out) GR.out) GR.out⟩
    | true =>
     simp only [if_true] at hf
     have HF := Aside0.mk hf
     clear hf
     cases gk with
     | zero => have := HK.out; omega
     | succ k1 =>
      go_wp2_with (first | (go_at_call 54; refine (pap_text.calls (fun k_ => k_ ≠ g ∧ k_ ≠ gr ∧ k_ ≠ b) A cx rx s1 s2 true _ ?s HT.out).mono ?_; (case s => exact HV.out); rintro x w8 ⟨v0, v1, rfl, ho0, ho1, hb⟩; have HN := Aside0.mk ho0; have HV2 := Aside0.mk (Kd.V_mono (ok' := fun k_ => k_ ≠ g ∧ k_ ≠ gr ∧ k_ ≠ b) ho1 (fun k_ hk => hk.1.elim (fun h => h) (fun h => ⟨fun e => by have := blk_lt BG.out; omega, fun e => by have := blk_lt BR.out; omega, fun e => by have := blk_lt BP.out; omega⟩))); have LG := Aside0.mk (Kd.R_lt HL1.out); have SZ := Aside0.mk HB.out.size; have n0_ := Aside0.mk (blk_below BG.out hb); have n1_ := Aside0.mk (blk_below BR.out hb); have n2_ := Aside0.mk (blk_below BP.out hb); have n3_ := Aside0.mk (Kd.R_below HL1.out hb); have n4_ := Aside0.mk (below_step HB.out hb); clear BG BR BP HB HL1 HL2 HV hb ho0 ho1; have BG := n0_; have BR := n1_; have BP := n2_; have HL1 := n3_; have HB := n4_; clear n0_ n1_ n2_ n3_ n4_; obtain ⟨A8, c8, e8⟩ := Kd.R_slice HN.out; subst e8; obtain ⟨A9, c9, e9⟩ := Kd.V_slice HV2.out; subst e9; have hz : w8.cell? ⟨g, 6, none⟩ = some (.slice none 0 0) := (blk_cell BG.out 6).trans rfl; have hfz := blk_frozen BG.out 6; have hr0 : w8.cell? ⟨gr, 0, none⟩ = some (.int .u16 0) := (blk_cell BR.out 0).trans rfl; have hr1 : w8.cell? ⟨gr, 1, none⟩ = some (.int .u8 0) := (blk_cell BR.out 1).trans rfl; have hr2 : w8.cell? ⟨gr, 2, none⟩ = some (.int .u8 0) := (blk_cell BR.out 2).trans rfl; have hr3 : w8.cell? ⟨gr, 3, none⟩ = some (.slice none 0 0) := (blk_cell BR.out 3).trans rfl; have hr4 : w8.cell? ⟨gr, 4, none⟩ = some (.int .u16 0) := (blk_cell BR.out 4).trans rfl; have hr5 : w8.cell? ⟨gr, 5, none⟩ = some (.int .u32 0) := (blk_cell BR.out 5).trans rfl; have hr6 : w8.cell? ⟨gr, 6, none⟩ = some (.slice none 0 0) := (blk_cell BR.out 6).trans rfl; have hr7 : w8.cell? ⟨gr, 7, none⟩ = some (.slice none 0 0) := (blk_cell BR.out 7).trans rfl; have hr8 : w8.cell? ⟨gr, 8, none⟩ = some (.slice none 0 0) := (blk_cell BR.out 8).trans rfl; have hr9 : w8.cell? ⟨gr, 9, none⟩ = some (.slice none 0 0) := (blk_cell BR.out 9).trans rfl; have hs0 := blk_frozen BR.out 0; have hs1 := blk_frozen BR.out 1; have hs2 := blk_frozen BR.out 2; have hs3 := blk_frozen BR.out 3; have hs4 := blk_frozen BR.out 4; have hs5 := blk_frozen BR.out 5; have hs6 := blk_frozen BR.out 6; have hs7 := blk_frozen BR.out 7; have hs8 := blk_frozen BR.out 8; have hs9 := blk_frozen BR.out 9))
      go_roundg k1
      case measure => have := HK.out; omega
      case rel => exact ⟨1, s2, A9, c9, s1, A8, c8, [], none, 0, rfl, rfl, ⟨by have := HK.out; omega⟩, ⟨fun h => absurd h (by omega), fun h => ⟨rfl, rfl, rfl⟩⟩, HF, ⟨Kd.R_mono (Kd.R_far (p := ⟨g, 6, none⟩) (Kd.R_types (Kd.R_lower HN.out SZ.out) BG.out (by decide)) (fun _ hk => hk.2) (.slice A8 s1.length c8)) (fun k_ hk => (by simp [Value.ownBlock]))⟩, ⟨Kd.R_nil _ _ _ _ _⟩, ⟨Kd.V_far HV2.out (fun _ hk => hk.1) _⟩, ⟨blk_put BG.out 6 (.slice A8 s1.length c8) rfl⟩, ⟨blk_far BR.out NR.out _⟩, ⟨blk_far BP.out NGB.out.symm _⟩, ⟨below_set HB.out GG.out⟩⟩
  · clear hk
    obtain ⟨rfl, rfl, rfl⟩ := HZ.out.2 (by omega)
    have hf : papE code id L1 [] rx = some (r1, r2, r3, r4, r5, r6, r7, r8, r9, r10, r11) := HF.out
    unfold papE at hf
    have hz0 : wr.cell? ⟨g, 0, none⟩ = some (.int .u16 49187) := (blk_cell BG.out 0).trans rfl
    have hz1 : wr.cell? ⟨g, 1, none⟩ = some (.int .u8 code) := (blk_cell BG.out 1).trans rfl
    have hz2 : wr.cell? ⟨g, 2, none⟩ = some (.int .u8 id) := (blk_cell BG.out 2).trans rfl
    have hz3 : wr.cell? ⟨g, 3, none⟩ = some (.slice none 0 0) := (blk_cell BG.out 3).trans rfl
    have hz4 : wr.cell? ⟨g, 4, none⟩ = some (.int .u16 0) := (blk_cell BG.out 4).trans rfl
    have hz5 : wr.cell? ⟨g, 5, none⟩ = some (.int .u32 0) := (blk_cell BG.out 5).trans rfl
    have hz6 : wr.cell? ⟨g, 6, none⟩ = some (.slice B1 L1.length d1) := (blk_cell BG.out 6).trans rfl
    have hz7 : wr.cell? ⟨g, 7, none⟩ = some (.slice none 0 0) := (blk_cell BG.out 7).trans rfl
    have hz8 : wr.cell? ⟨g, 8, none⟩ = some (.slice none 0 0) := (blk_cell BG.out 8).trans rfl
    have hz9 : wr.cell? ⟨g, 9, none⟩ = some (.slice none 0 0) := (blk_cell BG.out 9).trans rfl
    have hr0 : wr.cell? ⟨gr, 0, none⟩ = some (.int .u16 0) := (blk_cell BR.out 0).trans rfl
    have hr1 : wr.cell? ⟨gr, 1, none⟩ = some (.int .u8 0) := (blk_cell BR.out 1).trans rfl
    have hr2 : wr.cell? ⟨gr, 2, none⟩ = some (.int .u8 0) := (blk_cell BR.out 2).trans rfl
    have hr3 : wr.cell? ⟨gr, 3, none⟩ = some (.slice none 0 0) := (blk_cell BR.out 3).trans rfl
    have hr4 : wr.cell? ⟨gr, 4, none⟩ = some (.int .u16 0) := (blk_cell BR.out 4).trans rfl
    have hr5 : wr.cell? ⟨gr, 5, none⟩ = some (.int .u32 0) := (blk_cell BR.out 5).trans rfl
    have hr6 : wr.cell? ⟨gr, 6, none⟩ = some (.slice none 0 0) := (blk_cell BR.out 6).trans rfl
    have hr7 : wr.cell? ⟨gr, 7, none⟩ = some (.slice none 0 0) := (blk_cell BR.out 7).trans rfl
    have hr8 : wr.cell? ⟨gr, 8, none⟩ = some (.slice none 0 0) := (blk_cell BR.out 8).trans rfl
    have hr9 : wr.cell? ⟨gr, 9, none⟩ = some (.slice none 0 0) := (blk_cell BR.out 9).trans rfl
    have hs0 := blk_frozen BR.out 0
    have hs1 := blk_frozen BR.out 1
    have hs2 := blk_frozen BR.out 2
    have hs3 := blk_frozen BR.out 3
    have hs4 := blk_frozen BR.out 4
    have hs5 := blk_frozen BR.out 5
    have hs6 := blk_frozen BR.out 6
    have hs7 := blk_frozen BR.out 7
    have hs8 := blk_frozen BR.out 8
    have hs9 := blk_frozen BR.out 9
    by_cases hl : (rx.length : Int) > 0
    · rw [if_pos hl] at hf
      have hl0 : decide (0 < rx.length) = true := decide_eq_true (by omega)
      have hl1 : (0 < rx.length) = True := eq_true (by omega)
      clear hl
      simp only [papZ, Option.some.injEq, Prod.mk.injEq] at hf
      obtain ⟨rfl, rfl, rfl, rfl, rfl, rfl, rfl, rfl, rfl, rfl, rfl⟩ := hf
      go_wp2
      have q0 := blk_put BR.out 0 (.int .u16 0) (rfl : _ = (#[.int .u16 0, .int .u8 0, .int .u8 0, .slice none 0 0, .int .u16 0, .int .u32 0, .slice none 0 0, .slice none 0 0, .slice none 0 0, .slice none 0 0] : Array Value))
      have q1 := blk_put q0 1 (.int .u8 0) (rfl : _ = (#[.int .u16 0, .int .u8 0, .int .u8 0, .slice none 0 0, .int .u16 0, .int .u32 0, .slice none 0 0, .slice none 0 0, .slice none 0 0, .slice none 0 0] : Array Value))
      have q2 := blk_put q1 2 (.int .u8 0) (rfl : _ = (#[.int .u16 0, .int .u8 0, .int .u8 0, .slice none 0 0, .int .u16 0, .int .u32 0, .slice none 0 0, .slice none 0 0, .slice none 0 0, .slice none 0 0] : Array Value))
      have q3 := blk_put q2 3 (.slice none 0 0) (rfl : _ = (#[.int .u16 0, .int .u8 0, .int .u8 0, .slice none 0 0, .int .u16 0, .int .u32 0, .slice none 0 0, .slice none 0 0, .slice none 0 0, .slice none 0 0] : Array Value))
      have q4 := blk_put q3 4 (.int .u16 0) (rfl : _ = (#[.int .u16 0, .int .u8 0, .int .u8 0, .slice none 0 0, .int .u16 0, .int .u32 0, .slice none 0 0, .slice none 0 0, .slice none 0 0, .slice none 0 0] : Array Value))
      have q5 := blk_put q4 5 (.int .u32 0) (rfl : _ = (#[.int .u16 0, .int .u8 0, .int .u8 0, .slice none 0 0, .int .u16 0, .int .u32 0, .slice none 0 0, .slice none 0 0, .slice none 0 0, .slice none 0 0] : Array Value))
      have q6 := blk_put q5 6 (.slice none 0 0) (rfl : _ = (#[.int .u16 0, .int .u8 0, .int .u8 0, .slice none 0 0, .int .u16 0, .int .u32 0, .slice none 0 0, .slice none 0 0, .slice none 0 0, .slice none 0 0] : Array Value))
      have q7 := blk_put q6 7 (.slice none 0 0) (rfl : _ = (#[.int .u16 0, .int .u8 0, .int .u8 0, .slice none 0 0, .int .u16 0, .int .u32 0, .slice none 0 0, .slice none 0 0, .slice none 0 0, .slice none 0 0] : Array Value))
      have q8 := blk_put q7 8 (.slice none 0 0) (rfl : _ = (#[.int .u16 0, .int .u8 0, .int .u8 0, .slice none 0 0, .int .u16 0, .int .u32 0, .slice none 0 0, .slice none 0 0, .slice none 0 0, .slice none 0 0] : Array Value))
      have q9 := blk_put q8 9 (.slice none 0 0) (rfl : _ = (#[.int .u16 0, .int .u8 0, .int .u8 0, .slice none 0 0, .int .u16 0, .int .u32 0, .slice none 0 0, .slice none 0 0, .slice none 0 0, .slice none 0 0] : Array Value))
      refine bodyPost_ret (results_ct rfl _ _ gr 47 #[.int .u16 0, .int .u8 0, .int .u8 0, .slice none 0 0, .int .u16 0, .int .u32 0, .slice none 0 0, .slice none 0 0, .slice none 0 0, .slice none 0 0] (0, 0) _ rfl q9 hu47 rfl (by kernel_rfl)) rfl ?_
      exact ⟨_, _, _, _, _, rfl, Kd.S_nil _ _ _ _ _, Kd.R_nil _ _ _ _ _, Kd.R_nil _ _ _ _ _, Kd.R_nil _ _ _ _ _, Kd.R_nil _ _ _ _ _, below_set (below_set (below_set (below_set (below_set (below_set (below_set (below_set (below_set (below_set (HB.out) GR.out) GR.out) GR.out) GR.out) GR.out) GR.out) GR.out) GR.out) GR.out) GR.out⟩
    · rw [if_neg hl] at hf
      have hl0 : decide (0 < rx.length) = false := decide_eq_false (by omega)
      have hl1 : (0 < rx.length) = False := eq_false (by omega)
      clear hl
      simp only [Option.some.injEq, Prod.mk.injEq] at hf
      obtain ⟨rfl, rfl, rfl, rfl, rfl, rfl, rfl, rfl, rfl, rfl, rfl⟩ := hf
      go_wp2
      have q0 := blk_put BR.out 0 (.int .u16 49187) (rfl : _ = (#[.int .u16 49187, .int .u8 0, .int .u8 0, .slice none 0 0, .int .u16 0, .int .u32 0, .slice none 0 0, .slice none 0 0, .slice none 0 0, .slice none 0 0] : Array Value))
      have q1 := blk_put q0 1 (.int .u8 code) (rfl : _ = (#[.int .u16 49187, .int .u8 code, .int .u8 0, .slice none 0 0, .int .u16 0, .int .u32 0, .slice none 0 0, .slice none 0 0, .slice none 0 0, .slice none 0 0] : Array Value))
      have q2 := blk_put q1 2 (.int .u8 id) (rfl : _ = (#[.int .u16 49187, .int .u8 code, .int .u8 id, .slice none 0 0, .int .u16 0, .int .u32 0, .slice none 0 0, .slice none 0 0, .slice none 0 0, .slice none 0 0] : Array Value))
      have q3 := blk_put q2 3 (.slice none 0 0) (rfl : _ = (#[.int .u16 49187, .int .u8 code, .int .u8 id, .slice none 0 0, .int .u16 0, .int .u32 0, .slice none 0 0, .slice none 0 0, .slice none 0 0, .slice none 0 0] : Array Value))
      have q4 := blk_put q3 4 (.int .u16 0) (rfl : _ = (#[.int .u16 49187, .int .u8 code, .int .u8 id, .slice none 0 0, .int .u16 0, .int .u32 0, .slice none 0 0, .slice none 0 0, .slice none 0 0, .slice none 0 0] : Array Value))
      have q5 := blk_put q4 5 (.int .u32 0) (rfl : _ = (#[.int .u16 49187, .int .u8 code, .int .u8 id, .slice none 0 0, .int .u16 0, .int .u32 0, .slice none 0 0, .slice none 0 0, .slice none 0 0, .slice none 0 0] : Array Value))
      have q6 := blk_put q5 6 (.slice B1 L1.length d1) (rfl : _ = (#[.int .u16 49187, .int .u8 code, .int .u8 id, .slice none 0 0, .int .u16 0, .int .u32 0, .slice B1 L1.length d1, .slice none 0 0, .slice none 0 0, .slice none 0 0] : Array Value))
      have q7 := blk_put q6 7 (.slice none 0 0) (rfl : _ = (#[.int .u16 49187, .int .u8 code, .int .u8 id, .slice none 0 0, .int .u16 0, .int .u32 0, .slice B1 L1.length d1, .slice none 0 0, .slice none 0 0, .slice none 0 0] : Array Value))
      have q8 := blk_put q7 8 (.slice none 0 0) (rfl : _ = (#[.int .u16 49187, .int .u8 code, .int .u8 id, .slice none 0 0, .int .u16 0, .int .u32 0, .slice B1 L1.length d1, .slice none 0 0, .slice none 0 0, .slice none 0 0] : Array Value))
      have q9 := blk_put q8 9 (.slice none 0 0) (rfl : _ = (#[.int .u16 49187, .int .u8 code, .int .u8 id, .slice none 0 0, .int .u16 0, .int .u32 0, .slice B1 L1.length d1, .slice none 0 0, .slice none 0 0, .slice none 0 0] : Array Value))
      refine bodyPost_ret (results_ct rfl _ _ gr 47 #[.int .u16 49187, .int .u8 code, .int .u8 id, .slice none 0 0, .int .u16 0, .int .u32 0, .slice B1 L1.length d1, .slice none 0 0, .slice none 0 0, .slice none 0 0] (0, 0) _ rfl q9 hu47 rfl (by kernel_rfl)) rfl ?_
      exact ⟨_, _, _, _, _, rfl, Kd.S_nil _ _ _ _ _, Kd.R_mono (Kd.R_far (p := ⟨gr, 9, none⟩) (Kd.R_far (p := ⟨gr, 8, none⟩) (Kd.R_far (p := ⟨gr, 7, none⟩) (Kd.R_far (p := ⟨gr, 6, none⟩) (Kd.R_far (p := ⟨gr, 5, none⟩) (Kd.R_far (p := ⟨gr, 4, none⟩) (Kd.R_far (p := ⟨gr, 3, none⟩) (Kd.R_far (p := ⟨gr, 2, none⟩) (Kd.R_far (p := ⟨gr, 1, none⟩) (Kd.R_far (p := ⟨gr, 0, none⟩) (Kd.R_types (HL1.out) BR.out (by decide)) (fun _ hk => hk.2) _) (fun _ hk => hk.2) _) (fun _ hk => hk.2) _) (fun _ hk => hk.2) _) (fun _ hk => hk.2) _) (fun _ hk => hk.2) _) (fun _ hk => hk.2) _) (fun _ hk => hk.2) _) (fun _ hk => hk.2) _) (fun _ hk => hk.2) _) (fun _ hk => ⟨by simp [Value.ownBlock], by simp [Value.ownBlock]⟩), Kd.R_nil _ _ _ _ _, Kd.R_nil _ _ _ _ _, Kd.R_nil _ _ _ _ _, below_set (below_set (below_set (below_set (below_set (below_set (below_set (below_set (below_set (below_set (HB.out) GR.out) GR.out) GR.out) GR.out) GR.out) GR.out) GR.out) GR.out) GR.out) GR.out⟩
set_option maxHeartbeats 16000000 in
set_option maxRecDepth 100000 in
theorem pt_get0 (k : Nat) (A0 : Option Addr) (c0 : Nat) (l0 : List Int) (r1 r2 r3 : Int) (r4 : List S57) (r5 r6 : Int) (r7 r8 r9 r10 : List Int) (r11 : Int) (code id e : Int) (rest : List Int) (w : World) (hr0 : Kd.C (Kd.int .u8) w A0 l0.length l0) (hc0 : l0.length ≤ c0) (hg : ctl_Get.f k l0 = some (code, id, rest, e)) (hc : code ≠ 1 ∧ code ≠ 2 ∧ code ≠ 3) (he : e = 0) (h : papG0 code id rest = some (r1, r2, r3, r4, r5, r6, r7, r8, r9, r10, r11)) :
 Calls Try.prog 33 #[.slice A0 l0.length c0] w fun x w' => ∃ v3_ v6_ v7_ v8_ v9_ : Value, x = .returned (.tuple #[.agg #[.int .u16 r1, .int .u8 r2, .int .u8 r3, v3_, .int .u16 r5, .int .u32 r6, v6_, v7_, v8_, v9_], .int .i64 r11]) ∧ Kd.S k57 57 w' w.heap.size (fun k_ => some k_ ≠ (v6_ : Value).ownBlock ∧ some k_ ≠ (v7_ : Value).ownBlock ∧ some k_ ≠ (v8_ : Value).ownBlock) v3_ r4 ∧ Kd.R (Kd.int .u8) 5 w' w.heap.size (fun k_ => some k_ ≠ (v7_ : Value).ownBlock ∧ some k_ ≠ (v8_ : Value).ownBlock) v6_ r7 ∧ Kd.R (Kd.int .u8) 5 w' w.heap.size (fun k_ => some k_ ≠ (v6_ : Value).ownBlock ∧ some k_ ≠ (v8_ : Value).ownBlock) v7_ r8 ∧ Kd.R (Kd.int .u8) 5 w' w.heap.size (fun k_ => some k_ ≠ (v6_ : Value).ownBlock ∧ some k_ ≠ (v7_ : Value).ownBlock) v8_ r9 ∧ Kd.R (Kd.int .u32) 41 w' w.heap.size (fun _ => True) v9_ r10 ∧ Below w.heap.size w w' := by
 have hu47 := Try.underlying47
 have HR0 := Aside0.mk hr0
 have HC0 := Aside0.mk hc0
 have HG := Aside0.mk hg
 have HF := Aside0.mk h
 have HC := Aside0.mk hc
 have he0 : (e != 0) = false := bne_eq_false_iff_eq.mpr he
 clear hr0 hc0 hg h he hc
 have hq : ∀ (w : World) (n c : Nat), (Go.binOp .eql 80 (.slice none n c) (.slice none 0 0)).run Try.prog w = .ok (.bool true) w := fun w n c => Lib.run_eql_slice_nil (P := Try.prog) w 80 83 none n c 0 0 Try.underlying80
 go_enter Try.func33, Try.ntmps33
 go_upto_region 2 with (first | ((with_reducible refine gate_dst (N := 2) rfl ?_); refine box_event ?hg (N := 2) ?hd (cs := #[.int .u16 0, .int .u8 0, .int .u8 0, .slice none 0 0, .int .u16 0, .int .u32 0, .slice none 0 0, .slice none 0 0, .slice none 0 0, .slice none 0 0]) (t := 47) ?hr ?_; (case hd => rfl); (case hg => rfl); (case hr => first | (go_simp; done) | (go_simp; rfl)); intro gr hgr w1 hbox hb; have BR := Aside0.mk hbox; have GR := Aside0.mk ((by rw [hgr]; exact Nat.le_refl _) : w.heap.size ≤ gr); have HB := Aside0.mk hb; clear hbox hb hgr) | ((with_reducible refine gate_dst (N := 4) rfl ?_); refine box_event ?hg (N := 4) ?hd (cs := #[.int .u16 0, .int .u8 0, .int .u8 0, .slice none 0 0, .int .u16 0, .int .u32 0, .slice none 0 0, .slice none 0 0, .slice none 0 0, .slice none 0 0]) (t := 47) ?hr ?_; (case hd => rfl); (case hg => rfl); (case hr => first | (go_simp; done) | (go_simp; rfl)); intro g hgg w2 hbox hb; have BG := Aside0.mk hbox; have NR := Aside0.mk ((by rw [hgg]; exact Nat.ne_of_lt (blk_lt BR.out)) : gr ≠ g); have GG := Aside0.mk ((by rw [hgg]; exact HB.out.size) : w.heap.size ≤ g); have n0_ := Aside0.mk (blk_below BR.out hb); have n1_ := Aside0.mk (below_step HB.out hb); clear BR HB hbox hb hgg; have BR := n0_; have HB := n1_; clear n0_ n1_; have hz0 : w2.cell? ⟨g, 0, none⟩ = some (.int .u16 0) := (blk_cell BG.out 0).trans rfl; have hz1 : w2.cell? ⟨g, 1, none⟩ = some (.int .u8 0) := (blk_cell BG.out 1).trans rfl; have hz2 : w2.cell? ⟨g, 2, none⟩ = some (.int .u8 0) := (blk_cell BG.out 2).trans rfl; have hz3 : w2.cell? ⟨g, 3, none⟩ = some (.slice none 0 0) := (blk_cell BG.out 3).trans rfl; have hz4 : w2.cell? ⟨g, 4, none⟩ = some (.int .u16 0) := (blk_cell BG.out 4).trans rfl; have hz5 : w2.cell? ⟨g, 5, none⟩ = some (.int .u32 0) := (blk_cell BG.out 5).trans rfl; have hz6 : w2.cell? ⟨g, 6, none⟩ = some (.slice none 0 0) := (blk_cell BG.out 6).trans rfl; have hz7 : w2.cell? ⟨g, 7, none⟩ = some (.slice none 0 0) := (blk_cell BG.out 7).trans rfl; have hz8 : w2.cell? ⟨g, 8, none⟩ = some (.slice none 0 0) := (blk_cell BG.out 8).trans rfl; have hz9 : w2.cell? ⟨g, 9, none⟩ = some (.slice none 0 0) := (blk_cell BG.out 9).trans rfl; have hf0 := blk_frozen BG.out 0; have hf1 := blk_frozen BG.out 1; have hf2 := blk_frozen BG.out 2; have hf3 := blk_frozen BG.out 3; have hf4 := blk_frozen BG.out 4; have hf5 := blk_frozen BG.out 5; have hf6 := blk_frozen BG.out 6; have hf7 := blk_frozen BG.out 7; have hf8 := blk_frozen BG.out 8; have hf9 := blk_frozen BG.out 9))
 clear hz0 hz1 hz2 hz3 hz4 hz5 hz6 hz7 hz8 hz9 hf0 hf1 hf2 hf3 hf4 hf5 hf6 hf7 hf8 hf9
 have q0 := blk_put BG.out 0 (.int .u16 49187) (rfl : _ = (#[.int .u16 49187, .int .u8 0, .int .u8 0, .slice none 0 0, .int .u16 0, .int .u32 0, .slice none 0 0, .slice none 0 0, .slice none 0 0, .slice none 0 0] : Array Value))
 have q1 := blk_put q0 1 (.int .u8 0) (rfl : _ = (#[.int .u16 49187, .int .u8 0, .int .u8 0, .slice none 0 0, .int .u16 0, .int .u32 0, .slice none 0 0, .slice none 0 0, .slice none 0 0, .slice none 0 0] : Array Value))
 have q2 := blk_put q1 2 (.int .u8 0) (rfl : _ = (#[.int .u16 49187, .int .u8 0, .int .u8 0, .slice none 0 0, .int .u16 0, .int .u32 0, .slice none 0 0, .slice none 0 0, .slice none 0 0, .slice none 0 0] : Array Value))
 have q3 := blk_put q2 3 (.slice none 0 0) (rfl : _ = (#[.int .u16 49187, .int .u8 0, .int .u8 0, .slice none 0 0, .int .u16 0, .int .u32 0, .slice none 0 0, .slice none 0 0, .slice none 0 0, .slice none 0 0] : Array Value))
 have q4 := blk_put q3 4 (.int .u16 0) (rfl : _ = (#[.int .u16 49187, .int .u8 0, .int .u8 0, .slice none 0 0, .int .u16 0, .int .u32 0, .slice none 0 0, .slice none 0 0, .slice none 0 0, .slice none 0 0] : Array Value))
 have q5 := blk_put q4 5 (.int .u32 0) (rfl : _ = (#[.int .u16 49187, .int .u8 0, .int .u8 0, .slice none 0 0, .int .u16 0, .int .u32 0, .slice none 0 0, .slice none 0 0, .slice none 0 0, .slice none 0 0] : Array Value))
 have q6 := blk_put q5 6 (.slice none 0 0) (rfl : _ = (#[.int .u16 49187, .int .u8 0, .int .u8 0, .slice none 0 0, .int .u16 0, .int .u32 0, .slice none 0 0, .slice none 0 0, .slice none 0 0, .slice none 0 0] : Array Value))
 have q7 := blk_put q6 7 (.slice none 0 0) (rfl : _ = (#[.int .u16 49187, .int .u8 0, .int .u8 0, .slice none 0 0, .int .u16 0, .int .u32 0, .slice none 0 0, .slice none 0 0, .slice none 0 0, .slice none 0 0] : Array Value))
 have q8 := blk_put q7 8 (.slice none 0 0) (rfl : _ = (#[.int .u16 49187, .int .u8 0, .int .u8 0, .slice none 0 0, .int .u16 0, .int .u32 0, .slice none 0 0, .slice none 0 0, .slice none 0 0, .slice none 0 0] : Array Value))
 have q9 := blk_put q8 9 (.slice none 0 0) (rfl : _ = (#[.int .u16 49187, .int .u8 0, .int .u8 0, .slice none 0 0, .int .u16 0, .int .u32 0, .slice none 0 0, .slice none 0 0, .slice none 0 0, .slice none 0 0] : Array Value))
 have n0_ := Aside0.mk q9
 have n1_ := Aside0.mk (show (((((((((((w2.setCell ⟨g, 0, none⟩ (.int .u16 49187)).setCell ⟨g, 1, none⟩ (.int .u8 0)).setCell ⟨g, 2, none⟩ (.int .u8 0)).setCell ⟨g, 3, none⟩ (.slice none 0 0)).setCell ⟨g, 4, none⟩ (.int .u16 0)).setCell ⟨g, 5, none⟩ (.int .u32 0)).setCell ⟨g, 6, none⟩ (.slice none 0 0)).setCell ⟨g, 7, none⟩ (.slice none 0 0)).setCell ⟨g, 8, none⟩ (.slice none 0 0)).setCell ⟨g, 9, none⟩ (.slice none 0 0))).heap[gr]? = some (.cells #[.int .u16 0, .int .u8 0, .int .u8 0, .slice none 0 0, .int .u16 0, .int .u32 0, .slice none 0 0, .slice none 0 0, .slice none 0 0, .slice none 0 0] 47 (0, 0)) from (blk_far (p := ⟨g, 9, none⟩) (blk_far (p := ⟨g, 8, none⟩) (blk_far (p := ⟨g, 7, none⟩) (blk_far (p := ⟨g, 6, none⟩) (blk_far (p := ⟨g, 5, none⟩) (blk_far (p := ⟨g, 4, none⟩) (blk_far (p := ⟨g, 3, none⟩) (blk_far (p := ⟨g, 2, none⟩) (blk_far (p := ⟨g, 1, none⟩) (blk_far (p := ⟨g, 0, none⟩) BR.out NR.out (.int .u16 49187)) NR.out (.int .u8 0)) NR.out (.int .u8 0)) NR.out (.slice none 0 0)) NR.out (.int .u16 0)) NR.out (.int .u32 0)) NR.out (.slice none 0 0)) NR.out (.slice none 0 0)) NR.out (.slice none 0 0)) NR.out (.slice none 0 0)))
 have n2_ := Aside0.mk (show Below w.heap.size w ((((((((((w2.setCell ⟨g, 0, none⟩ (.int .u16 49187)).setCell ⟨g, 1, none⟩ (.int .u8 0)).setCell ⟨g, 2, none⟩ (.int .u8 0)).setCell ⟨g, 3, none⟩ (.slice none 0 0)).setCell ⟨g, 4, none⟩ (.int .u16 0)).setCell ⟨g, 5, none⟩ (.int .u32 0)).setCell ⟨g, 6, none⟩ (.slice none 0 0)).setCell ⟨g, 7, none⟩ (.slice none 0 0)).setCell ⟨g, 8, none⟩ (.slice none 0 0)).setCell ⟨g, 9, none⟩ (.slice none 0 0)) from (below_set (below_set (below_set (below_set (below_set (below_set (below_set (below_set (below_set (below_set HB.out GG.out) GG.out) GG.out) GG.out) GG.out) GG.out) GG.out) GG.out) GG.out) GG.out))
 clear BG BR HB q0 q1 q2 q3 q4 q5 q6 q7 q8 q9
 generalize ((((((((((w2.setCell ⟨g, 0, none⟩ (.int .u16 49187)).setCell ⟨g, 1, none⟩ (.int .u8 0)).setCell ⟨g, 2, none⟩ (.int .u8 0)).setCell ⟨g, 3, none⟩ (.slice none 0 0)).setCell ⟨g, 4, none⟩ (.int .u16 0)).setCell ⟨g, 5, none⟩ (.int .u32 0)).setCell ⟨g, 6, none⟩ (.slice none 0 0)).setCell ⟨g, 7, none⟩ (.slice none 0 0)).setCell ⟨g, 8, none⟩ (.slice none 0 0)).setCell ⟨g, 9, none⟩ (.slice none 0 0)) = w5 at n0_ n1_ n2_ ⊢
 have BG := n0_
 have BR := n1_
 have HB := n2_
 clear n0_ n1_ n2_
 go_upto_region 4 with (first | (go_at_call 53; refine (ctl_Get.calls k A0 c0 l0 code id rest e _ ?s1 HC0.out HG.out).mono ?_; (case s1 => exact Kd.C_below HR0.out HB.out); rintro x w6 ⟨v2, rfl, hv, hb⟩; have HV := Aside0.mk (Kd.R_lower hv HB.out.size); have n0_ := Aside0.mk (blk_below BG.out hb); have n1_ := Aside0.mk (blk_below BR.out hb); have n2_ := Aside0.mk (below_step HB.out hb); clear BG BR HB hb hv; have BG := n0_; have BR := n1_; have HB := n2_; clear n0_ n1_ n2_; obtain ⟨Av, cv, ev⟩ := Kd.R_slice HV.out; subst ev; have hz1 : w6.cell? ⟨g, 1, none⟩ = some (.int .u8 0) := (blk_cell BG.out 1).trans rfl; have hz2 : w6.cell? ⟨g, 2, none⟩ = some (.int .u8 0) := (blk_cell BG.out 2).trans rfl; have hf1 := blk_frozen BG.out 1; have hf2 := blk_frozen BG.out 2))
 clear hz1 hz2 hf1 hf2
 have n0_ := Aside0.mk (show ((w6.setCell ⟨g, 1, none⟩ (.int .u8 code)).setCell ⟨g, 2, none⟩ (.int .u8 id)).heap[g]? = some (.cells #[.int .u16 49187, .int .u8 code, .int .u8 id, .slice none 0 0, .int .u16 0, .int .u32 0, .slice none 0 0, .slice none 0 0, .slice none 0 0, .slice none 0 0] 47 (0, 0)) from blk_put (blk_put BG.out 1 (.int .u8 code) rfl) 2 (.int .u8 id) rfl)
 have n1_ := Aside0.mk (show ((w6.setCell ⟨g, 1, none⟩ (.int .u8 code)).setCell ⟨g, 2, none⟩ (.int .u8 id)).heap[gr]? = some (.cells #[.int .u16 0, .int .u8 0, .int .u8 0, .slice none 0 0, .int .u16 0, .int .u32 0, .slice none 0 0, .slice none 0 0, .slice none 0 0, .slice none 0 0] 47 (0, 0)) from blk_far (p := ⟨g, 2, none⟩) (blk_far (p := ⟨g, 1, none⟩) BR.out NR.out _) NR.out _)
 have n2_ := Aside0.mk (show Below w.heap.size w ((w6.setCell ⟨g, 1, none⟩ (.int .u8 code)).setCell ⟨g, 2, none⟩ (.int .u8 id)) from below_set (below_set HB.out GG.out) GG.out)
 have n3_ := Aside0.mk (show Kd.R (Kd.int .u8) 5 ((w6.setCell ⟨g, 1, none⟩ (.int .u8 code)).setCell ⟨g, 2, none⟩ (.int .u8 id)) w.heap.size (fun k_ => True) (.slice Av rest.length cv) rest from Kd.R_mono (Kd.R_far (p := ⟨g, 2, none⟩) (Kd.R_far (p := ⟨g, 1, none⟩) (Kd.R_types HV.out BG.out (by decide)) (fun _ hk => hk.2) _) (fun _ hk => hk.2) _) (fun _ _ => trivial))
 clear BG BR HB HV
 generalize ((w6.setCell ⟨g, 1, none⟩ (.int .u8 code)).setCell ⟨g, 2, none⟩ (.int .u8 id)) = w7 at n0_ n1_ n2_ n3_ ⊢
 have BG := n0_
 have BR := n1_
 have HB := n2_
 have HV := n3_
 clear n0_ n1_ n2_ n3_
 have hf := HF.out
 unfold papG0 at hf
 simp only [Option.some.injEq, Prod.mk.injEq] at hf
 obtain ⟨rfl, rfl, rfl, rfl, rfl, rfl, rfl, rfl, rfl, rfl, rfl⟩ := hf
 go_wp2_with (first | (go_at_call 50; refine (pt_texts0 g code _ _ _ _ _ _ _ _ _ _ BG.out HC.out.1 HC.out.2.1 HC.out.2.2).mono ?_; rintro x w8 ⟨rfl, hb⟩; have n0_ := Aside0.mk (blk_below BG.out hb); have n1_ := Aside0.mk (blk_below BR.out hb); have n2_ := Aside0.mk (Kd.R_below HV.out hb); have n3_ := Aside0.mk (below_step HB.out hb); clear BG BR HV HB hb; have BG := n0_; have BR := n1_; have HV := n2_; have HB := n3_; clear n0_ n1_ n2_ n3_; have hz0 : w8.cell? ⟨g, 0, none⟩ = some (.int .u16 49187) := (blk_cell BG.out 0).trans rfl; have hz1 : w8.cell? ⟨g, 1, none⟩ = some (.int .u8 code) := (blk_cell BG.out 1).trans rfl; have hz2 : w8.cell? ⟨g, 2, none⟩ = some (.int .u8 id) := (blk_cell BG.out 2).trans rfl; have hz3 : w8.cell? ⟨g, 3, none⟩ = some (.slice none 0 0) := (blk_cell BG.out 3).trans rfl; have hz4 : w8.cell? ⟨g, 4, none⟩ = some (.int .u16 0) := (blk_cell BG.out 4).trans rfl; have hz5 : w8.cell? ⟨g, 5, none⟩ = some (.int .u32 0) := (blk_cell BG.out 5).trans rfl; have hz6 : w8.cell? ⟨g, 6, none⟩ = some (.slice none 0 0) := (blk_cell BG.out 6).trans rfl; have hz7 : w8.cell? ⟨g, 7, none⟩ = some (.slice none 0 0) := (blk_cell BG.out 7).trans rfl; have hz8 : w8.cell? ⟨g, 8, none⟩ = some (.slice none 0 0) := (blk_cell BG.out 8).trans rfl; have hz9 : w8.cell? ⟨g, 9, none⟩ = some (.slice none 0 0) := (blk_cell BG.out 9).trans rfl; have hf0 := blk_frozen BG.out 0; have hf1 := blk_frozen BG.out 1; have hf2 := blk_frozen BG.out 2; have hf3 := blk_frozen BG.out 3; have hf4 := blk_frozen BG.out 4; have hf5 := blk_frozen BG.out 5; have hf6 := blk_frozen BG.out 6; have hf7 := blk_frozen BG.out 7; have hf8 := blk_frozen BG.out 8; have hf9 := blk_frozen BG.out 9; have hr0 : w8.cell? ⟨gr, 0, none⟩ = some (.int .u16 0) := (blk_cell BR.out 0).trans rfl; have hr1 : w8.cell? ⟨gr, 1, none⟩ = some (.int .u8 0) := (blk_cell BR.out 1).trans rfl; have hr2 : w8.cell? ⟨gr, 2, none⟩ = some (.int .u8 0) := (blk_cell BR.out 2).trans rfl; have hr3 : w8.cell? ⟨gr, 3, none⟩ = some (.slice none 0 0) := (blk_cell BR.out 3).trans rfl; have hr4 : w8.cell? ⟨gr, 4, none⟩ = some (.int .u16 0) := (blk_cell BR.out 4).trans rfl; have hr5 : w8.cell? ⟨gr, 5, none⟩ = some (.int .u32 0) := (blk_cell BR.out 5).trans rfl; have hr6 : w8.cell? ⟨gr, 6, none⟩ = some (.slice none 0 0) := (blk_cell BR.out 6).trans rfl; have hr7 : w8.cell? ⟨gr, 7, none⟩ = some (.slice none 0 0) := (blk_cell BR.out 7).trans rfl; have hr8 : w8.cell? ⟨gr, 8, none⟩ = some (.slice none 0 0) := (blk_cell BR.out 8).trans rfl; have hr9 : w8.cell? ⟨gr, 9, none⟩ = some (.slice none 0 0) := (blk_cell BR.out 9).trans rfl; have hs0 := blk_frozen BR.out 0; have hs1 := blk_frozen BR.out 1; have hs2 := blk_frozen BR.out 2; have hs3 := blk_frozen BR.out 3; have hs4 := blk_frozen BR.out 4; have hs5 := blk_frozen BR.out 5; have hs6 := blk_frozen BR.out 6; have hs7 := blk_frozen BR.out 7; have hs8 := blk_frozen BR.out 8; have hs9 := blk_frozen BR.out 9; have hr_ := NR.out; have hr2_ := NR.out.symm))
 have q_ := blk_far (p := ⟨g, 8, none⟩) BR.out NR.out (.slice Av rest.length cv)
 have q0 := blk_put q_ 0 (.int .u16 49187) (rfl : _ = (#[.int .u16 49187, .int .u8 0, .int .u8 0, .slice none 0 0, .int .u16 0, .int .u32 0, .slice none 0 0, .slice none 0 0, .slice none 0 0, .slice none 0 0] : Array Value))
 have q1 := blk_put q0 1 (.int .u8 code) (rfl : _ = (#[.int .u16 49187, .int .u8 code, .int .u8 0, .slice none 0 0, .int .u16 0, .int .u32 0, .slice none 0 0, .slice none 0 0, .slice none 0 0, .slice none 0 0] : Array Value))
 have q2 := blk_put q1 2 (.int .u8 id) (rfl : _ = (#[.int .u16 49187, .int .u8 code, .int .u8 id, .slice none 0 0, .int .u16 0, .int .u32 0, .slice none 0 0, .slice none 0 0, .slice none 0 0, .slice none 0 0] : Array Value))
 have q3 := blk_put q2 3 (.slice none 0 0) (rfl : _ = (#[.int .u16 49187, .int .u8 code, .int .u8 id, .slice none 0 0, .int .u16 0, .int .u32 0, .slice none 0 0, .slice none 0 0, .slice none 0 0, .slice none 0 0] : Array Value))
 have q4 := blk_put q3 4 (.int .u16 0) (rfl : _ = (#[.int .u16 49187, .int .u8 code, .int .u8 id, .slice none 0 0, .int .u16 0, .int .u32 0, .slice none 0 0, .slice none 0 0, .slice none 0 0, .slice none 0 0] : Array Value))
 have q5 := blk_put q4 5 (.int .u32 0) (rfl : _ = (#[.int .u16 49187, .int .u8 code, .int .u8 id, .slice none 0 0, .int .u16 0, .int .u32 0, .slice none 0 0, .slice none 0 0, .slice none 0 0, .slice none 0 0] : Array Value))
 have q6 := blk_put q5 6 (.slice none 0 0) (rfl : _ = (#[.int .u16 49187, .int .u8 code, .int .u8 id, .slice none 0 0, .int .u16 0, .int .u32 0, .slice none 0 0, .slice none 0 0, .slice none 0 0, .slice none 0 0] : Array Value))
 have q7 := blk_put q6 7 (.slice none 0 0) (rfl : _ = (#[.int .u16 49187, .int .u8 code, .int .u8 id, .slice none 0 0, .int .u16 0, .int .u32 0, .slice none 0 0, .slice none 0 0, .slice none 0 0, .slice none 0 0] : Array Value))
 have q8 := blk_put q7 8 (.slice Av rest.length cv) (rfl : _ = (#[.int .u16 49187, .int .u8 code, .int .u8 id, .slice none 0 0, .int .u16 0, .int .u32 0, .slice none 0 0, .slice none 0 0, .slice Av rest.length cv, .slice none 0 0] : Array Value))
 have q9 := blk_put q8 9 (.slice none 0 0) (rfl : _ = (#[.int .u16 49187, .int .u8 code, .int .u8 id, .slice none 0 0, .int .u16 0, .int .u32 0, .slice none 0 0, .slice none 0 0, .slice Av rest.length cv, .slice none 0 0] : Array Value))
 have HVF := Aside0.mk (Kd.R_far (p := ⟨g, 8, none⟩) (Kd.R_types (Kd.R_types HV.out BG.out (by decide)) BR.out (by decide)) (fun _ hk => hk.1.2) (.slice Av rest.length cv))
 refine bodyPost_ret (results_ct rfl _ _ gr 47 #[.int .u16 49187, .int .u8 code, .int .u8 id, .slice none 0 0, .int .u16 0, .int .u32 0, .slice none 0 0, .slice none 0 0, .slice Av rest.length cv, .slice none 0 0] (0, 0) _ rfl q9 hu47 rfl (by kernel_rfl)) rfl ?_
 exact ⟨_, _, _, _, _, rfl, Kd.S_nil _ _ _ _ _, Kd.R_nil _ _ _ _ _, Kd.R_nil _ _ _ _ _, Kd.R_mono (Kd.R_far (p := ⟨gr, 9, none⟩) (Kd.R_far (p := ⟨gr, 8, none⟩) (Kd.R_far (p := ⟨gr, 7, none⟩) (Kd.R_far (p := ⟨gr, 6, none⟩) (Kd.R_far (p := ⟨gr, 5, none⟩) (Kd.R_far (p := ⟨gr, 4, none⟩) (Kd.R_far (p := ⟨gr, 3, none⟩) (Kd.R_far (p := ⟨gr, 2, none⟩) (Kd.R_far (p := ⟨gr, 1, none⟩) (Kd.R_far (p := ⟨gr, 0, none⟩) (HVF.out) (fun _ hk => hk.2) _) (fun _ hk => hk.2) _) (fun _ hk => hk.2) _) (fun _ hk => hk.2) _) (fun _ hk => hk.2) _) (fun _ hk => hk.2) _) (fun _ hk => hk.2) _) (fun _ hk => hk.2) _) (fun _ hk => hk.2) _) (fun _ hk => hk.2) _) (fun _ _ => ⟨by simp [Value.ownBlock], by simp [Value.ownBlock]⟩), Kd.R_nil _ _ _ _ _, below_set (below_set (below_set (below_set (below_set (below_set (below_set (below_set (below_set (below_set (below_set HB.out GG.out) GR.out) GR.out) GR.out) GR.out) GR.out) GR.out) GR.out) GR.out) GR.out) GR.out⟩
set_option maxHeartbeats 16000000 in
set_option maxRecDepth 100000 in
theorem pt_gete (k : Nat) (A0 : Option Addr) (c0 : Nat) (l0 : List Int) (r1 r2 r3 : Int) (r4 : List S57) (r5 r6 : Int) (r7 r8 r9 r10 : List Int) (r11 : Int) (code id e : Int) (rest : List Int) (w : World) (hr0 : Kd.C (Kd.int .u8) w A0 l0.length l0) (hc0 : l0.length ≤ c0) (hg : ctl_Get.f k l0 = some (code, id, rest, e)) (he : e ≠ 0) (h : papZ e = some (r1, r2, r3, r4, r5, r6, r7, r8, r9, r10, r11)) :
 Calls Try.prog 33 #[.slice A0 l0.length c0] w fun x w' => ∃ v3_ v6_ v7_ v8_ v9_ : Value, x = .returned (.tuple #[.agg #[.int .u16 r1, .int .u8 r2, .int .u8 r3, v3_, .int .u16 r5, .int .u32 r6, v6_, v7_, v8_, v9_], .int .i64 r11]) ∧ Kd.S k57 57 w' w.heap.size (fun k_ => some k_ ≠ (v6_ : Value).ownBlock ∧ some k_ ≠ (v7_ : Value).ownBlock ∧ some k_ ≠ (v8_ : Value).ownBlock) v3_ r4 ∧ Kd.R (Kd.int .u8) 5 w' w.heap.size (fun k_ => some k_ ≠ (v7_ : Value).ownBlock ∧ some k_ ≠ (v8_ : Value).ownBlock) v6_ r7 ∧ Kd.R (Kd.int .u8) 5 w' w.heap.size (fun k_ => some k_ ≠ (v6_ : Value).ownBlock ∧ some k_ ≠ (v8_ : Value).ownBlock) v7_ r8 ∧ Kd.R (Kd.int .u8) 5 w' w.heap.size (fun k_ => some k_ ≠ (v6_ : Value).ownBlock ∧ some k_ ≠ (v7_ : Value).ownBlock) v8_ r9 ∧ Kd.R (Kd.int .u32) 41 w' w.heap.size (fun _ => True) v9_ r10 ∧ Below w.heap.size w w' := by
 have hu47 := Try.underlying47
 have HR0 := Aside0.mk hr0
 have HC0 := Aside0.mk hc0
 have HG := Aside0.mk hg
 have HF := Aside0.mk h
 have he0 : (e != 0) = true := bne_iff_ne.mpr he
 clear hr0 hc0 hg h he
 go_enter Try.func33, Try.ntmps33
 go_upto_region 2 with (first | ((with_reducible refine gate_dst (N := 2) rfl ?_); refine box_event ?hg (N := 2) ?hd (cs := #[.int .u16 0, .int .u8 0, .int .u8 0, .slice none 0 0, .int .u16 0, .int .u32 0, .slice none 0 0, .slice none 0 0, .slice none 0 0, .slice none 0 0]) (t := 47) ?hr ?_; (case hd => rfl); (case hg => rfl); (case hr => first | (go_simp; done) | (go_simp; rfl)); intro gr hgr w1 hbox hb; have BR := Aside0.mk hbox; have GR := Aside0.mk ((by rw [hgr]; exact Nat.le_refl _) : w.heap.size ≤ gr); have HB := Aside0.mk hb; clear hbox hb hgr) | ((with_reducible refine gate_dst (N := 4) rfl ?_); refine box_event ?hg (N := 4) ?hd (cs := #[.int .u16 0, .int .u8 0, .int .u8 0, .slice none 0 0, .int .u16 0, .int .u32 0, .slice none 0 0, .slice none 0 0, .slice none 0 0, .slice none 0 0]) (t := 47) ?hr ?_; (case hd => rfl); (case hg => rfl); (case hr => first | (go_simp; done) | (go_simp; rfl)); intro g hgg w2 hbox hb; have BG := Aside0.mk hbox; have NR := Aside0.mk ((by rw [hgg]; exact Nat.ne_of_lt (blk_lt BR.out)) : gr ≠ g); have GG := Aside0.mk ((by rw [hgg]; exact HB.out.size) : w.heap.size ≤ g); have n0_ := Aside0.mk (blk_below BR.out hb); have n1_ := Aside0.mk (below_step HB.out hb); clear BR HB hbox hb hgg; have BR := n0_; have HB := n1_; clear n0_ n1_; have hz0 : w2.cell? ⟨g, 0, none⟩ = some (.int .u16 0) := (blk_cell BG.out 0).trans rfl; have hz1 : w2.cell? ⟨g, 1, none⟩ = some (.int .u8 0) := (blk_cell BG.out 1).trans rfl; have hz2 : w2.cell? ⟨g, 2, none⟩ = some (.int .u8 0) := (blk_cell BG.out 2).trans rfl; have hz3 : w2.cell? ⟨g, 3, none⟩ = some (.slice none 0 0) := (blk_cell BG.out 3).trans rfl; have hz4 : w2.cell? ⟨g, 4, none⟩ = some (.int .u16 0) := (blk_cell BG.out 4).trans rfl; have hz5 : w2.cell? ⟨g, 5, none⟩ = some (.int .u32 0) := (blk_cell BG.out 5).trans rfl; have hz6 : w2.cell? ⟨g, 6, none⟩ = some (.slice none 0 0) := (blk_cell BG.out 6).trans rfl; have hz7 : w2.cell? ⟨g, 7, none⟩ = some (.slice none 0 0) := (blk_cell BG.out 7).trans rfl; have hz8 : w2.cell? ⟨g, 8, none⟩ = some (.slice none 0 0) := (blk_cell BG.out 8).trans rfl; have hz9 : w2.cell? ⟨g, 9, none⟩ = some (.slice none 0 0) := (blk_cell BG.out 9).trans rfl; have hf0 := blk_frozen BG.out 0; have hf1 := blk_frozen BG.out 1; have hf2 := blk_frozen BG.out 2; have hf3 := blk_frozen BG.out 3; have hf4 := blk_frozen BG.out 4; have hf5 := blk_frozen BG.out 5; have hf6 := blk_frozen BG.out 6; have hf7 := blk_frozen BG.out 7; have hf8 := blk_frozen BG.out 8; have hf9 := blk_frozen BG.out 9))
 clear hz0 hz1 hz2 hz3 hz4 hz5 hz6 hz7 hz8 hz9 hf0 hf1 hf2 hf3 hf4 hf5 hf6 hf7 hf8 hf9
 have q0 := blk_put BG.out 0 (.int .u16 49187) (rfl : _ = (#[.int .u16 49187, .int .u8 0, .int .u8 0, .slice none 0 0, .int .u16 0, .int .u32 0, .slice none 0 0, .slice none 0 0, .slice none 0 0, .slice none 0 0] : Array Value))
 have q1 := blk_put q0 1 (.int .u8 0) (rfl : _ = (#[.int .u16 49187, .int .u8 0, .int .u8 0, .slice none 0 0, .int .u16 0, .int .u32 0, .slice none 0 0, .slice none 0 0, .slice none 0 0, .slice none 0 0] : Array Value))
 have q2 := blk_put q1 2 (.int .u8 0) (rfl : _ = (#[.int .u16 49187, .int .u8 0, .int .u8 0, .slice none 0 0, .int .u16 0, .int .u32 0, .slice none 0 0, .slice none 0 0, .slice none 0 0, .slice none 0 0] : Array Value))
 have q3 := blk_put q2 3 (.slice none 0 0) (rfl : _ = (#[.int .u16 49187, .int .u8 0, .int .u8 0, .slice none 0 0, .int .u16 0, .int .u32 0, .slice none 0 0, .slice none 0 0, .slice none 0 0, .slice none 0 0] : Array Value))
 have q4 := blk_put q3 4 (.int .u16 0) (rfl : _ = (#[.int .u16 49187, .int .u8 0, .int .u8 0, .slice none 0 0, .int .u16 0, .int .u32 0, .slice none 0 0, .slice none 0 0, .slice none 0 0, .slice none 0 0] : Array Value))
 have q5 := blk_put q4 5 (.int .u32 0) (rfl : _ = (#[.int .u16 49187, .int .u8 0, .int .u8 0, .slice none 0 0, .int .u16 0, .int .u32 0, .slice none 0 0, .slice none 0 0, .slice none 0 0, .slice none 0 0] : Array Value))
 have q6 := blk_put q5 6 (.slice none 0 0) (rfl : _ = (#[.int .u16 49187, .int .u8 0, .int .u8 0, .slice none 0 0, .int .u16 0, .int .u32 0, .slice none 0 0, .slice none 0 0, .slice none 0 0, .slice none 0 0] : Array Value))
 have q7 := blk_put q6 7 (.slice none 0 0) (rfl : _ = (#[.int .u16 49187, .int .u8 0, .int .u8 0, .slice none 0 0, .int .u16 0, .int .u32 0, .slice none 0 0, .slice none 0 0, .slice none 0 0, .slice none 0 0] : Array Value))
 have q8 := blk_put q7 8 (.slice none 0 0) (rfl : _ = (#[.int .u16 49187, .int .u8 0, .int .u8 0, .slice none 0 0, .int .u16 0, .int .u32 0, .slice none 0 0, .slice none 0 0, .slice none 0 0, .slice none 0 0] : Array Value))
 have q9 := blk_put q8 9 (.slice none 0 0) (rfl : _ = (#[.int .u16 49187, .int .u8 0, .int .u8 0, .slice none 0 0, .int .u16 0, .int .u32 0, .slice none 0 0, .slice none 0 0, .slice none 0 0, .slice none 0 0] : Array Value))
 have n0_ := Aside0.mk q9
 have n1_ := Aside0.mk (show (((((((((((w2.setCell ⟨g, 0, none⟩ (.int .u16 49187)).setCell ⟨g, 1, none⟩ (.int .u8 0)).setCell ⟨g, 2, none⟩ (.int .u8 0)).setCell ⟨g, 3, none⟩ (.slice none 0 0)).setCell ⟨g, 4, none⟩ (.int .u16 0)).setCell ⟨g, 5, none⟩ (.int .u32 0)).setCell ⟨g, 6, none⟩ (.slice none 0 0)).setCell ⟨g, 7, none⟩ (.slice none 0 0)).setCell ⟨g, 8, none⟩ (.slice none 0 0)).setCell ⟨g, 9, none⟩ (.slice none 0 0))).heap[gr]? = some (.cells #[.int .u16 0, .int .u8 0, .int .u8 0, .slice none 0 0, .int .u16 0, .int .u32 0, .slice none 0 0, .slice none 0 0, .slice none 0 0, .slice none 0 0] 47 (0, 0)) from (blk_far (p := ⟨g, 9, none⟩) (blk_far (p := ⟨g, 8, none⟩) (blk_far (p := ⟨g, 7, none⟩) (blk_far (p := ⟨g, 6, none⟩) (blk_far (p := ⟨g, 5, none⟩) (blk_far (p := ⟨g, 4, none⟩) (blk_far (p := ⟨g, 3, none⟩) (blk_far (p := ⟨g, 2, none⟩) (blk_far (p := ⟨g, 1, none⟩) (blk_far (p := ⟨g, 0, none⟩) BR.out NR.out (.int .u16 49187)) NR.out (.int .u8 0)) NR.out (.int .u8 0)) NR.out (.slice none 0 0)) NR.out (.int .u16 0)) NR.out (.int .u32 0)) NR.out (.slice none 0 0)) NR.out (.slice none 0 0)) NR.out (.slice none 0 0)) NR.out (.slice none 0 0)))
 have n2_ := Aside0.mk (show Below w.heap.size w ((((((((((w2.setCell ⟨g, 0, none⟩ (.int .u16 49187)).setCell ⟨g, 1, none⟩ (.int .u8 0)).setCell ⟨g, 2, none⟩ (.int .u8 0)).setCell ⟨g, 3, none⟩ (.slice none 0 0)).setCell ⟨g, 4, none⟩ (.int .u16 0)).setCell ⟨g, 5, none⟩ (.int .u32 0)).setCell ⟨g, 6, none⟩ (.slice none 0 0)).setCell ⟨g, 7, none⟩ (.slice none 0 0)).setCell ⟨g, 8, none⟩ (.slice none 0 0)).setCell ⟨g, 9, none⟩ (.slice none 0 0)) from (below_set (below_set (below_set (below_set (below_set (below_set (below_set (below_set (below_set (below_set HB.out GG.out) GG.out) GG.out) GG.out) GG.out) GG.out) GG.out) GG.out) GG.out) GG.out))
 clear BG BR HB q0 q1 q2 q3 q4 q5 q6 q7 q8 q9
 generalize ((((((((((w2.setCell ⟨g, 0, none⟩ (.int .u16 49187)).setCell ⟨g, 1, none⟩ (.int .u8 0)).setCell ⟨g, 2, none⟩ (.int .u8 0)).setCell ⟨g, 3, none⟩ (.slice none 0 0)).setCell ⟨g, 4, none⟩ (.int .u16 0)).setCell ⟨g, 5, none⟩ (.int .u32 0)).setCell ⟨g, 6, none⟩ (.slice none 0 0)).setCell ⟨g, 7, none⟩ (.slice none 0 0)).setCell ⟨g, 8, none⟩ (.slice none 0 0)).setCell ⟨g, 9, none⟩ (.slice none 0 0)) = w5 at n0_ n1_ n2_ ⊢
 have BG := n0_
 have BR := n1_
 have HB := n2_
 clear n0_ n1_ n2_
 go_upto_region 4 with (first | (go_at_call 53; refine (ctl_Get.calls k A0 c0 l0 code id rest e _ ?s1 HC0.out HG.out).mono ?_; (case s1 => exact Kd.C_below HR0.out HB.out); rintro x w6 ⟨v2, rfl, hv, hb⟩; have HV := Aside0.mk (Kd.R_lower hv HB.out.size); have n0_ := Aside0.mk (blk_below BG.out hb); have n1_ := Aside0.mk (blk_below BR.out hb); have n2_ := Aside0.mk (below_step HB.out hb); clear BG BR HB hb hv; have BG := n0_; have BR := n1_; have HB := n2_; clear n0_ n1_ n2_; obtain ⟨Av, cv, ev⟩ := Kd.R_slice HV.out; subst ev; have hz1 : w6.cell? ⟨g, 1, none⟩ = some (.int .u8 0) := (blk_cell BG.out 1).trans rfl; have hz2 : w6.cell? ⟨g, 2, none⟩ = some (.int .u8 0) := (blk_cell BG.out 2).trans rfl; have hf1 := blk_frozen BG.out 1; have hf2 := blk_frozen BG.out 2))
 clear hz1 hz2 hf1 hf2
 have n0_ := Aside0.mk (show ((w6.setCell ⟨g, 1, none⟩ (.int .u8 code)).setCell ⟨g, 2, none⟩ (.int .u8 id)).heap[g]? = some (.cells #[.int .u16 49187, .int .u8 code, .int .u8 id, .slice none 0 0, .int .u16 0, .int .u32 0, .slice none 0 0, .slice none 0 0, .slice none 0 0, .slice none 0 0] 47 (0, 0)) from blk_put (blk_put BG.out 1 (.int .u8 code) rfl) 2 (.int .u8 id) rfl)
 have n1_ := Aside0.mk (show ((w6.setCell ⟨g, 1, none⟩ (.int .u8 code)).setCell ⟨g, 2, none⟩ (.int .u8 id)).heap[gr]? = some (.cells #[.int .u16 0, .int .u8 0, .int .u8 0, .slice none 0 0, .int .u16 0, .int .u32 0, .slice none 0 0, .slice none 0 0, .slice none 0 0, .slice none 0 0] 47 (0, 0)) from blk_far (p := ⟨g, 2, none⟩) (blk_far (p := ⟨g, 1, none⟩) BR.out NR.out _) NR.out _)
 have n2_ := Aside0.mk (show Below w.heap.size w ((w6.setCell ⟨g, 1, none⟩ (.int .u8 code)).setCell ⟨g, 2, none⟩ (.int .u8 id)) from below_set (below_set HB.out GG.out) GG.out)
 have n3_ := Aside0.mk (show Kd.R (Kd.int .u8) 5 ((w6.setCell ⟨g, 1, none⟩ (.int .u8 code)).setCell ⟨g, 2, none⟩ (.int .u8 id)) w.heap.size (fun k_ => True) (.slice Av rest.length cv) rest from Kd.R_mono (Kd.R_far (p := ⟨g, 2, none⟩) (Kd.R_far (p := ⟨g, 1, none⟩) (Kd.R_types HV.out BG.out (by decide)) (fun _ hk => hk.2) _) (fun _ hk => hk.2) _) (fun _ _ => trivial))
 clear BG BR HB HV
 generalize ((w6.setCell ⟨g, 1, none⟩ (.int .u8 code)).setCell ⟨g, 2, none⟩ (.int .u8 id)) = w7 at n0_ n1_ n2_ n3_ ⊢
 have BG := n0_
 have BR := n1_
 have HB := n2_
 have HV := n3_
 clear n0_ n1_ n2_ n3_
 have hf := HF.out
 simp only [papZ, Option.some.injEq, Prod.mk.injEq] at hf
 obtain ⟨rfl, rfl, rfl, rfl, rfl, rfl, rfl, rfl, rfl, rfl, rfl⟩ := hf
 have hr0 : w7.cell? ⟨gr, 0, none⟩ = some (.int .u16 0) := (blk_cell BR.out 0).trans rfl
 have hr1 : w7.cell? ⟨gr, 1, none⟩ = some (.int .u8 0) := (blk_cell BR.out 1).trans rfl
 have hr2 : w7.cell? ⟨gr, 2, none⟩ = some (.int .u8 0) := (blk_cell BR.out 2).trans rfl
 have hr3 : w7.cell? ⟨gr, 3, none⟩ = some (.slice none 0 0) := (blk_cell BR.out 3).trans rfl
 have hr4 : w7.cell? ⟨gr, 4, none⟩ = some (.int .u16 0) := (blk_cell BR.out 4).trans rfl
 have hr5 : w7.cell? ⟨gr, 5, none⟩ = some (.int .u32 0) := (blk_cell BR.out 5).trans rfl
 have hr6 : w7.cell? ⟨gr, 6, none⟩ = some (.slice none 0 0) := (blk_cell BR.out 6).trans rfl
 have hr7 : w7.cell? ⟨gr, 7, none⟩ = some (.slice none 0 0) := (blk_cell BR.out 7).trans rfl
 have hr8 : w7.cell? ⟨gr, 8, none⟩ = some (.slice none 0 0) := (blk_cell BR.out 8).trans rfl
 have hr9 : w7.cell? ⟨gr, 9, none⟩ = some (.slice none 0 0) := (blk_cell BR.out 9).trans rfl
 have hs0 := blk_frozen BR.out 0
 have hs1 := blk_frozen BR.out 1
 have hs2 := blk_frozen BR.out 2
 have hs3 := blk_frozen BR.out 3
 have hs4 := blk_frozen BR.out 4
 have hs5 := blk_frozen BR.out 5
 have hs6 := blk_frozen BR.out 6
 have hs7 := blk_frozen BR.out 7
 have hs8 := blk_frozen BR.out 8
 have hs9 := blk_frozen BR.out 9
 go_wp2
 have q0 := blk_put BR.out 0 (.int .u16 0) (rfl : _ = (#[.int .u16 0, .int .u8 0, .int .u8 0, .slice none 0 0, .int .u16 0, .int .u32 0, .slice none 0 0, .slice none 0 0, .slice none 0 0, .slice none 0 0] : Array Value))
 have q1 := blk_put q0 1 (.int .u8 0) (rfl : _ = (#[.int .u16 0, .int .u8 0, .int .u8 0, .slice none 0 0, .int .u16 0, .int .u32 0, .slice none 0 0, .slice none 0 0, .slice none 0 0, .slice none 0 0] : Array Value))
 have q2 := blk_put q1 2 (.int .u8 0) (rfl : _ = (#[.int .u16 0, .int .u8 0, .int .u8 0, .slice none 0 0, .int .u16 0, .int .u32 0, .slice none 0 0, .slice none 0 0, .slice none 0 0, .slice none 0 0] : Array Value))
 have q3 := blk_put q2 3 (.slice none 0 0) (rfl : _ = (#[.int .u16 0, .int .u8 0, .int .u8 0, .slice none 0 0, .int .u16 0, .int .u32 0, .slice none 0 0, .slice none 0 0, .slice none 0 0, .slice none 0 0] : Array Value))
 have q4 := blk_put q3 4 (.int .u16 0) (rfl : _ = (#[.int .u16 0, .int .u8 0, .int .u8 0, .slice none 0 0, .int .u16 0, .int .u32 0, .slice none 0 0, .slice none 0 0, .slice none 0 0, .slice none 0 0] : Array Value))
 have q5 := blk_put q4 5 (.int .u32 0) (rfl : _ = (#[.int .u16 0, .int .u8 0, .int .u8 0, .slice none 0 0, .int .u16 0, .int .u32 0, .slice none 0 0, .slice none 0 0, .slice none 0 0, .slice none 0 0] : Array Value))
 have q6 := blk_put q5 6 (.slice none 0 0) (rfl : _ = (#[.int .u16 0, .int .u8 0, .int .u8 0, .slice none 0 0, .int .u16 0, .int .u32 0, .slice none 0 0, .slice none 0 0, .slice none 0 0, .slice none 0 0] : Array Value))
 have q7 := blk_put q6 7 (.slice none 0 0) (rfl : _ = (#[.int .u16 0, .int .u8 0, .int .u8 0, .slice none 0 0, .int .u16 0, .int .u32 0, .slice none 0 0, .slice none 0 0, .slice none 0 0, .slice none 0 0] : Array Value))
 have q8 := blk_put q7 8 (.slice none 0 0) (rfl : _ = (#[.int .u16 0, .int .u8 0, .int .u8 0, .slice none 0 0, .int .u16 0, .int .u32 0, .slice none 0 0, .slice none 0 0, .slice none 0 0, .slice none 0 0] : Array Value))
 have q9 := blk_put q8 9 (.slice none 0 0) (rfl : _ = (#[.int .u16 0, .int .u8 0, .int .u8 0, .slice none 0 0, .int .u16 0, .int .u32 0, .slice none 0 0, .slice none 0 0, .slice none 0 0, .slice none 0 0] : Array Value))
 refine bodyPost_ret (results_ct rfl _ _ gr 47 #[.int .u16 0, .int .u8 0, .int .u8 0, .slice none 0 0, .int .u16 0, .int .u32 0, .slice none 0 0, .slice none 0 0, .slice none 0 0, .slice none 0 0] (0, 0) _ rfl q9 hu47 rfl (by kernel_rfl)) rfl ?_
 exact ⟨_, _, _, _, _, rfl, Kd.S_nil _ _ _ _ _, Kd.R_nil _ _ _ _ _, Kd.R_nil _ _ _ _ _, Kd.R_nil _ _ _ _ _, Kd.R_nil _ _ _ _ _, below_set (below_set (below_set (below_set (below_set (below_set (below_set (below_set (below_set (below_set (HB.out) GR.out) GR.out) GR.out) GR.out) GR.out) GR.out) GR.out) GR.out) GR.out) GR.out⟩
end Go.Proofs.Ytgjeahgagciagaa.Print
namespace Go.Proofs.Ytgjeahgagciagaa.Print
open Go.RowKit Go.Proofs.YtgjeahgagciagaaW.PrintWords Go.Proofs.YtgjeahgagciagaaW.PrintLast Go.Proofs.YtgjeahgagciagaaW.PrintMore
set_option linter.unusedVariables false
def pap_Put.f (k : Nat) (a0_0 : Int) (a0_1 : Int) (a0_2 : Int) (l0_3 : List (S57)) (a0_4 : Int) (a0_5 : Int) (l0_6 : List Int) (l0_7 : List Int) (l0_8 : List Int) (l0_9 : List Int) : Option (List Int × Int) :=
 if a0_1 = 1 then papPut2 k a0_0 a0_1 a0_2 l0_3 a0_4 a0_5 l0_6 l0_7 l0_8 l0_9 else if a0_1 = 2 ∨ a0_1 = 3 then papPut1 k a0_0 a0_1 a0_2 l0_3 a0_4 a0_5 l0_6 l0_7 l0_8 l0_9 else papPut0 k a0_0 a0_1 a0_2 l0_3 a0_4 a0_5 l0_6 l0_7 l0_8 l0_9
def pap_Get.f (k : Nat) (l0 : List Int) : Option (Int × Int × Int × (List S57) × Int × Int × List Int × List Int × List Int × List Int × Int) :=
 (ctl_Get.f k l0).bind fun b => if b.2.2.2 = 0 then (if b.1 = 1 then papG2 b.1 b.2.1 b.2.2.1 else if b.1 = 2 ∨ b.1 = 3 then papG1 b.1 b.2.1 b.2.2.1 else papG0 b.1 b.2.1 b.2.2.1) else papZ b.2.2.2
theorem pap_Put.calls (k : Nat) (a0_0 : Int) (a0_1 : Int) (a0_2 : Int) (A0_3 : Option Addr) (c0_3 : Nat) (l0_3 : List (S57)) (a0_4 : Int) (a0_5 : Int) (A0_6 : Option Addr) (c0_6 : Nat) (l0_6 : List Int) (A0_7 : Option Addr) (c0_7 : Nat) (l0_7 : List Int) (A0_8 : Option Addr) (c0_8 : Nat) (l0_8 : List Int) (A0_9 : Option Addr) (c0_9 : Nat) (l0_9 : List Int) (r1 : List Int) (r2 : Int) (w : World) (hr0_3 : Kd.C k57 w A0_3 l0_3.length l0_3) (hc0_3 : l0_3.length ≤ c0_3) (hr0_6 : Kd.C (Kd.int .u8) w A0_6 l0_6.length l0_6) (hc0_6 : l0_6.length ≤ c0_6) (hr0_7 : Kd.C (Kd.int .u8) w A0_7 l0_7.length l0_7) (hc0_7 : l0_7.length ≤ c0_7) (hr0_8 : Kd.C (Kd.int .u8) w A0_8 l0_8.length l0_8) (hc0_8 : l0_8.length ≤ c0_8) (hr0_9 : Kd.C (Kd.int .u32) w A0_9 l0_9.length l0_9) (hc0_9 : l0_9.length ≤ c0_9) (h : pap_Put.f k a0_0 a0_1 a0_2 l0_3 a0_4 a0_5 l0_6 l0_7 l0_8 l0_9 = some (r1, r2)) :
 Calls Try.prog 31 #[.agg #[.int .u16 a0_0, .int .u8 a0_1, .int .u8 a0_2, .slice A0_3 l0_3.length c0_3, .int .u16 a0_4, .int .u32 a0_5, .slice A0_6 l0_6.length c0_6, .slice A0_7 l0_7.length c0_7, .slice A0_8 l0_8.length c0_8, .slice A0_9 l0_9.length c0_9]] w fun e w' => ∃ v0_ : Value, e = .returned (.tuple #[v0_, .int .i64 r2]) ∧ Kd.R (Kd.int .u8) 5 w' w.heap.size (fun _ => True) v0_ r1 ∧ Below w.heap.size w w' := by
 unfold pap_Put.f at h
 split at h
 · rename_i h1
   exact pt_put2 k a0_0 a0_1 a0_2 a0_4 a0_5 A0_3 A0_6 A0_7 A0_8 A0_9 c0_3 c0_6 c0_7 c0_8 c0_9 l0_3 l0_6 l0_7 l0_8 l0_9 r1 r2 w h1 hr0_6 hr0_7 hr0_8 hc0_6 hc0_7 hc0_8 h
 · rename_i h1
   split at h
   · rename_i h2
     exact pt_put1 k a0_0 a0_1 a0_2 a0_4 a0_5 A0_3 A0_6 A0_7 A0_8 A0_9 c0_3 c0_6 c0_7 c0_8 c0_9 l0_3 l0_6 l0_7 l0_8 l0_9 r1 r2 w h2 hr0_6 hr0_7 hr0_8 hc0_6 hc0_7 hc0_8 h
   · rename_i h2
     exact pt_put0 k a0_0 a0_1 a0_2 a0_4 a0_5 A0_3 A0_6 A0_7 A0_8 A0_9 c0_3 c0_6 c0_7 c0_8 c0_9 l0_3 l0_6 l0_7 l0_8 l0_9 r1 r2 w ⟨h1, fun e => h2 (.inl e), fun e => h2 (.inr e)⟩ hr0_6 hr0_7 hr0_8 hc0_6 hc0_7 hc0_8 h
theorem pap_Get.calls (k : Nat) (A0 : Option Addr) (c0 : Nat) (l0 : List Int) (r1 : Int) (r2 : Int) (r3 : Int) (r4 : List (S57)) (r5 : Int) (r6 : Int) (r7 : List Int) (r8 : List Int) (r9 : List Int) (r10 : List Int) (r11 : Int) (w : World) (hr0 : Kd.C (Kd.int .u8) w A0 l0.length l0) (hc0 : l0.length ≤ c0) (h : pap_Get.f k l0 = some (r1, r2, r3, r4, r5, r6, r7, r8, r9, r10, r11)) :
 Calls Try.prog 33 #[.slice A0 l0.length c0] w fun e_ w' => ∃ v3_ v6_ v7_ v8_ v9_ : Value, e_ = .returned (.tuple #[.agg #[.int .u16 r1, .int .u8 r2, .int .u8 r3, v3_, .int .u16 r5, .int .u32 r6, v6_, v7_, v8_, v9_], .int .i64 r11]) ∧ Kd.S k57 57 w' w.heap.size (fun k_ => some k_ ≠ (v6_ : Value).ownBlock ∧ some k_ ≠ (v7_ : Value).ownBlock ∧ some k_ ≠ (v8_ : Value).ownBlock) v3_ r4 ∧ Kd.R (Kd.int .u8) 5 w' w.heap.size (fun k_ => some k_ ≠ (v7_ : Value).ownBlock ∧ some k_ ≠ (v8_ : Value).ownBlock) v6_ r7 ∧ Kd.R (Kd.int .u8) 5 w' w.heap.size (fun k_ => some k_ ≠ (v6_ : Value).ownBlock ∧ some k_ ≠ (v8_ : Value).ownBlock) v7_ r8 ∧ Kd.R (Kd.int .u8) 5 w' w.heap.size (fun k_ => some k_ ≠ (v6_ : Value).ownBlock ∧ some k_ ≠ (v7_ : Value).ownBlock) v8_ r9 ∧ Kd.R (Kd.int .u32) 41 w' w.heap.size (fun _ => True) v9_ r10 ∧ Below w.heap.size w w' := by
 unfold pap_Get.f at h
 obtain ⟨⟨code, id, rest, e⟩, hg, h⟩ := Option.bind_eq_some_iff.mp h
 simp only at h
 split at h
 · rename_i he
   split at h
   · rename_i h1
     exact pt_get2 k A0 c0 l0 r1 r2 r3 r4 r5 r6 r7 r8 r9 r10 r11 code id e rest w hr0 hc0 hg h1 he h
   · rename_i h1
     split at h
     · rename_i h2
       exact pt_get1 k A0 c0 l0 r1 r2 r3 r4 r5 r6 r7 r8 r9 r10 r11 code id e rest w hr0 hc0 hg h2 he h
     · rename_i h2
       exact pt_get0 k A0 c0 l0 r1 r2 r3 r4 r5 r6 r7 r8 r9 r10 r11 code id e rest w hr0 hc0 hg ⟨h1, fun e => h2 (.inl e), fun e => h2 (.inr e)⟩ he h
 · rename_i he
   exact pt_gete k A0 c0 l0 r1 r2 r3 r4 r5 r6 r7 r8 r9 r10 r11 code id e rest w hr0 hc0 hg he h
end Go.Proofs.Ytgjeahgagciagaa.Print
