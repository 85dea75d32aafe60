/- Texts of this claim, several in one, told shortly by a program of this claim (wip/x/shrink.py): what Go functions come to, and plain words on it. -/
import Derived.Test.YtgjeahgagciagaaShPapKeeps2
namespace Go.Proofs.Ytgjeahgagciagaa.Print
open Go.RowKit Go.Proofs.YtgjeahgagciagaaW.PrintWords Go.Proofs.YtgjeahgagciagaaW.PrintLast Go.Proofs.YtgjeahgagciagaaW.PrintMore
attribute [local go_sem] max2_int min2_int max_two min_two max_three min_three max_four min_four
set_option linter.unusedVariables false
set_option linter.unusedSimpArgs false
set_option maxHeartbeats 16000000 in
set_option maxRecDepth 100000 in
theorem pt_bare0 (a0 code a2 a4 a5 : Int) (A3 : Option Addr) (n3 c3 : Nat) (A6 : Option Addr) (n6 c6 : Nat) (A7 : Option Addr) (n7 c7 : Nat) (A8 : Option Addr) (n8 c8 : Nat) (A9 : Option Addr) (n9 c9 : Nat) (w : World) (h1 : code ≠ 1) (h2 : code ≠ 2) (h3 : code ≠ 3) :
 Calls Try.prog 49 #[.agg #[.int .u16 a0, .int .u8 code, .int .u8 a2, .slice A3 n3 c3, .int .u16 a4, .int .u32 a5, .slice A6 n6 c6, .slice A7 n7 c7, .slice A8 n8 c8, .slice A9 n9 c9]] w fun x w' => x = .returned (.agg #[.int .u16 a0, .int .u8 code, .int .u8 a2, .slice A3 n3 c3, .int .u16 a4, .int .u32 a5, .slice A6 n6 c6, .slice A7 n7 c7, .slice none 0 0, .slice A9 n9 c9]) ∧ Below w.heap.size w w' := by
 have hu47 := Try.underlying47
 have hq : ∀ (w : World) (n c : Nat), (Go.binOp .eql 80 (.slice none n c) (.slice none 0 0)).run Try.prog w = .ok (.bool true) w := fun w n c => Lib.run_eql_slice_nil (P := Try.prog) w 80 83 none n c 0 0 Try.underlying80
 have HC := Aside0.mk (show code ≠ 1 ∧ code ≠ 2 ∧ code ≠ 3 from ⟨h1, h2, h3⟩)
 clear h1 h2 h3
 go_enter Try.func49, Try.ntmps49
 go_wp2_with (first | ((with_reducible refine gate_dst (N := 1) rfl ?_); refine box_event ?hg (N := 1) ?hd (cs := #[.int .u16 a0, .int .u8 code, .int .u8 a2, .slice A3 n3 c3, .int .u16 a4, .int .u32 a5, .slice A6 n6 c6, .slice A7 n7 c7, .slice A8 n8 c8, .slice A9 n9 c9]) (t := 47) ?hr ?_; (case hd => rfl); (case hg => rfl); (case hr => first | (go_simp; done) | (go_simp; rfl)); intro g hgg w1 hbox hb; have BG := Aside0.mk hbox; have GG := Aside0.mk ((by rw [hgg]; exact Nat.le_refl _) : w.heap.size ≤ g); have HB := Aside0.mk hb; clear hbox hb hgg) | ((with_reducible refine gate_dst (N := 2) rfl ?_); refine box_event ?hg (N := 2) ?hd (cs := #[.int .u16 0, .int .u8 0, .int .u8 0, .slice none 0 0, .int .u16 0, .int .u32 0, .slice none 0 0, .slice none 0 0, .slice none 0 0, .slice none 0 0]) (t := 47) ?hr ?_; (case hd => rfl); (case hg => rfl); (case hr => first | (go_simp; done) | (go_simp; rfl)); intro gr hgr w2 hbox hb; have BR := Aside0.mk hbox; have NR := Aside0.mk ((by rw [hgr]; exact Nat.ne_of_lt (blk_lt BG.out)) : g ≠ gr); have GR := Aside0.mk ((by rw [hgr]; exact HB.out.size) : w.heap.size ≤ gr); have n0_ := Aside0.mk (blk_below BG.out hb); have n1_ := Aside0.mk (below_step HB.out hb); clear BG HB hbox hb hgr; have BG := n0_; have HB := n1_; clear n0_ n1_) | (go_at_call 50; refine (pt_texts0 g code _ _ _ _ _ _ _ _ _ _ BG.out HC.out.1 HC.out.2.1 HC.out.2.2).mono ?_; rintro x w3 ⟨rfl, hb⟩; have n0_ := Aside0.mk (blk_below BG.out hb); have n1_ := Aside0.mk (blk_below BR.out hb); have n2_ := Aside0.mk (below_step HB.out hb); clear BG BR HB hb; have BG := n0_; have BR := n1_; have HB := n2_; clear n0_ n1_ n2_))
 go_loopg [9] 1 (fun kq v9 w' => v9 = .int .i64 0 ∧ w' = w3)
 case atStart => exact ⟨rfl, rfl⟩
 case round =>
  obtain ⟨rfl, rfl⟩ := hrel
  have hz0 : wr.cell? ⟨g, 0, none⟩ = some (.int .u16 a0) := (blk_cell BG.out 0).trans rfl
  have hz1 : wr.cell? ⟨g, 1, none⟩ = some (.int .u8 code) := (blk_cell BG.out 1).trans rfl
  have hz2 : wr.cell? ⟨g, 2, none⟩ = some (.int .u8 a2) := (blk_cell BG.out 2).trans rfl
  have hz3 : wr.cell? ⟨g, 3, none⟩ = some (.slice A3 n3 c3) := (blk_cell BG.out 3).trans rfl
  have hz4 : wr.cell? ⟨g, 4, none⟩ = some (.int .u16 a4) := (blk_cell BG.out 4).trans rfl
  have hz5 : wr.cell? ⟨g, 5, none⟩ = some (.int .u32 a5) := (blk_cell BG.out 5).trans rfl
  have hz6 : wr.cell? ⟨g, 6, none⟩ = some (.slice A6 n6 c6) := (blk_cell BG.out 6).trans rfl
  have hz7 : wr.cell? ⟨g, 7, none⟩ = some (.slice A7 n7 c7) := (blk_cell BG.out 7).trans rfl
  have hz8 : wr.cell? ⟨g, 8, none⟩ = some (.slice A8 n8 c8) := (blk_cell BG.out 8).trans rfl
  have hz9 : wr.cell? ⟨g, 9, none⟩ = some (.slice A9 n9 c9) := (blk_cell BG.out 9).trans rfl
  have hf0 := blk_frozen BG.out 0
  have hf1 := blk_frozen BG.out 1
  have hf2 := blk_frozen BG.out 2
  have hf3 := blk_frozen BG.out 3
  have hf4 := blk_frozen BG.out 4
  have hf5 := blk_frozen BG.out 5
  have hf6 := blk_frozen BG.out 6
  have hf7 := blk_frozen BG.out 7
  have hf8 := blk_frozen BG.out 8
  have hf9 := blk_frozen BG.out 9
  have hr0 : wr.cell? ⟨gr, 0, none⟩ = some (.int .u16 0) := (blk_cell BR.out 0).trans rfl
  have hr1 : wr.cell? ⟨gr, 1, none⟩ = some (.int .u8 0) := (blk_cell BR.out 1).trans rfl
  have hr2 : wr.cell? ⟨gr, 2, none⟩ = some (.int .u8 0) := (blk_cell BR.out 2).trans rfl
  have hr3 : wr.cell? ⟨gr, 3, none⟩ = some (.slice none 0 0) := (blk_cell BR.out 3).trans rfl
  have hr4 : wr.cell? ⟨gr, 4, none⟩ = some (.int .u16 0) := (blk_cell BR.out 4).trans rfl
  have hr5 : wr.cell? ⟨gr, 5, none⟩ = some (.int .u32 0) := (blk_cell BR.out 5).trans rfl
  have hr6 : wr.cell? ⟨gr, 6, none⟩ = some (.slice none 0 0) := (blk_cell BR.out 6).trans rfl
  have hr7 : wr.cell? ⟨gr, 7, none⟩ = some (.slice none 0 0) := (blk_cell BR.out 7).trans rfl
  have hr8 : wr.cell? ⟨gr, 8, none⟩ = some (.slice none 0 0) := (blk_cell BR.out 8).trans rfl
  have hr9 : wr.cell? ⟨gr, 9, none⟩ = some (.slice none 0 0) := (blk_cell BR.out 9).trans rfl
  have hs0 := blk_frozen BR.out 0
  have hs1 := blk_frozen BR.out 1
  have hs2 := blk_frozen BR.out 2
  have hs3 := blk_frozen BR.out 3
  have hs4 := blk_frozen BR.out 4
  have hs5 := blk_frozen BR.out 5
  have hs6 := blk_frozen BR.out 6
  have hs7 := blk_frozen BR.out 7
  have hs8 := blk_frozen BR.out 8
  have hs9 := blk_frozen BR.out 9
  have hr_ := NR.out
  have hr2_ := NR.out.symm
  go_wp2
  have q_ := blk_far (p := ⟨g, 8, none⟩) BR.out NR.out.symm (.slice none 0 0)
  have q0 := blk_put q_ 0 (.int .u16 a0) (rfl : _ = (#[.int .u16 a0, .int .u8 0, .int .u8 0, .slice none 0 0, .int .u16 0, .int .u32 0, .slice none 0 0, .slice none 0 0, .slice none 0 0, .slice none 0 0] : Array Value))
  have q1 := blk_put q0 1 (.int .u8 code) (rfl : _ = (#[.int .u16 a0, .int .u8 code, .int .u8 0, .slice none 0 0, .int .u16 0, .int .u32 0, .slice none 0 0, .slice none 0 0, .slice none 0 0, .slice none 0 0] : Array Value))
  have q2 := blk_put q1 2 (.int .u8 a2) (rfl : _ = (#[.int .u16 a0, .int .u8 code, .int .u8 a2, .slice none 0 0, .int .u16 0, .int .u32 0, .slice none 0 0, .slice none 0 0, .slice none 0 0, .slice none 0 0] : Array Value))
  have q3 := blk_put q2 3 (.slice A3 n3 c3) (rfl : _ = (#[.int .u16 a0, .int .u8 code, .int .u8 a2, .slice A3 n3 c3, .int .u16 0, .int .u32 0, .slice none 0 0, .slice none 0 0, .slice none 0 0, .slice none 0 0] : Array Value))
  have q4 := blk_put q3 4 (.int .u16 a4) (rfl : _ = (#[.int .u16 a0, .int .u8 code, .int .u8 a2, .slice A3 n3 c3, .int .u16 a4, .int .u32 0, .slice none 0 0, .slice none 0 0, .slice none 0 0, .slice none 0 0] : Array Value))
  have q5 := blk_put q4 5 (.int .u32 a5) (rfl : _ = (#[.int .u16 a0, .int .u8 code, .int .u8 a2, .slice A3 n3 c3, .int .u16 a4, .int .u32 a5, .slice none 0 0, .slice none 0 0, .slice none 0 0, .slice none 0 0] : Array Value))
  have q6 := blk_put q5 6 (.slice A6 n6 c6) (rfl : _ = (#[.int .u16 a0, .int .u8 code, .int .u8 a2, .slice A3 n3 c3, .int .u16 a4, .int .u32 a5, .slice A6 n6 c6, .slice none 0 0, .slice none 0 0, .slice none 0 0] : Array Value))
  have q7 := blk_put q6 7 (.slice A7 n7 c7) (rfl : _ = (#[.int .u16 a0, .int .u8 code, .int .u8 a2, .slice A3 n3 c3, .int .u16 a4, .int .u32 a5, .slice A6 n6 c6, .slice A7 n7 c7, .slice none 0 0, .slice none 0 0] : Array Value))
  have q8 := blk_put q7 8 (.slice none 0 0) (rfl : _ = (#[.int .u16 a0, .int .u8 code, .int .u8 a2, .slice A3 n3 c3, .int .u16 a4, .int .u32 a5, .slice A6 n6 c6, .slice A7 n7 c7, .slice none 0 0, .slice none 0 0] : Array Value))
  have q9 := blk_put q8 9 (.slice A9 n9 c9) (rfl : _ = (#[.int .u16 a0, .int .u8 code, .int .u8 a2, .slice A3 n3 c3, .int .u16 a4, .int .u32 a5, .slice A6 n6 c6, .slice A7 n7 c7, .slice none 0 0, .slice A9 n9 c9] : Array Value))
  refine bodyPost_ret (results_single rfl (Vals.cell gr 47 #[.int .u16 a0, .int .u8 code, .int .u8 a2, .slice A3 n3 c3, .int .u16 a4, .int .u32 a5, .slice A6 n6 c6, .slice A7 n7 c7, .slice none 0 0, .slice A9 n9 c9] (0, 0) _ rfl q9 hu47 rfl (by kernel_rfl) Vals.nil)) rfl ?_
  exact ⟨rfl, below_set (below_set (below_set (below_set (below_set (below_set (below_set (below_set (below_set (below_set (below_set HB.out GG.out) GR.out) GR.out) GR.out) GR.out) GR.out) GR.out) GR.out) GR.out) GR.out) GR.out⟩
set_option maxHeartbeats 16000000 in
set_option maxRecDepth 100000 in
theorem pt_bare1 (a0 code a2 a4 a5 : Int) (A3 : Option Addr) (n3 c3 : Nat) (A6 : Option Addr) (n6 c6 : Nat) (A7 : Option Addr) (n7 c7 : Nat) (A8 : Option Addr) (n8 c8 : Nat) (A9 : Option Addr) (n9 c9 : Nat) (w : World) (hc : code = 2 ∨ code = 3) :
 Calls Try.prog 49 #[.agg #[.int .u16 a0, .int .u8 code, .int .u8 a2, .slice A3 n3 c3, .int .u16 a4, .int .u32 a5, .slice A6 n6 c6, .slice A7 n7 c7, .slice A8 n8 c8, .slice A9 n9 c9]] w fun x w' => x = .returned (.agg #[.int .u16 a0, .int .u8 code, .int .u8 a2, .slice A3 n3 c3, .int .u16 a4, .int .u32 a5, .slice none 0 0, .slice A7 n7 c7, .slice A8 n8 c8, .slice A9 n9 c9]) ∧ Below w.heap.size w w' := by
 have hu47 := Try.underlying47
 have hq : ∀ (ad : Addr) (w : World) (n c : Nat), (Go.binOp .eql 80 (.slice (some ad) n c) (.slice none 0 0)).run Try.prog w = .ok (.bool false) w := fun ad w n c => Lib.run_eql_slice_nil (P := Try.prog) w 80 83 (some ad) n c 0 0 Try.underlying80
 have HC := Aside0.mk (show code = 2 ∨ code = 3 from hc)
 clear hc
 go_enter Try.func49, Try.ntmps49
 go_wp2_with (first | ((with_reducible refine gate_dst (N := 1) rfl ?_); refine box_event ?hg (N := 1) ?hd (cs := #[.int .u16 a0, .int .u8 code, .int .u8 a2, .slice A3 n3 c3, .int .u16 a4, .int .u32 a5, .slice A6 n6 c6, .slice A7 n7 c7, .slice A8 n8 c8, .slice A9 n9 c9]) (t := 47) ?hr ?_; (case hd => rfl); (case hg => rfl); (case hr => first | (go_simp; done) | (go_simp; rfl)); intro g hgg w1 hbox hb; have BG := Aside0.mk hbox; have GG := Aside0.mk ((by rw [hgg]; exact Nat.le_refl _) : w.heap.size ≤ g); have HB := Aside0.mk hb; clear hbox hb hgg) | ((with_reducible refine gate_dst (N := 2) rfl ?_); refine box_event ?hg (N := 2) ?hd (cs := #[.int .u16 0, .int .u8 0, .int .u8 0, .slice none 0 0, .int .u16 0, .int .u32 0, .slice none 0 0, .slice none 0 0, .slice none 0 0, .slice none 0 0]) (t := 47) ?hr ?_; (case hd => rfl); (case hg => rfl); (case hr => first | (go_simp; done) | (go_simp; rfl)); intro gr hgr w2 hbox hb; have BR := Aside0.mk hbox; have NR := Aside0.mk ((by rw [hgr]; exact Nat.ne_of_lt (blk_lt BG.out)) : g ≠ gr); have GR := Aside0.mk ((by rw [hgr]; exact HB.out.size) : w.heap.size ≤ gr); have n0_ := Aside0.mk (blk_below BG.out hb); have n1_ := Aside0.mk (below_step HB.out hb); clear BG HB hbox hb hgr; have BG := n0_; have HB := n1_; clear n0_ n1_) | (go_at_call 50; refine (pt_texts2 g code _ _ _ _ _ _ _ _ _ _ BG.out HC.out).mono ?_; rintro x w3 ⟨b, rfl, hlt, hcs, hb⟩; have n0_ := Aside0.mk (blk_below BG.out hb); have n1_ := Aside0.mk (blk_below BR.out hb); have n2_ := Aside0.mk (below_step HB.out hb); have n3_ := Aside0.mk (show g ≠ b from by have := blk_lt BG.out; omega); have n4_ := Aside0.mk (show gr ≠ b from by have := blk_lt BR.out; omega); have BP := Aside0.mk hcs; clear BG BR HB hb hlt hcs; have BG := n0_; have BR := n1_; have HB := n2_; have NB := n3_; have NRB := n4_; clear n0_ n1_ n2_ n3_ n4_))
 go_loopg [9, 5] 2 (fun kq v9 v5 w' => ∃ x : Nat, v9 = .int .i64 x ∧ Aside0 (x + kq = 2 ∧ x ≤ 1) ∧ Aside0 (w'.heap[g]? = some (.cells #[.int .u16 a0, .int .u8 code, .int .u8 a2, .slice A3 n3 c3, .int .u16 a4, .int .u32 a5, if 1 ≤ x then .slice none 0 0 else .slice A6 n6 c6, if 2 ≤ x then .slice none 0 0 else .slice A7 n7 c7, .slice A8 n8 c8, .slice A9 n9 c9] 47 (0, 0))) ∧ Aside0 (w'.heap[gr]? = some (.cells #[.int .u16 0, .int .u8 0, .int .u8 0, .slice none 0 0, .int .u16 0, .int .u32 0, .slice none 0 0, .slice none 0 0, .slice none 0 0, .slice none 0 0] 47 (0, 0))) ∧ Aside0 (w'.heap[b]? = some (.cells (lieAt g 1) 83 (0, 0))) ∧ Aside0 (Below w.heap.size w w'))
 case atStart => exact ⟨0, rfl, ⟨by omega⟩, BG, BR, BP, HB⟩
 case round =>
  clear BG BR BP HB
  obtain ⟨x, rfl, hk, BG, BR, BP, HB⟩ := hrel
  have hx : x = 0 ∨ x = 1 := by have := hk.out.2; omega
  rcases hx with rfl | rfl
  · have HK := Aside0.mk hk.out
    clear hk
    have hz6 : wr.cell? ⟨g, 6, none⟩ = some (.slice A6 n6 c6) := (blk_cell BG.out 6).trans rfl
    have hf6 := blk_frozen BG.out 6
    have hp : wr.cell? ⟨b, 0, none⟩ = some (.pointer (some ⟨g, 6, none⟩)) := (blk_cell BP.out 0).trans rfl
    cases gk with
    | zero => have := HK.out; omega
    | succ k1 =>
     go_wp2
     go_roundg k1
     case measure => have := HK.out; omega
     case rel => exact ⟨1, rfl, ⟨by have := HK.out; omega⟩, ⟨blk_put BG.out 6 _ rfl⟩, ⟨blk_far BR.out NR.out.symm _⟩, ⟨blk_far BP.out NB.out.symm _⟩, ⟨below_set HB.out GG.out⟩⟩
  · clear hk
    replace BG : Aside0 (wr.heap[g]? = some (.cells #[.int .u16 a0, .int .u8 code, .int .u8 a2, .slice A3 n3 c3, .int .u16 a4, .int .u32 a5, .slice none 0 0, .slice A7 n7 c7, .slice A8 n8 c8, .slice A9 n9 c9] 47 (0, 0))) := BG
    have hz0 : wr.cell? ⟨g, 0, none⟩ = some (.int .u16 a0) := (blk_cell BG.out 0).trans rfl
    have hz1 : wr.cell? ⟨g, 1, none⟩ = some (.int .u8 code) := (blk_cell BG.out 1).trans rfl
    have hz2 : wr.cell? ⟨g, 2, none⟩ = some (.int .u8 a2) := (blk_cell BG.out 2).trans rfl
    have hz3 : wr.cell? ⟨g, 3, none⟩ = some (.slice A3 n3 c3) := (blk_cell BG.out 3).trans rfl
    have hz4 : wr.cell? ⟨g, 4, none⟩ = some (.int .u16 a4) := (blk_cell BG.out 4).trans rfl
    have hz5 : wr.cell? ⟨g, 5, none⟩ = some (.int .u32 a5) := (blk_cell BG.out 5).trans rfl
    have hz6 : wr.cell? ⟨g, 6, none⟩ = some (.slice none 0 0) := (blk_cell BG.out 6).trans rfl
    have hz7 : wr.cell? ⟨g, 7, none⟩ = some (.slice A7 n7 c7) := (blk_cell BG.out 7).trans rfl
    have hz8 : wr.cell? ⟨g, 8, none⟩ = some (.slice A8 n8 c8) := (blk_cell BG.out 8).trans rfl
    have hz9 : wr.cell? ⟨g, 9, none⟩ = some (.slice A9 n9 c9) := (blk_cell BG.out 9).trans rfl
    have hf0 := blk_frozen BG.out 0
    have hf1 := blk_frozen BG.out 1
    have hf2 := blk_frozen BG.out 2
    have hf3 := blk_frozen BG.out 3
    have hf4 := blk_frozen BG.out 4
    have hf5 := blk_frozen BG.out 5
    have hf6 := blk_frozen BG.out 6
    have hf7 := blk_frozen BG.out 7
    have hf8 := blk_frozen BG.out 8
    have hf9 := blk_frozen BG.out 9
    have hr0 : wr.cell? ⟨gr, 0, none⟩ = some (.int .u16 0) := (blk_cell BR.out 0).trans rfl
    have hr1 : wr.cell? ⟨gr, 1, none⟩ = some (.int .u8 0) := (blk_cell BR.out 1).trans rfl
    have hr2 : wr.cell? ⟨gr, 2, none⟩ = some (.int .u8 0) := (blk_cell BR.out 2).trans rfl
    have hr3 : wr.cell? ⟨gr, 3, none⟩ = some (.slice none 0 0) := (blk_cell BR.out 3).trans rfl
    have hr4 : wr.cell? ⟨gr, 4, none⟩ = some (.int .u16 0) := (blk_cell BR.out 4).trans rfl
    have hr5 : wr.cell? ⟨gr, 5, none⟩ = some (.int .u32 0) := (blk_cell BR.out 5).trans rfl
    have hr6 : wr.cell? ⟨gr, 6, none⟩ = some (.slice none 0 0) := (blk_cell BR.out 6).trans rfl
    have hr7 : wr.cell? ⟨gr, 7, none⟩ = some (.slice none 0 0) := (blk_cell BR.out 7).trans rfl
    have hr8 : wr.cell? ⟨gr, 8, none⟩ = some (.slice none 0 0) := (blk_cell BR.out 8).trans rfl
    have hr9 : wr.cell? ⟨gr, 9, none⟩ = some (.slice none 0 0) := (blk_cell BR.out 9).trans rfl
    have hs0 := blk_frozen BR.out 0
    have hs1 := blk_frozen BR.out 1
    have hs2 := blk_frozen BR.out 2
    have hs3 := blk_frozen BR.out 3
    have hs4 := blk_frozen BR.out 4
    have hs5 := blk_frozen BR.out 5
    have hs6 := blk_frozen BR.out 6
    have hs7 := blk_frozen BR.out 7
    have hs8 := blk_frozen BR.out 8
    have hs9 := blk_frozen BR.out 9
    have hr_ := NR.out
    have hr2_ := NR.out.symm
    go_wp2
    have q0 := blk_put BR.out 0 (.int .u16 a0) (rfl : _ = (#[.int .u16 a0, .int .u8 0, .int .u8 0, .slice none 0 0, .int .u16 0, .int .u32 0, .slice none 0 0, .slice none 0 0, .slice none 0 0, .slice none 0 0] : Array Value))
    have q1 := blk_put q0 1 (.int .u8 code) (rfl : _ = (#[.int .u16 a0, .int .u8 code, .int .u8 0, .slice none 0 0, .int .u16 0, .int .u32 0, .slice none 0 0, .slice none 0 0, .slice none 0 0, .slice none 0 0] : Array Value))
    have q2 := blk_put q1 2 (.int .u8 a2) (rfl : _ = (#[.int .u16 a0, .int .u8 code, .int .u8 a2, .slice none 0 0, .int .u16 0, .int .u32 0, .slice none 0 0, .slice none 0 0, .slice none 0 0, .slice none 0 0] : Array Value))
    have q3 := blk_put q2 3 (.slice A3 n3 c3) (rfl : _ = (#[.int .u16 a0, .int .u8 code, .int .u8 a2, .slice A3 n3 c3, .int .u16 0, .int .u32 0, .slice none 0 0, .slice none 0 0, .slice none 0 0, .slice none 0 0] : Array Value))
    have q4 := blk_put q3 4 (.int .u16 a4) (rfl : _ = (#[.int .u16 a0, .int .u8 code, .int .u8 a2, .slice A3 n3 c3, .int .u16 a4, .int .u32 0, .slice none 0 0, .slice none 0 0, .slice none 0 0, .slice none 0 0] : Array Value))
    have q5 := blk_put q4 5 (.int .u32 a5) (rfl : _ = (#[.int .u16 a0, .int .u8 code, .int .u8 a2, .slice A3 n3 c3, .int .u16 a4, .int .u32 a5, .slice none 0 0, .slice none 0 0, .slice none 0 0, .slice none 0 0] : Array Value))
    have q6 := blk_put q5 6 (.slice none 0 0) (rfl : _ = (#[.int .u16 a0, .int .u8 code, .int .u8 a2, .slice A3 n3 c3, .int .u16 a4, .int .u32 a5, .slice none 0 0, .slice none 0 0, .slice none 0 0, .slice none 0 0] : Array Value))
    have q7 := blk_put q6 7 (.slice A7 n7 c7) (rfl : _ = (#[.int .u16 a0, .int .u8 code, .int .u8 a2, .slice A3 n3 c3, .int .u16 a4, .int .u32 a5, .slice none 0 0, .slice A7 n7 c7, .slice none 0 0, .slice none 0 0] : Array Value))
    have q8 := blk_put q7 8 (.slice A8 n8 c8) (rfl : _ = (#[.int .u16 a0, .int .u8 code, .int .u8 a2, .slice A3 n3 c3, .int .u16 a4, .int .u32 a5, .slice none 0 0, .slice A7 n7 c7, .slice A8 n8 c8, .slice none 0 0] : Array Value))
    have q9 := blk_put q8 9 (.slice A9 n9 c9) (rfl : _ = (#[.int .u16 a0, .int .u8 code, .int .u8 a2, .slice A3 n3 c3, .int .u16 a4, .int .u32 a5, .slice none 0 0, .slice A7 n7 c7, .slice A8 n8 c8, .slice A9 n9 c9] : Array Value))
    refine bodyPost_ret (results_single rfl (Vals.cell gr 47 #[.int .u16 a0, .int .u8 code, .int .u8 a2, .slice A3 n3 c3, .int .u16 a4, .int .u32 a5, .slice none 0 0, .slice A7 n7 c7, .slice A8 n8 c8, .slice A9 n9 c9] (0, 0) _ rfl q9 hu47 rfl (by kernel_rfl) Vals.nil)) rfl ?_
    exact ⟨rfl, below_set (below_set (below_set (below_set (below_set (below_set (below_set (below_set (below_set (below_set (HB.out) GR.out) GR.out) GR.out) GR.out) GR.out) GR.out) GR.out) GR.out) GR.out) GR.out⟩
set_option maxHeartbeats 16000000 in
set_option maxRecDepth 100000 in
theorem pt_bare2 (a0 code a2 a4 a5 : Int) (A3 : Option Addr) (n3 c3 : Nat) (A6 : Option Addr) (n6 c6 : Nat) (A7 : Option Addr) (n7 c7 : Nat) (A8 : Option Addr) (n8 c8 : Nat) (A9 : Option Addr) (n9 c9 : Nat) (w : World) (hc : code = 1) :
 Calls Try.prog 49 #[.agg #[.int .u16 a0, .int .u8 code, .int .u8 a2, .slice A3 n3 c3, .int .u16 a4, .int .u32 a5, .slice A6 n6 c6, .slice A7 n7 c7, .slice A8 n8 c8, .slice A9 n9 c9]] w fun x w' => x = .returned (.agg #[.int .u16 a0, .int .u8 code, .int .u8 a2, .slice A3 n3 c3, .int .u16 a4, .int .u32 a5, .slice none 0 0, .slice none 0 0, .slice A8 n8 c8, .slice A9 n9 c9]) ∧ Below w.heap.size w w' := by
 have hu47 := Try.underlying47
 have hq : ∀ (ad : Addr) (w : World) (n c : Nat), (Go.binOp .eql 80 (.slice (some ad) n c) (.slice none 0 0)).run Try.prog w = .ok (.bool false) w := fun ad w n c => Lib.run_eql_slice_nil (P := Try.prog) w 80 83 (some ad) n c 0 0 Try.underlying80
 have HC := Aside0.mk (show code = 1 from hc)
 clear hc
 go_enter Try.func49, Try.ntmps49
 go_wp2_with (first | ((with_reducible refine gate_dst (N := 1) rfl ?_); refine box_event ?hg (N := 1) ?hd (cs := #[.int .u16 a0, .int .u8 code, .int .u8 a2, .slice A3 n3 c3, .int .u16 a4, .int .u32 a5, .slice A6 n6 c6, .slice A7 n7 c7, .slice A8 n8 c8, .slice A9 n9 c9]) (t := 47) ?hr ?_; (case hd => rfl); (case hg => rfl); (case hr => first | (go_simp; done) | (go_simp; rfl)); intro g hgg w1 hbox hb; have BG := Aside0.mk hbox; have GG := Aside0.mk ((by rw [hgg]; exact Nat.le_refl _) : w.heap.size ≤ g); have HB := Aside0.mk hb; clear hbox hb hgg) | ((with_reducible refine gate_dst (N := 2) rfl ?_); refine box_event ?hg (N := 2) ?hd (cs := #[.int .u16 0, .int .u8 0, .int .u8 0, .slice none 0 0, .int .u16 0, .int .u32 0, .slice none 0 0, .slice none 0 0, .slice none 0 0, .slice none 0 0]) (t := 47) ?hr ?_; (case hd => rfl); (case hg => rfl); (case hr => first | (go_simp; done) | (go_simp; rfl)); intro gr hgr w2 hbox hb; have BR := Aside0.mk hbox; have NR := Aside0.mk ((by rw [hgr]; exact Nat.ne_of_lt (blk_lt BG.out)) : g ≠ gr); have GR := Aside0.mk ((by rw [hgr]; exact HB.out.size) : w.heap.size ≤ gr); have n0_ := Aside0.mk (blk_below BG.out hb); have n1_ := Aside0.mk (below_step HB.out hb); clear BG HB hbox hb hgr; have BG := n0_; have HB := n1_; clear n0_ n1_) | (go_at_call 50; refine (pt_texts1 g code _ _ _ _ _ _ _ _ _ _ BG.out HC.out).mono ?_; rintro x w3 ⟨b, rfl, hlt, hcs, hb⟩; have n0_ := Aside0.mk (blk_below BG.out hb); have n1_ := Aside0.mk (blk_below BR.out hb); have n2_ := Aside0.mk (below_step HB.out hb); have n3_ := Aside0.mk (show g ≠ b from by have := blk_lt BG.out; omega); have n4_ := Aside0.mk (show gr ≠ b from by have := blk_lt BR.out; omega); have BP := Aside0.mk hcs; clear BG BR HB hb hlt hcs; have BG := n0_; have BR := n1_; have HB := n2_; have NB := n3_; have NRB := n4_; clear n0_ n1_ n2_ n3_ n4_))
 go_loopg [9, 5] 3 (fun kq v9 v5 w' => ∃ x : Nat, v9 = .int .i64 x ∧ Aside0 (x + kq = 3 ∧ x ≤ 2) ∧ Aside0 (w'.heap[g]? = some (.cells #[.int .u16 a0, .int .u8 code, .int .u8 a2, .slice A3 n3 c3, .int .u16 a4, .int .u32 a5, if 1 ≤ x then .slice none 0 0 else .slice A6 n6 c6, if 2 ≤ x then .slice none 0 0 else .slice A7 n7 c7, .slice A8 n8 c8, .slice A9 n9 c9] 47 (0, 0))) ∧ Aside0 (w'.heap[gr]? = some (.cells #[.int .u16 0, .int .u8 0, .int .u8 0, .slice none 0 0, .int .u16 0, .int .u32 0, .slice none 0 0, .slice none 0 0, .slice none 0 0, .slice none 0 0] 47 (0, 0))) ∧ Aside0 (w'.heap[b]? = some (.cells (lieAt g 2) 83 (0, 0))) ∧ Aside0 (Below w.heap.size w w'))
 case atStart => exact ⟨0, rfl, ⟨by omega⟩, BG, BR, BP, HB⟩
 case round =>
  clear BG BR BP HB
  obtain ⟨x, rfl, hk, BG, BR, BP, HB⟩ := hrel
  have hx : x = 0 ∨ x = 1 ∨ x = 2 := by have := hk.out.2; omega
  rcases hx with rfl | rfl | rfl
  · have HK := Aside0.mk hk.out
    clear hk
    have hz6 : wr.cell? ⟨g, 6, none⟩ = some (.slice A6 n6 c6) := (blk_cell BG.out 6).trans rfl
    have hf6 := blk_frozen BG.out 6
    have hp : wr.cell? ⟨b, 0, none⟩ = some (.pointer (some ⟨g, 6, none⟩)) := (blk_cell BP.out 0).trans rfl
    cases gk with
    | zero => have := HK.out; omega
    | succ k1 =>
     go_wp2
     go_roundg k1
     case measure => have := HK.out; omega
     case rel => exact ⟨1, rfl, ⟨by have := HK.out; omega⟩, ⟨blk_put BG.out 6 _ rfl⟩, ⟨blk_far BR.out NR.out.symm _⟩, ⟨blk_far BP.out NB.out.symm _⟩, ⟨below_set HB.out GG.out⟩⟩
  · have HK := Aside0.mk hk.out
    clear hk
    have hz7 : wr.cell? ⟨g, 7, none⟩ = some (.slice A7 n7 c7) := (blk_cell BG.out 7).trans rfl
    have hf7 := blk_frozen BG.out 7
    have hp : wr.cell? ⟨b, 1, none⟩ = some (.pointer (some ⟨g, 7, none⟩)) := (blk_cell BP.out 1).trans rfl
    cases gk with
    | zero => have := HK.out; omega
    | succ k1 =>
     go_wp2
     go_roundg k1
     case measure => have := HK.out; omega
     case rel => exact ⟨2, rfl, ⟨by have := HK.out; omega⟩, ⟨blk_put BG.out 7 _ rfl⟩, ⟨blk_far BR.out NR.out.symm _⟩, ⟨blk_far BP.out NB.out.symm _⟩, ⟨below_set HB.out GG.out⟩⟩
  · clear hk
    replace BG : Aside0 (wr.heap[g]? = some (.cells #[.int .u16 a0, .int .u8 code, .int .u8 a2, .slice A3 n3 c3, .int .u16 a4, .int .u32 a5, .slice none 0 0, .slice none 0 0, .slice A8 n8 c8, .slice A9 n9 c9] 47 (0, 0))) := BG
    have hz0 : wr.cell? ⟨g, 0, none⟩ = some (.int .u16 a0) := (blk_cell BG.out 0).trans rfl
    have hz1 : wr.cell? ⟨g, 1, none⟩ = some (.int .u8 code) := (blk_cell BG.out 1).trans rfl
    have hz2 : wr.cell? ⟨g, 2, none⟩ = some (.int .u8 a2) := (blk_cell BG.out 2).trans rfl
    have hz3 : wr.cell? ⟨g, 3, none⟩ = some (.slice A3 n3 c3) := (blk_cell BG.out 3).trans rfl
    have hz4 : wr.cell? ⟨g, 4, none⟩ = some (.int .u16 a4) := (blk_cell BG.out 4).trans rfl
    have hz5 : wr.cell? ⟨g, 5, none⟩ = some (.int .u32 a5) := (blk_cell BG.out 5).trans rfl
    have hz6 : wr.cell? ⟨g, 6, none⟩ = some (.slice none 0 0) := (blk_cell BG.out 6).trans rfl
    have hz7 : wr.cell? ⟨g, 7, none⟩ = some (.slice none 0 0) := (blk_cell BG.out 7).trans rfl
    have hz8 : wr.cell? ⟨g, 8, none⟩ = some (.slice A8 n8 c8) := (blk_cell BG.out 8).trans rfl
    have hz9 : wr.cell? ⟨g, 9, none⟩ = some (.slice A9 n9 c9) := (blk_cell BG.out 9).trans rfl
    have hf0 := blk_frozen BG.out 0
    have hf1 := blk_frozen BG.out 1
    have hf2 := blk_frozen BG.out 2
    have hf3 := blk_frozen BG.out 3
    have hf4 := blk_frozen BG.out 4
    have hf5 := blk_frozen BG.out 5
    have hf6 := blk_frozen BG.out 6
    have hf7 := blk_frozen BG.out 7
    have hf8 := blk_frozen BG.out 8
    have hf9 := blk_frozen BG.out 9
    have hr0 : wr.cell? ⟨gr, 0, none⟩ = some (.int .u16 0) := (blk_cell BR.out 0).trans rfl
    have hr1 : wr.cell? ⟨gr, 1, none⟩ = some (.int .u8 0) := (blk_cell BR.out 1).trans rfl
    have hr2 : wr.cell? ⟨gr, 2, none⟩ = some (.int .u8 0) := (blk_cell BR.out 2).trans rfl
    have hr3 : wr.cell? ⟨gr, 3, none⟩ = some (.slice none 0 0) := (blk_cell BR.out 3).trans rfl
    have hr4 : wr.cell? ⟨gr, 4, none⟩ = some (.int .u16 0) := (blk_cell BR.out 4).trans rfl
    have hr5 : wr.cell? ⟨gr, 5, none⟩ = some (.int .u32 0) := (blk_cell BR.out 5).trans rfl
    have hr6 : wr.cell? ⟨gr, 6, none⟩ = some (.slice none 0 0) := (blk_cell BR.out 6).trans rfl
    have hr7 : wr.cell? ⟨gr, 7, none⟩ = some (.slice none 0 0) := (blk_cell BR.out 7).trans rfl
    have hr8 : wr.cell? ⟨gr, 8, none⟩ = some (.slice none 0 0) := (blk_cell BR.out 8).trans rfl
    have hr9 : wr.cell? ⟨gr, 9, none⟩ = some (.slice none 0 0) := (blk_cell BR.out 9).trans rfl
    have hs0 := blk_frozen BR.out 0
    have hs1 := blk_frozen BR.out 1
    have hs2 := blk_frozen BR.out 2
    have hs3 := blk_frozen BR.out 3
    have hs4 := blk_frozen BR.out 4
    have hs5 := blk_frozen BR.out 5
    have hs6 := blk_frozen BR.out 6
    have hs7 := blk_frozen BR.out 7
    have hs8 := blk_frozen BR.out 8
    have hs9 := blk_frozen BR.out 9
    have hr_ := NR.out
    have hr2_ := NR.out.symm
    go_wp2
    have q0 := blk_put BR.out 0 (.int .u16 a0) (rfl : _ = (#[.int .u16 a0, .int .u8 0, .int .u8 0, .slice none 0 0, .int .u16 0, .int .u32 0, .slice none 0 0, .slice none 0 0, .slice none 0 0, .slice none 0 0] : Array Value))
    have q1 := blk_put q0 1 (.int .u8 code) (rfl : _ = (#[.int .u16 a0, .int .u8 code, .int .u8 0, .slice none 0 0, .int .u16 0, .int .u32 0, .slice none 0 0, .slice none 0 0, .slice none 0 0, .slice none 0 0] : Array Value))
    have q2 := blk_put q1 2 (.int .u8 a2) (rfl : _ = (#[.int .u16 a0, .int .u8 code, .int .u8 a2, .slice none 0 0, .int .u16 0, .int .u32 0, .slice none 0 0, .slice none 0 0, .slice none 0 0, .slice none 0 0] : Array Value))
    have q3 := blk_put q2 3 (.slice A3 n3 c3) (rfl : _ = (#[.int .u16 a0, .int .u8 code, .int .u8 a2, .slice A3 n3 c3, .int .u16 0, .int .u32 0, .slice none 0 0, .slice none 0 0, .slice none 0 0, .slice none 0 0] : Array Value))
    have q4 := blk_put q3 4 (.int .u16 a4) (rfl : _ = (#[.int .u16 a0, .int .u8 code, .int .u8 a2, .slice A3 n3 c3, .int .u16 a4, .int .u32 0, .slice none 0 0, .slice none 0 0, .slice none 0 0, .slice none 0 0] : Array Value))
    have q5 := blk_put q4 5 (.int .u32 a5) (rfl : _ = (#[.int .u16 a0, .int .u8 code, .int .u8 a2, .slice A3 n3 c3, .int .u16 a4, .int .u32 a5, .slice none 0 0, .slice none 0 0, .slice none 0 0, .slice none 0 0] : Array Value))
    have q6 := blk_put q5 6 (.slice none 0 0) (rfl : _ = (#[.int .u16 a0, .int .u8 code, .int .u8 a2, .slice A3 n3 c3, .int .u16 a4, .int .u32 a5, .slice none 0 0, .slice none 0 0, .slice none 0 0, .slice none 0 0] : Array Value))
    have q7 := blk_put q6 7 (.slice none 0 0) (rfl : _ = (#[.int .u16 a0, .int .u8 code, .int .u8 a2, .slice A3 n3 c3, .int .u16 a4, .int .u32 a5, .slice none 0 0, .slice none 0 0, .slice none 0 0, .slice none 0 0] : Array Value))
    have q8 := blk_put q7 8 (.slice A8 n8 c8) (rfl : _ = (#[.int .u16 a0, .int .u8 code, .int .u8 a2, .slice A3 n3 c3, .int .u16 a4, .int .u32 a5, .slice none 0 0, .slice none 0 0, .slice A8 n8 c8, .slice none 0 0] : Array Value))
    have q9 := blk_put q8 9 (.slice A9 n9 c9) (rfl : _ = (#[.int .u16 a0, .int .u8 code, .int .u8 a2, .slice A3 n3 c3, .int .u16 a4, .int .u32 a5, .slice none 0 0, .slice none 0 0, .slice A8 n8 c8, .slice A9 n9 c9] : Array Value))
    refine bodyPost_ret (results_single rfl (Vals.cell gr 47 #[.int .u16 a0, .int .u8 code, .int .u8 a2, .slice A3 n3 c3, .int .u16 a4, .int .u32 a5, .slice none 0 0, .slice none 0 0, .slice A8 n8 c8, .slice A9 n9 c9] (0, 0) _ rfl q9 hu47 rfl (by kernel_rfl) Vals.nil)) rfl ?_
    exact ⟨rfl, below_set (below_set (below_set (below_set (below_set (below_set (below_set (below_set (below_set (below_set (HB.out) GR.out) GR.out) GR.out) GR.out) GR.out) GR.out) GR.out) GR.out) GR.out) GR.out⟩
end Go.Proofs.Ytgjeahgagciagaa.Print
namespace Go.Proofs.Ytgjeahgagciagaa.Print
open Go.RowKit Go.Proofs.YtgjeahgagciagaaW.PrintWords Go.Proofs.YtgjeahgagciagaaW.PrintLast Go.Proofs.YtgjeahgagciagaaW.PrintMore
attribute [local go_sem] max2_int min2_int max_two min_two max_three min_three max_four min_four
set_option linter.unusedVariables false
set_option linter.unusedSimpArgs false
def wire_Put.l0 : Nat → List Int → Int → Int → Option (List Int)
 | 0, _, _, _ => none
 | k + 1, x0, x1, x7 => if x7 ≥ 0 then (if 0 ≤ (wrap64 (8 * x7)) then (if x0.length < 140737488355328 then (wire_Put.l0 k (x0 ++ [(shr .u64 x1 (wrap64 (8 * x7))) % 256]) x1 (wrap64 (x7 - 1))) else (none)) else (none)) else (some x0)
def wire_Put.f (k : Nat) (l0 : List Int) (a1 : Int) (a2 : Int) : Option (List Int) := wire_Put.l0 k l0 a1 (wrap64 (a2 - 1))
set_option maxHeartbeats 8000000 in
set_option maxRecDepth 100000 in
theorem wire_Put.calls (k : Nat) (P0_ : Nat → Prop) (u9000_ : Value) (l0 : List Int) (a1 : Int) (a2 : Int) (r : List Int) (w0 w : World) (hB : Below w0.heap.size w0 w) (ho0 : Kd.R (Kd.int .u8) 5 w w0.heap.size P0_ u9000_ l0) (h : wire_Put.f k l0 a1 a2 = some r) :
 Calls Try.prog 59 #[u9000_, .int .u64 a1, .int .i64 a2] w fun e w' => ∃ v0_ : Value, e = .returned (v0_) ∧ Kd.R (Kd.int .u8) 5 w' w0.heap.size (fun k_ => (P0_ k_ ∨ w.heap.size ≤ k_)) v0_ r ∧ Below w0.heap.size w0 w' ∧ Kept w w' (fun k_ => P0_ k_) := by
 have HO0 := Aside0.mk (show Kd.R (Kd.int .u8) 5 w w0.heap.size (fun k_ => (P0_ k_ ∨ w.heap.size ≤ k_)) u9000_ l0 from Kd.R_mono ho0 (fun k_ hk => (.inl hk)))
 have HK := Aside0.mk (Kept.refl w (fun k_ => P0_ k_))
 have HW0 := Aside0.mk hB.size
 have HB := Aside0.mk hB
 clear hB
 have H : (wire_Put.l0 k l0 a1 (wrap64 (a2 - 1))) = some r := h
 clear h
 have H' := Aside0.mk H
 clear H
 go_enter Try.func59, Try.ntmps59
 go_wp2
 go_loopg [0, 7] k (fun kq v0 v7 w' => ∃ (x0_1 : List Int) (x7_1 : Int), v7 = .int .i64 x7_1 ∧ Aside0 (wire_Put.l0 kq x0_1 a1 x7_1 = some r) ∧ Aside0 (kq ≤ k) ∧ Aside0 (Kd.R (Kd.int .u8) 5 w' w0.heap.size (fun k_ => (P0_ k_ ∨ w.heap.size ≤ k_)) v0 x0_1) ∧ Aside0 (Kept w w' (fun k_ => P0_ k_)) ∧ Aside0 (Below w0.heap.size w0 w'))
 case atStart => exact ⟨(l0), (wrap64 (a2 - 1)), (by first | rfl | (simp; done) | (simp [*]; done)), H', ⟨Nat.le_refl _⟩, ⟨by (with_reducible repeat (first | apply Kd.R_alloc | apply Kd.R_drewN | apply Kd.R_drew)); exact HO0.out⟩, ⟨by repeat (first | (with_reducible first | exact HK.out | apply Kept.alloc | apply Kept.drewN | apply Kept.drew) | exact HK.out)⟩, ⟨by repeat (first | (with_reducible first | exact HB.out | apply below_alloc | apply pw_below_drewN | apply below_drew1) | exact HB.out)⟩⟩
 case round =>
  clear H'
  try clear p2
  obtain ⟨x0_1, x7_1, rfl, HA, HK1, HO_0, HK, HB⟩ := hrel
  cases gk with
  | zero => exact absurd HA.out (by simp [wire_Put.l0])
  | succ k1 =>
   have H := HA.out
   clear HA
   simp only [wire_Put.l0] at H
   by_cases c4 : x7_1 ≥ 0
   · rw [if_pos c4] at H
     have c4b0 : decide (0 ≤ x7_1) = true := decide_eq_true c4
     clear c4
     obtain ⟨ji5, hji5⟩ : ∃ j_ : Int, (wrap64 (8 * x7_1)) = j_ := ⟨_, rfl⟩
     replace H : (if 0 ≤ (ji5) then (if x0_1.length < 140737488355328 then (wire_Put.l0 k1 (x0_1 ++ [(shr .u64 a1 (ji5)) % 256]) a1 (wrap64 (x7_1 - 1))) else (none)) else (none)) = some r := by first | (rw [hji5] at H; exact H) | (simp only [hji5] at H ⊢; exact H)
     have hji5w : (IntKind.i64.wrap (8 * x7_1)) = ji5 := (i64_w _).trans hji5
     by_cases c6 : 0 ≤ (ji5)
     · rw [if_pos c6] at H
       have c6b0 := eq_true c6
       have c6b1 : decide (0 ≤ (ji5)) = true := decide_eq_true c6
       clear c6
       obtain ⟨ji7, hji7⟩ : ∃ j_ : Int, (shr .u64 a1 (ji5)) = j_ := ⟨_, rfl⟩
       replace H : (if x0_1.length < 140737488355328 then (wire_Put.l0 k1 (x0_1 ++ [(ji7) % 256]) a1 (wrap64 (x7_1 - 1))) else (none)) = some r := by first | (rw [hji7] at H; exact H) | (simp only [hji7] at H ⊢; exact H)
       have hji7_ : (a1 / 2 ^ min (ji5).toNat 64) = ji7 := hji7
       have hji7z : (ji5) ≤ 64 → (a1 / 2 ^ (ji5).toNat) = ji7 := shr_small hji7
       by_cases c8 : x0_1.length < 140737488355328
       · rw [if_pos c8] at H
         have LMc8 := Aside0.mk c8
         clear c8
         obtain ⟨y380, hy380⟩ : ∃ y_ : List Int, y_ = (x0_1 ++ [(ji7) % 256]) := ⟨_, rfl⟩
         replace H : (wire_Put.l0 k1 y380 a1 (wrap64 (x7_1 - 1))) = some r := by first | (rw [hy380]; with_reducible exact H) | (have H2_ := (Option.bind_some _ _).symm.trans H; rw [hy380]; with_reducible exact H2_) | (have H2_ := (Option.bind_some _ _).symm.trans H; with_reducible exact H2_) | with_reducible exact H | (rw [hy380]; exact H) | exact H
         have Ny380 := Aside0.mk hy380
         clear hy380
         have H' := Aside0.mk H
         clear H
         go_wp2_with (first | ((with_reducible refine gate_builtin (b := .append) (xs := #[.tmp 14, .tmp 20]) rfl ?_); at_builtin; refine Kd.R_append (Kd.int .u8) (w0 := w0) w0.heap.size rfl (.tmp 14) (.tmp 20) 23 5 (.int .u8 0) 1 rfl Try.underlying23 info5 rfl (by decide) (by omega) u0 x0_1 ((ji7) % 256) [.int .u8 ((ji7) % 256)] (fun k_ => (P0_ k_ ∨ w.heap.size ≤ k_)) (fun _ => False) rfl rfl ?aP (fun _ hk => hk.elim) ?aF ?aO ?aB ?aS ?aL ?_; (case aP => exact rfl); (case aB => exact (by repeat (first | (with_reducible first | exact HB.out | apply below_alloc | apply pw_below_drewN | apply below_drew1) | exact HB.out))); (case aF => exact (fun k_ hk => (.inr (Nat.le_trans (by first | exact HK.out.1 | exact (show Kept w _ (fun k_ => P0_ k_) from by repeat (first | (with_reducible first | exact HK.out | apply Kept.alloc | apply Kept.drewN | apply Kept.drew) | exact HK.out)).1) hk)))); (case aO => exact (by (with_reducible repeat (first | apply Kd.R_alloc | apply Kd.R_drewN | apply Kd.R_drew)); exact HO_0.out)); (case aS => exact (below_size (by repeat (first | (with_reducible first | exact HB.out | apply below_alloc | apply pw_below_drewN | apply below_drew1) | exact HB.out)))); (case aL => have := LMc8.out; omega); intro v381 w9 ho hb hg hat; rw [← Ny380.out] at ho; have n0_ := Aside0.mk (hb); have n1_ := Aside0.mk (Kept.of_grown (S := (fun k_ => P0_ k_)) hg (by repeat (first | (with_reducible first | exact HK.out | apply Kept.alloc | apply Kept.drewN | apply Kept.drew) | exact HK.out)) (fun k_ e_ => (HO_0.out.1 k_ e_))); have n2_ := Aside0.mk (ho); clear HB; clear HK; clear HO_0; have HB := n0_; have HK := n1_; have HO382 := n2_; clear n0_ n1_ n2_; clear ho hb hg hat))
         go_roundg k1
         case measure => have := HK1.out; omega
         case rel => exact ⟨(y380), (wrap64 (x7_1 - 1)), (by first | rfl | (simp; done) | (simp [*]; done)), (by first | exact H' | (simp only [hji5, hji7]; exact H')), ⟨by have := HK1.out; omega⟩, ⟨by (with_reducible repeat (first | apply Kd.R_alloc | apply Kd.R_drewN | apply Kd.R_drew)); exact HO382.out⟩, ⟨by repeat (first | (with_reducible first | exact HK.out | apply Kept.alloc | apply Kept.drewN | apply Kept.drew) | exact HK.out)⟩, ⟨by repeat (first | (with_reducible first | exact HB.out | apply below_alloc | apply pw_below_drewN | apply below_drew1) | exact HB.out)⟩⟩
       · rw [if_neg c8] at H
         exact absurd H (by simp)
     · rw [if_neg c6] at H
       exact absurd H (by simp)
   · rw [if_neg c4] at H
     have c4b0 : decide (0 ≤ x7_1) = false := decide_eq_false c4
     clear c4
     obtain rfl := Option.some.inj H
     go_wp2
     go_ret
     exact ⟨_, by first | rfl | (simp [errW_none, errW_some] <;> rfl) | (simp [*, errW_none, errW_some] <;> rfl), by (with_reducible repeat (first | apply Kd.R_alloc | apply Kd.R_drewN | apply Kd.R_drew)); exact HO_0.out, by repeat (first | (with_reducible first | exact HB.out | apply below_alloc | apply pw_below_drewN | apply below_drew1) | exact HB.out), by repeat (first | (with_reducible first | exact HK.out | apply Kept.alloc | apply Kept.drewN | apply Kept.drew) | exact HK.out)⟩
end Go.Proofs.Ytgjeahgagciagaa.Print
namespace Go.Proofs.Ytgjeahgagciagaa.Print
open Go.RowKit Go.Proofs.YtgjeahgagciagaaW.PrintWords Go.Proofs.YtgjeahgagciagaaW.PrintLast Go.Proofs.YtgjeahgagciagaaW.PrintMore
attribute [local go_sem] max2_int min2_int max_two min_two max_three min_three max_four min_four
set_option linter.unusedVariables false
set_option linter.unusedSimpArgs false
def ctl_Put.f (k : Nat) (a0 : Int) (a1 : Int) (l2 : List Int) : Option (List Int × Int) := if (wrap64 ((l2.length : Int) + 4)) > 65535 then (some (([] : List Int), 3)) else ((wire_Put.f k (([a0, a1] : List Int)) (IntKind.u64.wrap (wrap64 ((l2.length : Int) + 4))) 2).bind fun t386 => (if t386.length + l2.length < 140737488355328 then (some ((t386 ++ l2), 0)) else (none)))
set_option maxHeartbeats 8000000 in
set_option maxRecDepth 100000 in
theorem ctl_Put.calls (k : Nat) (a0 : Int) (a1 : Int) (A2 : Option Addr) (c2 : Nat) (l2 : List Int) (r1 : List Int) (r2 : Int) (w : World) (hr2 : Kd.C (Kd.int .u8) w A2 l2.length l2) (hc2 : l2.length ≤ c2) (h : ctl_Put.f k a0 a1 l2 = some (r1, r2)) :
 Calls Try.prog 51 #[.int .u8 a0, .int .u8 a1, .slice A2 l2.length c2] w fun e w' => ∃ v0_ : Value, e = .returned (.tuple #[v0_, .int .i64 r2]) ∧ Kd.R (Kd.int .u8) 5 w' w.heap.size (fun _ => True) v0_ r1 ∧ Below w.heap.size w w' := by
 have HR2 := Aside0.mk hr2
 have HC2 := Aside0.mk hc2
 clear hr2 hc2
 have HB := Aside0.mk (Below.refl w.heap.size w)
 have H : (if (wrap64 ((l2.length : Int) + 4)) > 65535 then (some (([] : List Int), 3)) else ((wire_Put.f k (([a0, a1] : List Int)) (IntKind.u64.wrap (wrap64 ((l2.length : Int) + 4))) 2).bind fun t386 => (if t386.length + l2.length < 140737488355328 then (some ((t386 ++ l2), 0)) else (none)))) = some (r1, r2) := h
 clear h
 by_cases c4 : (wrap64 ((l2.length : Int) + 4)) > 65535
 · rw [if_pos c4] at H
   have c4b0 : decide (65535 < (wrap64 ((l2.length : Int) + 4))) = true := decide_eq_true c4
   clear c4
   simp only [Option.some.injEq, Prod.mk.injEq] at H
   obtain ⟨rfl, rfl⟩ := H
   go_enter Try.func51, Try.ntmps51
   go_wp2
   go_ret2
   exact ⟨_, by first | rfl | (simp [errW_none, errW_some] <;> rfl) | (simp [*, errW_none, errW_some] <;> rfl), by first | exact Kd.R_nil _ _ _ _ _ | exact Kd.N_nil _ _ _ _ _ | exact Kd.V_nil _ _ _ _ _ | exact Kd.Q_nil _ _ _ _ _ | exact Kd.S_nil _ _ _ _ _, by repeat (first | (with_reducible first | exact HB.out | apply below_alloc | apply pw_below_drewN | apply below_drew1) | exact HB.out)⟩
 · rw [if_neg c4] at H
   have c4b0 : decide (65535 < (wrap64 ((l2.length : Int) + 4))) = false := decide_eq_false c4
   clear c4
   obtain ⟨y383, hy383⟩ : ∃ y_ : List Int, y_ = (([a0, a1] : List Int)) := ⟨_, rfl⟩
   replace H : ((wire_Put.f k y383 (IntKind.u64.wrap (wrap64 ((l2.length : Int) + 4))) 2).bind fun t386 => (if t386.length + l2.length < 140737488355328 then (some ((t386 ++ l2), 0)) else (none))) = some (r1, r2) := by first | (rw [hy383]; with_reducible exact H) | (have H2_ := (Option.bind_some _ _).symm.trans H; rw [hy383]; with_reducible exact H2_) | (have H2_ := (Option.bind_some _ _).symm.trans H; with_reducible exact H2_) | with_reducible exact H | (rw [hy383]; exact H) | exact H
   have Ny383 := Aside0.mk hy383
   clear hy383
   replace H := Option.bind_eq_some_iff.mp H
   obtain ⟨t386, A50, H⟩ := H
   replace H : (if t386.length + l2.length < 140737488355328 then (some ((t386 ++ l2), 0)) else (none)) = some (r1, r2) := H
   have A5 := Aside0.mk A50
   clear A50
   by_cases c6 : t386.length + l2.length < 140737488355328
   · rw [if_pos c6] at H
     have LMc6 := Aside0.mk c6
     clear c6
     obtain ⟨y389, hy389⟩ : ∃ y_ : List Int, y_ = (t386 ++ l2) := ⟨_, rfl⟩
     replace H : (some (y389, 0)) = some (r1, r2) := by first | (rw [hy389]; with_reducible exact H) | (have H2_ := (Option.bind_some _ _).symm.trans H; rw [hy389]; with_reducible exact H2_) | (have H2_ := (Option.bind_some _ _).symm.trans H; with_reducible exact H2_) | with_reducible exact H | (rw [hy389]; exact H) | exact H
     have Ny389 := Aside0.mk hy389
     clear hy389
     simp only [Option.some.injEq, Prod.mk.injEq] at H
     obtain ⟨rfl, rfl⟩ := H
     go_enter Try.func51, Try.ntmps51
     go_wp2_with (first | ((with_reducible refine gate_dst (N := 16) rfl ?_); refine Kd.R_lit (Kd.int .u8) _ 5 ?hg (N := 16) ?hd (xs := ([a0, a1] : List Int)) (inner := [.int .u8 a0, .int .u8 a1]) (ok := fun _ => True) (okp := fun _ => True) ?hr ?hp (fun _ hk => hk) trivial (Below.refl _ _) (Nat.le_refl _) (by simp) ?_; (case hd => rfl); (case hg => rfl); (case hr => first | (go_simp; done) | (go_simp; simp only [IntKind.wrap_u8, IntKind.wrap_u16, IntKind.wrap_u32, IntKind.wrap_u64]; done) | (go_simp; simp only [IntKind.wrap_u8, IntKind.wrap_u16, IntKind.wrap_u32, IntKind.wrap_u64, Int.tmod_eq_emod_of_nonneg (Int.natCast_nonneg _), Int.emod_emod]; done) | (go_simp; rfl)); (case hp => exact (Reps.one (show Kd.M (Kd.int .u8) _ _ _ a0 [.int .u8 a0] from rfl) (Reps.one (show Kd.M (Kd.int .u8) _ _ _ a1 [.int .u8 a1] from rfl) (Reps.none _ _)))); intro v384 w7 ho8 hb hg_ hnew_; clear hg_ hnew_; (first | rw [← Ny383.out] at ho8 | (simp only [Int.reduceToNat] at ho8; rw [← Ny383.out] at ho8)); have n0_ := Aside0.mk (Kd.R_lower ho8 (below_size (by repeat (first | (with_reducible first | exact HB.out | apply below_alloc | apply pw_below_drewN | apply below_drew1) | exact HB.out)))); have n1_ := Aside0.mk (below_step (by repeat (first | (with_reducible first | exact HB.out | apply below_alloc | apply pw_below_drewN | apply below_drew1) | exact HB.out)) hb); clear HB; have HO385 := n0_; have HB := n1_; clear n0_ n1_; clear hb ho8; obtain ⟨Ao9, co9, eo9⟩ := Kd.R_slice HO385.out; subst eo9) | ((with_reducible refine gate_callee (f := 59) rfl ?_); refine goesL_ (some 19) rfl rfl Try.func59 (by kernel_rfl) rfl #[.slice Ao9 y383.length co9, .int .u64 (IntKind.u64.wrap (wrap64 ((l2.length : Int) + 4))), .int .i64 2] rfl (by (try simp only [List.map_toArray, List.map_cons, List.map_nil]); first | done | rfl | (simp only [List.length_drop, List.length_take]; rfl)) ?_; (with_reducible refine (wire_Put.calls k (fun k_ => some k_ = (.slice Ao9 y383.length co9 : Value).ownBlock) (.slice Ao9 y383.length co9) y383 (IntKind.u64.wrap (wrap64 ((l2.length : Int) + 4))) 2 t386 w _ ?side1 ?side2 A5.out).mono ?_); (case side1 => repeat (first | (with_reducible first | exact HB.out | apply below_alloc | apply pw_below_drewN | apply below_drew1) | exact HB.out)); (case side2 => exact Kd.R_tight rfl HO385.out); rintro e w10 ⟨v387, rfl, ho0, hb, hkp⟩; refine ⟨_, rfl, ?_⟩; have n0_ := Aside0.mk (Kd.R_mono (ok' := fun k_ => True) ho0 (fun k_ hk_ => trivial)); have n1_ := Aside0.mk (hb); clear HB; clear HO385; have HO388 := n0_; have HB := n1_; clear n0_ n1_; (try clear hb); (try clear hkp); (try clear ho0)) | ((with_reducible refine gate_builtin (b := .append) (xs := #[.tmp 19, .tmp 20]) rfl ?_); at_builtin; refine Kd.R_append_rows (Kd.int .u8) (w0 := w) w.heap.size rfl (.tmp 19) (.tmp 20) 23 5 (.int .u8 0) 1 rfl Try.underlying23 info5 rfl (by decide) (by omega) v387 t386 l2 _ _ _ (fun _ => True) (fun _ => False) rfl rfl ?aO ?aR (fun _ _ h => h) (fun _ h => h.elim) ?aF ?aB ?aS ?aL ?_; (case aR => repeat (first | exact (Kd.C_below HR2.out HB.out) | (with_reducible refine Kd.C_alloc ?_ _) | (with_reducible refine Kd.C_drewN ?_ _) | (with_reducible refine Kd.C_drew ?_))); (case aB => exact (by repeat (first | (with_reducible first | exact HB.out | apply below_alloc | apply pw_below_drewN | apply below_drew1) | exact HB.out))); (case aF => exact (fun _ _ => trivial)); (case aO => exact (by (with_reducible repeat (first | apply Kd.R_alloc | apply Kd.R_drewN | apply Kd.R_drew)); exact HO388.out)); (case aS => exact (below_size (by repeat (first | (with_reducible first | exact HB.out | apply below_alloc | apply pw_below_drewN | apply below_drew1) | exact HB.out)))); (case aL => have := LMc6.out; omega); intro v390 w11 ho hb hg hat; rw [← Ny389.out] at ho; have n0_ := Aside0.mk (hb); have n1_ := Aside0.mk (ho); clear HB; clear HO388; have HB := n0_; have HO391 := n1_; clear n0_ n1_; clear ho hb hg hat))
     go_ret2
     exact ⟨_, by first | rfl | (simp [errW_none, errW_some] <;> rfl) | (simp [*, errW_none, errW_some] <;> rfl), by (with_reducible repeat (first | apply Kd.R_alloc | apply Kd.R_drewN | apply Kd.R_drew)); exact HO391.out, by repeat (first | (with_reducible first | exact HB.out | apply below_alloc | apply pw_below_drewN | apply below_drew1) | exact HB.out)⟩
   · rw [if_neg c6] at H
     exact absurd H (by simp)
end Go.Proofs.Ytgjeahgagciagaa.Print
namespace Go.Proofs.Ytgjeahgagciagaa.Print
open Go.RowKit Go.Proofs.YtgjeahgagciagaaW.PrintWords Go.Proofs.YtgjeahgagciagaaW.PrintLast Go.Proofs.YtgjeahgagciagaaW.PrintMore
attribute [local go_sem] max2_int min2_int max_two min_two max_three min_three max_four min_four
set_option linter.unusedVariables false
set_option linter.unusedSimpArgs false
def slices_Clone_byte_byte.f (l0 : List Int) : Option (List Int) := if l0.length < 140737488355328 then some l0 else none
set_option maxHeartbeats 8000000 in
set_option maxRecDepth 100000 in
theorem slices_Clone_byte_byte.calls (A0 : Option Addr) (c0 : Nat) (l0 : List Int) (r : List Int) (w : World) (hr0 : Kd.C (Kd.int .u8) w A0 l0.length l0) (hc0 : l0.length ≤ c0) (h : slices_Clone_byte_byte.f l0 = some r) :
 Calls Try.prog 48 #[.slice A0 l0.length c0] w fun e w' => ∃ v0_ : Value, e = .returned (v0_) ∧ Kd.R (Kd.int .u8) 5 w' w.heap.size (fun _ => True) v0_ r ∧ Below w.heap.size w w' := by
 unfold slices_Clone_byte_byte.f at h
 by_cases hlim : l0.length < 140737488355328
 · rw [if_pos hlim] at h
   obtain rfl := Option.some.inj h
   have LM := Aside0.mk hlim
   clear h hlim
   have HR0 := Aside0.mk hr0
   have HC0 := Aside0.mk hc0
   have HB := Aside0.mk (Below.refl w.heap.size w)
   rcases A0 with _ | ad
   · have hz : l0.length = 0 := by
      rcases Nat.eq_zero_or_pos l0.length with h0 | h0
      · exact h0
      · obtain ⟨ad, h, _⟩ := hr0.2.2 h0
        cases h
     obtain rfl : l0 = [] := List.eq_nil_of_length_eq_zero hz
     clear hr0 hc0
     have hq : ∀ (w : World) (n c : Nat), (Go.binOp .eql 23 (.slice none n c) (.slice none 0 0)).run Try.prog w = .ok (.bool true) w := fun w n c => Lib.run_eql_slice_nil (P := Try.prog) w 23 5 none n c 0 0 Try.underlying23
     go_enter Try.func48, Try.ntmps48
     go_wp2
     go_ret
     exact ⟨_, rfl, Kd.R_nil _ _ _ _ _, HB.out⟩
   · clear hr0 hc0
     have hq : ∀ (w : World) (n c : Nat), (Go.binOp .eql 23 (.slice (some ad) n c) (.slice none 0 0)).run Try.prog w = .ok (.bool false) w := fun w n c => Lib.run_eql_slice_nil (P := Try.prog) w 23 5 (some ad) n c 0 0 Try.underlying23
     obtain ⟨y1, hy1⟩ : ∃ y_ : List Int, y_ = ([] : List Int) := ⟨_, rfl⟩
     have Ny1 := Aside0.mk hy1
     clear hy1
     go_enter Try.func48, Try.ntmps48
     go_wp2_with (first | ((with_reducible refine gate_dst (N := 5) rfl ?_); refine Kd.R_lit (Kd.int .u8) _ 5 ?hg (N := 5) ?hd (xs := ([] : List Int)) (inner := []) (ok := fun _ => True) (okp := fun _ => True) ?hr ?hp (fun _ hk => hk) trivial (Below.refl _ _) (Nat.le_refl _) (by simp) ?_; (case hd => rfl); (case hg => rfl); (case hr => first | (go_simp; done) | (go_simp; rfl)); (case hp => exact (Reps.none _ _)); intro v1 w1 ho7 hb hg_ hnew_; clear hg_ hnew_; rw [← Ny1.out] at ho7; have n0_ := Aside0.mk (Kd.R_lower ho7 (below_size (by repeat (first | (with_reducible first | exact HB.out | apply below_alloc | apply pw_below_drewN | apply below_drew1) | exact HB.out)))); have n1_ := Aside0.mk (below_step (by repeat (first | (with_reducible first | exact HB.out | apply below_alloc | apply pw_below_drewN | apply below_drew1) | exact HB.out)) hb); clear HB; have HO1 := n0_; have HB := n1_; clear n0_ n1_; clear hb ho7) | ((with_reducible refine gate_builtin (b := .append) (xs := #[.tmp 5, .tmp 6]) rfl ?_); at_builtin; refine Kd.R_append_rows (Kd.int .u8) (w0 := w) w.heap.size rfl (.tmp 5) (.tmp 6) 23 5 (.int .u8 0) 1 rfl Try.underlying23 info5 rfl (by decide) (by omega) v1 y1 l0 _ _ _ (fun _ => True) (fun _ => False) rfl rfl ?aO ?aR (fun _ _ h => h) (fun _ h => h.elim) ?aF ?aB ?aS ?aL ?_; (case aR => repeat (first | exact (Kd.C_below HR0.out HB.out) | (with_reducible refine Kd.C_alloc ?_ _) | (with_reducible refine Kd.C_drewN ?_ _) | (with_reducible refine Kd.C_drew ?_))); (case aB => exact (by repeat (first | (with_reducible first | exact HB.out | apply below_alloc | apply pw_below_drewN | apply below_drew1) | exact HB.out))); (case aF => exact (fun _ _ => trivial)); (case aO => exact (by (with_reducible repeat (first | apply Kd.R_alloc | apply Kd.R_drewN | apply Kd.R_drew)); exact HO1.out)); (case aS => exact (below_size (by repeat (first | (with_reducible first | exact HB.out | apply below_alloc | apply pw_below_drewN | apply below_drew1) | exact HB.out)))); (case aL => have h1_ := LM.out; rw [Ny1.out, List.length_nil]; omega); intro v2 w2 ho hb hg hat; have n0_ := Aside0.mk (hb); have n1_ := Aside0.mk (ho); clear HB HO1 hg hat ho hb; have HB := n0_; have HO2 := n1_; clear n0_ n1_))
     go_ret
     have e1 : y1 ++ l0 = l0 := by rw [Ny1.out]; rfl
     exact ⟨_, by first | rfl | (simp; done) | (simp [*]; done), by rw [e1] at HO2; exact HO2.out, HB.out⟩
 · rw [if_neg hlim] at h
   exact absurd h (by simp)
end Go.Proofs.Ytgjeahgagciagaa.Print
namespace Go.Proofs.Ytgjeahgagciagaa.Print
open Go.RowKit Go.Proofs.YtgjeahgagciagaaW.PrintWords Go.Proofs.YtgjeahgagciagaaW.PrintLast Go.Proofs.YtgjeahgagciagaaW.PrintMore
attribute [local go_sem] max2_int min2_int max_two min_two max_three min_three max_four min_four
set_option linter.unusedVariables false
set_option linter.unusedSimpArgs false
def putF (k : Nat) (code id : Int) : List Int → List (List Int) → Option (List Int × Int)
 | b, [] => ctl_Put.f k code id b
 | b, s :: t => if (s.length : Int) > 255 then some ([], 3) else if b.length + 1 + s.length < 140737488355328 then putF k code id ((b ++ [IntKind.u8.wrap (s.length : Int)]) ++ s) t else none
def papPut2 (k : Nat) (a0 code a2 : Int) (l3 : List S57) (a4 a5 : Int) (l6 l7 l8 l9 : List Int) : Option (List Int × Int) := if a0 = 49187 then (if 0 < wrap64 (wrap64 (wrap64 (wrap64 (l3.length : Int)) + (l8.length : Int)) + (l9.length : Int)) then some ([], 9) else if a4 = 0 then (if a5 = 0 then (slices_Clone_byte_byte.f l8).bind fun t => putF k code a2 t [l6, l7] else some ([], 9)) else some ([], 9)) else some ([], 8)
def papPut1 (k : Nat) (a0 code a2 : Int) (l3 : List S57) (a4 a5 : Int) (l6 l7 l8 l9 : List Int) : Option (List Int × Int) := if a0 = 49187 then (if 0 < wrap64 (wrap64 (wrap64 (wrap64 (l3.length : Int) + (l7.length : Int)) + (l8.length : Int)) + (l9.length : Int)) then some ([], 9) else if a4 = 0 then (if a5 = 0 then (slices_Clone_byte_byte.f l8).bind fun t => putF k code a2 t [l6] else some ([], 9)) else some ([], 9)) else some ([], 8)
def papPut0 (k : Nat) (a0 code a2 : Int) (l3 : List S57) (a4 a5 : Int) (l6 l7 l8 l9 : List Int) : Option (List Int × Int) := if a0 = 49187 then (if 0 < wrap64 (wrap64 (wrap64 (wrap64 ((l3.length : Int) + (l6.length : Int)) + (l7.length : Int))) + (l9.length : Int)) then some ([], 9) else if a4 = 0 then (if a5 = 0 then (slices_Clone_byte_byte.f l8).bind fun t => putF k code a2 t [] else some ([], 9)) else some ([], 9)) else some ([], 8)
set_option maxHeartbeats 16000000 in
set_option maxRecDepth 100000 in
theorem pt_put2 (k : Nat) (a0 code a2 a4 a5 : Int) (A3 A6 A7 A8 A9 : Option Addr) (c3 c6 c7 c8 c9 : Nat) (l3 : List S57) (l6 l7 l8 l9 : List Int) (r1 : List Int) (r2 : Int) (w : World) (hc : code = 1) (hr6 : Kd.C (Kd.int .u8) w A6 l6.length l6) (hr7 : Kd.C (Kd.int .u8) w A7 l7.length l7) (hr8 : Kd.C (Kd.int .u8) w A8 l8.length l8) (hc6 : l6.length ≤ c6) (hc7 : l7.length ≤ c7) (hc8 : l8.length ≤ c8) (h : papPut2 k a0 code a2 l3 a4 a5 l6 l7 l8 l9 = some (r1, r2)) :
 Calls Try.prog 31 #[.agg #[.int .u16 a0, .int .u8 code, .int .u8 a2, .slice A3 l3.length c3, .int .u16 a4, .int .u32 a5, .slice A6 l6.length c6, .slice A7 l7.length c7, .slice A8 l8.length c8, .slice A9 l9.length c9]] w fun x w' => ∃ v0_ : Value, x = .returned (.tuple #[v0_, .int .i64 r2]) ∧ Kd.R (Kd.int .u8) 5 w' w.heap.size (fun _ => True) v0_ r1 ∧ Below w.heap.size w w' := by
 have hu47 := Try.underlying47
 have HC := Aside0.mk hc
 have HR6 := Aside0.mk hr6
 have HR7 := Aside0.mk hr7
 have HR8 := Aside0.mk hr8
 have HC6 := Aside0.mk hc6
 have HC7 := Aside0.mk hc7
 have HC8 := Aside0.mk hc8
 have H := Aside0.mk h
 clear hc hr6 hr7 hr8 hc6 hc7 hc8 h
 go_enter Try.func31, Try.ntmps31
 go_upto_region 2 with (first | ((with_reducible refine gate_dst (N := 1) rfl ?_); refine box_event ?hg (N := 1) ?hd (cs := #[.int .u16 a0, .int .u8 code, .int .u8 a2, .slice A3 l3.length c3, .int .u16 a4, .int .u32 a5, .slice A6 l6.length c6, .slice A7 l7.length c7, .slice A8 l8.length c8, .slice A9 l9.length c9]) (t := 47) ?hr ?_; (case hd => rfl); (case hg => rfl); (case hr => first | (go_simp; done) | (go_simp; rfl)); intro g hgg w1 hbox hb; have BG := Aside0.mk hbox; have GG := Aside0.mk ((by rw [hgg]; exact Nat.le_refl _) : w.heap.size ≤ g); have HB := Aside0.mk hb; clear hbox hb hgg; have hz0 : w1.cell? ⟨g, 0, none⟩ = some (.int .u16 a0) := (blk_cell BG.out 0).trans rfl; have hz1 : w1.cell? ⟨g, 1, none⟩ = some (.int .u8 code) := (blk_cell BG.out 1).trans rfl; have hz2 : w1.cell? ⟨g, 2, none⟩ = some (.int .u8 a2) := (blk_cell BG.out 2).trans rfl; have hz3 : w1.cell? ⟨g, 3, none⟩ = some (.slice A3 l3.length c3) := (blk_cell BG.out 3).trans rfl; have hz4 : w1.cell? ⟨g, 4, none⟩ = some (.int .u16 a4) := (blk_cell BG.out 4).trans rfl; have hz5 : w1.cell? ⟨g, 5, none⟩ = some (.int .u32 a5) := (blk_cell BG.out 5).trans rfl; have hz6 : w1.cell? ⟨g, 6, none⟩ = some (.slice A6 l6.length c6) := (blk_cell BG.out 6).trans rfl; have hz7 : w1.cell? ⟨g, 7, none⟩ = some (.slice A7 l7.length c7) := (blk_cell BG.out 7).trans rfl; have hz8 : w1.cell? ⟨g, 8, none⟩ = some (.slice A8 l8.length c8) := (blk_cell BG.out 8).trans rfl; have hz9 : w1.cell? ⟨g, 9, none⟩ = some (.slice A9 l9.length c9) := (blk_cell BG.out 9).trans rfl) | (go_at_call 49; refine (pt_bare2 _ _ _ _ _ _ _ _ _ _ _ _ _ _ _ _ _ _ _ _ _ HC.out).mono ?_; rintro x w2 ⟨rfl, hb⟩; have n0_ := Aside0.mk (blk_below BG.out hb); have n1_ := Aside0.mk (below_step HB.out hb); clear BG HB hb hz0 hz1 hz2 hz3 hz4 hz5 hz6 hz7 hz8 hz9; have BG := n0_; have HB := n1_; clear n0_ n1_) | ((with_reducible refine gate_dst (N := 4) rfl ?_); refine box_event ?hg (N := 4) ?hd (cs := #[.int .u16 0, .int .u8 0, .int .u8 0, .slice none 0 0, .int .u16 0, .int .u32 0, .slice none 0 0, .slice none 0 0, .slice none 0 0, .slice none 0 0]) (t := 47) ?hr ?_; (case hd => rfl); (case hg => rfl); (case hr => first | (go_simp; done) | (go_simp; rfl)); intro gr hgr w3 hbox hb; have BR := Aside0.mk hbox; have NR := Aside0.mk ((by rw [hgr]; exact Nat.ne_of_lt (blk_lt BG.out)) : g ≠ gr); have GR := Aside0.mk ((by rw [hgr]; exact HB.out.size) : w.heap.size ≤ gr); have n0_ := Aside0.mk (blk_below BG.out hb); have n1_ := Aside0.mk (below_step HB.out hb); clear BG HB hbox hb hgr; have BG := n0_; have HB := n1_; clear n0_ n1_; have hr0 : w3.cell? ⟨gr, 0, none⟩ = some (.int .u16 0) := (blk_cell BR.out 0).trans rfl; have hr1 : w3.cell? ⟨gr, 1, none⟩ = some (.int .u8 0) := (blk_cell BR.out 1).trans rfl; have hr2 : w3.cell? ⟨gr, 2, none⟩ = some (.int .u8 0) := (blk_cell BR.out 2).trans rfl; have hr3 : w3.cell? ⟨gr, 3, none⟩ = some (.slice none 0 0) := (blk_cell BR.out 3).trans rfl; have hr4 : w3.cell? ⟨gr, 4, none⟩ = some (.int .u16 0) := (blk_cell BR.out 4).trans rfl; have hr5 : w3.cell? ⟨gr, 5, none⟩ = some (.int .u32 0) := (blk_cell BR.out 5).trans rfl; have hr6 : w3.cell? ⟨gr, 6, none⟩ = some (.slice none 0 0) := (blk_cell BR.out 6).trans rfl; have hr7 : w3.cell? ⟨gr, 7, none⟩ = some (.slice none 0 0) := (blk_cell BR.out 7).trans rfl; have hr8 : w3.cell? ⟨gr, 8, none⟩ = some (.slice none 0 0) := (blk_cell BR.out 8).trans rfl; have hr9 : w3.cell? ⟨gr, 9, none⟩ = some (.slice none 0 0) := (blk_cell BR.out 9).trans rfl; have hs0 := blk_frozen BR.out 0; have hs1 := blk_frozen BR.out 1; have hs2 := blk_frozen BR.out 2; have hs3 := blk_frozen BR.out 3; have hs4 := blk_frozen BR.out 4; have hs5 := blk_frozen BR.out 5; have hs6 := blk_frozen BR.out 6; have hs7 := blk_frozen BR.out 7; have hs8 := blk_frozen BR.out 8; have hs9 := blk_frozen BR.out 9))
 clear hr0 hr1 hr2 hr3 hr4 hr5 hr6 hr7 hr8 hr9 hs0 hs1 hs2 hs3 hs4 hs5 hs6 hs7 hs8 hs9
 have q0 := blk_put BR.out 0 (.int .u16 a0) (rfl : _ = (#[.int .u16 a0, .int .u8 0, .int .u8 0, .slice none 0 0, .int .u16 0, .int .u32 0, .slice none 0 0, .slice none 0 0, .slice none 0 0, .slice none 0 0] : Array Value))
 have q1 := blk_put q0 1 (.int .u8 code) (rfl : _ = (#[.int .u16 a0, .int .u8 code, .int .u8 0, .slice none 0 0, .int .u16 0, .int .u32 0, .slice none 0 0, .slice none 0 0, .slice none 0 0, .slice none 0 0] : Array Value))
 have q2 := blk_put q1 2 (.int .u8 a2) (rfl : _ = (#[.int .u16 a0, .int .u8 code, .int .u8 a2, .slice none 0 0, .int .u16 0, .int .u32 0, .slice none 0 0, .slice none 0 0, .slice none 0 0, .slice none 0 0] : Array Value))
 have q3 := blk_put q2 3 (.slice A3 l3.length c3) (rfl : _ = (#[.int .u16 a0, .int .u8 code, .int .u8 a2, .slice A3 l3.length c3, .int .u16 0, .int .u32 0, .slice none 0 0, .slice none 0 0, .slice none 0 0, .slice none 0 0] : Array Value))
 have q4 := blk_put q3 4 (.int .u16 a4) (rfl : _ = (#[.int .u16 a0, .int .u8 code, .int .u8 a2, .slice A3 l3.length c3, .int .u16 a4, .int .u32 0, .slice none 0 0, .slice none 0 0, .slice none 0 0, .slice none 0 0] : Array Value))
 have q5 := blk_put q4 5 (.int .u32 a5) (rfl : _ = (#[.int .u16 a0, .int .u8 code, .int .u8 a2, .slice A3 l3.length c3, .int .u16 a4, .int .u32 a5, .slice none 0 0, .slice none 0 0, .slice none 0 0, .slice none 0 0] : Array Value))
 have q6 := blk_put q5 6 (.slice none 0 0) (rfl : _ = (#[.int .u16 a0, .int .u8 code, .int .u8 a2, .slice A3 l3.length c3, .int .u16 a4, .int .u32 a5, .slice none 0 0, .slice none 0 0, .slice none 0 0, .slice none 0 0] : Array Value))
 have q7 := blk_put q6 7 (.slice none 0 0) (rfl : _ = (#[.int .u16 a0, .int .u8 code, .int .u8 a2, .slice A3 l3.length c3, .int .u16 a4, .int .u32 a5, .slice none 0 0, .slice none 0 0, .slice none 0 0, .slice none 0 0] : Array Value))
 have q8 := blk_put q7 8 (.slice A8 l8.length c8) (rfl : _ = (#[.int .u16 a0, .int .u8 code, .int .u8 a2, .slice A3 l3.length c3, .int .u16 a4, .int .u32 a5, .slice none 0 0, .slice none 0 0, .slice A8 l8.length c8, .slice none 0 0] : Array Value))
 have q9 := blk_put q8 9 (.slice A9 l9.length c9) (rfl : _ = (#[.int .u16 a0, .int .u8 code, .int .u8 a2, .slice A3 l3.length c3, .int .u16 a4, .int .u32 a5, .slice none 0 0, .slice none 0 0, .slice A8 l8.length c8, .slice A9 l9.length c9] : Array Value))
 have n0_ := Aside0.mk q9
 have n1_ := Aside0.mk (show (((((((((((w3.setCell ⟨gr, 0, none⟩ (.int .u16 a0)).setCell ⟨gr, 1, none⟩ (.int .u8 code)).setCell ⟨gr, 2, none⟩ (.int .u8 a2)).setCell ⟨gr, 3, none⟩ (.slice A3 l3.length c3)).setCell ⟨gr, 4, none⟩ (.int .u16 a4)).setCell ⟨gr, 5, none⟩ (.int .u32 a5)).setCell ⟨gr, 6, none⟩ (.slice none 0 0)).setCell ⟨gr, 7, none⟩ (.slice none 0 0)).setCell ⟨gr, 8, none⟩ (.slice A8 l8.length c8)).setCell ⟨gr, 9, none⟩ (.slice A9 l9.length c9))).heap[g]? = some (.cells #[.int .u16 a0, .int .u8 code, .int .u8 a2, .slice A3 l3.length c3, .int .u16 a4, .int .u32 a5, .slice A6 l6.length c6, .slice A7 l7.length c7, .slice A8 l8.length c8, .slice A9 l9.length c9] 47 (0, 0)) from (blk_far (p := ⟨gr, 9, none⟩) (blk_far (p := ⟨gr, 8, none⟩) (blk_far (p := ⟨gr, 7, none⟩) (blk_far (p := ⟨gr, 6, none⟩) (blk_far (p := ⟨gr, 5, none⟩) (blk_far (p := ⟨gr, 4, none⟩) (blk_far (p := ⟨gr, 3, none⟩) (blk_far (p := ⟨gr, 2, none⟩) (blk_far (p := ⟨gr, 1, none⟩) (blk_far (p := ⟨gr, 0, none⟩) BG.out NR.out (.int .u16 a0)) NR.out (.int .u8 code)) NR.out (.int .u8 a2)) NR.out (.slice A3 l3.length c3)) NR.out (.int .u16 a4)) NR.out (.int .u32 a5)) NR.out (.slice none 0 0)) NR.out (.slice none 0 0)) NR.out (.slice A8 l8.length c8)) NR.out (.slice A9 l9.length c9)))
 have n2_ := Aside0.mk (show Below w.heap.size w ((((((((((w3.setCell ⟨gr, 0, none⟩ (.int .u16 a0)).setCell ⟨gr, 1, none⟩ (.int .u8 code)).setCell ⟨gr, 2, none⟩ (.int .u8 a2)).setCell ⟨gr, 3, none⟩ (.slice A3 l3.length c3)).setCell ⟨gr, 4, none⟩ (.int .u16 a4)).setCell ⟨gr, 5, none⟩ (.int .u32 a5)).setCell ⟨gr, 6, none⟩ (.slice none 0 0)).setCell ⟨gr, 7, none⟩ (.slice none 0 0)).setCell ⟨gr, 8, none⟩ (.slice A8 l8.length c8)).setCell ⟨gr, 9, none⟩ (.slice A9 l9.length c9)) from (below_set (below_set (below_set (below_set (below_set (below_set (below_set (below_set (below_set (below_set HB.out GR.out) GR.out) GR.out) GR.out) GR.out) GR.out) GR.out) GR.out) GR.out) GR.out))
 clear BG BR HB q0 q1 q2 q3 q4 q5 q6 q7 q8 q9
 generalize ((((((((((w3.setCell ⟨gr, 0, none⟩ (.int .u16 a0)).setCell ⟨gr, 1, none⟩ (.int .u8 code)).setCell ⟨gr, 2, none⟩ (.int .u8 a2)).setCell ⟨gr, 3, none⟩ (.slice A3 l3.length c3)).setCell ⟨gr, 4, none⟩ (.int .u16 a4)).setCell ⟨gr, 5, none⟩ (.int .u32 a5)).setCell ⟨gr, 6, none⟩ (.slice none 0 0)).setCell ⟨gr, 7, none⟩ (.slice none 0 0)).setCell ⟨gr, 8, none⟩ (.slice A8 l8.length c8)).setCell ⟨gr, 9, none⟩ (.slice A9 l9.length c9)) = w5 at n0_ n1_ n2_ ⊢
 have BR := n0_
 have BG := n1_
 have HB := n2_
 clear n0_ n1_ n2_
 have hz0 : w5.cell? ⟨g, 0, none⟩ = some (.int .u16 a0) := (blk_cell BG.out 0).trans rfl
 have hz1 : w5.cell? ⟨g, 1, none⟩ = some (.int .u8 code) := (blk_cell BG.out 1).trans rfl
 have hz2 : w5.cell? ⟨g, 2, none⟩ = some (.int .u8 a2) := (blk_cell BG.out 2).trans rfl
 have hz3 : w5.cell? ⟨g, 3, none⟩ = some (.slice A3 l3.length c3) := (blk_cell BG.out 3).trans rfl
 have hz4 : w5.cell? ⟨g, 4, none⟩ = some (.int .u16 a4) := (blk_cell BG.out 4).trans rfl
 have hz5 : w5.cell? ⟨g, 5, none⟩ = some (.int .u32 a5) := (blk_cell BG.out 5).trans rfl
 have hz6 : w5.cell? ⟨g, 6, none⟩ = some (.slice A6 l6.length c6) := (blk_cell BG.out 6).trans rfl
 have hz7 : w5.cell? ⟨g, 7, none⟩ = some (.slice A7 l7.length c7) := (blk_cell BG.out 7).trans rfl
 have hz8 : w5.cell? ⟨g, 8, none⟩ = some (.slice A8 l8.length c8) := (blk_cell BG.out 8).trans rfl
 have hz9 : w5.cell? ⟨g, 9, none⟩ = some (.slice A9 l9.length c9) := (blk_cell BG.out 9).trans rfl
 have hr0 : w5.cell? ⟨gr, 0, none⟩ = some (.int .u16 a0) := (blk_cell BR.out 0).trans rfl
 have hr1 : w5.cell? ⟨gr, 1, none⟩ = some (.int .u8 code) := (blk_cell BR.out 1).trans rfl
 have hr2 : w5.cell? ⟨gr, 2, none⟩ = some (.int .u8 a2) := (blk_cell BR.out 2).trans rfl
 have hr3 : w5.cell? ⟨gr, 3, none⟩ = some (.slice A3 l3.length c3) := (blk_cell BR.out 3).trans rfl
 have hr4 : w5.cell? ⟨gr, 4, none⟩ = some (.int .u16 a4) := (blk_cell BR.out 4).trans rfl
 have hr5 : w5.cell? ⟨gr, 5, none⟩ = some (.int .u32 a5) := (blk_cell BR.out 5).trans rfl
 have hr6 : w5.cell? ⟨gr, 6, none⟩ = some (.slice none 0 0) := (blk_cell BR.out 6).trans rfl
 have hr7 : w5.cell? ⟨gr, 7, none⟩ = some (.slice none 0 0) := (blk_cell BR.out 7).trans rfl
 have hr8 : w5.cell? ⟨gr, 8, none⟩ = some (.slice A8 l8.length c8) := (blk_cell BR.out 8).trans rfl
 have hr9 : w5.cell? ⟨gr, 9, none⟩ = some (.slice A9 l9.length c9) := (blk_cell BR.out 9).trans rfl
 have h := H.out
 unfold papPut2 at h
 by_cases h0 : a0 = 49187
 · rw [if_pos h0] at h
   have hp0 : (a0 != 49187) = false := bne_eq_false_iff_eq.mpr h0
   clear h0
   by_cases hs : 0 < wrap64 (wrap64 (wrap64 (wrap64 (l3.length : Int)) + (l8.length : Int)) + (l9.length : Int))
   · rw [if_pos hs] at h
     have hs0 : decide (0 < wrap64 (wrap64 (wrap64 (wrap64 (l3.length : Int)) + (l8.length : Int)) + (l9.length : Int))) = true := decide_eq_true hs
     clear hs
     simp only [Option.some.injEq, Prod.mk.injEq] at h
     obtain ⟨rfl, rfl⟩ := h
     go_wp2
     go_ret2
     exact ⟨_, rfl, Kd.R_nil _ _ _ _ _, HB.out⟩
   · rw [if_neg hs] at h
     have hs0 : decide (0 < wrap64 (wrap64 (wrap64 (wrap64 (l3.length : Int)) + (l8.length : Int)) + (l9.length : Int))) = false := decide_eq_false hs
     clear hs
     by_cases h4 : a4 = 0
     · rw [if_pos h4] at h
       have hp4 : (a4 != 0) = false := bne_eq_false_iff_eq.mpr h4
       clear h4
       by_cases h5 : a5 = 0
       · rw [if_pos h5] at h
         have hp5 : (a5 != 0) = false := bne_eq_false_iff_eq.mpr h5
         clear h5
         obtain ⟨t8, hcl, h⟩ := Option.bind_eq_some_iff.mp h
         have HCL := Aside0.mk hcl
         replace H := Aside0.mk h
         clear hcl h
         go_wp2_with (first | (go_at_call 48; refine (slices_Clone_byte_byte.calls A8 c8 l8 t8 _ ?s1 ?s2 HCL.out).mono ?_; (case s1 => exact Kd.C_below HR8.out HB.out); (case s2 => exact HC8.out); rintro x w6 ⟨v, rfl, hv, hb⟩; have HV := Aside0.mk (Kd.R_lower hv HB.out.size); have n0_ := Aside0.mk (blk_below BG.out hb); have n1_ := Aside0.mk (below_step HB.out hb); clear BG BR HB hb hv; have BG := n0_; have HB := n1_; clear n0_ n1_) | (go_at_call 50; refine (pt_texts1 g code _ _ _ _ _ _ _ _ _ _ BG.out HC.out).mono ?_; rintro x w7 ⟨b, rfl, hlt, hcs, hb⟩; have n0_ := Aside0.mk (blk_below BG.out hb); have n1_ := Aside0.mk (Kd.R_below HV.out hb); have n2_ := Aside0.mk (below_step HB.out hb); have BP := Aside0.mk hcs; clear BG HV HB hb hlt hcs; have BG := n0_; have HV := n1_; have HB := n2_; clear n0_ n1_ n2_))
         obtain ⟨A0_, c0_, e0_⟩ := Kd.R_slice HV.out
         subst e0_
         go_loopg [50, 5, 7] 3 (fun kq v50 v5 v7 w' => ∃ (x : Nat) (bx : List Int) (A : Option Addr) (cx : Nat), v50 = .int .i64 x ∧ v5 = .slice A bx.length cx ∧ Aside0 (x + kq = 3 ∧ x ≤ 2) ∧ Aside0 (putF k code a2 bx (([l6, l7] : List (List Int)).drop x) = some (r1, r2)) ∧ Aside0 (Kd.R (Kd.int .u8) 5 w' w.heap.size (fun _ => True) (.slice A bx.length cx) bx) ∧ Aside0 (w'.heap[g]? = some (.cells #[.int .u16 a0, .int .u8 code, .int .u8 a2, .slice A3 l3.length c3, .int .u16 a4, .int .u32 a5, .slice A6 l6.length c6, .slice A7 l7.length c7, .slice A8 l8.length c8, .slice A9 l9.length c9] 47 (0, 0))) ∧ Aside0 (w'.heap[b]? = some (.cells (lieAt g 2) 83 (0, 0))) ∧ Aside0 (Below w.heap.size w w'))
         case atStart => exact ⟨0, t8, _, _, rfl, rfl, ⟨by omega⟩, H, HV, BG, BP, HB⟩
         case round =>
          clear BG BP HB HV H
          obtain ⟨x, bx, A, cx, rfl, rfl, hk, HF, HU, BG, BP, HB⟩ := hrel
          have hx : x = 0 ∨ x = 1 ∨ x = 2 := by have := hk.out.2; omega
          rcases hx with rfl | rfl | rfl
          · have HK := Aside0.mk hk.out
            clear hk
            have hz6 : wr.cell? ⟨g, 6, none⟩ = some (.slice A6 l6.length c6) := (blk_cell BG.out 6).trans rfl
            have hp : wr.cell? ⟨b, 0, none⟩ = some (.pointer (some ⟨g, 6, none⟩)) := (blk_cell BP.out 0).trans rfl
            have hf := HF.out
            simp only [List.drop_zero, List.drop_succ_cons, putF] at hf
            cases gk with
            | zero => have := HK.out; omega
            | succ k1 =>
             by_cases h255 : (l6.length : Int) > 255
             · rw [if_pos h255] at hf
               have hb0 : decide (255 < (l6.length : Int)) = true := decide_eq_true h255
               simp only [Option.some.injEq, Prod.mk.injEq] at hf
               obtain ⟨rfl, rfl⟩ := hf
               clear h255
               go_wp2
               go_ret2
               exact ⟨_, rfl, Kd.R_nil _ _ _ _ _, HB.out⟩
             · rw [if_neg h255] at hf
               have hb0 : decide (255 < (l6.length : Int)) = false := decide_eq_false h255
               split at hf
               · rename_i hlen
                 have HF2 := Aside0.mk hf
                 have HLEN := Aside0.mk hlen
                 clear hf hlen h255 HF
                 go_wp2
                 have n0_ := Aside0.mk (blk_drew BG.out)
                 have n1_ := Aside0.mk (blk_drew BP.out)
                 have n2_ := Aside0.mk (Kd.R_drew HU.out)
                 have n3_ := Aside0.mk (below_drew1 HB.out)
                 clear BG BP HU HB
                 have BG := n0_
                 have BP := n1_
                 have HU := n2_
                 have HB := n3_
                 clear n0_ n1_ n2_ n3_
                 have hcd : wr.drew.cell? ⟨g, 6, none⟩ = some (.slice A6 l6.length c6) := (blk_cell BG.out 6).trans rfl
                 refine start_ (n := 13) (S := fun w' => w'.cell? ⟨g, 6, none⟩ = some (.slice A6 l6.length c6)) (ds := []) #[false, false, false, false, false, false, false, false, false, false, false, false, false] (by kernel_rfl) rfl rfl (hcd) (fun hHeld => ?_)
                 clear hcd
                 generalize wr.drew = w8 at BG BP HU HB hHeld ⊢
                 refine pure_ (i := 0) (N := some 59) (v := ?_) (a' := ?_) #[true, false, false, false, false, false, false, false, false, false, false, false, false] rfl rfl (by kernel_rfl) (fun _ _ _ h => h) (Or.inl ⟨by rfl, ?_⟩) ?_ ?_
                 rotate_left
                 · intro w'
                   go_simp
                   with_reducible rfl
                 rotate_left
                 · simp only [Act.put, List.setIfInBounds_toArray, List.set_cons_zero, List.set_cons_succ, i64_w, i32_w]
                   rfl
                 refine pure_ (i := 1) (N := some 60) (v := ?_) (a' := ?_) #[true, true, false, false, false, false, false, false, false, false, false, false, false] rfl rfl (by kernel_rfl) (fun _ _ _ h => h) (Or.inl ⟨by rfl, ?_⟩) ?_ ?_
                 rotate_left
                 · intro w'
                   go_simp
                   with_reducible rfl
                 rotate_left
                 · simp only [Act.put, List.setIfInBounds_toArray, List.set_cons_zero, List.set_cons_succ, i64_w, i32_w]
                   rfl
                 refine pure_ (i := 2) (N := some 61) (v := ?_) (a' := ?_) #[true, true, true, false, false, false, false, false, false, false, false, false, false] rfl rfl (by kernel_rfl) (fun _ _ _ h => h) (Or.inl ⟨by rfl, ?_⟩) ?_ ?_
                 rotate_left
                 · intro w'
                   go_simp
                   with_reducible rfl
                 rotate_left
                 · simp only [Act.put, List.setIfInBounds_toArray, List.set_cons_zero, List.set_cons_succ, i64_w, i32_w]
                   rfl
                 refine pure_ (i := 8) (N := some 67) (v := ?_) (a' := ?_) #[true, true, true, false, false, false, false, false, true, false, false, false, false] rfl rfl (by kernel_rfl) (fun _ _ _ h => h) (Or.inl ⟨by rfl, ?_⟩) ?_ ?_
                 rotate_left
                 · intro w'
                   go_simp
                   with_reducible rfl
                 rotate_left
                 · simp only [Act.put, List.setIfInBounds_toArray, List.set_cons_zero, List.set_cons_succ, i64_w, i32_w]
                   rfl
                 refine pure_ (i := 9) (N := some 68) (v := ?_) (a' := ?_) #[true, true, true, false, false, false, false, false, true, true, false, false, false] rfl rfl (by kernel_rfl) (fun _ _ _ h => h) (Or.inl ⟨by rfl, ?_⟩) ?_ ?_
                 rotate_left
                 · intro w'
                   go_simp
                   with_reducible rfl
                 rotate_left
                 · simp only [Act.put, List.setIfInBounds_toArray, List.set_cons_zero, List.set_cons_succ, i64_w, i32_w]
                   rfl
                 refine take_ (i := 3) (N := some 62) (v := ?_) (a' := ?_) #[true, true, true, true, false, false, false, false, true, true, false, false, false] rfl rfl (by kernel_rfl) (fun _ _ _ h => h) (Or.inl ⟨by rfl, ?_⟩) hHeld ?_ ?_
                 rotate_left
                 · intro w' s0
                   go_simp
                   with_reducible rfl
                 rotate_left
                 · simp only [Act.put, List.setIfInBounds_toArray, List.set_cons_zero, List.set_cons_succ, i64_w, i32_w]
                   rfl
                 refine pure_ (i := 4) (N := some 63) (v := ?_) (a' := ?_) #[true, true, true, true, true, false, false, false, true, true, false, false, false] rfl rfl (by kernel_rfl) (fun _ _ _ h => h) (Or.inl ⟨by rfl, ?_⟩) ?_ ?_
                 rotate_left
                 · intro w'
                   go_simp
                   with_reducible rfl
                 rotate_left
                 · simp only [Act.put, List.setIfInBounds_toArray, List.set_cons_zero, List.set_cons_succ, i64_w, i32_w]
                   rfl
                 refine pure_ (i := 5) (N := some 64) (v := ?_) (a' := ?_) #[true, true, true, true, true, true, false, false, true, true, false, false, false] rfl rfl (by kernel_rfl) (fun _ _ _ h => h) (Or.inl ⟨by rfl, ?_⟩) ?_ ?_
                 rotate_left
                 · intro w'
                   go_simp
                   with_reducible rfl
                 rotate_left
                 · simp only [Act.put, List.setIfInBounds_toArray, List.set_cons_zero, List.set_cons_succ, i64_w, i32_w]
                   rfl
                 refine take_ (i := 10) (N := some 69) (v := ?_) (a' := ?_) #[true, true, true, true, true, true, false, false, true, true, true, false, false] rfl rfl (by kernel_rfl) (fun _ _ _ h => h) (Or.inl ⟨by rfl, ?_⟩) hHeld ?_ ?_
                 rotate_left
                 · intro w' s0
                   go_simp
                   with_reducible rfl
                 rotate_left
                 · simp only [Act.put, List.setIfInBounds_toArray, List.set_cons_zero, List.set_cons_succ, i64_w, i32_w]
                   rfl
                 refine one_ (i := 6) (N := some 65) #[true, true, true, true, true, true, true, false, true, true, true, false, false] rfl rfl (by kernel_rfl) (by decide) (fun K hK => ?_)
                 refine Kd.R_lit_step (Kd.int .u8) _ 5 ?hg (N := 65) ?hd (xs := ([(IntKind.u8.wrap (l6.length : Int))] : List Int)) (inner := [.int .u8 (IntKind.u8.wrap (l6.length : Int))]) (ok := fun _ => True) (okp := fun _ => True) ?hr ?hp (fun _ hk => hk) trivial (Below.refl _ _) (Nat.le_refl _) (by simp) ?_; (case hd => rfl); (case hg => rfl); (case hr => first | (go_simp; done) | (go_simp; rfl)); (case hp => exact (Reps.one (show Kd.M (Kd.int .u8) _ _ _ (IntKind.u8.wrap (l6.length : Int)) [.int .u8 (IntKind.u8.wrap (l6.length : Int))] from rfl) (Reps.none _ _)))
                 intro v10 w10 ho hb hg_ hnew_
                 clear hg_ hnew_
                 have HN := Aside0.mk (Kd.R_lower ho HB.out.size)
                 have HNA := Aside0.mk (Kd.R_new' ho (Kd.R_lt HU.out))
                 have n0_ := Aside0.mk (blk_below BG.out hb)
                 have n1_ := Aside0.mk (blk_below BP.out hb)
                 have n2_ := Aside0.mk (Kd.R_below HU.out hb)
                 have n3_ := Aside0.mk (below_step HB.out hb)
                 clear BG BP HU HB ho hb hHeld
                 have BG := n0_
                 have BP := n1_
                 have HU := n2_
                 have HB := n3_
                 clear n0_ n1_ n2_ n3_
                 obtain ⟨A10, c10, e10⟩ := Kd.R_slice HN.out
                 subst e10
                 refine hK.out _ _ ((blk_cell BG.out 6).trans rfl) (fun hHeld => ?_)
                 clear hK K
                 refine norm_ (a' := ?_) ?_ ?_
                 rotate_left
                 · show Act.put _ (some 65) _ = _
                   simp only [Act.put, List.setIfInBounds_toArray, List.set_cons_zero, List.set_cons_succ, i64_w, i32_w]
                   rfl
                 refine one_ (i := 7) (N := some 66) #[true, true, true, true, true, true, true, true, true, true, true, false, false] rfl rfl (by kernel_rfl) (by decide) (fun K hK => ?_)
                 refine Kd.R_append_rows_step (Kd.int .u8) (w0 := w) w.heap.size (by rfl) (.tmp 59) (.tmp 65) 23 5 (.int .u8 0) 1 rfl Try.underlying23 info5 rfl (by decide) (by omega) (.slice A bx.length cx) bx [(IntKind.u8.wrap (l6.length : Int))] _ _ _ (fun _ => True) (fun _ => False) rfl rfl ?aO ?aR (fun _ _ h => h) (fun _ h => h.elim) (fun _ _ => trivial) ?aB ?aS ?aL ?_
                 (case aR => exact (Kd.R_reads' HN.out).2.2)
                 (case aB => exact HB.out)
                 (case aO => exact Kd.R_mono HU.out (fun _ _ => trivial))
                 (case aS => exact (below_size HB.out))
                 (case aL => have := HLEN.out; (try simp only [List.length_append, List.length_cons, List.length_nil]); omega)
                 intro v11 w11 ho hb hg hat
                 have n0_ := Aside0.mk (blk_grown BG.out hg (Kd.R_ne HU.out BG.out (by decide)))
                 have n1_ := Aside0.mk (blk_grown BP.out hg (Kd.R_ne HU.out BP.out (by decide)))
                 have n2_ := Aside0.mk ho
                 have n3_ := Aside0.mk hb
                 clear BG BP HU HB ho hb hg hat hHeld
                 have BG := n0_
                 have BP := n1_
                 have HU := n2_
                 have HB := n3_
                 clear n0_ n1_ n2_ n3_
                 obtain ⟨Av11, cv11, ev11⟩ := Kd.R_slice HU.out
                 subst ev11
                 refine hK.out _ _ ((blk_cell BG.out 6).trans rfl) (fun hHeld => ?_)
                 clear hK K
                 refine norm_ (a' := ?_) ?_ ?_
                 rotate_left
                 · show Act.put _ (some 66) _ = _
                   simp only [Act.put, List.setIfInBounds_toArray, List.set_cons_zero, List.set_cons_succ, i64_w, i32_w]
                   rfl
                 refine one_ (i := 11) (N := some 70) #[true, true, true, true, true, true, true, true, true, true, true, true, false] rfl rfl (by kernel_rfl) (by decide) (fun K hK => ?_)
                 refine Kd.R_append_rows_step (Kd.int .u8) (w0 := w) w.heap.size (by rfl) (.tmp 66) (.tmp 69) 23 5 (.int .u8 0) 1 rfl Try.underlying23 info5 rfl (by decide) (by omega) (.slice Av11 (bx ++ [(IntKind.u8.wrap (l6.length : Int))]).length cv11) (bx ++ [(IntKind.u8.wrap (l6.length : Int))]) l6 _ _ _ (fun _ => True) (fun _ => False) rfl rfl ?aO ?aR (fun _ _ h => h) (fun _ h => h.elim) (fun _ _ => trivial) ?aB ?aS ?aL ?_
                 (case aR => exact Kd.C_below HR6.out HB.out)
                 (case aB => exact HB.out)
                 (case aO => exact Kd.R_mono HU.out (fun _ _ => trivial))
                 (case aS => exact (below_size HB.out))
                 (case aL => have := HLEN.out; (try simp only [List.length_append, List.length_cons, List.length_nil]); omega)
                 intro v12 w12 ho hb hg hat
                 have n0_ := Aside0.mk (blk_grown BG.out hg (Kd.R_ne HU.out BG.out (by decide)))
                 have n1_ := Aside0.mk (blk_grown BP.out hg (Kd.R_ne HU.out BP.out (by decide)))
                 have n2_ := Aside0.mk ho
                 have n3_ := Aside0.mk hb
                 clear BG BP HU HB ho hb hg hat hHeld
                 have BG := n0_
                 have BP := n1_
                 have HU := n2_
                 have HB := n3_
                 clear n0_ n1_ n2_ n3_
                 obtain ⟨Av12, cv12, ev12⟩ := Kd.R_slice HU.out
                 subst ev12
                 refine hK.out _ _ ((blk_cell BG.out 6).trans rfl) (fun hHeld => ?_)
                 clear hK K
                 refine norm_ (a' := ?_) ?_ ?_
                 rotate_left
                 · show Act.put _ (some 70) _ = _
                   simp only [Act.put, List.setIfInBounds_toArray, List.set_cons_zero, List.set_cons_succ, i64_w, i32_w]
                   rfl
                 refine pure_ (i := 12) (N := some 5) (v := ?_) (a' := ?_) #[true, true, true, true, true, true, true, true, true, true, true, true, true] rfl rfl (by kernel_rfl) (fun _ _ _ h => h) (Or.inl ⟨by rfl, ?_⟩) ?_ ?_
                 rotate_left
                 · intro w'
                   go_simp
                   with_reducible rfl
                 rotate_left
                 · simp only [Act.put, List.setIfInBounds_toArray, List.set_cons_zero, List.set_cons_succ, i64_w, i32_w]
                   rfl
                 refine done_ (by kernel_rfl) ?_
                 have HF3 := Aside0.mk HF2.out
                 go_wp2
                 go_roundg k1
                 case measure => have := HK.out; omega
                 case rel => exact ⟨1, (bx ++ [(IntKind.u8.wrap (l6.length : Int))]) ++ l6, _, _, rfl, (by first | rfl | (rw [show ((bx ++ [(IntKind.u8.wrap (l6.length : Int))]) ++ l6).length = bx.length + (l6.length + 1) by simp only [List.length_append, List.length_cons, List.length_nil]; omega])), ⟨by have := HK.out; omega⟩, HF2, HU, BG, BP, HB⟩
               · cases hf
          · have HK := Aside0.mk hk.out
            clear hk
            have hz7 : wr.cell? ⟨g, 7, none⟩ = some (.slice A7 l7.length c7) := (blk_cell BG.out 7).trans rfl
            have hp : wr.cell? ⟨b, 1, none⟩ = some (.pointer (some ⟨g, 7, none⟩)) := (blk_cell BP.out 1).trans rfl
            have hf := HF.out
            simp only [List.drop_zero, List.drop_succ_cons, putF] at hf
            cases gk with
            | zero => have := HK.out; omega
            | succ k1 =>
             by_cases h255 : (l7.length : Int) > 255
             · rw [if_pos h255] at hf
               have hb0 : decide (255 < (l7.length : Int)) = true := decide_eq_true h255
               simp only [Option.some.injEq, Prod.mk.injEq] at hf
               obtain ⟨rfl, rfl⟩ := hf
               clear h255
               go_wp2
               go_ret2
               exact ⟨_, rfl, Kd.R_nil _ _ _ _ _, HB.out⟩
             · rw [if_neg h255] at hf
               have hb0 : decide (255 < (l7.length : Int)) = false := decide_eq_false h255
               split at hf
               · rename_i hlen
                 have HF2 := Aside0.mk hf
                 have HLEN := Aside0.mk hlen
                 clear hf hlen h255 HF
                 go_wp2
                 have n0_ := Aside0.mk (blk_drew BG.out)
                 have n1_ := Aside0.mk (blk_drew BP.out)
                 have n2_ := Aside0.mk (Kd.R_drew HU.out)
                 have n3_ := Aside0.mk (below_drew1 HB.out)
                 clear BG BP HU HB
                 have BG := n0_
                 have BP := n1_
                 have HU := n2_
                 have HB := n3_
                 clear n0_ n1_ n2_ n3_
                 have hcd : wr.drew.cell? ⟨g, 7, none⟩ = some (.slice A7 l7.length c7) := (blk_cell BG.out 7).trans rfl
                 refine start_ (n := 13) (S := fun w' => w'.cell? ⟨g, 7, none⟩ = some (.slice A7 l7.length c7)) (ds := []) #[false, false, false, false, false, false, false, false, false, false, false, false, false] (by kernel_rfl) rfl rfl (hcd) (fun hHeld => ?_)
                 clear hcd
                 generalize wr.drew = w8 at BG BP HU HB hHeld ⊢
                 refine pure_ (i := 0) (N := some 59) (v := ?_) (a' := ?_) #[true, false, false, false, false, false, false, false, false, false, false, false, false] rfl rfl (by kernel_rfl) (fun _ _ _ h => h) (Or.inl ⟨by rfl, ?_⟩) ?_ ?_
                 rotate_left
                 · intro w'
                   go_simp
                   with_reducible rfl
                 rotate_left
                 · simp only [Act.put, List.setIfInBounds_toArray, List.set_cons_zero, List.set_cons_succ, i64_w, i32_w]
                   rfl
                 refine pure_ (i := 1) (N := some 60) (v := ?_) (a' := ?_) #[true, true, false, false, false, false, false, false, false, false, false, false, false] rfl rfl (by kernel_rfl) (fun _ _ _ h => h) (Or.inl ⟨by rfl, ?_⟩) ?_ ?_
                 rotate_left
                 · intro w'
                   go_simp
                   with_reducible rfl
                 rotate_left
                 · simp only [Act.put, List.setIfInBounds_toArray, List.set_cons_zero, List.set_cons_succ, i64_w, i32_w]
                   rfl
                 refine pure_ (i := 2) (N := some 61) (v := ?_) (a' := ?_) #[true, true, true, false, false, false, false, false, false, false, false, false, false] rfl rfl (by kernel_rfl) (fun _ _ _ h => h) (Or.inl ⟨by rfl, ?_⟩) ?_ ?_
                 rotate_left
                 · intro w'
                   go_simp
                   with_reducible rfl
                 rotate_left
                 · simp only [Act.put, List.setIfInBounds_toArray, List.set_cons_zero, List.set_cons_succ, i64_w, i32_w]
                   rfl
                 refine pure_ (i := 8) (N := some 67) (v := ?_) (a' := ?_) #[true, true, true, false, false, false, false, false, true, false, false, false, false] rfl rfl (by kernel_rfl) (fun _ _ _ h => h) (Or.inl ⟨by rfl, ?_⟩) ?_ ?_
                 rotate_left
                 · intro w'
                   go_simp
                   with_reducible rfl
                 rotate_left
                 · simp only [Act.put, List.setIfInBounds_toArray, List.set_cons_zero, List.set_cons_succ, i64_w, i32_w]
                   rfl
                 refine pure_ (i := 9) (N := some 68) (v := ?_) (a' := ?_) #[true, true, true, false, false, false, false, false, true, true, false, false, false] rfl rfl (by kernel_rfl) (fun _ _ _ h => h) (Or.inl ⟨by rfl, ?_⟩) ?_ ?_
                 rotate_left
                 · intro w'
                   go_simp
                   with_reducible rfl
                 rotate_left
                 · simp only [Act.put, List.setIfInBounds_toArray, List.set_cons_zero, List.set_cons_succ, i64_w, i32_w]
                   rfl
                 refine take_ (i := 3) (N := some 62) (v := ?_) (a' := ?_) #[true, true, true, true, false, false, false, false, true, true, false, false, false] rfl rfl (by kernel_rfl) (fun _ _ _ h => h) (Or.inl ⟨by rfl, ?_⟩) hHeld ?_ ?_
                 rotate_left
                 · intro w' s0
                   go_simp
                   with_reducible rfl
                 rotate_left
                 · simp only [Act.put, List.setIfInBounds_toArray, List.set_cons_zero, List.set_cons_succ, i64_w, i32_w]
                   rfl
                 refine pure_ (i := 4) (N := some 63) (v := ?_) (a' := ?_) #[true, true, true, true, true, false, false, false, true, true, false, false, false] rfl rfl (by kernel_rfl) (fun _ _ _ h => h) (Or.inl ⟨by rfl, ?_⟩) ?_ ?_
                 rotate_left
                 · intro w'
                   go_simp
                   with_reducible rfl
                 rotate_left
                 · simp only [Act.put, List.setIfInBounds_toArray, List.set_cons_zero, List.set_cons_succ, i64_w, i32_w]
                   rfl
                 refine pure_ (i := 5) (N := some 64) (v := ?_) (a' := ?_) #[true, true, true, true, true, true, false, false, true, true, false, false, false] rfl rfl (by kernel_rfl) (fun _ _ _ h => h) (Or.inl ⟨by rfl, ?_⟩) ?_ ?_
                 rotate_left
                 · intro w'
                   go_simp
                   with_reducible rfl
                 rotate_left
                 · simp only [Act.put, List.setIfInBounds_toArray, List.set_cons_zero, List.set_cons_succ, i64_w, i32_w]
                   rfl
                 refine take_ (i := 10) (N := some 69) (v := ?_) (a' := ?_) #[true, true, true, true, true, true, false, false, true, true, true, false, false] rfl rfl (by kernel_rfl) (fun _ _ _ h => h) (Or.inl ⟨by rfl, ?_⟩) hHeld ?_ ?_
                 rotate_left
                 · intro w' s0
                   go_simp
                   with_reducible rfl
                 rotate_left
                 · simp only [Act.put, List.setIfInBounds_toArray, List.set_cons_zero, List.set_cons_succ, i64_w, i32_w]
                   rfl
                 refine one_ (i := 6) (N := some 65) #[true, true, true, true, true, true, true, false, true, true, true, false, false] rfl rfl (by kernel_rfl) (by decide) (fun K hK => ?_)
                 refine Kd.R_lit_step (Kd.int .u8) _ 5 ?hg (N := 65) ?hd (xs := ([(IntKind.u8.wrap (l7.length : Int))] : List Int)) (inner := [.int .u8 (IntKind.u8.wrap (l7.length : Int))]) (ok := fun _ => True) (okp := fun _ => True) ?hr ?hp (fun _ hk => hk) trivial (Below.refl _ _) (Nat.le_refl _) (by simp) ?_; (case hd => rfl); (case hg => rfl); (case hr => first | (go_simp; done) | (go_simp; rfl)); (case hp => exact (Reps.one (show Kd.M (Kd.int .u8) _ _ _ (IntKind.u8.wrap (l7.length : Int)) [.int .u8 (IntKind.u8.wrap (l7.length : Int))] from rfl) (Reps.none _ _)))
                 intro v10 w10 ho hb hg_ hnew_
                 clear hg_ hnew_
                 have HN := Aside0.mk (Kd.R_lower ho HB.out.size)
                 have HNA := Aside0.mk (Kd.R_new' ho (Kd.R_lt HU.out))
                 have n0_ := Aside0.mk (blk_below BG.out hb)
                 have n1_ := Aside0.mk (blk_below BP.out hb)
                 have n2_ := Aside0.mk (Kd.R_below HU.out hb)
                 have n3_ := Aside0.mk (below_step HB.out hb)
                 clear BG BP HU HB ho hb hHeld
                 have BG := n0_
                 have BP := n1_
                 have HU := n2_
                 have HB := n3_
                 clear n0_ n1_ n2_ n3_
                 obtain ⟨A10, c10, e10⟩ := Kd.R_slice HN.out
                 subst e10
                 refine hK.out _ _ ((blk_cell BG.out 7).trans rfl) (fun hHeld => ?_)
                 clear hK K
                 refine norm_ (a' := ?_) ?_ ?_
                 rotate_left
                 · show Act.put _ (some 65) _ = _
                   simp only [Act.put, List.setIfInBounds_toArray, List.set_cons_zero, List.set_cons_succ, i64_w, i32_w]
                   rfl
                 refine one_ (i := 7) (N := some 66) #[true, true, true, true, true, true, true, true, true, true, true, false, false] rfl rfl (by kernel_rfl) (by decide) (fun K hK => ?_)
                 refine Kd.R_append_rows_step (Kd.int .u8) (w0 := w) w.heap.size (by rfl) (.tmp 59) (.tmp 65) 23 5 (.int .u8 0) 1 rfl Try.underlying23 info5 rfl (by decide) (by omega) (.slice A bx.length cx) bx [(IntKind.u8.wrap (l7.length : Int))] _ _ _ (fun _ => True) (fun _ => False) rfl rfl ?aO ?aR (fun _ _ h => h) (fun _ h => h.elim) (fun _ _ => trivial) ?aB ?aS ?aL ?_
                 (case aR => exact (Kd.R_reads' HN.out).2.2)
                 (case aB => exact HB.out)
                 (case aO => exact Kd.R_mono HU.out (fun _ _ => trivial))
                 (case aS => exact (below_size HB.out))
                 (case aL => have := HLEN.out; (try simp only [List.length_append, List.length_cons, List.length_nil]); omega)
                 intro v11 w11 ho hb hg hat
                 have n0_ := Aside0.mk (blk_grown BG.out hg (Kd.R_ne HU.out BG.out (by decide)))
                 have n1_ := Aside0.mk (blk_grown BP.out hg (Kd.R_ne HU.out BP.out (by decide)))
                 have n2_ := Aside0.mk ho
                 have n3_ := Aside0.mk hb
                 clear BG BP HU HB ho hb hg hat hHeld
                 have BG := n0_
                 have BP := n1_
                 have HU := n2_
                 have HB := n3_
                 clear n0_ n1_ n2_ n3_
                 obtain ⟨Av11, cv11, ev11⟩ := Kd.R_slice HU.out
                 subst ev11
                 refine hK.out _ _ ((blk_cell BG.out 7).trans rfl) (fun hHeld => ?_)
                 clear hK K
                 refine norm_ (a' := ?_) ?_ ?_
                 rotate_left
                 · show Act.put _ (some 66) _ = _
                   simp only [Act.put, List.setIfInBounds_toArray, List.set_cons_zero, List.set_cons_succ, i64_w, i32_w]
                   rfl
                 refine one_ (i := 11) (N := some 70) #[true, true, true, true, true, true, true, true, true, true, true, true, false] rfl rfl (by kernel_rfl) (by decide) (fun K hK => ?_)
                 refine Kd.R_append_rows_step (Kd.int .u8) (w0 := w) w.heap.size (by rfl) (.tmp 66) (.tmp 69) 23 5 (.int .u8 0) 1 rfl Try.underlying23 info5 rfl (by decide) (by omega) (.slice Av11 (bx ++ [(IntKind.u8.wrap (l7.length : Int))]).length cv11) (bx ++ [(IntKind.u8.wrap (l7.length : Int))]) l7 _ _ _ (fun _ => True) (fun _ => False) rfl rfl ?aO ?aR (fun _ _ h => h) (fun _ h => h.elim) (fun _ _ => trivial) ?aB ?aS ?aL ?_
                 (case aR => exact Kd.C_below HR7.out HB.out)
                 (case aB => exact HB.out)
                 (case aO => exact Kd.R_mono HU.out (fun _ _ => trivial))
                 (case aS => exact (below_size HB.out))
                 (case aL => have := HLEN.out; (try simp only [List.length_append, List.length_cons, List.length_nil]); omega)
                 intro v12 w12 ho hb hg hat
                 have n0_ := Aside0.mk (blk_grown BG.out hg (Kd.R_ne HU.out BG.out (by decide)))
                 have n1_ := Aside0.mk (blk_grown BP.out hg (Kd.R_ne HU.out BP.out (by decide)))
                 have n2_ := Aside0.mk ho
                 have n3_ := Aside0.mk hb
                 clear BG BP HU HB ho hb hg hat hHeld
                 have BG := n0_
                 have BP := n1_
                 have HU := n2_
                 have HB := n3_
                 clear n0_ n1_ n2_ n3_
                 obtain ⟨Av12, cv12, ev12⟩ := Kd.R_slice HU.out
                 subst ev12
                 refine hK.out _ _ ((blk_cell BG.out 7).trans rfl) (fun hHeld => ?_)
                 clear hK K
                 refine norm_ (a' := ?_) ?_ ?_
                 rotate_left
                 · show Act.put _ (some 70) _ = _
                   simp only [Act.put, List.setIfInBounds_toArray, List.set_cons_zero, List.set_cons_succ, i64_w, i32_w]
                   rfl
                 refine pure_ (i := 12) (N := some 5) (v := ?_) (a' := ?_) #[true, true, true, true, true, true, true, true, true, true, true, true, true] rfl rfl (by kernel_rfl) (fun _ _ _ h => h) (Or.inl ⟨by rfl, ?_⟩) ?_ ?_
                 rotate_left
                 · intro w'
                   go_simp
                   with_reducible rfl
                 rotate_left
                 · simp only [Act.put, List.setIfInBounds_toArray, List.set_cons_zero, List.set_cons_succ, i64_w, i32_w]
                   rfl
                 refine done_ (by kernel_rfl) ?_
                 have HF3 := Aside0.mk HF2.out
                 go_wp2
                 go_roundg k1
                 case measure => have := HK.out; omega
                 case rel => exact ⟨2, (bx ++ [(IntKind.u8.wrap (l7.length : Int))]) ++ l7, _, _, rfl, (by first | rfl | (rw [show ((bx ++ [(IntKind.u8.wrap (l7.length : Int))]) ++ l7).length = bx.length + (l7.length + 1) by simp only [List.length_append, List.length_cons, List.length_nil]; omega])), ⟨by have := HK.out; omega⟩, HF2, HU, BG, BP, HB⟩
               · cases hf
          · clear hk
            replace HF : Aside0 (ctl_Put.f k code a2 bx = some (r1, r2)) := HF
            have hz1 : wr.cell? ⟨g, 1, none⟩ = some (.int .u8 code) := (blk_cell BG.out 1).trans rfl
            have hz2 : wr.cell? ⟨g, 2, none⟩ = some (.int .u8 a2) := (blk_cell BG.out 2).trans rfl
            go_wp2_with (first | (go_at_call 51; refine (ctl_Put.calls k code a2 _ _ bx r1 r2 _ ?s1 ?s2 HF.out).mono ?_; (case s1 => exact (Kd.R_reads' HU.out).2.2); (case s2 => exact (Kd.R_reads' HU.out).2.1); rintro x w9 ⟨v0, rfl, ho, hb⟩; have HO := Aside0.mk (Kd.R_lower ho HB.out.size); have HBF := Aside0.mk (below_step HB.out hb); clear ho hb))
            go_ret2
            exact ⟨_, rfl, HO.out, HBF.out⟩
       · rw [if_neg h5] at h
         have hp5 : (a5 != 0) = true := bne_iff_ne.mpr h5
         clear h5
         simp only [Option.some.injEq, Prod.mk.injEq] at h
         obtain ⟨rfl, rfl⟩ := h
         go_wp2
         go_ret2
         exact ⟨_, rfl, Kd.R_nil _ _ _ _ _, HB.out⟩
     · rw [if_neg h4] at h
       have hp4 : (a4 != 0) = true := bne_iff_ne.mpr h4
       clear h4
       simp only [Option.some.injEq, Prod.mk.injEq] at h
       obtain ⟨rfl, rfl⟩ := h
       go_wp2
       go_ret2
       exact ⟨_, rfl, Kd.R_nil _ _ _ _ _, HB.out⟩
 · rw [if_neg h0] at h
   have hp0 : (a0 != 49187) = true := bne_iff_ne.mpr h0
   clear h0
   simp only [Option.some.injEq, Prod.mk.injEq] at h
   obtain ⟨rfl, rfl⟩ := h
   go_wp2
   go_ret2
   exact ⟨_, rfl, Kd.R_nil _ _ _ _ _, HB.out⟩
set_option maxHeartbeats 16000000 in
set_option maxRecDepth 100000 in
theorem pt_put1 (k : Nat) (a0 code a2 a4 a5 : Int) (A3 A6 A7 A8 A9 : Option Addr) (c3 c6 c7 c8 c9 : Nat) (l3 : List S57) (l6 l7 l8 l9 : List Int) (r1 : List Int) (r2 : Int) (w : World) (hc : code = 2 ∨ code = 3) (hr6 : Kd.C (Kd.int .u8) w A6 l6.length l6) (hr7 : Kd.C (Kd.int .u8) w A7 l7.length l7) (hr8 : Kd.C (Kd.int .u8) w A8 l8.length l8) (hc6 : l6.length ≤ c6) (hc7 : l7.length ≤ c7) (hc8 : l8.length ≤ c8) (h : papPut1 k a0 code a2 l3 a4 a5 l6 l7 l8 l9 = some (r1, r2)) :
 Calls Try.prog 31 #[.agg #[.int .u16 a0, .int .u8 code, .int .u8 a2, .slice A3 l3.length c3, .int .u16 a4, .int .u32 a5, .slice A6 l6.length c6, .slice A7 l7.length c7, .slice A8 l8.length c8, .slice A9 l9.length c9]] w fun x w' => ∃ v0_ : Value, x = .returned (.tuple #[v0_, .int .i64 r2]) ∧ Kd.R (Kd.int .u8) 5 w' w.heap.size (fun _ => True) v0_ r1 ∧ Below w.heap.size w w' := by
 have hu47 := Try.underlying47
 have HC := Aside0.mk hc
 have HR6 := Aside0.mk hr6
 have HR7 := Aside0.mk hr7
 have HR8 := Aside0.mk hr8
 have HC6 := Aside0.mk hc6
 have HC7 := Aside0.mk hc7
 have HC8 := Aside0.mk hc8
 have H := Aside0.mk h
 clear hc hr6 hr7 hr8 hc6 hc7 hc8 h
 go_enter Try.func31, Try.ntmps31
 go_upto_region 2 with (first | ((with_reducible refine gate_dst (N := 1) rfl ?_); refine box_event ?hg (N := 1) ?hd (cs := #[.int .u16 a0, .int .u8 code, .int .u8 a2, .slice A3 l3.length c3, .int .u16 a4, .int .u32 a5, .slice A6 l6.length c6, .slice A7 l7.length c7, .slice A8 l8.length c8, .slice A9 l9.length c9]) (t := 47) ?hr ?_; (case hd => rfl); (case hg => rfl); (case hr => first | (go_simp; done) | (go_simp; rfl)); intro g hgg w1 hbox hb; have BG := Aside0.mk hbox; have GG := Aside0.mk ((by rw [hgg]; exact Nat.le_refl _) : w.heap.size ≤ g); have HB := Aside0.mk hb; clear hbox hb hgg; have hz0 : w1.cell? ⟨g, 0, none⟩ = some (.int .u16 a0) := (blk_cell BG.out 0).trans rfl; have hz1 : w1.cell? ⟨g, 1, none⟩ = some (.int .u8 code) := (blk_cell BG.out 1).trans rfl; have hz2 : w1.cell? ⟨g, 2, none⟩ = some (.int .u8 a2) := (blk_cell BG.out 2).trans rfl; have hz3 : w1.cell? ⟨g, 3, none⟩ = some (.slice A3 l3.length c3) := (blk_cell BG.out 3).trans rfl; have hz4 : w1.cell? ⟨g, 4, none⟩ = some (.int .u16 a4) := (blk_cell BG.out 4).trans rfl; have hz5 : w1.cell? ⟨g, 5, none⟩ = some (.int .u32 a5) := (blk_cell BG.out 5).trans rfl; have hz6 : w1.cell? ⟨g, 6, none⟩ = some (.slice A6 l6.length c6) := (blk_cell BG.out 6).trans rfl; have hz7 : w1.cell? ⟨g, 7, none⟩ = some (.slice A7 l7.length c7) := (blk_cell BG.out 7).trans rfl; have hz8 : w1.cell? ⟨g, 8, none⟩ = some (.slice A8 l8.length c8) := (blk_cell BG.out 8).trans rfl; have hz9 : w1.cell? ⟨g, 9, none⟩ = some (.slice A9 l9.length c9) := (blk_cell BG.out 9).trans rfl) | (go_at_call 49; refine (pt_bare1 _ _ _ _ _ _ _ _ _ _ _ _ _ _ _ _ _ _ _ _ _ HC.out).mono ?_; rintro x w2 ⟨rfl, hb⟩; have n0_ := Aside0.mk (blk_below BG.out hb); have n1_ := Aside0.mk (below_step HB.out hb); clear BG HB hb hz0 hz1 hz2 hz3 hz4 hz5 hz6 hz7 hz8 hz9; have BG := n0_; have HB := n1_; clear n0_ n1_) | ((with_reducible refine gate_dst (N := 4) rfl ?_); refine box_event ?hg (N := 4) ?hd (cs := #[.int .u16 0, .int .u8 0, .int .u8 0, .slice none 0 0, .int .u16 0, .int .u32 0, .slice none 0 0, .slice none 0 0, .slice none 0 0, .slice none 0 0]) (t := 47) ?hr ?_; (case hd => rfl); (case hg => rfl); (case hr => first | (go_simp; done) | (go_simp; rfl)); intro gr hgr w3 hbox hb; have BR := Aside0.mk hbox; have NR := Aside0.mk ((by rw [hgr]; exact Nat.ne_of_lt (blk_lt BG.out)) : g ≠ gr); have GR := Aside0.mk ((by rw [hgr]; exact HB.out.size) : w.heap.size ≤ gr); have n0_ := Aside0.mk (blk_below BG.out hb); have n1_ := Aside0.mk (below_step HB.out hb); clear BG HB hbox hb hgr; have BG := n0_; have HB := n1_; clear n0_ n1_; have hr0 : w3.cell? ⟨gr, 0, none⟩ = some (.int .u16 0) := (blk_cell BR.out 0).trans rfl; have hr1 : w3.cell? ⟨gr, 1, none⟩ = some (.int .u8 0) := (blk_cell BR.out 1).trans rfl; have hr2 : w3.cell? ⟨gr, 2, none⟩ = some (.int .u8 0) := (blk_cell BR.out 2).trans rfl; have hr3 : w3.cell? ⟨gr, 3, none⟩ = some (.slice none 0 0) := (blk_cell BR.out 3).trans rfl; have hr4 : w3.cell? ⟨gr, 4, none⟩ = some (.int .u16 0) := (blk_cell BR.out 4).trans rfl; have hr5 : w3.cell? ⟨gr, 5, none⟩ = some (.int .u32 0) := (blk_cell BR.out 5).trans rfl; have hr6 : w3.cell? ⟨gr, 6, none⟩ = some (.slice none 0 0) := (blk_cell BR.out 6).trans rfl; have hr7 : w3.cell? ⟨gr, 7, none⟩ = some (.slice none 0 0) := (blk_cell BR.out 7).trans rfl; have hr8 : w3.cell? ⟨gr, 8, none⟩ = some (.slice none 0 0) := (blk_cell BR.out 8).trans rfl; have hr9 : w3.cell? ⟨gr, 9, none⟩ = some (.slice none 0 0) := (blk_cell BR.out 9).trans rfl; have hs0 := blk_frozen BR.out 0; have hs1 := blk_frozen BR.out 1; have hs2 := blk_frozen BR.out 2; have hs3 := blk_frozen BR.out 3; have hs4 := blk_frozen BR.out 4; have hs5 := blk_frozen BR.out 5; have hs6 := blk_frozen BR.out 6; have hs7 := blk_frozen BR.out 7; have hs8 := blk_frozen BR.out 8; have hs9 := blk_frozen BR.out 9))
 clear hr0 hr1 hr2 hr3 hr4 hr5 hr6 hr7 hr8 hr9 hs0 hs1 hs2 hs3 hs4 hs5 hs6 hs7 hs8 hs9
 have q0 := blk_put BR.out 0 (.int .u16 a0) (rfl : _ = (#[.int .u16 a0, .int .u8 0, .int .u8 0, .slice none 0 0, .int .u16 0, .int .u32 0, .slice none 0 0, .slice none 0 0, .slice none 0 0, .slice none 0 0] : Array Value))
 have q1 := blk_put q0 1 (.int .u8 code) (rfl : _ = (#[.int .u16 a0, .int .u8 code, .int .u8 0, .slice none 0 0, .int .u16 0, .int .u32 0, .slice none 0 0, .slice none 0 0, .slice none 0 0, .slice none 0 0] : Array Value))
 have q2 := blk_put q1 2 (.int .u8 a2) (rfl : _ = (#[.int .u16 a0, .int .u8 code, .int .u8 a2, .slice none 0 0, .int .u16 0, .int .u32 0, .slice none 0 0, .slice none 0 0, .slice none 0 0, .slice none 0 0] : Array Value))
 have q3 := blk_put q2 3 (.slice A3 l3.length c3) (rfl : _ = (#[.int .u16 a0, .int .u8 code, .int .u8 a2, .slice A3 l3.length c3, .int .u16 0, .int .u32 0, .slice none 0 0, .slice none 0 0, .slice none 0 0, .slice none 0 0] : Array Value))
 have q4 := blk_put q3 4 (.int .u16 a4) (rfl : _ = (#[.int .u16 a0, .int .u8 code, .int .u8 a2, .slice A3 l3.length c3, .int .u16 a4, .int .u32 0, .slice none 0 0, .slice none 0 0, .slice none 0 0, .slice none 0 0] : Array Value))
 have q5 := blk_put q4 5 (.int .u32 a5) (rfl : _ = (#[.int .u16 a0, .int .u8 code, .int .u8 a2, .slice A3 l3.length c3, .int .u16 a4, .int .u32 a5, .slice none 0 0, .slice none 0 0, .slice none 0 0, .slice none 0 0] : Array Value))
 have q6 := blk_put q5 6 (.slice none 0 0) (rfl : _ = (#[.int .u16 a0, .int .u8 code, .int .u8 a2, .slice A3 l3.length c3, .int .u16 a4, .int .u32 a5, .slice none 0 0, .slice none 0 0, .slice none 0 0, .slice none 0 0] : Array Value))
 have q7 := blk_put q6 7 (.slice A7 l7.length c7) (rfl : _ = (#[.int .u16 a0, .int .u8 code, .int .u8 a2, .slice A3 l3.length c3, .int .u16 a4, .int .u32 a5, .slice none 0 0, .slice A7 l7.length c7, .slice none 0 0, .slice none 0 0] : Array Value))
 have q8 := blk_put q7 8 (.slice A8 l8.length c8) (rfl : _ = (#[.int .u16 a0, .int .u8 code, .int .u8 a2, .slice A3 l3.length c3, .int .u16 a4, .int .u32 a5, .slice none 0 0, .slice A7 l7.length c7, .slice A8 l8.length c8, .slice none 0 0] : Array Value))
 have q9 := blk_put q8 9 (.slice A9 l9.length c9) (rfl : _ = (#[.int .u16 a0, .int .u8 code, .int .u8 a2, .slice A3 l3.length c3, .int .u16 a4, .int .u32 a5, .slice none 0 0, .slice A7 l7.length c7, .slice A8 l8.length c8, .slice A9 l9.length c9] : Array Value))
 have n0_ := Aside0.mk q9
 have n1_ := Aside0.mk (show (((((((((((w3.setCell ⟨gr, 0, none⟩ (.int .u16 a0)).setCell ⟨gr, 1, none⟩ (.int .u8 code)).setCell ⟨gr, 2, none⟩ (.int .u8 a2)).setCell ⟨gr, 3, none⟩ (.slice A3 l3.length c3)).setCell ⟨gr, 4, none⟩ (.int .u16 a4)).setCell ⟨gr, 5, none⟩ (.int .u32 a5)).setCell ⟨gr, 6, none⟩ (.slice none 0 0)).setCell ⟨gr, 7, none⟩ (.slice A7 l7.length c7)).setCell ⟨gr, 8, none⟩ (.slice A8 l8.length c8)).setCell ⟨gr, 9, none⟩ (.slice A9 l9.length c9))).heap[g]? = some (.cells #[.int .u16 a0, .int .u8 code, .int .u8 a2, .slice A3 l3.length c3, .int .u16 a4, .int .u32 a5, .slice A6 l6.length c6, .slice A7 l7.length c7, .slice A8 l8.length c8, .slice A9 l9.length c9] 47 (0, 0)) from (blk_far (p := ⟨gr, 9, none⟩) (blk_far (p := ⟨gr, 8, none⟩) (blk_far (p := ⟨gr, 7, none⟩) (blk_far (p := ⟨gr, 6, none⟩) (blk_far (p := ⟨gr, 5, none⟩) (blk_far (p := ⟨gr, 4, none⟩) (blk_far (p := ⟨gr, 3, none⟩) (blk_far (p := ⟨gr, 2, none⟩) (blk_far (p := ⟨gr, 1, none⟩) (blk_far (p := ⟨gr, 0, none⟩) BG.out NR.out (.int .u16 a0)) NR.out (.int .u8 code)) NR.out (.int .u8 a2)) NR.out (.slice A3 l3.length c3)) NR.out (.int .u16 a4)) NR.out (.int .u32 a5)) NR.out (.slice none 0 0)) NR.out (.slice A7 l7.length c7)) NR.out (.slice A8 l8.length c8)) NR.out (.slice A9 l9.length c9)))
 have n2_ := Aside0.mk (show Below w.heap.size w ((((((((((w3.setCell ⟨gr, 0, none⟩ (.int .u16 a0)).setCell ⟨gr, 1, none⟩ (.int .u8 code)).setCell ⟨gr, 2, none⟩ (.int .u8 a2)).setCell ⟨gr, 3, none⟩ (.slice A3 l3.length c3)).setCell ⟨gr, 4, none⟩ (.int .u16 a4)).setCell ⟨gr, 5, none⟩ (.int .u32 a5)).setCell ⟨gr, 6, none⟩ (.slice none 0 0)).setCell ⟨gr, 7, none⟩ (.slice A7 l7.length c7)).setCell ⟨gr, 8, none⟩ (.slice A8 l8.length c8)).setCell ⟨gr, 9, none⟩ (.slice A9 l9.length c9)) from (below_set (below_set (below_set (below_set (below_set (below_set (below_set (below_set (below_set (below_set HB.out GR.out) GR.out) GR.out) GR.out) GR.out) GR.out) GR.out) GR.out) GR.out) GR.out))
 clear BG BR HB q0 q1 q2 q3 q4 q5 q6 q7 q8 q9
 generalize ((((((((((w3.setCell ⟨gr, 0, none⟩ (.int .u16 a0)).setCell ⟨gr, 1, none⟩ (.int .u8 code)).setCell ⟨gr, 2, none⟩ (.int .u8 a2)).setCell ⟨gr, 3, none⟩ (.slice A3 l3.length c3)).setCell ⟨gr, 4, none⟩ (.int .u16 a4)).setCell ⟨gr, 5, none⟩ (.int .u32 a5)).setCell ⟨gr, 6, none⟩ (.slice none 0 0)).setCell ⟨gr, 7, none⟩ (.slice A7 l7.length c7)).setCell ⟨gr, 8, none⟩ (.slice A8 l8.length c8)).setCell ⟨gr, 9, none⟩ (.slice A9 l9.length c9)) = w5 at n0_ n1_ n2_ ⊢
 have BR := n0_
 have BG := n1_
 have HB := n2_
 clear n0_ n1_ n2_
 have hz0 : w5.cell? ⟨g, 0, none⟩ = some (.int .u16 a0) := (blk_cell BG.out 0).trans rfl
 have hz1 : w5.cell? ⟨g, 1, none⟩ = some (.int .u8 code) := (blk_cell BG.out 1).trans rfl
 have hz2 : w5.cell? ⟨g, 2, none⟩ = some (.int .u8 a2) := (blk_cell BG.out 2).trans rfl
 have hz3 : w5.cell? ⟨g, 3, none⟩ = some (.slice A3 l3.length c3) := (blk_cell BG.out 3).trans rfl
 have hz4 : w5.cell? ⟨g, 4, none⟩ = some (.int .u16 a4) := (blk_cell BG.out 4).trans rfl
 have hz5 : w5.cell? ⟨g, 5, none⟩ = some (.int .u32 a5) := (blk_cell BG.out 5).trans rfl
 have hz6 : w5.cell? ⟨g, 6, none⟩ = some (.slice A6 l6.length c6) := (blk_cell BG.out 6).trans rfl
 have hz7 : w5.cell? ⟨g, 7, none⟩ = some (.slice A7 l7.length c7) := (blk_cell BG.out 7).trans rfl
 have hz8 : w5.cell? ⟨g, 8, none⟩ = some (.slice A8 l8.length c8) := (blk_cell BG.out 8).trans rfl
 have hz9 : w5.cell? ⟨g, 9, none⟩ = some (.slice A9 l9.length c9) := (blk_cell BG.out 9).trans rfl
 have hr0 : w5.cell? ⟨gr, 0, none⟩ = some (.int .u16 a0) := (blk_cell BR.out 0).trans rfl
 have hr1 : w5.cell? ⟨gr, 1, none⟩ = some (.int .u8 code) := (blk_cell BR.out 1).trans rfl
 have hr2 : w5.cell? ⟨gr, 2, none⟩ = some (.int .u8 a2) := (blk_cell BR.out 2).trans rfl
 have hr3 : w5.cell? ⟨gr, 3, none⟩ = some (.slice A3 l3.length c3) := (blk_cell BR.out 3).trans rfl
 have hr4 : w5.cell? ⟨gr, 4, none⟩ = some (.int .u16 a4) := (blk_cell BR.out 4).trans rfl
 have hr5 : w5.cell? ⟨gr, 5, none⟩ = some (.int .u32 a5) := (blk_cell BR.out 5).trans rfl
 have hr6 : w5.cell? ⟨gr, 6, none⟩ = some (.slice none 0 0) := (blk_cell BR.out 6).trans rfl
 have hr7 : w5.cell? ⟨gr, 7, none⟩ = some (.slice A7 l7.length c7) := (blk_cell BR.out 7).trans rfl
 have hr8 : w5.cell? ⟨gr, 8, none⟩ = some (.slice A8 l8.length c8) := (blk_cell BR.out 8).trans rfl
 have hr9 : w5.cell? ⟨gr, 9, none⟩ = some (.slice A9 l9.length c9) := (blk_cell BR.out 9).trans rfl
 have h := H.out
 unfold papPut1 at h
 by_cases h0 : a0 = 49187
 · rw [if_pos h0] at h
   have hp0 : (a0 != 49187) = false := bne_eq_false_iff_eq.mpr h0
   clear h0
   by_cases hs : 0 < wrap64 (wrap64 (wrap64 (wrap64 (l3.length : Int) + (l7.length : Int)) + (l8.length : Int)) + (l9.length : Int))
   · rw [if_pos hs] at h
     have hs0 : decide (0 < wrap64 (wrap64 (wrap64 (wrap64 (l3.length : Int) + (l7.length : Int)) + (l8.length : Int)) + (l9.length : Int))) = true := decide_eq_true hs
     clear hs
     simp only [Option.some.injEq, Prod.mk.injEq] at h
     obtain ⟨rfl, rfl⟩ := h
     go_wp2
     go_ret2
     exact ⟨_, rfl, Kd.R_nil _ _ _ _ _, HB.out⟩
   · rw [if_neg hs] at h
     have hs0 : decide (0 < wrap64 (wrap64 (wrap64 (wrap64 (l3.length : Int) + (l7.length : Int)) + (l8.length : Int)) + (l9.length : Int))) = false := decide_eq_false hs
     clear hs
     by_cases h4 : a4 = 0
     · rw [if_pos h4] at h
       have hp4 : (a4 != 0) = false := bne_eq_false_iff_eq.mpr h4
       clear h4
       by_cases h5 : a5 = 0
       · rw [if_pos h5] at h
         have hp5 : (a5 != 0) = false := bne_eq_false_iff_eq.mpr h5
         clear h5
         obtain ⟨t8, hcl, h⟩ := Option.bind_eq_some_iff.mp h
         have HCL := Aside0.mk hcl
         replace H := Aside0.mk h
         clear hcl h
         go_wp2_with (first | (go_at_call 48; refine (slices_Clone_byte_byte.calls A8 c8 l8 t8 _ ?s1 ?s2 HCL.out).mono ?_; (case s1 => exact Kd.C_below HR8.out HB.out); (case s2 => exact HC8.out); rintro x w6 ⟨v, rfl, hv, hb⟩; have HV := Aside0.mk (Kd.R_lower hv HB.out.size); have n0_ := Aside0.mk (blk_below BG.out hb); have n1_ := Aside0.mk (below_step HB.out hb); clear BG BR HB hb hv; have BG := n0_; have HB := n1_; clear n0_ n1_) | (go_at_call 50; refine (pt_texts2 g code _ _ _ _ _ _ _ _ _ _ BG.out HC.out).mono ?_; rintro x w7 ⟨b, rfl, hlt, hcs, hb⟩; have n0_ := Aside0.mk (blk_below BG.out hb); have n1_ := Aside0.mk (Kd.R_below HV.out hb); have n2_ := Aside0.mk (below_step HB.out hb); have BP := Aside0.mk hcs; clear BG HV HB hb hlt hcs; have BG := n0_; have HV := n1_; have HB := n2_; clear n0_ n1_ n2_))
         obtain ⟨A0_, c0_, e0_⟩ := Kd.R_slice HV.out
         subst e0_
         go_loopg [50, 5, 7] 2 (fun kq v50 v5 v7 w' => ∃ (x : Nat) (bx : List Int) (A : Option Addr) (cx : Nat), v50 = .int .i64 x ∧ v5 = .slice A bx.length cx ∧ Aside0 (x + kq = 2 ∧ x ≤ 1) ∧ Aside0 (putF k code a2 bx (([l6] : List (List Int)).drop x) = some (r1, r2)) ∧ Aside0 (Kd.R (Kd.int .u8) 5 w' w.heap.size (fun _ => True) (.slice A bx.length cx) bx) ∧ Aside0 (w'.heap[g]? = some (.cells #[.int .u16 a0, .int .u8 code, .int .u8 a2, .slice A3 l3.length c3, .int .u16 a4, .int .u32 a5, .slice A6 l6.length c6, .slice A7 l7.length c7, .slice A8 l8.length c8, .slice A9 l9.length c9] 47 (0, 0))) ∧ Aside0 (w'.heap[b]? = some (.cells (lieAt g 1) 83 (0, 0))) ∧ Aside0 (Below w.heap.size w w'))
         case atStart => exact ⟨0, t8, _, _, rfl, rfl, ⟨by omega⟩, H, HV, BG, BP, HB⟩
         case round =>
          clear BG BP HB HV H
          obtain ⟨x, bx, A, cx, rfl, rfl, hk, HF, HU, BG, BP, HB⟩ := hrel
          have hx : x = 0 ∨ x = 1 := by have := hk.out.2; omega
          rcases hx with rfl | rfl
          · have HK := Aside0.mk hk.out
            clear hk
            have hz6 : wr.cell? ⟨g, 6, none⟩ = some (.slice A6 l6.length c6) := (blk_cell BG.out 6).trans rfl
            have hp : wr.cell? ⟨b, 0, none⟩ = some (.pointer (some ⟨g, 6, none⟩)) := (blk_cell BP.out 0).trans rfl
            have hf := HF.out
            simp only [List.drop_zero, List.drop_succ_cons, putF] at hf
            cases gk with
            | zero => have := HK.out; omega
            | succ k1 =>
             by_cases h255 : (l6.length : Int) > 255
             · rw [if_pos h255] at hf
               have hb0 : decide (255 < (l6.length : Int)) = true := decide_eq_true h255
               simp only [Option.some.injEq, Prod.mk.injEq] at hf
               obtain ⟨rfl, rfl⟩ := hf
               clear h255
               go_wp2
               go_ret2
               exact ⟨_, rfl, Kd.R_nil _ _ _ _ _, HB.out⟩
             · rw [if_neg h255] at hf
               have hb0 : decide (255 < (l6.length : Int)) = false := decide_eq_false h255
               split at hf
               · rename_i hlen
                 have HF2 := Aside0.mk hf
                 have HLEN := Aside0.mk hlen
                 clear hf hlen h255 HF
                 go_wp2
                 have n0_ := Aside0.mk (blk_drew BG.out)
                 have n1_ := Aside0.mk (blk_drew BP.out)
                 have n2_ := Aside0.mk (Kd.R_drew HU.out)
                 have n3_ := Aside0.mk (below_drew1 HB.out)
                 clear BG BP HU HB
                 have BG := n0_
                 have BP := n1_
                 have HU := n2_
                 have HB := n3_
                 clear n0_ n1_ n2_ n3_
                 have hcd : wr.drew.cell? ⟨g, 6, none⟩ = some (.slice A6 l6.length c6) := (blk_cell BG.out 6).trans rfl
                 refine start_ (n := 13) (S := fun w' => w'.cell? ⟨g, 6, none⟩ = some (.slice A6 l6.length c6)) (ds := []) #[false, false, false, false, false, false, false, false, false, false, false, false, false] (by kernel_rfl) rfl rfl (hcd) (fun hHeld => ?_)
                 clear hcd
                 generalize wr.drew = w8 at BG BP HU HB hHeld ⊢
                 refine pure_ (i := 0) (N := some 59) (v := ?_) (a' := ?_) #[true, false, false, false, false, false, false, false, false, false, false, false, false] rfl rfl (by kernel_rfl) (fun _ _ _ h => h) (Or.inl ⟨by rfl, ?_⟩) ?_ ?_
                 rotate_left
                 · intro w'
                   go_simp
                   with_reducible rfl
                 rotate_left
                 · simp only [Act.put, List.setIfInBounds_toArray, List.set_cons_zero, List.set_cons_succ, i64_w, i32_w]
                   rfl
                 refine pure_ (i := 1) (N := some 60) (v := ?_) (a' := ?_) #[true, true, false, false, false, false, false, false, false, false, false, false, false] rfl rfl (by kernel_rfl) (fun _ _ _ h => h) (Or.inl ⟨by rfl, ?_⟩) ?_ ?_
                 rotate_left
                 · intro w'
                   go_simp
                   with_reducible rfl
                 rotate_left
                 · simp only [Act.put, List.setIfInBounds_toArray, List.set_cons_zero, List.set_cons_succ, i64_w, i32_w]
                   rfl
                 refine pure_ (i := 2) (N := some 61) (v := ?_) (a' := ?_) #[true, true, true, false, false, false, false, false, false, false, false, false, false] rfl rfl (by kernel_rfl) (fun _ _ _ h => h) (Or.inl ⟨by rfl, ?_⟩) ?_ ?_
                 rotate_left
                 · intro w'
                   go_simp
                   with_reducible rfl
                 rotate_left
                 · simp only [Act.put, List.setIfInBounds_toArray, List.set_cons_zero, List.set_cons_succ, i64_w, i32_w]
                   rfl
                 refine pure_ (i := 8) (N := some 67) (v := ?_) (a' := ?_) #[true, true, true, false, false, false, false, false, true, false, false, false, false] rfl rfl (by kernel_rfl) (fun _ _ _ h => h) (Or.inl ⟨by rfl, ?_⟩) ?_ ?_
                 rotate_left
                 · intro w'
                   go_simp
                   with_reducible rfl
                 rotate_left
                 · simp only [Act.put, List.setIfInBounds_toArray, List.set_cons_zero, List.set_cons_succ, i64_w, i32_w]
                   rfl
                 refine pure_ (i := 9) (N := some 68) (v := ?_) (a' := ?_) #[true, true, true, false, false, false, false, false, true, true, false, false, false] rfl rfl (by kernel_rfl) (fun _ _ _ h => h) (Or.inl ⟨by rfl, ?_⟩) ?_ ?_
                 rotate_left
                 · intro w'
                   go_simp
                   with_reducible rfl
                 rotate_left
                 · simp only [Act.put, List.setIfInBounds_toArray, List.set_cons_zero, List.set_cons_succ, i64_w, i32_w]
                   rfl
                 refine take_ (i := 3) (N := some 62) (v := ?_) (a' := ?_) #[true, true, true, true, false, false, false, false, true, true, false, false, false] rfl rfl (by kernel_rfl) (fun _ _ _ h => h) (Or.inl ⟨by rfl, ?_⟩) hHeld ?_ ?_
                 rotate_left
                 · intro w' s0
                   go_simp
                   with_reducible rfl
                 rotate_left
                 · simp only [Act.put, List.setIfInBounds_toArray, List.set_cons_zero, List.set_cons_succ, i64_w, i32_w]
                   rfl
                 refine pure_ (i := 4) (N := some 63) (v := ?_) (a' := ?_) #[true, true, true, true, true, false, false, false, true, true, false, false, false] rfl rfl (by kernel_rfl) (fun _ _ _ h => h) (Or.inl ⟨by rfl, ?_⟩) ?_ ?_
                 rotate_left
                 · intro w'
                   go_simp
                   with_reducible rfl
                 rotate_left
                 · simp only [Act.put, List.setIfInBounds_toArray, List.set_cons_zero, List.set_cons_succ, i64_w, i32_w]
                   rfl
                 refine pure_ (i := 5) (N := some 64) (v := ?_) (a' := ?_) #[true, true, true, true, true, true, false, false, true, true, false, false, false] rfl rfl (by kernel_rfl) (fun _ _ _ h => h) (Or.inl ⟨by rfl, ?_⟩) ?_ ?_
                 rotate_left
                 · intro w'
                   go_simp
                   with_reducible rfl
                 rotate_left
                 · simp only [Act.put, List.setIfInBounds_toArray, List.set_cons_zero, List.set_cons_succ, i64_w, i32_w]
                   rfl
                 refine take_ (i := 10) (N := some 69) (v := ?_) (a' := ?_) #[true, true, true, true, true, true, false, false, true, true, true, false, false] rfl rfl (by kernel_rfl) (fun _ _ _ h => h) (Or.inl ⟨by rfl, ?_⟩) hHeld ?_ ?_
                 rotate_left
                 · intro w' s0
                   go_simp
                   with_reducible rfl
                 rotate_left
                 · simp only [Act.put, List.setIfInBounds_toArray, List.set_cons_zero, List.set_cons_succ, i64_w, i32_w]
                   rfl
                 refine one_ (i := 6) (N := some 65) #[true, true, true, true, true, true, true, false, true, true, true, false, false] rfl rfl (by kernel_rfl) (by decide) (fun K hK => ?_)
                 refine Kd.R_lit_step (Kd.int .u8) _ 5 ?hg (N := 65) ?hd (xs := ([(IntKind.u8.wrap (l6.length : Int))] : List Int)) (inner := [.int .u8 (IntKind.u8.wrap (l6.length : Int))]) (ok := fun _ => True) (okp := fun _ => True) ?hr ?hp (fun _ hk => hk) trivial (Below.refl _ _) (Nat.le_refl _) (by simp) ?_; (case hd => rfl); (case hg => rfl); (case hr => first | (go_simp; done) | (go_simp; rfl)); (case hp => exact (Reps.one (show Kd.M (Kd.int .u8) _ _ _ (IntKind.u8.wrap (l6.length : Int)) [.int .u8 (IntKind.u8.wrap (l6.length : Int))] from rfl) (Reps.none _ _)))
                 intro v10 w10 ho hb hg_ hnew_
                 clear hg_ hnew_
                 have HN := Aside0.mk (Kd.R_lower ho HB.out.size)
                 have HNA := Aside0.mk (Kd.R_new' ho (Kd.R_lt HU.out))
                 have n0_ := Aside0.mk (blk_below BG.out hb)
                 have n1_ := Aside0.mk (blk_below BP.out hb)
                 have n2_ := Aside0.mk (Kd.R_below HU.out hb)
                 have n3_ := Aside0.mk (below_step HB.out hb)
                 clear BG BP HU HB ho hb hHeld
                 have BG := n0_
                 have BP := n1_
                 have HU := n2_
                 have HB := n3_
                 clear n0_ n1_ n2_ n3_
                 obtain ⟨A10, c10, e10⟩ := Kd.R_slice HN.out
                 subst e10
                 refine hK.out _ _ ((blk_cell BG.out 6).trans rfl) (fun hHeld => ?_)
                 clear hK K
                 refine norm_ (a' := ?_) ?_ ?_
                 rotate_left
                 · show Act.put _ (some 65) _ = _
                   simp only [Act.put, List.setIfInBounds_toArray, List.set_cons_zero, List.set_cons_succ, i64_w, i32_w]
                   rfl
                 refine one_ (i := 7) (N := some 66) #[true, true, true, true, true, true, true, true, true, true, true, false, false] rfl rfl (by kernel_rfl) (by decide) (fun K hK => ?_)
                 refine Kd.R_append_rows_step (Kd.int .u8) (w0 := w) w.heap.size (by rfl) (.tmp 59) (.tmp 65) 23 5 (.int .u8 0) 1 rfl Try.underlying23 info5 rfl (by decide) (by omega) (.slice A bx.length cx) bx [(IntKind.u8.wrap (l6.length : Int))] _ _ _ (fun _ => True) (fun _ => False) rfl rfl ?aO ?aR (fun _ _ h => h) (fun _ h => h.elim) (fun _ _ => trivial) ?aB ?aS ?aL ?_
                 (case aR => exact (Kd.R_reads' HN.out).2.2)
                 (case aB => exact HB.out)
                 (case aO => exact Kd.R_mono HU.out (fun _ _ => trivial))
                 (case aS => exact (below_size HB.out))
                 (case aL => have := HLEN.out; (try simp only [List.length_append, List.length_cons, List.length_nil]); omega)
                 intro v11 w11 ho hb hg hat
                 have n0_ := Aside0.mk (blk_grown BG.out hg (Kd.R_ne HU.out BG.out (by decide)))
                 have n1_ := Aside0.mk (blk_grown BP.out hg (Kd.R_ne HU.out BP.out (by decide)))
                 have n2_ := Aside0.mk ho
                 have n3_ := Aside0.mk hb
                 clear BG BP HU HB ho hb hg hat hHeld
                 have BG := n0_
                 have BP := n1_
                 have HU := n2_
                 have HB := n3_
                 clear n0_ n1_ n2_ n3_
                 obtain ⟨Av11, cv11, ev11⟩ := Kd.R_slice HU.out
                 subst ev11
                 refine hK.out _ _ ((blk_cell BG.out 6).trans rfl) (fun hHeld => ?_)
                 clear hK K
                 refine norm_ (a' := ?_) ?_ ?_
                 rotate_left
                 · show Act.put _ (some 66) _ = _
                   simp only [Act.put, List.setIfInBounds_toArray, List.set_cons_zero, List.set_cons_succ, i64_w, i32_w]
                   rfl
                 refine one_ (i := 11) (N := some 70) #[true, true, true, true, true, true, true, true, true, true, true, true, false] rfl rfl (by kernel_rfl) (by decide) (fun K hK => ?_)
                 refine Kd.R_append_rows_step (Kd.int .u8) (w0 := w) w.heap.size (by rfl) (.tmp 66) (.tmp 69) 23 5 (.int .u8 0) 1 rfl Try.underlying23 info5 rfl (by decide) (by omega) (.slice Av11 (bx ++ [(IntKind.u8.wrap (l6.length : Int))]).length cv11) (bx ++ [(IntKind.u8.wrap (l6.length : Int))]) l6 _ _ _ (fun _ => True) (fun _ => False) rfl rfl ?aO ?aR (fun _ _ h => h) (fun _ h => h.elim) (fun _ _ => trivial) ?aB ?aS ?aL ?_
                 (case aR => exact Kd.C_below HR6.out HB.out)
                 (case aB => exact HB.out)
                 (case aO => exact Kd.R_mono HU.out (fun _ _ => trivial))
                 (case aS => exact (below_size HB.out))
                 (case aL => have := HLEN.out; (try simp only [List.length_append, List.length_cons, List.length_nil]); omega)
                 intro v12 w12 ho hb hg hat
                 have n0_ := Aside0.mk (blk_grown BG.out hg (Kd.R_ne HU.out BG.out (by decide)))
                 have n1_ := Aside0.mk (blk_grown BP.out hg (Kd.R_ne HU.out BP.out (by decide)))
                 have n2_ := Aside0.mk ho
                 have n3_ := Aside0.mk hb
                 clear BG BP HU HB ho hb hg hat hHeld
                 have BG := n0_
                 have BP := n1_
                 have HU := n2_
                 have HB := n3_
                 clear n0_ n1_ n2_ n3_
                 obtain ⟨Av12, cv12, ev12⟩ := Kd.R_slice HU.out
                 subst ev12
                 refine hK.out _ _ ((blk_cell BG.out 6).trans rfl) (fun hHeld => ?_)
                 clear hK K
                 refine norm_ (a' := ?_) ?_ ?_
                 rotate_left
                 · show Act.put _ (some 70) _ = _
                   simp only [Act.put, List.setIfInBounds_toArray, List.set_cons_zero, List.set_cons_succ, i64_w, i32_w]
                   rfl
                 refine pure_ (i := 12) (N := some 5) (v := ?_) (a' := ?_) #[true, true, true, true, true, true, true, true, true, true, true, true, true] rfl rfl (by kernel_rfl) (fun _ _ _ h => h) (Or.inl ⟨by rfl, ?_⟩) ?_ ?_
                 rotate_left
                 · intro w'
                   go_simp
                   with_reducible rfl
                 rotate_left
                 · simp only [Act.put, List.setIfInBounds_toArray, List.set_cons_zero, List.set_cons_succ, i64_w, i32_w]
                   rfl
                 refine done_ (by kernel_rfl) ?_
                 have HF3 := Aside0.mk HF2.out
                 go_wp2
                 go_roundg k1
                 case measure => have := HK.out; omega
                 case rel => exact ⟨1, (bx ++ [(IntKind.u8.wrap (l6.length : Int))]) ++ l6, _, _, rfl, (by first | rfl | (rw [show ((bx ++ [(IntKind.u8.wrap (l6.length : Int))]) ++ l6).length = bx.length + (l6.length + 1) by simp only [List.length_append, List.length_cons, List.length_nil]; omega])), ⟨by have := HK.out; omega⟩, HF2, HU, BG, BP, HB⟩
               · cases hf
          · clear hk
            replace HF : Aside0 (ctl_Put.f k code a2 bx = some (r1, r2)) := HF
            have hz1 : wr.cell? ⟨g, 1, none⟩ = some (.int .u8 code) := (blk_cell BG.out 1).trans rfl
            have hz2 : wr.cell? ⟨g, 2, none⟩ = some (.int .u8 a2) := (blk_cell BG.out 2).trans rfl
            go_wp2_with (first | (go_at_call 51; refine (ctl_Put.calls k code a2 _ _ bx r1 r2 _ ?s1 ?s2 HF.out).mono ?_; (case s1 => exact (Kd.R_reads' HU.out).2.2); (case s2 => exact (Kd.R_reads' HU.out).2.1); rintro x w9 ⟨v0, rfl, ho, hb⟩; have HO := Aside0.mk (Kd.R_lower ho HB.out.size); have HBF := Aside0.mk (below_step HB.out hb); clear ho hb))
            go_ret2
            exact ⟨_, rfl, HO.out, HBF.out⟩
       · rw [if_neg h5] at h
         have hp5 : (a5 != 0) = true := bne_iff_ne.mpr h5
         clear h5
         simp only [Option.some.injEq, Prod.mk.injEq] at h
         obtain ⟨rfl, rfl⟩ := h
         go_wp2
         go_ret2
         exact ⟨_, rfl, Kd.R_nil _ _ _ _ _, HB.out⟩
     · rw [if_neg h4] at h
       have hp4 : (a4 != 0) = true := bne_iff_ne.mpr h4
       clear h4
       simp only [Option.some.injEq, Prod.mk.injEq] at h
       obtain ⟨rfl, rfl⟩ := h
       go_wp2
       go_ret2
       exact ⟨_, rfl, Kd.R_nil _ _ _ _ _, HB.out⟩
 · rw [if_neg h0] at h
   have hp0 : (a0 != 49187) = true := bne_iff_ne.mpr h0
   clear h0
   simp only [Option.some.injEq, Prod.mk.injEq] at h
   obtain ⟨rfl, rfl⟩ := h
   go_wp2
   go_ret2
   exact ⟨_, rfl, Kd.R_nil _ _ _ _ _, HB.out⟩
set_option maxHeartbeats 16000000 in
set_option maxRecDepth 100000 in
theorem pt_put0 (k : Nat) (a0 code a2 a4 a5 : Int) (A3 A6 A7 A8 A9 : Option Addr) (c3 c6 c7 c8 c9 : Nat) (l3 : List S57) (l6 l7 l8 l9 : List Int) (r1 : List Int) (r2 : Int) (w : World) (hc : code ≠ 1 ∧ code ≠ 2 ∧ code ≠ 3) (hr6 : Kd.C (Kd.int .u8) w A6 l6.length l6) (hr7 : Kd.C (Kd.int .u8) w A7 l7.length l7) (hr8 : Kd.C (Kd.int .u8) w A8 l8.length l8) (hc6 : l6.length ≤ c6) (hc7 : l7.length ≤ c7) (hc8 : l8.length ≤ c8) (h : papPut0 k a0 code a2 l3 a4 a5 l6 l7 l8 l9 = some (r1, r2)) :
 Calls Try.prog 31 #[.agg #[.int .u16 a0, .int .u8 code, .int .u8 a2, .slice A3 l3.length c3, .int .u16 a4, .int .u32 a5, .slice A6 l6.length c6, .slice A7 l7.length c7, .slice A8 l8.length c8, .slice A9 l9.length c9]] w fun x w' => ∃ v0_ : Value, x = .returned (.tuple #[v0_, .int .i64 r2]) ∧ Kd.R (Kd.int .u8) 5 w' w.heap.size (fun _ => True) v0_ r1 ∧ Below w.heap.size w w' := by
 have hu47 := Try.underlying47
 have HC := Aside0.mk hc
 have HR6 := Aside0.mk hr6
 have HR7 := Aside0.mk hr7
 have HR8 := Aside0.mk hr8
 have HC6 := Aside0.mk hc6
 have HC7 := Aside0.mk hc7
 have HC8 := Aside0.mk hc8
 have H := Aside0.mk h
 clear hc hr6 hr7 hr8 hc6 hc7 hc8 h
 go_enter Try.func31, Try.ntmps31
 go_upto_region 2 with (first | ((with_reducible refine gate_dst (N := 1) rfl ?_); refine box_event ?hg (N := 1) ?hd (cs := #[.int .u16 a0, .int .u8 code, .int .u8 a2, .slice A3 l3.length c3, .int .u16 a4, .int .u32 a5, .slice A6 l6.length c6, .slice A7 l7.length c7, .slice A8 l8.length c8, .slice A9 l9.length c9]) (t := 47) ?hr ?_; (case hd => rfl); (case hg => rfl); (case hr => first | (go_simp; done) | (go_simp; rfl)); intro g hgg w1 hbox hb; have BG := Aside0.mk hbox; have GG := Aside0.mk ((by rw [hgg]; exact Nat.le_refl _) : w.heap.size ≤ g); have HB := Aside0.mk hb; clear hbox hb hgg; have hz0 : w1.cell? ⟨g, 0, none⟩ = some (.int .u16 a0) := (blk_cell BG.out 0).trans rfl; have hz1 : w1.cell? ⟨g, 1, none⟩ = some (.int .u8 code) := (blk_cell BG.out 1).trans rfl; have hz2 : w1.cell? ⟨g, 2, none⟩ = some (.int .u8 a2) := (blk_cell BG.out 2).trans rfl; have hz3 : w1.cell? ⟨g, 3, none⟩ = some (.slice A3 l3.length c3) := (blk_cell BG.out 3).trans rfl; have hz4 : w1.cell? ⟨g, 4, none⟩ = some (.int .u16 a4) := (blk_cell BG.out 4).trans rfl; have hz5 : w1.cell? ⟨g, 5, none⟩ = some (.int .u32 a5) := (blk_cell BG.out 5).trans rfl; have hz6 : w1.cell? ⟨g, 6, none⟩ = some (.slice A6 l6.length c6) := (blk_cell BG.out 6).trans rfl; have hz7 : w1.cell? ⟨g, 7, none⟩ = some (.slice A7 l7.length c7) := (blk_cell BG.out 7).trans rfl; have hz8 : w1.cell? ⟨g, 8, none⟩ = some (.slice A8 l8.length c8) := (blk_cell BG.out 8).trans rfl; have hz9 : w1.cell? ⟨g, 9, none⟩ = some (.slice A9 l9.length c9) := (blk_cell BG.out 9).trans rfl) | (go_at_call 49; refine (pt_bare0 _ _ _ _ _ _ _ _ _ _ _ _ _ _ _ _ _ _ _ _ _ HC.out.1 HC.out.2.1 HC.out.2.2).mono ?_; rintro x w2 ⟨rfl, hb⟩; have n0_ := Aside0.mk (blk_below BG.out hb); have n1_ := Aside0.mk (below_step HB.out hb); clear BG HB hb hz0 hz1 hz2 hz3 hz4 hz5 hz6 hz7 hz8 hz9; have BG := n0_; have HB := n1_; clear n0_ n1_) | ((with_reducible refine gate_dst (N := 4) rfl ?_); refine box_event ?hg (N := 4) ?hd (cs := #[.int .u16 0, .int .u8 0, .int .u8 0, .slice none 0 0, .int .u16 0, .int .u32 0, .slice none 0 0, .slice none 0 0, .slice none 0 0, .slice none 0 0]) (t := 47) ?hr ?_; (case hd => rfl); (case hg => rfl); (case hr => first | (go_simp; done) | (go_simp; rfl)); intro gr hgr w3 hbox hb; have BR := Aside0.mk hbox; have NR := Aside0.mk ((by rw [hgr]; exact Nat.ne_of_lt (blk_lt BG.out)) : g ≠ gr); have GR := Aside0.mk ((by rw [hgr]; exact HB.out.size) : w.heap.size ≤ gr); have n0_ := Aside0.mk (blk_below BG.out hb); have n1_ := Aside0.mk (below_step HB.out hb); clear BG HB hbox hb hgr; have BG := n0_; have HB := n1_; clear n0_ n1_; have hr0 : w3.cell? ⟨gr, 0, none⟩ = some (.int .u16 0) := (blk_cell BR.out 0).trans rfl; have hr1 : w3.cell? ⟨gr, 1, none⟩ = some (.int .u8 0) := (blk_cell BR.out 1).trans rfl; have hr2 : w3.cell? ⟨gr, 2, none⟩ = some (.int .u8 0) := (blk_cell BR.out 2).trans rfl; have hr3 : w3.cell? ⟨gr, 3, none⟩ = some (.slice none 0 0) := (blk_cell BR.out 3).trans rfl; have hr4 : w3.cell? ⟨gr, 4, none⟩ = some (.int .u16 0) := (blk_cell BR.out 4).trans rfl; have hr5 : w3.cell? ⟨gr, 5, none⟩ = some (.int .u32 0) := (blk_cell BR.out 5).trans rfl; have hr6 : w3.cell? ⟨gr, 6, none⟩ = some (.slice none 0 0) := (blk_cell BR.out 6).trans rfl; have hr7 : w3.cell? ⟨gr, 7, none⟩ = some (.slice none 0 0) := (blk_cell BR.out 7).trans rfl; have hr8 : w3.cell? ⟨gr, 8, none⟩ = some (.slice none 0 0) := (blk_cell BR.out 8).trans rfl; have hr9 : w3.cell? ⟨gr, 9, none⟩ = some (.slice none 0 0) := (blk_cell BR.out 9).trans rfl; have hs0 := blk_frozen BR.out 0; have hs1 := blk_frozen BR.out 1; have hs2 := blk_frozen BR.out 2; have hs3 := blk_frozen BR.out 3; have hs4 := blk_frozen BR.out 4; have hs5 := blk_frozen BR.out 5; have hs6 := blk_frozen BR.out 6; have hs7 := blk_frozen BR.out 7; have hs8 := blk_frozen BR.out 8; have hs9 := blk_frozen BR.out 9))
 clear hr0 hr1 hr2 hr3 hr4 hr5 hr6 hr7 hr8 hr9 hs0 hs1 hs2 hs3 hs4 hs5 hs6 hs7 hs8 hs9
 have q0 := blk_put BR.out 0 (.int .u16 a0) (rfl : _ = (#[.int .u16 a0, .int .u8 0, .int .u8 0, .slice none 0 0, .int .u16 0, .int .u32 0, .slice none 0 0, .slice none 0 0, .slice none 0 0, .slice none 0 0] : Array Value))
 have q1 := blk_put q0 1 (.int .u8 code) (rfl : _ = (#[.int .u16 a0, .int .u8 code, .int .u8 0, .slice none 0 0, .int .u16 0, .int .u32 0, .slice none 0 0, .slice none 0 0, .slice none 0 0, .slice none 0 0] : Array Value))
 have q2 := blk_put q1 2 (.int .u8 a2) (rfl : _ = (#[.int .u16 a0, .int .u8 code, .int .u8 a2, .slice none 0 0, .int .u16 0, .int .u32 0, .slice none 0 0, .slice none 0 0, .slice none 0 0, .slice none 0 0] : Array Value))
 have q3 := blk_put q2 3 (.slice A3 l3.length c3) (rfl : _ = (#[.int .u16 a0, .int .u8 code, .int .u8 a2, .slice A3 l3.length c3, .int .u16 0, .int .u32 0, .slice none 0 0, .slice none 0 0, .slice none 0 0, .slice none 0 0] : Array Value))
 have q4 := blk_put q3 4 (.int .u16 a4) (rfl : _ = (#[.int .u16 a0, .int .u8 code, .int .u8 a2, .slice A3 l3.length c3, .int .u16 a4, .int .u32 0, .slice none 0 0, .slice none 0 0, .slice none 0 0, .slice none 0 0] : Array Value))
 have q5 := blk_put q4 5 (.int .u32 a5) (rfl : _ = (#[.int .u16 a0, .int .u8 code, .int .u8 a2, .slice A3 l3.length c3, .int .u16 a4, .int .u32 a5, .slice none 0 0, .slice none 0 0, .slice none 0 0, .slice none 0 0] : Array Value))
 have q6 := blk_put q5 6 (.slice A6 l6.length c6) (rfl : _ = (#[.int .u16 a0, .int .u8 code, .int .u8 a2, .slice A3 l3.length c3, .int .u16 a4, .int .u32 a5, .slice A6 l6.length c6, .slice none 0 0, .slice none 0 0, .slice none 0 0] : Array Value))
 have q7 := blk_put q6 7 (.slice A7 l7.length c7) (rfl : _ = (#[.int .u16 a0, .int .u8 code, .int .u8 a2, .slice A3 l3.length c3, .int .u16 a4, .int .u32 a5, .slice A6 l6.length c6, .slice A7 l7.length c7, .slice none 0 0, .slice none 0 0] : Array Value))
 have q8 := blk_put q7 8 (.slice none 0 0) (rfl : _ = (#[.int .u16 a0, .int .u8 code, .int .u8 a2, .slice A3 l3.length c3, .int .u16 a4, .int .u32 a5, .slice A6 l6.length c6, .slice A7 l7.length c7, .slice none 0 0, .slice none 0 0] : Array Value))
 have q9 := blk_put q8 9 (.slice A9 l9.length c9) (rfl : _ = (#[.int .u16 a0, .int .u8 code, .int .u8 a2, .slice A3 l3.length c3, .int .u16 a4, .int .u32 a5, .slice A6 l6.length c6, .slice A7 l7.length c7, .slice none 0 0, .slice A9 l9.length c9] : Array Value))
 have n0_ := Aside0.mk q9
 have n1_ := Aside0.mk (show (((((((((((w3.setCell ⟨gr, 0, none⟩ (.int .u16 a0)).setCell ⟨gr, 1, none⟩ (.int .u8 code)).setCell ⟨gr, 2, none⟩ (.int .u8 a2)).setCell ⟨gr, 3, none⟩ (.slice A3 l3.length c3)).setCell ⟨gr, 4, none⟩ (.int .u16 a4)).setCell ⟨gr, 5, none⟩ (.int .u32 a5)).setCell ⟨gr, 6, none⟩ (.slice A6 l6.length c6)).setCell ⟨gr, 7, none⟩ (.slice A7 l7.length c7)).setCell ⟨gr, 8, none⟩ (.slice none 0 0)).setCell ⟨gr, 9, none⟩ (.slice A9 l9.length c9))).heap[g]? = some (.cells #[.int .u16 a0, .int .u8 code, .int .u8 a2, .slice A3 l3.length c3, .int .u16 a4, .int .u32 a5, .slice A6 l6.length c6, .slice A7 l7.length c7, .slice A8 l8.length c8, .slice A9 l9.length c9] 47 (0, 0)) from (blk_far (p := ⟨gr, 9, none⟩) (blk_far (p := ⟨gr, 8, none⟩) (blk_far (p := ⟨gr, 7, none⟩) (blk_far (p := ⟨gr, 6, none⟩) (blk_far (p := ⟨gr, 5, none⟩) (blk_far (p := ⟨gr, 4, none⟩) (blk_far (p := ⟨gr, 3, none⟩) (blk_far (p := ⟨gr, 2, none⟩) (blk_far (p := ⟨gr, 1, none⟩) (blk_far (p := ⟨gr, 0, none⟩) BG.out NR.out (.int .u16 a0)) NR.out (.int .u8 code)) NR.out (.int .u8 a2)) NR.out (.slice A3 l3.length c3)) NR.out (.int .u16 a4)) NR.out (.int .u32 a5)) NR.out (.slice A6 l6.length c6)) NR.out (.slice A7 l7.length c7)) NR.out (.slice none 0 0)) NR.out (.slice A9 l9.length c9)))
 have n2_ := Aside0.mk (show Below w.heap.size w ((((((((((w3.setCell ⟨gr, 0, none⟩ (.int .u16 a0)).setCell ⟨gr, 1, none⟩ (.int .u8 code)).setCell ⟨gr, 2, none⟩ (.int .u8 a2)).setCell ⟨gr, 3, none⟩ (.slice A3 l3.length c3)).setCell ⟨gr, 4, none⟩ (.int .u16 a4)).setCell ⟨gr, 5, none⟩ (.int .u32 a5)).setCell ⟨gr, 6, none⟩ (.slice A6 l6.length c6)).setCell ⟨gr, 7, none⟩ (.slice A7 l7.length c7)).setCell ⟨gr, 8, none⟩ (.slice none 0 0)).setCell ⟨gr, 9, none⟩ (.slice A9 l9.length c9)) from (below_set (below_set (below_set (below_set (below_set (below_set (below_set (below_set (below_set (below_set HB.out GR.out) GR.out) GR.out) GR.out) GR.out) GR.out) GR.out) GR.out) GR.out) GR.out))
 clear BG BR HB q0 q1 q2 q3 q4 q5 q6 q7 q8 q9
 generalize ((((((((((w3.setCell ⟨gr, 0, none⟩ (.int .u16 a0)).setCell ⟨gr, 1, none⟩ (.int .u8 code)).setCell ⟨gr, 2, none⟩ (.int .u8 a2)).setCell ⟨gr, 3, none⟩ (.slice A3 l3.length c3)).setCell ⟨gr, 4, none⟩ (.int .u16 a4)).setCell ⟨gr, 5, none⟩ (.int .u32 a5)).setCell ⟨gr, 6, none⟩ (.slice A6 l6.length c6)).setCell ⟨gr, 7, none⟩ (.slice A7 l7.length c7)).setCell ⟨gr, 8, none⟩ (.slice none 0 0)).setCell ⟨gr, 9, none⟩ (.slice A9 l9.length c9)) = w5 at n0_ n1_ n2_ ⊢
 have BR := n0_
 have BG := n1_
 have HB := n2_
 clear n0_ n1_ n2_
 have hz0 : w5.cell? ⟨g, 0, none⟩ = some (.int .u16 a0) := (blk_cell BG.out 0).trans rfl
 have hz1 : w5.cell? ⟨g, 1, none⟩ = some (.int .u8 code) := (blk_cell BG.out 1).trans rfl
 have hz2 : w5.cell? ⟨g, 2, none⟩ = some (.int .u8 a2) := (blk_cell BG.out 2).trans rfl
 have hz3 : w5.cell? ⟨g, 3, none⟩ = some (.slice A3 l3.length c3) := (blk_cell BG.out 3).trans rfl
 have hz4 : w5.cell? ⟨g, 4, none⟩ = some (.int .u16 a4) := (blk_cell BG.out 4).trans rfl
 have hz5 : w5.cell? ⟨g, 5, none⟩ = some (.int .u32 a5) := (blk_cell BG.out 5).trans rfl
 have hz6 : w5.cell? ⟨g, 6, none⟩ = some (.slice A6 l6.length c6) := (blk_cell BG.out 6).trans rfl
 have hz7 : w5.cell? ⟨g, 7, none⟩ = some (.slice A7 l7.length c7) := (blk_cell BG.out 7).trans rfl
 have hz8 : w5.cell? ⟨g, 8, none⟩ = some (.slice A8 l8.length c8) := (blk_cell BG.out 8).trans rfl
 have hz9 : w5.cell? ⟨g, 9, none⟩ = some (.slice A9 l9.length c9) := (blk_cell BG.out 9).trans rfl
 have hr0 : w5.cell? ⟨gr, 0, none⟩ = some (.int .u16 a0) := (blk_cell BR.out 0).trans rfl
 have hr1 : w5.cell? ⟨gr, 1, none⟩ = some (.int .u8 code) := (blk_cell BR.out 1).trans rfl
 have hr2 : w5.cell? ⟨gr, 2, none⟩ = some (.int .u8 a2) := (blk_cell BR.out 2).trans rfl
 have hr3 : w5.cell? ⟨gr, 3, none⟩ = some (.slice A3 l3.length c3) := (blk_cell BR.out 3).trans rfl
 have hr4 : w5.cell? ⟨gr, 4, none⟩ = some (.int .u16 a4) := (blk_cell BR.out 4).trans rfl
 have hr5 : w5.cell? ⟨gr, 5, none⟩ = some (.int .u32 a5) := (blk_cell BR.out 5).trans rfl
 have hr6 : w5.cell? ⟨gr, 6, none⟩ = some (.slice A6 l6.length c6) := (blk_cell BR.out 6).trans rfl
 have hr7 : w5.cell? ⟨gr, 7, none⟩ = some (.slice A7 l7.length c7) := (blk_cell BR.out 7).trans rfl
 have hr8 : w5.cell? ⟨gr, 8, none⟩ = some (.slice none 0 0) := (blk_cell BR.out 8).trans rfl
 have hr9 : w5.cell? ⟨gr, 9, none⟩ = some (.slice A9 l9.length c9) := (blk_cell BR.out 9).trans rfl
 have h := H.out
 unfold papPut0 at h
 by_cases h0 : a0 = 49187
 · rw [if_pos h0] at h
   have hp0 : (a0 != 49187) = false := bne_eq_false_iff_eq.mpr h0
   clear h0
   by_cases hs : 0 < wrap64 (wrap64 (wrap64 (wrap64 ((l3.length : Int) + (l6.length : Int)) + (l7.length : Int))) + (l9.length : Int))
   · rw [if_pos hs] at h
     have hs0 : decide (0 < wrap64 (wrap64 (wrap64 (wrap64 ((l3.length : Int) + (l6.length : Int)) + (l7.length : Int))) + (l9.length : Int))) = true := decide_eq_true hs
     clear hs
     simp only [Option.some.injEq, Prod.mk.injEq] at h
     obtain ⟨rfl, rfl⟩ := h
     go_wp2
     go_ret2
     exact ⟨_, rfl, Kd.R_nil _ _ _ _ _, HB.out⟩
   · rw [if_neg hs] at h
     have hs0 : decide (0 < wrap64 (wrap64 (wrap64 (wrap64 ((l3.length : Int) + (l6.length : Int)) + (l7.length : Int))) + (l9.length : Int))) = false := decide_eq_false hs
     clear hs
     by_cases h4 : a4 = 0
     · rw [if_pos h4] at h
       have hp4 : (a4 != 0) = false := bne_eq_false_iff_eq.mpr h4
       clear h4
       by_cases h5 : a5 = 0
       · rw [if_pos h5] at h
         have hp5 : (a5 != 0) = false := bne_eq_false_iff_eq.mpr h5
         clear h5
         obtain ⟨t8, hcl, h⟩ := Option.bind_eq_some_iff.mp h
         have HCL := Aside0.mk hcl
         replace H := Aside0.mk h
         clear hcl h
         go_wp2_with (first | (go_at_call 48; refine (slices_Clone_byte_byte.calls A8 c8 l8 t8 _ ?s1 ?s2 HCL.out).mono ?_; (case s1 => exact Kd.C_below HR8.out HB.out); (case s2 => exact HC8.out); rintro x w6 ⟨v, rfl, hv, hb⟩; have HV := Aside0.mk (Kd.R_lower hv HB.out.size); have n0_ := Aside0.mk (blk_below BG.out hb); have n1_ := Aside0.mk (below_step HB.out hb); clear BG BR HB hb hv; have BG := n0_; have HB := n1_; clear n0_ n1_) | (go_at_call 50; refine (pt_texts0 g code _ _ _ _ _ _ _ _ _ _ BG.out HC.out.1 HC.out.2.1 HC.out.2.2).mono ?_; rintro x w7 ⟨rfl, hb⟩; have n0_ := Aside0.mk (blk_below BG.out hb); have n1_ := Aside0.mk (Kd.R_below HV.out hb); have n2_ := Aside0.mk (below_step HB.out hb); clear BG HV HB hb; have BG := n0_; have HV := n1_; have HB := n2_; clear n0_ n1_ n2_))
         obtain ⟨A, cx, e0_⟩ := Kd.R_slice HV.out
         subst e0_
         go_loopg [50, 5] 1 (fun kq v50 v5 w' => v50 = .int .i64 0 ∧ v5 = .slice A t8.length cx ∧ w' = w7)
         case atStart => exact ⟨rfl, rfl, rfl⟩
         case round =>
          obtain ⟨rfl, rfl, rfl⟩ := hrel
          have HU := HV
          obtain ⟨bx, ebx⟩ : ∃ bx, bx = t8 := ⟨_, rfl⟩
          subst ebx
          have HF := Aside0.mk (show ctl_Put.f k code a2 bx = some (r1, r2) from H.out)
          have hz1 : wr.cell? ⟨g, 1, none⟩ = some (.int .u8 code) := (blk_cell BG.out 1).trans rfl
          have hz2 : wr.cell? ⟨g, 2, none⟩ = some (.int .u8 a2) := (blk_cell BG.out 2).trans rfl
          go_wp2_with (first | (go_at_call 51; refine (ctl_Put.calls k code a2 _ _ bx r1 r2 _ ?s1 ?s2 HF.out).mono ?_; (case s1 => exact (Kd.R_reads' HU.out).2.2); (case s2 => exact (Kd.R_reads' HU.out).2.1); rintro x w9 ⟨v0, rfl, ho, hb⟩; have HO := Aside0.mk (Kd.R_lower ho HB.out.size); have HBF := Aside0.mk (below_step HB.out hb); clear ho hb))
          go_ret2
          exact ⟨_, rfl, HO.out, HBF.out⟩
       · rw [if_neg h5] at h
         have hp5 : (a5 != 0) = true := bne_iff_ne.mpr h5
         clear h5
         simp only [Option.some.injEq, Prod.mk.injEq] at h
         obtain ⟨rfl, rfl⟩ := h
         go_wp2
         go_ret2
         exact ⟨_, rfl, Kd.R_nil _ _ _ _ _, HB.out⟩
     · rw [if_neg h4] at h
       have hp4 : (a4 != 0) = true := bne_iff_ne.mpr h4
       clear h4
       simp only [Option.some.injEq, Prod.mk.injEq] at h
       obtain ⟨rfl, rfl⟩ := h
       go_wp2
       go_ret2
       exact ⟨_, rfl, Kd.R_nil _ _ _ _ _, HB.out⟩
 · rw [if_neg h0] at h
   have hp0 : (a0 != 49187) = true := bne_iff_ne.mpr h0
   clear h0
   simp only [Option.some.injEq, Prod.mk.injEq] at h
   obtain ⟨rfl, rfl⟩ := h
   go_wp2
   go_ret2
   exact ⟨_, rfl, Kd.R_nil _ _ _ _ _, HB.out⟩
end Go.Proofs.Ytgjeahgagciagaa.Print
namespace Go.Proofs.Ytgjeahgagciagaa.Print
open Go.RowKit Go.Proofs.YtgjeahgagciagaaW.PrintWords Go.Proofs.YtgjeahgagciagaaW.PrintLast Go.Proofs.YtgjeahgagciagaaW.PrintMore
attribute [local go_sem] max2_int min2_int max_two min_two max_three min_three max_four min_four
set_option linter.unusedVariables false
set_option linter.unusedSimpArgs false
def wire_Get.l0 : Nat → Int → List Int → Int → Int → Option (Int)
 | 0, _, _, _, _ => none
 | k + 1, x5, x10, x11, x12 => if x12 < x11 then (if 0 ≤ x12 then (if x12 < (x10.length : Int) then (wire_Get.l0 k (Go.bits .or .u64 (IntKind.u64.wrap (x5 * 256)) (IntKind.u64.wrap (rd x10 x12))) x10 x11 (wrap64 (x12 + 1))) else (none)) else (none)) else (some x5)
def wire_Get.f (k : Nat) (l0 : List Int) (a1 : Int) : Option (Int) := if 0 ≤ a1 then (if a1 ≤ (l0.length : Int) then ((some (l0.take (a1 : Int).toNat : List Int)).bind fun y496 => (wire_Get.l0 k 0 y496 (y496.length : Int) 0)) else (none)) else (none)
set_option maxHeartbeats 8000000 in
set_option maxRecDepth 100000 in
theorem wire_Get.calls (k : Nat) (A0 : Option Addr) (c0 : Nat) (l0 : List Int) (a1 : Int) (r : Int) (w : World) (hr0 : Kd.C (Kd.int .u8) w A0 l0.length l0) (hc0 : l0.length ≤ c0) (h : wire_Get.f k l0 a1 = some r) :
 Calls Try.prog 62 #[.slice A0 l0.length c0, .int .i64 a1] w fun e w' => e = .returned (.int .u64 r) ∧ Drawn0 w w' := by
 have HR0 := Aside0.mk hr0
 have HC0 := Aside0.mk hc0
 clear hr0 hc0
 have H : (if 0 ≤ a1 then (if a1 ≤ (l0.length : Int) then ((some (l0.take (a1 : Int).toNat : List Int)).bind fun y496 => (wire_Get.l0 k 0 y496 (y496.length : Int) 0)) else (none)) else (none)) = some r := h
 clear h
 by_cases c3 : 0 ≤ a1
 · rw [if_pos c3] at H
   have c3b0 := eq_true c3
   have c3b1 : decide (0 ≤ a1) = true := decide_eq_true c3
   clear c3
   by_cases c4 : a1 ≤ (l0.length : Int)
   · rw [if_pos c4] at H
     have c4b0 := eq_true c4
     have c4b1 : decide (a1 ≤ (l0.length : Int)) = true := decide_eq_true c4
     clear c4
     obtain ⟨y496, hy496⟩ : ∃ y_ : List Int, y_ = (l0.take (a1 : Int).toNat) := ⟨_, rfl⟩
     replace H : (wire_Get.l0 k 0 y496 (y496.length : Int) 0) = some r := by first | (rw [hy496]; with_reducible exact H) | (have H2_ := (Option.bind_some _ _).symm.trans H; rw [hy496]; with_reducible exact H2_) | (have H2_ := (Option.bind_some _ _).symm.trans H; with_reducible exact H2_) | with_reducible exact H | (rw [hy496]; exact H) | exact H
     have Ny496 := Aside0.mk hy496
     clear hy496
     have H' := Aside0.mk H
     clear H
     have q5 : (a1 : Int) ≤ ((l0.length : Int) : Int) := of_decide_eq_true (by first | (with_reducible assumption) | assumption)
     obtain ⟨i05, hi05, _, hsz5, _⟩ := info_parts info5
     have hroom5 : l0.length ≤ c0 := HC0.out
     have hC5 : Kd.C (Kd.int .u8) _ A0 l0.length l0 := HR0.out
     have hcut5 := cut_to (P := Try.prog) 23 5 .i64 Try.underlying23 hi05 A0 l0.length c0 a1 (of_decide_eq_true (by first | (with_reducible assumption) | assumption)) q5 hroom5
     have hr5 := Kd.C_take (m := (a1 : Int).toNat) hC5 (by omega)
     have hy5 : y496.length = (a1 : Int).toNat := (by rw [Ny496.out, List.length_take]; omega)
     rw [← Ny496.out] at hr5
     rw [← hy5] at hcut5
     have HR499 := Aside0.mk hr5
     have HC499 := Aside0.mk (show y496.length ≤ c0 from by omega)
     clear hr5 hC5 hroom5 hi05 hsz5
     have KY5 := Aside0.mk hy5
     clear hy5
     replace q5 := eq_true q5
     go_enter Try.func62, Try.ntmps62
     go_wp2
     go_loopg [5, 12] k (fun kq v5 v12 w' => ∃ (x5_1 : Int) (x12_1 : Int), v5 = .int .u64 x5_1 ∧ v12 = .int .i64 x12_1 ∧ Aside0 (wire_Get.l0 kq x5_1 y496 (y496.length : Int) x12_1 = some r) ∧ Aside0 (kq ≤ k) ∧ Drawn0 w w')
     case atStart => exact ⟨(0), (0), (by first | rfl | (simp; done) | (simp [*]; done)), (by first | rfl | (simp; done) | (simp [*]; done)), H', ⟨Nat.le_refl _⟩, by repeat (first | exact Drawn0.refl _ | apply Drawn0.step)⟩
     case round =>
      clear H'
      try clear p2
      try clear c3
      try clear c3b0
      try clear c3b1
      try clear c4
      try clear c4b0
      try clear c4b1
      try clear q5
      try clear q5
      obtain ⟨x5_1, x12_1, rfl, rfl, HA, HK1, ⟨m1, rfl⟩⟩ := hrel
      cases gk with
      | zero => exact absurd HA.out (by simp [wire_Get.l0])
      | succ k1 =>
       have H := HA.out
       clear HA
       simp only [wire_Get.l0] at H
       by_cases c6 : x12_1 < (y496.length : Int)
       · rw [if_pos c6] at H
         have c6b0 : decide (x12_1 < (y496.length : Int)) = true := decide_eq_true c6
         clear c6
         by_cases c7 : 0 ≤ x12_1
         · rw [if_pos c7] at H
           have c7b0 : decide (0 ≤ x12_1) = true := decide_eq_true c7
           clear c7
           by_cases c8 : x12_1 < (y496.length : Int)
           · rw [if_pos c8] at H
             have c8b0 : decide (x12_1 < (y496.length : Int)) = true := decide_eq_true c8
             clear c8
             have H' := Aside0.mk H
             clear H
             have p500 : 0 ≤ (x12_1 : Int) := of_decide_eq_true (by first | (with_reducible assumption) | assumption)
             have q500 : x12_1 < (y496.length : Int) := of_decide_eq_true (by first | (with_reducible assumption) | assumption)
             obtain ⟨ad500, e500, hx500_0⟩ := Kd.at_int HR499.out x12_1 p500 q500
             cases e500
             replace p500 := eq_true p500
             replace q500 := eq_true q500
             go_wp2
             go_roundg k1
             case measure => have := HK1.out; omega
             case rel => exact ⟨(Go.bits .or .u64 (IntKind.u64.wrap (x5_1 * 256)) (IntKind.u64.wrap (rd y496 x12_1))), (wrap64 (x12_1 + 1)), (by first | rfl | (simp; done) | (simp [*]; done)), (by first | rfl | (simp; done) | (simp [*]; done)), H', ⟨by have := HK1.out; omega⟩, by repeat (first | exact Drawn0.refl _ | apply Drawn0.step)⟩
           · rw [if_neg c8] at H
             exact absurd H (by simp)
         · rw [if_neg c7] at H
           exact absurd H (by simp)
       · rw [if_neg c6] at H
         have c6b0 : decide (x12_1 < (y496.length : Int)) = false := decide_eq_false c6
         clear c6
         obtain rfl := Option.some.inj H
         go_wp2
         go_ret
         exact ⟨by first | rfl | (simp; done) | (simp [*]; done), by repeat (first | exact Drawn0.refl _ | apply Drawn0.step)⟩
   · rw [if_neg c4] at H
     exact absurd H (by simp)
 · rw [if_neg c3] at H
   exact absurd H (by simp)
end Go.Proofs.Ytgjeahgagciagaa.Print
namespace Go.Proofs.Ytgjeahgagciagaa.Print
open Go.RowKit Go.Proofs.YtgjeahgagciagaaW.PrintWords Go.Proofs.YtgjeahgagciagaaW.PrintLast Go.Proofs.YtgjeahgagciagaaW.PrintMore
attribute [local go_sem] max2_int min2_int max_two min_two max_three min_three max_four min_four
set_option linter.unusedVariables false
set_option linter.unusedSimpArgs false
def ctl_size.f (k : Nat) (l0 : List Int) : Option (Int × Int) := if (l0.length : Int) < 4 then (some (0, 2)) else (if 2 ≤ (l0.length : Int) then ((wire_Get.f k (l0.drop 2) 2).bind fun t505 => (if (wrap64 (t505)) < 4 then (some (0, 4)) else (if (wrap64 (t505)) > (l0.length : Int) then (some (0, 2)) else (some (wrap64 (t505), 0))))) else (none))
set_option maxHeartbeats 8000000 in
set_option maxRecDepth 100000 in
theorem ctl_size.calls (k : Nat) (A0 : Option Addr) (c0 : Nat) (l0 : List Int) (r1 : Int) (r2 : Int) (w : World) (hr0 : Kd.C (Kd.int .u8) w A0 l0.length l0) (hc0 : l0.length ≤ c0) (h : ctl_size.f k l0 = some (r1, r2)) :
 Calls Try.prog 60 #[.slice A0 l0.length c0] w fun e w' => e = .returned (.tuple #[.int .i64 r1, .int .i64 r2]) ∧ Drawn0 w w' := by
 have HR0 := Aside0.mk hr0
 have HC0 := Aside0.mk hc0
 clear hr0 hc0
 have H : (if (l0.length : Int) < 4 then (some (0, 2)) else (if 2 ≤ (l0.length : Int) then ((wire_Get.f k (l0.drop 2) 2).bind fun t505 => (if (wrap64 (t505)) < 4 then (some (0, 4)) else (if (wrap64 (t505)) > (l0.length : Int) then (some (0, 2)) else (some (wrap64 (t505), 0))))) else (none))) = some (r1, r2) := h
 clear h
 by_cases c2 : (l0.length : Int) < 4
 · rw [if_pos c2] at H
   have c2b0 : decide ((l0.length : Int) < 4) = true := decide_eq_true c2
   have c2b1 : decide (l0.length < 4) = true := decide_eq_true (by omega)
   clear c2
   simp only [Option.some.injEq, Prod.mk.injEq] at H
   obtain ⟨rfl, rfl⟩ := H
   go_enter Try.func60, Try.ntmps60
   go_wp2
   go_ret2
   exact ⟨by first | rfl | (simp; done) | (simp [*]; done), by repeat (first | exact Drawn0.refl _ | apply Drawn0.step)⟩
 · rw [if_neg c2] at H
   have c2b0 : decide ((l0.length : Int) < 4) = false := decide_eq_false c2
   have c2b1 : decide (l0.length < 4) = false := decide_eq_false (by omega)
   clear c2
   by_cases c3 : 2 ≤ (l0.length : Int)
   · rw [if_pos c3] at H
     have c3b0 := eq_true c3
     have c3b1 : decide (2 ≤ (l0.length : Int)) = true := decide_eq_true c3
     clear c3
     obtain ⟨y501, hy501⟩ : ∃ y_ : List Int, y_ = (l0.drop 2) := ⟨_, rfl⟩
     replace H : ((wire_Get.f k y501 2).bind fun t505 => (if (wrap64 (t505)) < 4 then (some (0, 4)) else (if (wrap64 (t505)) > (l0.length : Int) then (some (0, 2)) else (some (wrap64 (t505), 0))))) = some (r1, r2) := by first | (rw [hy501]; with_reducible exact H) | (have H2_ := (Option.bind_some _ _).symm.trans H; rw [hy501]; with_reducible exact H2_) | (have H2_ := (Option.bind_some _ _).symm.trans H; with_reducible exact H2_) | with_reducible exact H | (rw [hy501]; exact H) | exact H
     have Ny501 := Aside0.mk hy501
     clear hy501
     replace H := Option.bind_eq_some_iff.mp H
     obtain ⟨t505, A40, H⟩ := H
     replace H : (if (wrap64 (t505)) < 4 then (some (0, 4)) else (if (wrap64 (t505)) > (l0.length : Int) then (some (0, 2)) else (some (wrap64 (t505), 0)))) = some (r1, r2) := H
     have A4 := Aside0.mk A40
     clear A40
     by_cases c5 : (wrap64 (t505)) < 4
     · rw [if_pos c5] at H
       have c5b0 : decide ((wrap64 (t505)) < 4) = true := decide_eq_true c5
       clear c5
       simp only [Option.some.injEq, Prod.mk.injEq] at H
       obtain ⟨rfl, rfl⟩ := H
       have q6 : (2 : Int) ≤ ((l0.length : Int) : Int) := of_decide_eq_true (by first | (with_reducible assumption) | assumption)
       obtain ⟨i06, hi06, _, hsz6, _⟩ := info_parts info5
       have hroom6 : l0.length ≤ c0 := HC0.out
       have hC6 : Kd.C (Kd.int .u8) _ A0 l0.length l0 := HR0.out
       have hcut6 := cut_from (P := Try.prog) 23 5 .i64 Try.underlying23 hi06 1 hsz6 A0 l0.length c0 2 (by omega) q6
       have hr6 := Kd.C_drop (m := (2 : Int).toNat) (c := c0) hC6 (by omega) hroom6
       obtain ⟨A6, hA6⟩ : ∃ A1_, A1_ = (if c0 = (2 : Int).toNat then A0 else (A0 : Option Addr).map (·.add ((2 : Int).toNat * 1))) := ⟨_, rfl⟩
       obtain ⟨c6, hc6⟩ : ∃ c1_, c1_ = c0 - (2 : Int).toNat := ⟨_, rfl⟩
       have hy6 : y501.length = l0.length - (2 : Int).toNat := (by rw [Ny501.out, List.length_drop] <;> omega)
       rw [show (l0).drop (2 : Int).toNat = y501 from Ny501.out.symm] at hr6
       replace hr6 : Kd.C (Kd.int .u8) _ A6 y501.length y501 := (by rw [hA6]; exact hr6)
       rw [← hy6, ← hA6, ← hc6] at hcut6
       have HR504 := Aside0.mk hr6
       have HC504 := Aside0.mk (show y501.length ≤ c6 from by rw [hy6, hc6]; exact Nat.sub_le_sub_right hroom6 _)
       clear hr6 hC6 hroom6 hi06 hsz6 hc6
       have KY6 := Aside0.mk hy6
       have KA6 := Aside0.mk hA6
       clear hy6 hA6
       replace q6 := eq_true q6
       go_enter Try.func60, Try.ntmps60
       go_wp2_with (first | ((with_reducible refine gate_callee (f := 62) rfl ?_); refine goesL_ (some 10) rfl rfl Try.func62 (by kernel_rfl) rfl #[.slice A6 y501.length c6, .int .i64 2] rfl (by (try simp only [List.map_toArray, List.map_cons, List.map_nil]); first | done | rfl | (simp only [List.length_drop, List.length_take]; rfl)) ?_; (with_reducible refine (wire_Get.calls k _ _ y501 2 t505 _ ?side1 ?side2 A4.out).mono ?_); (case side1 => repeat (first | exact HR504.out | (with_reducible refine Kd.C_alloc ?_ _) | (with_reducible refine Kd.C_drewN ?_ _) | (with_reducible refine Kd.C_drew ?_))); (case side2 => exact HC504.out); rintro e w' ⟨rfl, ⟨nd, rfl⟩⟩; refine ⟨_, rfl, ?_⟩))
       go_ret2
       exact ⟨by first | rfl | (simp; done) | (simp [*]; done), by repeat (first | exact Drawn0.refl _ | apply Drawn0.step)⟩
     · rw [if_neg c5] at H
       have c5b0 : decide ((wrap64 (t505)) < 4) = false := decide_eq_false c5
       clear c5
       by_cases c7 : (wrap64 (t505)) > (l0.length : Int)
       · rw [if_pos c7] at H
         have c7b0 : decide ((l0.length : Int) < (wrap64 (t505))) = true := decide_eq_true c7
         clear c7
         simp only [Option.some.injEq, Prod.mk.injEq] at H
         obtain ⟨rfl, rfl⟩ := H
         have q8 : (2 : Int) ≤ ((l0.length : Int) : Int) := of_decide_eq_true (by first | (with_reducible assumption) | assumption)
         obtain ⟨i08, hi08, _, hsz8, _⟩ := info_parts info5
         have hroom8 : l0.length ≤ c0 := HC0.out
         have hC8 : Kd.C (Kd.int .u8) _ A0 l0.length l0 := HR0.out
         have hcut8 := cut_from (P := Try.prog) 23 5 .i64 Try.underlying23 hi08 1 hsz8 A0 l0.length c0 2 (by omega) q8
         have hr8 := Kd.C_drop (m := (2 : Int).toNat) (c := c0) hC8 (by omega) hroom8
         obtain ⟨A8, hA8⟩ : ∃ A1_, A1_ = (if c0 = (2 : Int).toNat then A0 else (A0 : Option Addr).map (·.add ((2 : Int).toNat * 1))) := ⟨_, rfl⟩
         obtain ⟨c8, hc8⟩ : ∃ c1_, c1_ = c0 - (2 : Int).toNat := ⟨_, rfl⟩
         have hy8 : y501.length = l0.length - (2 : Int).toNat := (by rw [Ny501.out, List.length_drop] <;> omega)
         rw [show (l0).drop (2 : Int).toNat = y501 from Ny501.out.symm] at hr8
         replace hr8 : Kd.C (Kd.int .u8) _ A8 y501.length y501 := (by rw [hA8]; exact hr8)
         rw [← hy8, ← hA8, ← hc8] at hcut8
         have HR504 := Aside0.mk hr8
         have HC504 := Aside0.mk (show y501.length ≤ c8 from by rw [hy8, hc8]; exact Nat.sub_le_sub_right hroom8 _)
         clear hr8 hC8 hroom8 hi08 hsz8 hc8
         have KY8 := Aside0.mk hy8
         have KA8 := Aside0.mk hA8
         clear hy8 hA8
         replace q8 := eq_true q8
         go_enter Try.func60, Try.ntmps60
         go_wp2_with (first | ((with_reducible refine gate_callee (f := 62) rfl ?_); refine goesL_ (some 10) rfl rfl Try.func62 (by kernel_rfl) rfl #[.slice A8 y501.length c8, .int .i64 2] rfl (by (try simp only [List.map_toArray, List.map_cons, List.map_nil]); first | done | rfl | (simp only [List.length_drop, List.length_take]; rfl)) ?_; (with_reducible refine (wire_Get.calls k _ _ y501 2 t505 _ ?side1 ?side2 A4.out).mono ?_); (case side1 => repeat (first | exact HR504.out | (with_reducible refine Kd.C_alloc ?_ _) | (with_reducible refine Kd.C_drewN ?_ _) | (with_reducible refine Kd.C_drew ?_))); (case side2 => exact HC504.out); rintro e w' ⟨rfl, ⟨nd, rfl⟩⟩; refine ⟨_, rfl, ?_⟩))
         go_ret2
         exact ⟨by first | rfl | (simp; done) | (simp [*]; done), by repeat (first | exact Drawn0.refl _ | apply Drawn0.step)⟩
       · rw [if_neg c7] at H
         have c7b0 : decide ((l0.length : Int) < (wrap64 (t505))) = false := decide_eq_false c7
         clear c7
         simp only [Option.some.injEq, Prod.mk.injEq] at H
         obtain ⟨rfl, rfl⟩ := H
         have q9 : (2 : Int) ≤ ((l0.length : Int) : Int) := of_decide_eq_true (by first | (with_reducible assumption) | assumption)
         obtain ⟨i09, hi09, _, hsz9, _⟩ := info_parts info5
         have hroom9 : l0.length ≤ c0 := HC0.out
         have hC9 : Kd.C (Kd.int .u8) _ A0 l0.length l0 := HR0.out
         have hcut9 := cut_from (P := Try.prog) 23 5 .i64 Try.underlying23 hi09 1 hsz9 A0 l0.length c0 2 (by omega) q9
         have hr9 := Kd.C_drop (m := (2 : Int).toNat) (c := c0) hC9 (by omega) hroom9
         obtain ⟨A9, hA9⟩ : ∃ A1_, A1_ = (if c0 = (2 : Int).toNat then A0 else (A0 : Option Addr).map (·.add ((2 : Int).toNat * 1))) := ⟨_, rfl⟩
         obtain ⟨c9, hc9⟩ : ∃ c1_, c1_ = c0 - (2 : Int).toNat := ⟨_, rfl⟩
         have hy9 : y501.length = l0.length - (2 : Int).toNat := (by rw [Ny501.out, List.length_drop] <;> omega)
         rw [show (l0).drop (2 : Int).toNat = y501 from Ny501.out.symm] at hr9
         replace hr9 : Kd.C (Kd.int .u8) _ A9 y501.length y501 := (by rw [hA9]; exact hr9)
         rw [← hy9, ← hA9, ← hc9] at hcut9
         have HR504 := Aside0.mk hr9
         have HC504 := Aside0.mk (show y501.length ≤ c9 from by rw [hy9, hc9]; exact Nat.sub_le_sub_right hroom9 _)
         clear hr9 hC9 hroom9 hi09 hsz9 hc9
         have KY9 := Aside0.mk hy9
         have KA9 := Aside0.mk hA9
         clear hy9 hA9
         replace q9 := eq_true q9
         go_enter Try.func60, Try.ntmps60
         go_wp2_with (first | ((with_reducible refine gate_callee (f := 62) rfl ?_); refine goesL_ (some 10) rfl rfl Try.func62 (by kernel_rfl) rfl #[.slice A9 y501.length c9, .int .i64 2] rfl (by (try simp only [List.map_toArray, List.map_cons, List.map_nil]); first | done | rfl | (simp only [List.length_drop, List.length_take]; rfl)) ?_; (with_reducible refine (wire_Get.calls k _ _ y501 2 t505 _ ?side1 ?side2 A4.out).mono ?_); (case side1 => repeat (first | exact HR504.out | (with_reducible refine Kd.C_alloc ?_ _) | (with_reducible refine Kd.C_drewN ?_ _) | (with_reducible refine Kd.C_drew ?_))); (case side2 => exact HC504.out); rintro e w' ⟨rfl, ⟨nd, rfl⟩⟩; refine ⟨_, rfl, ?_⟩))
         go_ret2
         exact ⟨by first | rfl | (simp; done) | (simp [*]; done), by repeat (first | exact Drawn0.refl _ | apply Drawn0.step)⟩
   · rw [if_neg c3] at H
     exact absurd H (by simp)
end Go.Proofs.Ytgjeahgagciagaa.Print
namespace Go.Proofs.Ytgjeahgagciagaa.Print
open Go.RowKit Go.Proofs.YtgjeahgagciagaaW.PrintWords Go.Proofs.YtgjeahgagciagaaW.PrintLast Go.Proofs.YtgjeahgagciagaaW.PrintMore
attribute [local go_sem] max2_int min2_int max_two min_two max_three min_three max_four min_four
set_option linter.unusedVariables false
set_option linter.unusedSimpArgs false
def ctl_Get.f (k : Nat) (l0 : List Int) : Option (Int × Int × List Int × Int) := (ctl_size.f k l0).bind fun bt506 => (if bt506.2 = 0 then (if 0 < (l0.length : Int) then (if 1 < (l0.length : Int) then (if 4 ≤ bt506.1 then (if bt506.1 ≤ (l0.length : Int) then ((slices_Clone_byte_byte.f ((l0.take (bt506.1 : Int).toNat).drop 4)).bind fun t514 => (some (rd l0 0, rd l0 1, t514, 0))) else (none)) else (none)) else (none)) else (none)) else (some (0, 0, ([] : List Int), bt506.2)))
def ctl_Get.T4 : Bool × List (List Nat × List Nat) := (true, [([], []), ([0], [0]), ([1], [1]), ([], []), ([3], [3]), ([4], [4]), ([], []), ([], []), ([6, 7], [6, 7]), ([8], [8]), ([2, 9, 0, 1, 2], [2]), ([5, 10, 0, 1, 2, 3, 4, 5, 10], [5]), ([9, 11, 0, 1, 2, 3, 4, 5, 6, 7, 8, 9, 10, 11], [9]), ([12, 0, 1, 2, 3, 4, 5, 6, 7, 8, 9, 10, 11, 12], [])])
def ctl_Get.B4 : List Nat := [0, 1, 3, 0, 8, 24, 0, 0, 192, 448, 967, 2047, 4095, 8191]
theorem ctl_Get.tab4 : rtab .any (opsOf Try.f53 4) = ctl_Get.T4 := by kernel_rfl
theorem ctl_Get.bits4 : waitsOk ctl_Get.T4.2 ctl_Get.B4 = true := by kernel_rfl
set_option maxHeartbeats 8000000 in
set_option maxRecDepth 100000 in
theorem ctl_Get.calls (k : Nat) (A0 : Option Addr) (c0 : Nat) (l0 : List Int) (r1 : Int) (r2 : Int) (r3 : List Int) (r4 : Int) (w : World) (hr0 : Kd.C (Kd.int .u8) w A0 l0.length l0) (hc0 : l0.length ≤ c0) (h : ctl_Get.f k l0 = some (r1, r2, r3, r4)) :
 Calls Try.prog 53 #[.slice A0 l0.length c0] w fun e w' => ∃ v2_ : Value, e = .returned (.tuple #[.int .u8 r1, .int .u8 r2, v2_, .int .i64 r4]) ∧ Kd.R (Kd.int .u8) 5 w' w.heap.size (fun _ => True) v2_ r3 ∧ Below w.heap.size w w' := by
 have HR0 := Aside0.mk hr0
 have HC0 := Aside0.mk hc0
 clear hr0 hc0
 have HB := Aside0.mk (Below.refl w.heap.size w)
 have H : ((ctl_size.f k l0).bind fun bt506 => (if bt506.2 = 0 then (if 0 < (l0.length : Int) then (if 1 < (l0.length : Int) then (if 4 ≤ bt506.1 then (if bt506.1 ≤ (l0.length : Int) then ((slices_Clone_byte_byte.f ((l0.take (bt506.1 : Int).toNat).drop 4)).bind fun t514 => (some (rd l0 0, rd l0 1, t514, 0))) else (none)) else (none)) else (none)) else (none)) else (some (0, 0, ([] : List Int), bt506.2)))) = some (r1, r2, r3, r4) := h
 clear h
 replace H := Option.bind_eq_some_iff.mp H
 obtain ⟨⟨t506, t507⟩, A20, H⟩ := H
 replace H : (if t507 = 0 then (if 0 < (l0.length : Int) then (if 1 < (l0.length : Int) then (if 4 ≤ t506 then (if t506 ≤ (l0.length : Int) then ((slices_Clone_byte_byte.f ((l0.take (t506 : Int).toNat).drop 4)).bind fun t514 => (some (rd l0 0, rd l0 1, t514, 0))) else (none)) else (none)) else (none)) else (none)) else (some (0, 0, ([] : List Int), t507))) = some (r1, r2, r3, r4) := H
 have A2 := Aside0.mk A20
 clear A20
 by_cases c3 : t507 = 0
 · rw [if_pos c3] at H
   have c3b0 : (t507 == 0) = true := beq_iff_eq.mpr c3
   have c3b1 : (t507 != 0) = false := bne_eq_false_iff_eq.mpr c3
   clear c3
   by_cases c4 : 0 < (l0.length : Int)
   · rw [if_pos c4] at H
     have c4b0 : decide (0 < (l0.length : Int)) = true := decide_eq_true c4
     have c4b1 : decide (0 < l0.length) = true := decide_eq_true (by omega)
     clear c4
     by_cases c5 : 1 < (l0.length : Int)
     · rw [if_pos c5] at H
       have c5b0 : decide (1 < (l0.length : Int)) = true := decide_eq_true c5
       have c5b1 : decide (1 < l0.length) = true := decide_eq_true (by omega)
       clear c5
       by_cases c6 : 4 ≤ t506
       · rw [if_pos c6] at H
         have c6b0 := eq_true c6
         have c6b1 : decide (4 ≤ t506) = true := decide_eq_true c6
         clear c6
         by_cases c7 : t506 ≤ (l0.length : Int)
         · rw [if_pos c7] at H
           have c7b0 := eq_true c7
           have c7b1 : decide (t506 ≤ (l0.length : Int)) = true := decide_eq_true c7
           clear c7
           obtain ⟨y510, hy510⟩ : ∃ y_ : List Int, y_ = ((l0.take (t506 : Int).toNat).drop 4) := ⟨_, rfl⟩
           replace H : ((slices_Clone_byte_byte.f y510).bind fun t514 => (some (rd l0 0, rd l0 1, t514, 0))) = some (r1, r2, r3, r4) := by first | (rw [hy510]; with_reducible exact H) | (have H2_ := (Option.bind_some _ _).symm.trans H; rw [hy510]; with_reducible exact H2_) | (have H2_ := (Option.bind_some _ _).symm.trans H; with_reducible exact H2_) | with_reducible exact H | (rw [hy510]; exact H) | exact H
           have Ny510 := Aside0.mk hy510
           clear hy510
           replace H := Option.bind_eq_some_iff.mp H
           obtain ⟨t514, A80, H⟩ := H
           replace H : (some (rd l0 0, rd l0 1, t514, 0)) = some (r1, r2, r3, r4) := H
           have A8 := Aside0.mk A80
           clear A80
           simp only [Option.some.injEq, Prod.mk.injEq] at H
           obtain ⟨rfl, rfl, rfl, rfl⟩ := H
           go_enter Try.func53, Try.ntmps53
           try go_wp2_with (first | ((with_reducible refine gate_callee (f := 60) rfl ?_); refine goesL_ (some 9) rfl rfl Try.func60 (by kernel_rfl) rfl #[.slice A0 l0.length c0] rfl (by (try simp only [List.map_toArray, List.map_cons, List.map_nil]); first | done | rfl | (simp only [List.length_drop, List.length_take]; rfl)) ?_; (with_reducible refine (ctl_size.calls k _ _ l0 t506 t507 _ ?side1 ?side2 A2.out).mono ?_); (case side1 => repeat (first | exact HR0.out | (with_reducible refine Kd.C_alloc ?_ _) | (with_reducible refine Kd.C_drewN ?_ _) | (with_reducible refine Kd.C_drew ?_))); (case side2 => exact HC0.out); rintro e w' ⟨rfl, ⟨nd, rfl⟩⟩; refine ⟨_, rfl, ?_⟩))
           rw [drewN_self w]
           generalize hq_ : World.drewN w _ = w9
           have n0_ := Aside0.mk (show Below w.heap.size w w9 from by rw [← hq_]; exact pw_below_drewN HB.out _)
           clear HB hq_
           have HB := n0_
           clear n0_
           have n0_ := Aside0.mk (below_drew1 HB.out)
           clear HB
           have HB := n0_
           clear n0_
           have p508 : 0 ≤ (0 : Int) := (by omega)
           have q508 : 0 < (l0.length : Int) := of_decide_eq_true (by first | (with_reducible assumption) | assumption)
           obtain ⟨ad508, e508, hx508_0⟩ := Kd.at_int HR0.out 0 p508 q508
           have hw508_0 := hx508_0
           (try rw [show ((0 : Int)).toNat = 0 from rfl] at hw508_0)
           (try rw [show 0 * 1 = 0 from rfl] at hw508_0)
           (try rw [Addr.add_zero'] at hw508_0)
           cases e508
           have qi508 : (0 < l0.length) = True := eq_true (by omega)
           (try rw [show ((0 : Int)).toNat = 0 from rfl] at hx508_0)
           (try rw [Addr.add_zero'] at hx508_0)
           replace hx508_0 := (HB.out.cell (World.block_lt_of_cell? w _ hx508_0)).trans hx508_0
           replace p508 := eq_true p508
           replace q508 := eq_true q508
           have p509 : 0 ≤ (1 : Int) := (by omega)
           have q509 : 1 < (l0.length : Int) := of_decide_eq_true (by first | (with_reducible assumption) | assumption)
           obtain ⟨ad509, e509, hx509_0⟩ := Kd.at_int HR0.out 1 p509 q509
           have hw509_0 := hx509_0
           (try rw [show ((1 : Int)).toNat = 1 from rfl] at hw509_0)
           (try rw [show 1 * 1 = 1 from rfl] at hw509_0)
           (try simp only [Nat.reduceMul, Nat.reduceEqDiff, Go.Addr.add, ↓reduceIte] at hw509_0)
           obtain rfl : ad508 = ad509 := (by injection e509)
           (try simp only [show (1 : Int).toNat = 1 from rfl, Nat.reduceMul, Nat.reduceEqDiff, Go.Addr.add, ↓reduceIte] at hx509_0)
           have qi509 : (1 < l0.length) = True := eq_true (by omega)
           (try rw [show ((1 : Int)).toNat = 1 from rfl] at hx509_0)
           replace hx509_0 := (HB.out.cell (World.block_lt_of_cell? w _ hx509_0)).trans hx509_0
           replace p509 := eq_true p509
           replace q509 := eq_true q509
           have q11 : (t506 : Int) ≤ ((l0.length : Int) : Int) := of_decide_eq_true (by first | (with_reducible assumption) | assumption)
           obtain ⟨i011, hi011, _, hsz11, _⟩ := info_parts info5
           have hroom11 : l0.length ≤ c0 := HC0.out
           have hC11 : Kd.C (Kd.int .u8) _ (some ad508) l0.length l0 := HR0.out
           have ql11 : (4 : Int) ≤ (t506 : Int) := of_decide_eq_true (by first | (with_reducible assumption) | assumption)
           have hcut11 := cut_mid (P := Try.prog) 23 5 .i64 .i64 Try.underlying23 hi011 1 hsz11 (some ad508) l0.length c0 4 t506 (by omega) ql11 q11 hroom11
           have hr11 := Kd.C_mid (lo := (4 : Int).toNat) (hi := (t506 : Int).toNat) (c := c0) hC11 (by omega) (by omega) hroom11
           obtain ⟨A11, hA11⟩ : ∃ A1_, A1_ = (if c0 = (4 : Int).toNat then (some ad508) else ((some ad508) : Option Addr).map (·.add ((4 : Int).toNat * 1))) := ⟨_, rfl⟩
           obtain ⟨c11, hc11⟩ : ∃ c1_, c1_ = c0 - (4 : Int).toNat := ⟨_, rfl⟩
           have hy11 : y510.length = (t506 : Int).toNat - (4 : Int).toNat := (by rw [Ny510.out, List.length_drop, List.length_take] <;> omega)
           rw [show ((l0).take (t506 : Int).toNat).drop (4 : Int).toNat = y510 from Ny510.out.symm] at hr11
           replace hr11 : Kd.C (Kd.int .u8) _ A11 y510.length y510 := (by rw [hA11]; exact hr11)
           rw [← hy11, ← hA11, ← hc11] at hcut11
           have HR513 := Aside0.mk hr11
           have HC513 := Aside0.mk (show y510.length ≤ c11 from by rw [hy11, hc11]; exact Nat.sub_le_sub_right (Nat.le_trans (by omega) hroom11) _)
           clear hr11 hC11 hroom11 hi011 hsz11 hc11
           have KY11 := Aside0.mk hy11
           have KA11 := Aside0.mk hA11
           clear hy11 hA11
           replace q11 := eq_true q11
           refine start_ (n := 14) (S := fun w' => w'.cell? ad508 = some (.int .u8 (rd l0 0)) ∧ w'.cell? ⟨ad508.block, ad508.off + 1, none⟩ = some (.int .u8 (rd l0 1))) (ds := []) #[false, false, false, false, false, false, false, false, false, false, false, false, false, false] (by kernel_rfl) rfl rfl ⟨((HB.out.cell (World.block_lt_of_cell? w _ hw508_0)).trans hw508_0), ((HB.out.cell (World.block_lt_of_cell? w _ hw509_0)).trans hw509_0)⟩ (fun hHeld => ?_); refine with_tabW ctl_Get.tab4 ctl_Get.bits4 (fun HT_ HW_ => ?_)
           generalize w9.drew = w10 at HB HR513 hx508_0 hx509_0 hHeld ⊢
           refine pure_ (i := 0) (N := some 15) (v := ?_) (a' := ?_) #[true, false, false, false, false, false, false, false, false, false, false, false, false, false] rfl rfl (any_of HT_.out (by kernel_rfl)) (fun _ _ _ h => h) (Or.inl ⟨by rfl, ?_⟩) ?_ ?_
           rotate_left
           · intro w'
             go_simp
             with_reducible rfl
           rotate_left
           · simp only [Act.put, List.setIfInBounds_toArray, List.set_cons_zero, List.set_cons_succ, i64_w, i32_w]
             rfl
           refine pure_ (i := 1) (N := some 16) (v := ?_) (a' := ?_) #[true, true, false, false, false, false, false, false, false, false, false, false, false, false] rfl rfl (any_of HT_.out (by kernel_rfl)) (fun _ _ _ h => h) (Or.inl ⟨by rfl, ?_⟩) ?_ ?_
           rotate_left
           · intro w'
             go_simp
             with_reducible rfl
           rotate_left
           · simp only [Act.put, List.setIfInBounds_toArray, List.set_cons_zero, List.set_cons_succ, i64_w, i32_w]
             rfl
           refine pure_ (i := 3) (N := some 18) (v := ?_) (a' := ?_) #[true, true, false, true, false, false, false, false, false, false, false, false, false, false] rfl rfl (any_of HT_.out (by kernel_rfl)) (fun _ _ _ h => h) (Or.inl ⟨by rfl, ?_⟩) ?_ ?_
           rotate_left
           · intro w'
             go_simp
             with_reducible rfl
           rotate_left
           · simp only [Act.put, List.setIfInBounds_toArray, List.set_cons_zero, List.set_cons_succ, i64_w, i32_w]
             rfl
           refine pure_ (i := 4) (N := some 19) (v := ?_) (a' := ?_) #[true, true, false, true, true, false, false, false, false, false, false, false, false, false] rfl rfl (any_of HT_.out (by kernel_rfl)) (fun _ _ _ h => h) (Or.inl ⟨by rfl, ?_⟩) ?_ ?_
           rotate_left
           · intro w'
             go_simp
             with_reducible rfl
           rotate_left
           · simp only [Act.put, List.setIfInBounds_toArray, List.set_cons_zero, List.set_cons_succ, i64_w, i32_w]
             rfl
           refine pure_ (i := 6) (N := some 21) (v := ?_) (a' := ?_) #[true, true, false, true, true, false, true, false, false, false, false, false, false, false] rfl rfl (any_of HT_.out (by kernel_rfl)) (fun _ _ _ h => h) (Or.inl ⟨by rfl, ?_⟩) ?_ ?_
           rotate_left
           · intro w'
             go_simp
             with_reducible rfl
           rotate_left
           · simp only [Act.put, List.setIfInBounds_toArray, List.set_cons_zero, List.set_cons_succ, i64_w, i32_w]
             rfl
           refine pure_ (i := 7) (N := some 22) (v := ?_) (a' := ?_) #[true, true, false, true, true, false, true, true, false, false, false, false, false, false] rfl rfl (any_of HT_.out (by kernel_rfl)) (fun _ _ _ h => h) (Or.inl ⟨by rfl, ?_⟩) ?_ ?_
           rotate_left
           · intro w'
             go_simp
             with_reducible rfl
           rotate_left
           · simp only [Act.put, List.setIfInBounds_toArray, List.set_cons_zero, List.set_cons_succ, i64_w, i32_w]
             rfl
           refine pure_ (i := 8) (N := some 23) (v := ?_) (a' := ?_) #[true, true, false, true, true, false, true, true, true, false, false, false, false, false] rfl rfl (any_of HT_.out (by kernel_rfl)) (fun _ _ _ h => h) (Or.inl ⟨by rfl, ?_⟩) ?_ ?_
           rotate_left
           · intro w'
             go_simp
             with_reducible rfl
           rotate_left
           · simp only [Act.put, List.setIfInBounds_toArray, List.set_cons_zero, List.set_cons_succ, i64_w, i32_w]
             rfl
           refine take_ (i := 2) (N := some 17) (v := ?_) (a' := ?_) #[true, true, true, true, true, false, true, true, true, false, false, false, false, false] rfl rfl (take_ofW HT_.out HW_.out (by kernel_rfl)) (fun _ _ _ h => h) (Or.inl ⟨by rfl, ?_⟩) hHeld ?_ ?_
           rotate_left
           · rintro w' ⟨s0, s1⟩
             go_simp
             with_reducible rfl
           rotate_left
           · simp only [Act.put, List.setIfInBounds_toArray, List.set_cons_zero, List.set_cons_succ, i64_w, i32_w]
             rfl
           refine take_ (i := 5) (N := some 20) (v := ?_) (a' := ?_) #[true, true, true, true, true, true, true, true, true, false, false, false, false, false] rfl rfl (take_ofW HT_.out HW_.out (by kernel_rfl)) (fun _ _ _ h => h) (Or.inl ⟨by rfl, ?_⟩) hHeld ?_ ?_
           rotate_left
           · rintro w' ⟨s0, s1⟩
             go_simp
             with_reducible rfl
           rotate_left
           · simp only [Act.put, List.setIfInBounds_toArray, List.set_cons_zero, List.set_cons_succ, i64_w, i32_w]
             rfl
           refine one_ (i := 9) (N := some 24) #[true, true, true, true, true, true, true, true, true, true, false, false, false, false] rfl rfl (one_of HT_.out (by kernel_rfl)) (by decide) (fun K hK => ?_)
           refine goes_ Try.func48 (by kernel_rfl) rfl #[.slice A11 y510.length c11] (by rfl) rfl rfl (by (try simp only [List.map_toArray, List.map_cons, List.map_nil]); first | done | rfl | (simp only [List.length_drop, List.length_take]; rfl)) ?_
           with_reducible refine (slices_Clone_byte_byte.calls _ _ y510 t514 _ ?side1 ?side2 A8.out).mono ?_
           (case side1 => repeat (first | exact (Kd.C_below HR513.out HB.out) | (with_reducible refine Kd.C_alloc ?_ _) | (with_reducible refine Kd.C_drewN ?_ _) | (with_reducible refine Kd.C_drew ?_)))
           (case side2 => exact HC513.out)
           rintro e w12 ⟨v515, rfl, ho0, hb⟩
           refine ⟨_, rfl, ?_⟩
           have n0_ := Aside0.mk (Kd.R_lower ho0 (below_size (by repeat (first | (with_reducible first | exact HB.out | apply below_alloc | apply pw_below_drewN | apply below_drew1) | exact HB.out))))
           have n1_ := Aside0.mk (below_step (by repeat (first | (with_reducible first | exact HB.out | apply below_alloc | apply pw_below_drewN | apply below_drew1) | exact HB.out)) hb)
           clear HB
           have HO516 := n0_
           have HB := n1_
           clear n0_ n1_
           (try clear hb)
           (try clear hb2)
           (try clear hk)
           (try clear hi)
           (try clear ho0)
           refine hK.out _ _ ⟨((HB.out.cell (World.block_lt_of_cell? w _ hw508_0)).trans hw508_0), ((HB.out.cell (World.block_lt_of_cell? w _ hw509_0)).trans hw509_0)⟩ (fun hHeld => ?_)
           clear hK K
           refine norm_ (a' := ?_) ?_ ?_
           rotate_left
           · show Act.put _ (some 24) _ = _
             simp only [Act.put, List.setIfInBounds_toArray, List.set_cons_zero, List.set_cons_succ, i64_w, i32_w]
             rfl
           refine pure_ (i := 10) (N := some 2) (v := ?_) (a' := ?_) #[true, true, true, true, true, true, true, true, true, true, true, false, false, false] rfl rfl (any_of HT_.out (by kernel_rfl)) (fun _ _ _ h => h) (Or.inl ⟨by rfl, ?_⟩) ?_ ?_
           rotate_left
           · intro w'
             go_simp
             with_reducible rfl
           rotate_left
           · simp only [Act.put, List.setIfInBounds_toArray, List.set_cons_zero, List.set_cons_succ, i64_w, i32_w]
             rfl
           refine pure_ (i := 11) (N := some 3) (v := ?_) (a' := ?_) #[true, true, true, true, true, true, true, true, true, true, true, true, false, false] rfl rfl (any_of HT_.out (by kernel_rfl)) (fun _ _ _ h => h) (Or.inl ⟨by rfl, ?_⟩) ?_ ?_
           rotate_left
           · intro w'
             go_simp
             with_reducible rfl
           rotate_left
           · simp only [Act.put, List.setIfInBounds_toArray, List.set_cons_zero, List.set_cons_succ, i64_w, i32_w]
             rfl
           refine pure_ (i := 12) (N := some 4) (v := ?_) (a' := ?_) #[true, true, true, true, true, true, true, true, true, true, true, true, true, false] rfl rfl (any_of HT_.out (by kernel_rfl)) (fun _ _ _ h => h) (Or.inl ⟨by rfl, ?_⟩) ?_ ?_
           rotate_left
           · intro w'
             go_simp
             with_reducible rfl
           rotate_left
           · simp only [Act.put, List.setIfInBounds_toArray, List.set_cons_zero, List.set_cons_succ, i64_w, i32_w]
             rfl
           refine pure_ (i := 13) (N := some 5) (v := ?_) (a' := ?_) #[true, true, true, true, true, true, true, true, true, true, true, true, true, true] rfl rfl (any_of HT_.out (by kernel_rfl)) (fun _ _ _ h => h) (Or.inl ⟨by rfl, ?_⟩) ?_ ?_
           rotate_left
           · intro w'
             go_simp
             with_reducible rfl
           rotate_left
           · simp only [Act.put, List.setIfInBounds_toArray, List.set_cons_zero, List.set_cons_succ, i64_w, i32_w]
             rfl
           refine done_ (done_of HT_.out (by kernel_rfl)) ?_
           try go_wp2
           refine bodyPost_ret (results_list (rs := [.tmp 2, .tmp 3, .tmp 4, .tmp 5]) rfl (by simp) (.tmp (.tmp (.tmp (.tmp .nil))))) rfl ?_
           exact ⟨_, by first | rfl | (simp [errW_none, errW_some] <;> rfl) | (simp [*, errW_none, errW_some] <;> rfl), by (with_reducible repeat (first | apply Kd.R_alloc | apply Kd.R_drewN | apply Kd.R_drew)); exact HO516.out, by repeat (first | (with_reducible first | exact HB.out | apply below_alloc | apply pw_below_drewN | apply below_drew1) | exact HB.out)⟩
         · rw [if_neg c7] at H
           exact absurd H (by simp)
       · rw [if_neg c6] at H
         exact absurd H (by simp)
     · rw [if_neg c5] at H
       exact absurd H (by simp)
   · rw [if_neg c4] at H
     exact absurd H (by simp)
 · rw [if_neg c3] at H
   have c3b0 : (t507 == 0) = false := beq_eq_false_iff_ne.mpr c3
   have c3b1 : (t507 != 0) = true := bne_iff_ne.mpr c3
   simp only [Option.some.injEq, Prod.mk.injEq] at H
   obtain ⟨rfl, rfl, rfl, rfl⟩ := H
   go_enter Try.func53, Try.ntmps53
   go_wp2_with (first | ((with_reducible refine gate_callee (f := 60) rfl ?_); refine goesL_ (some 9) rfl rfl Try.func60 (by kernel_rfl) rfl #[.slice A0 l0.length c0] rfl (by (try simp only [List.map_toArray, List.map_cons, List.map_nil]); first | done | rfl | (simp only [List.length_drop, List.length_take]; rfl)) ?_; (with_reducible refine (ctl_size.calls k _ _ l0 t506 t507 _ ?side1 ?side2 A2.out).mono ?_); (case side1 => repeat (first | exact HR0.out | (with_reducible refine Kd.C_alloc ?_ _) | (with_reducible refine Kd.C_drewN ?_ _) | (with_reducible refine Kd.C_drew ?_))); (case side2 => exact HC0.out); rintro e w' ⟨rfl, ⟨nd, rfl⟩⟩; refine ⟨_, rfl, ?_⟩))
   refine bodyPost_ret (results_list (rs := [.tmp 2, .tmp 3, .tmp 4, .tmp 5]) rfl (by simp) (.tmp (.tmp (.tmp (.tmp .nil))))) rfl ?_
   exact ⟨_, by first | rfl | (simp [errW_none, errW_some] <;> rfl) | (simp [*, errW_none, errW_some] <;> rfl), by first | exact Kd.R_nil _ _ _ _ _ | exact Kd.N_nil _ _ _ _ _ | exact Kd.V_nil _ _ _ _ _ | exact Kd.Q_nil _ _ _ _ _ | exact Kd.S_nil _ _ _ _ _, by repeat (first | (with_reducible first | exact HB.out | apply below_alloc | apply pw_below_drewN | apply below_drew1) | exact HB.out)⟩
end Go.Proofs.Ytgjeahgagciagaa.Print
