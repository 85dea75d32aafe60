/- What the asynchronous deframer's small functions come to, its variable and its row of octets lying where they may: put. No condition but the row's length. -/
import Derived.Test.YtjmclghjhnbafaaPrint0
import Derived.Test.YtjmclghjhnbafaaPrintAccmHas
import Derived.Test.YtjmclghjhnbafaaPrintSlicesCloneByteByte
import Derived.Test.YtjmclghjhnbafaaPrintAsyncNew
namespace Go.Proofs.Ytjmclghjhnbafaa.Print
open Go.RowKit Go.Proofs.YtjmclghjhnbafaaW.PrintWords Go.Proofs.YtjmclghjhnbafaaW.PrintLast Go.Proofs.YtjmclghjhnbafaaW.PrintMore
attribute [local go_sem] max2_int min2_int max_two min_two max_three min_three max_four min_four
set_option linter.unusedVariables false
set_option linter.unusedSimpArgs false
/-- What an octet that is read leaves. -/
def dput (most : Int) (xs : List Int) (l : Bool) (c : Int) : List Int × Bool := if (xs.length : Int) = most then (xs, true) else (xs ++ [c], l)
set_option maxHeartbeats 8000000 in
set_option maxRecDepth 100000 in
theorem df_put (P0_ : Nat → Prop) (g : Nat) (u : Value) (recv most c : Int) (xs : List Int) (a e l : Bool) (w0 w : World) (hB : Below w0.heap.size w0 w)
    (hg : w.heap[g]? = some (.cells #[.int .u32 recv, .int .i64 most, u, .bool a, .bool e, .bool l] 58 (0, 0))) (hge : w0.heap.size ≤ g) (hP : ¬ P0_ g) (ho : Kd.R (Kd.int .u8) 5 w w0.heap.size P0_ u xs) (hl : xs.length < 1000000000) :
    Calls Try.prog 34 #[.pointer (some ⟨g, 0, none⟩), .int .u8 c] w fun x w' => x = .returned (.tuple #[]) ∧ ∃ u' : Value, w'.heap[g]? = some (.cells #[.int .u32 recv, .int .i64 most, u', .bool a, .bool e, .bool (dput most xs l c).2] 58 (0, 0)) ∧
      Kd.R (Kd.int .u8) 5 w' w0.heap.size (fun k_ => P0_ k_ ∨ w.heap.size ≤ k_) u' (dput most xs l c).1 ∧ Below w0.heap.size w0 w' ∧ Kept w w' (fun k_ => P0_ k_ ∨ k_ = g) := by
  have hu58 := Try.underlying58
  have HO := Aside0.mk ho
  have HB := Aside0.mk hB
  have HG := Aside0.mk hg
  have HGE := Aside0.mk hge
  have HP := Aside0.mk hP
  have HL := Aside0.mk hl
  obtain ⟨A, c0, rfl⟩ := Kd.R_slice ho
  have hcz0 : w.cell? ⟨g, 0, none⟩ = some (.int .u32 recv) := (blk_cell hg 0).trans rfl
  have hcz1 : w.cell? ⟨g, 1, none⟩ = some (.int .i64 most) := (blk_cell hg 1).trans rfl
  have hcz2 : w.cell? ⟨g, 2, none⟩ = some (.slice A xs.length c0) := (blk_cell hg 2).trans rfl
  have hcz5 : w.cell? ⟨g, 5, none⟩ = some (.bool l) := (blk_cell hg 5).trans rfl
  have hfz5 := blk_frozen hg 5
  clear ho hB hge hP hl
  by_cases hm : (xs.length : Int) = most
  · have hm0 : ((xs.length : Int) == most) = true := beq_iff_eq.mpr hm
    have ed : dput most xs l c = (xs, true) := by unfold dput; rw [if_pos hm]
    rw [ed]
    clear hm ed hg
    go_enter Try.func34, Try.ntmps34
    go_wp2
    repeat (go_quiet (fail); try go_wp2)
    refine bodyPost_ret (results_list (rs := []) (vs := []) rfl (by decide) Vals.nil) rfl ?_
    refine ⟨rfl, _, blk_put HG.out 5 (.bool true) rfl, ?_, below_set (by repeat (first | (with_reducible first | exact HB.out | apply below_alloc | apply pw_below_drewN | apply below_drew1) | exact HB.out)) HGE.out, (show Kept w _ (fun k_ => P0_ k_ ∨ k_ = g) from (by (with_reducible repeat (first | refine Kept.drewN ?_ _ | refine Kept.drew ?_ | refine Kept.alloc ?_ _)); exact Kept.refl w _)).setCell (.inl (.inr rfl)) _⟩
    exact Kd.R_far (p := ⟨g, 5, none⟩) (Kd.R_mono (Kd.R_bound HO.out) (fun k hk => (⟨.inl hk.1, fun h => HP.out (h ▸ hk.1)⟩ : (P0_ k ∨ w.heap.size ≤ k) ∧ k ≠ g))) (fun _ hk => hk.2) _ |> fun h => Kd.R_mono h (fun _ hk => hk.1)
  · have hm0 : ((xs.length : Int) == most) = false := beq_eq_false_iff_ne.mpr hm
    have ed : dput most xs l c = (xs ++ [c], l) := by unfold dput; rw [if_neg hm]
    rw [ed]
    clear hm ed
    go_enter Try.func34, Try.ntmps34
    go_wp2
    go_quiet (fail)
    go_wp2_with (first | ((with_reducible refine gate_dst (N := 23) rfl ?_); refine Kd.R_lit (Kd.int .u8) _ 5 ?hg (N := 23) ?hd (xs := ([c] : List Int)) (inner := [.int .u8 c]) (ok := fun _ => True) (okp := fun _ => True) ?hr ?hp (fun _ hk => hk) trivial (Below.refl _ _) (Nat.le_refl _) (by simp) ?_; (case hd => rfl); (case hg => rfl); (case hr => first | (go_simp; done) | (go_simp; rfl)); (case hp => exact (Reps.one (show Kd.M (Kd.int .u8) _ _ _ c [.int .u8 c] from rfl) (Reps.none _ _))); intro v1 w1 ho7 hb hg_ hnew_; clear hg_ hnew_; have HN := Aside0.mk ho7; have HB1 := Aside0.mk (below_step (by repeat (first | (with_reducible first | exact HB.out | apply below_alloc | apply pw_below_drewN | apply below_drew1) | exact HB.out)) hb); have HO1 := Aside0.mk (show Kd.R (Kd.int .u8) 5 w1 w0.heap.size (fun k_ => P0_ k_ ∨ w.heap.size ≤ k_) (.slice A xs.length c0) xs from Kd.R_below (by (with_reducible repeat (first | apply Kd.R_alloc | apply Kd.R_drewN | apply Kd.R_drew)); exact Kd.R_mono HO.out (fun _ hk => .inl hk)) hb); have HG1 := Aside0.mk (blk_below (g := g) (o := .cells #[.int .u32 recv, .int .i64 most, .slice A xs.length c0, .bool a, .bool e, .bool l] 58 (0, 0)) (by (with_reducible repeat (first | refine blk_drewN ?_ _ | refine blk_drew ?_ | refine blk_alloc ?_ _)); exact HG.out) hb); have HK1 := Aside0.mk (show Kept w w1 (fun k_ => P0_ k_ ∨ k_ = g) from Kept.below (by (with_reducible repeat (first | refine Kept.drewN ?_ _ | refine Kept.drew ?_ | refine Kept.alloc ?_ _)); exact Kept.refl w _) hb); clear ho7 hb; obtain ⟨A1, c1, e1⟩ := Kd.R_slice HN.out; subst e1) | ((with_reducible refine gate_builtin (b := .append) (xs := #[.tmp 21, .tmp 23]) rfl ?_); at_builtin; refine Kd.R_append_rows (Kd.int .u8) (w0 := w0) w0.heap.size rfl (.tmp 21) (.tmp 23) 28 5 (.int .u8 0) 1 rfl Try.underlying28 info5 rfl (by decide) (by omega) (.slice A xs.length c0) xs [c] _ _ _ (fun k_ => P0_ k_ ∨ w.heap.size ≤ k_) (fun _ => False) rfl rfl ?aO ?aR (fun _ _ h => h) (fun _ h => h.elim) ?aF ?aB ?aS ?aL ?_; (case aR => exact (Kd.R_reads' HN.out).2.2); (case aB => exact HB1.out); (case aF => exact (fun k_ hk => .inr (Nat.le_trans HK1.out.1 hk))); (case aO => exact HO1.out); (case aS => exact below_size HB1.out); (case aL => have := HL.out; simp; omega); intro v2 w2 ho hb hg2 hat; have HO2 := Aside0.mk ho; have HB2 := Aside0.mk hb; have HK2 := Aside0.mk hg2; clear ho hb hg2 hat; obtain ⟨A2, c2, e2⟩ := Kd.R_slice HO2.out; subst e2; have HG2 := Aside0.mk (blk_grown HG1.out HK2.out (fun h => HP.out (HO.out.1 g h.symm))); have hcy2 : w2.cell? ⟨g, 2, none⟩ = some (.slice A xs.length c0) := (blk_cell HG2.out 2).trans rfl; have hfy2 := blk_frozen HG2.out 2))
    refine bodyPost_end (results_list (rs := []) (vs := []) rfl (by decide) Vals.nil) rfl ?_
    have HO3 := HO2.out
    rw [show (xs ++ [c]).length = xs.length + 1 by simp] at HO3
    refine ⟨rfl, _, blk_put HG2.out 2 _ rfl, ?_, below_set HB2.out HGE.out, (Kept.of_grown HK2.out HK1.out (fun k hk => .inl (.inl (HO.out.1 k hk)))).setCell (.inl (.inr rfl)) _⟩
    exact Kd.R_mono (Kd.R_far (p := ⟨g, 2, none⟩) (Kd.R_mono HO3 (fun k hk => (⟨hk, fun h => hk.elim (fun h1 => HP.out (h ▸ h1)) (fun h1 => by have := blk_lt HG.out; omega)⟩ : (P0_ k ∨ w.heap.size ≤ k) ∧ k ≠ g))) (fun _ hk => hk.2) _) (fun _ hk => hk.1)
end Go.Proofs.Ytjmclghjhnbafaa.Print
