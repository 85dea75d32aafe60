/- What ends a segment of the asynchronous deframer. No condition but the row's length. -/
import Derived.Test.YtjmclghjhnbafaaDf05
namespace Go.Proofs.Ytjmclghjhnbafaa.Print
open Go.RowKit Go.Proofs.YtjmclghjhnbafaaW.PrintWords Go.Proofs.YtjmclghjhnbafaaW.PrintLast Go.Proofs.YtjmclghjhnbafaaW.PrintMore
attribute [local go_sem] max2_int min2_int max_two min_two max_three min_three max_four min_four
set_option linter.unusedVariables false
set_option linter.unusedSimpArgs false
/-- What a segment tells, as it ends. -/
def dkind (e l : Bool) : Int := if e then 2 else if l then 4 else 0
def dseg (xs : List Int) (e l : Bool) : List Int := if e then [] else if l then [] else xs
set_option maxHeartbeats 16000000 in
set_option maxRecDepth 100000 in
theorem df_end (P0_ : Nat → Prop) (g : Nat) (u : Value) (recv most : Int) (xs : List Int) (a e l : Bool) (w0 w : World) (hB : Below w0.heap.size w0 w)
    (hg : w.heap[g]? = some (.cells #[.int .u32 recv, .int .i64 most, u, .bool a, .bool e, .bool l] 58 (0, 0))) (hge : w0.heap.size ≤ g) (ho : Kd.R (Kd.int .u8) 5 w w0.heap.size P0_ u xs) (hl : xs.length < 1000000000) :
    Calls Try.prog 32 #[.pointer (some ⟨g, 0, none⟩)] w fun x w' => ∃ v u' : Value, x = .returned (.tuple #[.agg #[.int .i64 (dkind e l), v], .bool a]) ∧ w'.heap[g]? = some (.cells #[.int .u32 recv, .int .i64 most, u', .bool false, .bool false, .bool false] 58 (0, 0)) ∧
      Kd.R (Kd.int .u8) 5 w' w.heap.size (fun _ => True) v (dseg xs e l) ∧ Kd.R (Kd.int .u8) 5 w' w0.heap.size P0_ u' [] ∧ Below w0.heap.size w0 w' ∧ Kept w w' (fun k_ => k_ = g) := by
  have hu58 := Try.underlying58
  have hu34 := Try.underlying34
  have HO := Aside0.mk ho
  have HB0 := Aside0.mk hB
  have HG := Aside0.mk hg
  have HGE := Aside0.mk hge
  have hcl : slices_Clone_byte_byte.f xs = some xs := by unfold slices_Clone_byte_byte.f; rw [if_pos (by omega)]
  have HCL := Aside0.mk hcl
  have GL := Aside0.mk (blk_lt hg)
  obtain ⟨A, c0, rfl⟩ := Kd.R_slice ho
  clear ho hB hge hl hg hcl
  go_enter Try.func32, Try.ntmps32
  go_upto_block 0 with (first | ((with_reducible refine gate_dst (N := 2) rfl ?_); refine box_event ?hg (N := 2) ?hd (cs := #[.int .i64 0, .slice none 0 0]) (t := 34) ?hr ?_; (case hd => rfl); (case hg => rfl); (case hr => first | (go_simp; done) | (go_simp; rfl)); intro gr hgr w1 hbox hb; have BR := Aside0.mk hbox; have GR := Aside0.mk ((by rw [hgr]; exact Nat.le_refl _) : w.heap.size ≤ gr); have HBW := Aside0.mk hb; clear hbox hb hgr; have hcz2 : w1.cell? ⟨g, 2, none⟩ = some (.slice A xs.length c0) := (blk_cell (blk_below HG.out HBW.out) 2).trans rfl) | (go_at_call 46; refine (slices_Clone_byte_byte.calls _ _ xs xs _ ?s1 ?s2 HCL.out).mono ?_; (case s1 => exact (Kd.R_reads' (Kd.R_below HO.out HBW.out)).2.2); (case s2 => exact (Kd.R_reads' HO.out).2.1); rintro x w2 ⟨v, rfl, hv, hb⟩; have HV := Aside0.mk (Kd.R_lower hv HBW.out.size); have n0_ := Aside0.mk (below_step HBW.out hb); have n1_ := Aside0.mk (blk_below BR.out hb); clear HBW BR hv hb hcz2; have HBW := n0_; have BR := n1_; clear n0_ n1_; obtain ⟨Av, cv, ev⟩ := Kd.R_slice HV.out; subst ev) | ((with_reducible refine gate_dst (N := 4) rfl ?_); refine box_event ?hg (N := 4) ?hd (cs := #[.int .i64 0, .slice none 0 0]) (t := 34) ?hr ?_; (case hd => rfl); (case hg => rfl); (case hr => first | (go_simp; done) | (go_simp; rfl)); intro gs hgs w3 hbox hb; have BS := Aside0.mk hbox; have NS := Aside0.mk ((by rw [hgs]; exact Nat.ne_of_lt (blk_lt BR.out)) : gr ≠ gs); have GS := Aside0.mk ((by rw [hgs]; exact HBW.out.size) : w.heap.size ≤ gs); have n0_ := Aside0.mk (below_step HBW.out hb); have n1_ := Aside0.mk (blk_below BR.out hb); have n2_ := Aside0.mk (Kd.R_below HV.out hb); clear HBW BR HV hbox hb hgs; have HBW := n0_; have BR := n1_; have HV := n2_; clear n0_ n1_ n2_; have hs0 : w3.cell? ⟨gs, 0, none⟩ = some (.int .i64 0) := (blk_cell BS.out 0).trans rfl; have hs1 : w3.cell? ⟨gs, 1, none⟩ = some (.slice none 0 0) := (blk_cell BS.out 1).trans rfl; have hfs0 := blk_frozen BS.out 0; have hfs1 := blk_frozen BS.out 1))
  have NG := Aside0.mk (show g ≠ gs from by have := GL.out; have := GS.out; omega)
  have NR := Aside0.mk (show g ≠ gr from by have := GL.out; have := GR.out; omega)
  have hne := NG.out
  have hne' := hne.symm
  have HG3 := Aside0.mk (blk_below HG.out HBW.out)
  have hcz4 : w3.cell? ⟨g, 4, none⟩ = some (.bool e) := (blk_cell HG3.out 4).trans rfl
  have hcz5 : w3.cell? ⟨g, 5, none⟩ = some (.bool l) := (blk_cell HG3.out 5).trans rfl
  have HBS := Aside0.mk (show Below w.heap.size w ((w3.setCell ⟨gs, 0, none⟩ (.int .i64 0)).setCell ⟨gs, 1, none⟩ (.slice Av xs.length cv)) from below_set (below_set HBW.out GS.out) GS.out)
  go_cut [4] (fun v4 wc => ∃ (gs : Nat) (Av : Option Addr) (cv : Nat), v4 = .pointer (some ⟨gs, 0, none⟩) ∧ Aside0 (wc.heap[g]? = some (.cells #[.int .u32 recv, .int .i64 most, .slice A xs.length c0, .bool a, .bool e, .bool l] 58 (0, 0))) ∧ Aside0 (wc.heap[gr]? = some (.cells #[.int .i64 0, .slice none 0 0] 34 (0, 0))) ∧ Aside0 (wc.heap[gs]? = some (.cells #[.int .i64 (dkind e l), .slice Av (dseg xs e l).length cv] 34 (0, 0))) ∧ Aside0 (Kd.R (Kd.int .u8) 5 wc w.heap.size (fun _ => True) (.slice Av (dseg xs e l).length cv) (dseg xs e l)) ∧ Aside0 (Kd.R (Kd.int .u8) 5 wc w0.heap.size P0_ (.slice A xs.length c0) xs) ∧ Aside0 (g ≠ gs) ∧ Aside0 (gr ≠ gs) ∧ Aside0 (w.heap.size ≤ gs) ∧ Aside0 (Below w.heap.size w wc))
  case first =>
    cases e with
    | true =>
      go_wp2
      go_meet
      case rel => exact ⟨gs, none, 0, rfl, ⟨blk_below HG.out (below_set (below_set HBS.out GS.out) GS.out)⟩, ⟨blk_far (blk_far (blk_far (blk_far BR.out NS.out _) NS.out _) NS.out _) NS.out _⟩, ⟨blk_put (blk_put (blk_put (blk_put BS.out 0 _ rfl) 1 _ rfl) 0 _ rfl) 1 _ rfl⟩, ⟨Kd.R_nil _ _ _ _ _⟩, ⟨Kd.R_below HO.out (below_set (below_set HBS.out GS.out) GS.out)⟩, NG, NS, GS, ⟨below_set (below_set HBS.out GS.out) GS.out⟩⟩
    | false =>
      cases l with
      | true =>
        go_wp2
        go_meet
        case rel => exact ⟨gs, none, 0, rfl, ⟨blk_below HG.out (below_set (below_set HBS.out GS.out) GS.out)⟩, ⟨blk_far (blk_far (blk_far (blk_far BR.out NS.out _) NS.out _) NS.out _) NS.out _⟩, ⟨blk_put (blk_put (blk_put (blk_put BS.out 0 _ rfl) 1 _ rfl) 0 _ rfl) 1 _ rfl⟩, ⟨Kd.R_nil _ _ _ _ _⟩, ⟨Kd.R_below HO.out (below_set (below_set HBS.out GS.out) GS.out)⟩, NG, NS, GS, ⟨below_set (below_set HBS.out GS.out) GS.out⟩⟩
      | false =>
        go_wp2
        go_meet
        case rel => exact ⟨gs, Av, cv, rfl, ⟨blk_below HG.out HBS.out⟩, ⟨blk_far (blk_far BR.out NS.out _) NS.out _⟩, ⟨blk_put (blk_put BS.out 0 _ rfl) 1 _ rfl⟩, ⟨Kd.R_set (Kd.R_set HV.out BS.out (by decide) 0 _) (blk_put BS.out 0 _ rfl) (by decide) 1 _⟩, ⟨Kd.R_below HO.out HBS.out⟩, NG, NS, GS, HBS⟩
  case rest =>
    clear hs0 hs1 hfs0 hfs1 hcz4 hcz5 hne hne' HBS HG3 NG NS GS BS BR HV HBW
    obtain ⟨gs, Av, cv, rfl, BG, BR, BS, HV, HO, NG, NS, GS, HB⟩ := hcut
    have hq0 : wc.cell? ⟨g, 0, none⟩ = some (.int .u32 recv) := (blk_cell BG.out 0).trans rfl
    have hq1 : wc.cell? ⟨g, 1, none⟩ = some (.int .i64 most) := (blk_cell BG.out 1).trans rfl
    have hq2 : wc.cell? ⟨g, 2, none⟩ = some (.slice A xs.length c0) := (blk_cell BG.out 2).trans rfl
    have hq3 : wc.cell? ⟨g, 3, none⟩ = some (.bool a) := (blk_cell BG.out 3).trans rfl
    have hroom : (0 : Int) ≤ (c0 : Int) := by omega
    go_wp2
    have n0_ := Aside0.mk (blk_drew BG.out)
    have n1_ := Aside0.mk (blk_drew BR.out)
    have n2_ := Aside0.mk (blk_drew BS.out)
    have n3_ := Aside0.mk (Kd.R_drew HV.out)
    have n4_ := Aside0.mk (Kd.R_drew HO.out)
    have n5_ := Aside0.mk (below_drew1 HB.out)
    have HK := Aside0.mk (Kept.of_below n5_.out (fun k_ => k_ = g))
    clear BG BR BS HV HO HB
    have BG := n0_
    have BR := n1_
    have BS := n2_
    have HV := n3_
    have HO := n4_
    have HB := n5_
    clear n0_ n1_ n2_ n3_ n4_ n5_
    refine start_ (n := 17) (S := fun w' => w'.cell? ⟨g, 0, none⟩ = some (.int .u32 recv) ∧ w'.cell? ⟨g, 1, none⟩ = some (.int .i64 most) ∧ w'.cell? ⟨g, 2, none⟩ = some (.slice A xs.length c0)) (ds := [16]) #[false, false, false, false, false, false, false, false, false, false, false, false, false, false, false, false, false] (by kernel_rfl) rfl rfl ⟨hq0, hq1, hq2⟩ (fun hHeld => ?_)
    generalize wc.drew = w7 at BG BR BS HV HO HB HK hHeld ⊢
    have hz0 : w7.cell? ⟨g, 0, none⟩ = some (.int .u32 recv) := (blk_cell BG.out 0).trans rfl
    have hfz0 := blk_frozen BG.out 0
    have hz1 : w7.cell? ⟨g, 1, none⟩ = some (.int .i64 most) := (blk_cell BG.out 1).trans rfl
    have hfz1 := blk_frozen BG.out 1
    have hz2 : w7.cell? ⟨g, 2, none⟩ = some (.slice A xs.length c0) := (blk_cell BG.out 2).trans rfl
    have hfz2 := blk_frozen BG.out 2
    have hz3 : w7.cell? ⟨g, 3, none⟩ = some (.bool a) := (blk_cell BG.out 3).trans rfl
    have hfz3 := blk_frozen BG.out 3
    have hz4 : w7.cell? ⟨g, 4, none⟩ = some (.bool e) := (blk_cell BG.out 4).trans rfl
    have hfz4 := blk_frozen BG.out 4
    have hz5 : w7.cell? ⟨g, 5, none⟩ = some (.bool l) := (blk_cell BG.out 5).trans rfl
    have hfz5 := blk_frozen BG.out 5
    refine pure_ (i := 0) (N := some 28) (v := ?_) (a' := ?_) #[true, false, false, false, false, false, false, false, false, false, false, false, false, false, false, false, false] rfl rfl (by kernel_rfl) (fun _ _ _ h => h) (Or.inl ⟨by rfl, ?_⟩) ?_ ?_
    rotate_left
    · intro w'
      go_simp
      with_reducible rfl
    rotate_left
    · simp only [Act.put, List.setIfInBounds_toArray, List.set_cons_zero, List.set_cons_succ, i64_w, i32_w]
      rfl
    refine pure_ (i := 1) (N := some 29) (v := ?_) (a' := ?_) #[true, true, false, false, false, false, false, false, false, false, false, false, false, false, false, false, false] rfl rfl (by kernel_rfl) (fun _ _ _ h => h) (Or.inl ⟨by rfl, ?_⟩) ?_ ?_
    rotate_left
    · intro w'
      go_simp
      with_reducible rfl
    rotate_left
    · simp only [Act.put, List.setIfInBounds_toArray, List.set_cons_zero, List.set_cons_succ, i64_w, i32_w]
      rfl
    refine pure_ (i := 2) (N := some 30) (v := ?_) (a' := ?_) #[true, true, true, false, false, false, false, false, false, false, false, false, false, false, false, false, false] rfl rfl (by kernel_rfl) (fun _ _ _ h => h) (Or.inl ⟨by rfl, ?_⟩) ?_ ?_
    rotate_left
    · intro w'
      go_simp
      with_reducible rfl
    rotate_left
    · simp only [Act.put, List.setIfInBounds_toArray, List.set_cons_zero, List.set_cons_succ, i64_w, i32_w]
      rfl
    refine pure_ (i := 3) (N := some 31) (v := ?_) (a' := ?_) #[true, true, true, true, false, false, false, false, false, false, false, false, false, false, false, false, false] rfl rfl (by kernel_rfl) (fun _ _ _ h => h) (Or.inl ⟨by rfl, ?_⟩) ?_ ?_
    rotate_left
    · intro w'
      go_simp
      with_reducible rfl
    rotate_left
    · simp only [Act.put, List.setIfInBounds_toArray, List.set_cons_zero, List.set_cons_succ, i64_w, i32_w]
      rfl
    refine pure_ (i := 5) (N := some 33) (v := ?_) (a' := ?_) #[true, true, true, true, false, true, false, false, false, false, false, false, false, false, false, false, false] rfl rfl (by kernel_rfl) (fun _ _ _ h => h) (Or.inl ⟨by rfl, ?_⟩) ?_ ?_
    rotate_left
    · intro w'
      go_simp
      with_reducible rfl
    rotate_left
    · simp only [Act.put, List.setIfInBounds_toArray, List.set_cons_zero, List.set_cons_succ, i64_w, i32_w]
      rfl
    refine pure_ (i := 6) (N := some 34) (v := ?_) (a' := ?_) #[true, true, true, true, false, true, true, false, false, false, false, false, false, false, false, false, false] rfl rfl (by kernel_rfl) (fun _ _ _ h => h) (Or.inl ⟨by rfl, ?_⟩) ?_ ?_
    rotate_left
    · intro w'
      go_simp
      with_reducible rfl
    rotate_left
    · simp only [Act.put, List.setIfInBounds_toArray, List.set_cons_zero, List.set_cons_succ, i64_w, i32_w]
      rfl
    refine pure_ (i := 7) (N := some 35) (v := ?_) (a' := ?_) #[true, true, true, true, false, true, true, true, false, false, false, false, false, false, false, false, false] rfl rfl (by kernel_rfl) (fun _ _ _ h => h) (Or.inl ⟨by rfl, ?_⟩) ?_ ?_
    rotate_left
    · intro w'
      go_simp
      with_reducible rfl
    rotate_left
    · simp only [Act.put, List.setIfInBounds_toArray, List.set_cons_zero, List.set_cons_succ, i64_w, i32_w]
      rfl
    refine pure_ (i := 9) (N := some 37) (v := ?_) (a' := ?_) #[true, true, true, true, false, true, true, true, false, true, false, false, false, false, false, false, false] rfl rfl (by kernel_rfl) (fun _ _ _ h => h) (Or.inl ⟨by rfl, ?_⟩) ?_ ?_
    rotate_left
    · intro w'
      go_simp
      with_reducible rfl
    rotate_left
    · simp only [Act.put, List.setIfInBounds_toArray, List.set_cons_zero, List.set_cons_succ, i64_w, i32_w]
      rfl
    refine pure_ (i := 10) (N := some 38) (v := ?_) (a' := ?_) #[true, true, true, true, false, true, true, true, false, true, true, false, false, false, false, false, false] rfl rfl (by kernel_rfl) (fun _ _ _ h => h) (Or.inl ⟨by rfl, ?_⟩) ?_ ?_
    rotate_left
    · intro w'
      go_simp
      with_reducible rfl
    rotate_left
    · simp only [Act.put, List.setIfInBounds_toArray, List.set_cons_zero, List.set_cons_succ, i64_w, i32_w]
      rfl
    refine pure_ (i := 11) (N := some 39) (v := ?_) (a' := ?_) #[true, true, true, true, false, true, true, true, false, true, true, true, false, false, false, false, false] rfl rfl (by kernel_rfl) (fun _ _ _ h => h) (Or.inl ⟨by rfl, ?_⟩) ?_ ?_
    rotate_left
    · intro w'
      go_simp
      with_reducible rfl
    rotate_left
    · simp only [Act.put, List.setIfInBounds_toArray, List.set_cons_zero, List.set_cons_succ, i64_w, i32_w]
      rfl
    refine take_ (i := 4) (N := some 32) (v := ?_) (a' := ?_) #[true, true, true, true, true, true, true, true, false, true, true, true, false, false, false, false, false] rfl rfl (by kernel_rfl) (fun _ _ _ h => h) (Or.inl ⟨by rfl, ?_⟩) hHeld ?_ ?_
    rotate_left
    · rintro w' ⟨s0, s1, s2⟩
      go_simp
      with_reducible rfl
    rotate_left
    · simp only [Act.put, List.setIfInBounds_toArray, List.set_cons_zero, List.set_cons_succ, i64_w, i32_w]
      rfl
    refine take_ (i := 8) (N := some 36) (v := ?_) (a' := ?_) #[true, true, true, true, true, true, true, true, true, true, true, true, false, false, false, false, false] rfl rfl (by kernel_rfl) (fun _ _ _ h => h) (Or.inl ⟨by rfl, ?_⟩) hHeld ?_ ?_
    rotate_left
    · rintro w' ⟨s0, s1, s2⟩
      go_simp
      with_reducible rfl
    rotate_left
    · simp only [Act.put, List.setIfInBounds_toArray, List.set_cons_zero, List.set_cons_succ, i64_w, i32_w]
      rfl
    refine take_ (i := 12) (N := some 40) (v := ?_) (a' := ?_) #[true, true, true, true, true, true, true, true, true, true, true, true, true, false, false, false, false] rfl rfl (by kernel_rfl) (fun _ _ _ h => h) (Or.inl ⟨by rfl, ?_⟩) hHeld ?_ ?_
    rotate_left
    · rintro w' ⟨s0, s1, s2⟩
      go_simp
      with_reducible rfl
    rotate_left
    · simp only [Act.put, List.setIfInBounds_toArray, List.set_cons_zero, List.set_cons_succ, i64_w, i32_w]
      rfl
    refine pure_ (i := 13) (N := some 41) (v := ?_) (a' := ?_) #[true, true, true, true, true, true, true, true, true, true, true, true, true, true, false, false, false] rfl rfl (by kernel_rfl) (fun _ _ _ h => h) (Or.inl ⟨by rfl, ?_⟩) ?_ ?_
    rotate_left
    · intro w'
      go_simp
      with_reducible rfl
    rotate_left
    · simp only [Act.put, List.setIfInBounds_toArray, List.set_cons_zero, List.set_cons_succ, i64_w, i32_w]
      rfl
    refine pure_ (i := 14) (N := some 42) (v := ?_) (a' := ?_) #[true, true, true, true, true, true, true, true, true, true, true, true, true, true, true, false, false] rfl rfl (by kernel_rfl) (fun _ _ _ h => h) (Or.inl ⟨by rfl, ?_⟩) ?_ ?_
    rotate_left
    · intro w'
      go_simp
      with_reducible rfl
    rotate_left
    · simp only [Act.put, List.setIfInBounds_toArray, List.set_cons_zero, List.set_cons_succ, i64_w, i32_w]
      rfl
    refine pure_ (i := 15) (N := some 43) (v := ?_) (a' := ?_) #[true, true, true, true, true, true, true, true, true, true, true, true, true, true, true, true, false] rfl rfl (by kernel_rfl) (fun _ _ _ h => h) (Or.inl ⟨by rfl, ?_⟩) ?_ ?_
    rotate_left
    · intro w'
      go_simp
      with_reducible rfl
    rotate_left
    · simp only [Act.put, List.setIfInBounds_toArray, List.set_cons_zero, List.set_cons_succ, i64_w, i32_w]
      rfl
    refine last_ (i := 16) (N := none) #[true, true, true, true, true, true, true, true, true, true, true, true, true, true, true, true, true] rfl rfl (by kernel_rfl) (by decide) (fun K hK => ?_)
    refine skip_ (w1 := ?_) (by rfl) rfl ?_ ?_
    rotate_left
    · go_simp
      rfl
    refine hK.out _ _ ?_
    clear hK K
    refine done_ (by kernel_rfl) ?_
    have hs0 : w7.cell? ⟨gs, 0, none⟩ = some (.int .i64 (dkind e l)) := (blk_cell BS.out 0).trans rfl
    have hs1 : w7.cell? ⟨gs, 1, none⟩ = some (.slice Av (dseg xs e l).length cv) := (blk_cell BS.out 1).trans rfl
    have hr0 : w7.cell? ⟨gr, 0, none⟩ = some (.int .i64 0) := (blk_cell BR.out 0).trans rfl
    have hr1 : w7.cell? ⟨gr, 1, none⟩ = some (.slice none 0 0) := (blk_cell BR.out 1).trans rfl
    have hfr0 := blk_frozen BR.out 0
    have hfr1 := blk_frozen BR.out 1
    have m0 := NG.out
    have m0' := m0.symm
    have m1 := NR.out
    have m1' := m1.symm
    have m2 := NS.out
    have m2' := m2.symm
    go_wp2
    refine bodyPost_ret (results_ct rfl _ _ gr 34 #[.int .i64 (dkind e l), .slice Av (dseg xs e l).length cv] (0, 0) _ rfl (blk_put (blk_put (blk_far (blk_far (blk_far (blk_far (blk_far (blk_far (BR.out) NR.out.symm _) NR.out.symm _) NR.out.symm _) NR.out.symm _) NR.out.symm _) NR.out.symm _) 0 _ rfl) 1 _ rfl) hu34 rfl (by kernel_rfl)) rfl ?_
    refine ⟨_, _, rfl, blk_far (blk_far (blk_put (blk_put (blk_put (blk_put (blk_put (blk_put (BG.out) 0 _ rfl) 1 _ rfl) 2 _ rfl) 3 _ rfl) 4 _ rfl) 5 _ rfl) NR.out _) NR.out _, Kd.R_mono (Kd.R_far (p := ⟨gr, 1, none⟩) (Kd.R_far (p := ⟨gr, 0, none⟩) (Kd.R_far (p := ⟨g, 5, none⟩) (Kd.R_far (p := ⟨g, 4, none⟩) (Kd.R_far (p := ⟨g, 3, none⟩) (Kd.R_far (p := ⟨g, 2, none⟩) (Kd.R_far (p := ⟨g, 1, none⟩) (Kd.R_far (p := ⟨g, 0, none⟩) (Kd.R_types (Kd.R_types (HV.out) BG.out (by decide)) BR.out (by decide)) (fun _ hk => hk.1.2) _) (fun _ hk => hk.1.2) _) (fun _ hk => hk.1.2) _) (fun _ hk => hk.1.2) _) (fun _ hk => hk.1.2) _) (fun _ hk => hk.1.2) _) (fun _ hk => hk.2) _) (fun _ hk => hk.2) _) (fun _ hk => hk.1.1), ?_, below_set (below_set (below_set (below_set (below_set (below_set (below_set (below_set (below_step HB0.out HB.out) HGE.out) HGE.out) HGE.out) HGE.out) HGE.out) HGE.out) (Nat.le_trans HB0.out.size GR.out)) (Nat.le_trans HB0.out.size GR.out), ((((((((HK.out).setCell (.inl rfl) _).setCell (.inl rfl) _).setCell (.inl rfl) _).setCell (.inl rfl) _).setCell (.inl rfl) _).setCell (.inl rfl) _).setCell (.inr GR.out) _).setCell (.inr GR.out) _⟩
    exact Kd.R_mono (Kd.R_far (p := ⟨gr, 1, none⟩) (Kd.R_far (p := ⟨gr, 0, none⟩) (Kd.R_far (p := ⟨g, 5, none⟩) (Kd.R_far (p := ⟨g, 4, none⟩) (Kd.R_far (p := ⟨g, 3, none⟩) (Kd.R_far (p := ⟨g, 2, none⟩) (Kd.R_far (p := ⟨g, 1, none⟩) (Kd.R_far (p := ⟨g, 0, none⟩) (Kd.R_types (Kd.R_types (Kd.R_take HO.out (Nat.zero_le _)) BG.out (by decide)) BR.out (by decide)) (fun _ hk => hk.1.2) _) (fun _ hk => hk.1.2) _) (fun _ hk => hk.1.2) _) (fun _ hk => hk.1.2) _) (fun _ hk => hk.1.2) _) (fun _ hk => hk.1.2) _) (fun _ hk => hk.2) _) (fun _ hk => hk.2) _) (fun _ hk => hk.1.1)
end Go.Proofs.Ytjmclghjhnbafaa.Print
