/- A text that a program of this claim (wip/x) laid out of the translation: what Go functions come to, and that they come to it. Lean checks it. -/
import Derived.Test.YtgjeahgagciagaaPrint0
import Derived.Test.YtgjeahgagciagaaPrintSlicesCloneByteByte
namespace Go.Proofs.Ytgjeahgagciagaa.Print
open Go.RowKit Go.Proofs.YtgjeahgagciagaaW.PrintWords Go.Proofs.YtgjeahgagciagaaW.PrintLast Go.Proofs.YtgjeahgagciagaaW.PrintMore
attribute [local go_sem] max2_int min2_int max_two min_two max_three min_three max_four min_four   -- for this text's walks alone
set_option linter.unusedVariables false
set_option linter.unusedSimpArgs false

/-! ### tlv_Find: function 29 -/
/-- The place of the first option of a type, or -1. -/
def tlv_Find.idx : List S57 → Int → Int
  | [], _ => -1
  | o :: r, t => if o.f0 = t then 0 else if tlv_Find.idx r t = -1 then -1 else tlv_Find.idx r t + 1
def tlv_Find.idxf (l : List S57) (t : Int) : Option Int := some (tlv_Find.idx l t)
theorem tlv_Find.idx_none {l : List S57} {t : Int} (h : ∀ j (hj : j < l.length), l[j].f0 ≠ t) : tlv_Find.idx l t = -1 := by
  induction l with
  | nil => rfl
  | cons o r ih =>
    have h0 := h 0 (by simp)
    simp only [List.getElem_cons_zero] at h0
    have h1 := ih (fun j hj => h (j + 1) (by simpa using hj))
    simp only [tlv_Find.idx]
    rw [if_neg h0, if_pos h1]
theorem tlv_Find.idx_hit : ∀ {l : List S57} {t : Int} (i : Nat) (hi : i < l.length), l[i].f0 = t → (∀ j (hj : j < l.length), j < i → l[j].f0 ≠ t) → tlv_Find.idx l t = i
  | [], t, i, hi, _, _ => by simp at hi
  | o :: r, t, 0, hi, h, _ => by
    simp only [List.getElem_cons_zero] at h
    simp only [tlv_Find.idx]
    rw [if_pos h]
    rfl
  | o :: r, t, i + 1, hi, h, hne => by
    have h0 := hne 0 (by simp) (by omega)
    simp only [List.getElem_cons_zero] at h0
    have ih := tlv_Find.idx_hit (l := r) (t := t) i (by simpa using hi) (by simpa using h) (fun j hj hji => hne (j + 1) (by simpa using hj) (by omega))
    simp only [tlv_Find.idx]
    rw [if_neg h0, ih, if_neg (by omega)]
    omega
set_option maxHeartbeats 8000000 in
set_option maxRecDepth 100000 in
theorem tlv_Find.one (x : S57) (t : Int) (b : Nat) (A0 : Option Addr) (c0 : Nat) (w : World) (hx : w.cell? ⟨b, 0, none⟩ = some (.int .u8 t)) :
    Calls Try.prog 47 #[.agg #[.int .u8 x.f0, .slice A0 x.f1.length c0], .pointer (some ⟨b, 0, none⟩)] w fun e w' => e = .returned (.bool (x.f0 == t)) ∧ Below w.heap.size w w' := by
  have hu := Try.underlying57
  have HB := Aside0.mk (Below.refl w.heap.size w)
  have hxa : ∀ o, (w.alloc o).cell? ⟨b, 0, none⟩ = some (.int .u8 t) := fun o => ((below_alloc (Below.refl _ w) o).cell (World.block_lt_of_cell? w _ hx)).trans hx
  clear hx
  go_enter Try.func47, Try.ntmps47
  go_wp2
  go_ret
  exact ⟨rfl, by repeat (first | exact HB.out | apply below_alloc)⟩
set_option maxHeartbeats 8000000 in
set_option maxRecDepth 100000 in
theorem tlv_Find.search (A0 : Option Addr) (c0 : Nat) (l0 : List S57) (t r : Int) (b : Nat) (w : World) (hr0 : Kd.C k57 w A0 l0.length l0) (hx : w.cell? ⟨b, 0, none⟩ = some (.int .u8 t)) (h : tlv_Find.idxf l0 t = some r) :
    Calls Try.prog 46 #[.slice A0 l0.length c0, .func (.func 47) #[] #[.pointer (some ⟨b, 0, none⟩)]] w fun e w' => e = .returned (.int .i64 r) ∧ Below w.heap.size w w' := by
  obtain rfl := Option.some.inj h
  clear h
  have hl : l0.length ≤ 9223372036854775807 := hr0.2.1
  have hu := Try.underlying57
  have HR0 := Aside0.mk hr0
  have HX := Aside0.mk hx
  clear hr0 hx
  have HB := Aside0.mk (Below.refl w.heap.size w)
  go_enter Try.func46, Try.ntmps46
  go_wp2
  go_loopg [8] (l0.length + 1) (fun kq v8 w' => ∃ (x : Int), v8 = .int .i64 x ∧ Aside0 (0 ≤ x ∧ x.toNat + kq = l0.length + 1) ∧ Aside0 (∀ j : Nat, (j : Int) < x → (rd_T57 l0 j).f0 ≠ t) ∧ Aside0 (Below w.heap.size w w'))
  case atStart => exact ⟨0, rfl, ⟨Int.le_refl _, by simp⟩, ⟨fun j h => absurd h (by omega)⟩, HB⟩
  case round =>
    obtain ⟨x, rfl, hk, hj, HB⟩ := hrel
    by_cases hi : x < (l0.length : Int)
    · have hi0 : decide (x < (l0.length : Int)) = true := decide_eq_true hi
      have p0 : 0 ≤ x := hk.out.1
      have p0b : decide (0 ≤ x) = true := decide_eq_true p0
      obtain ⟨ad0, B0, d0, e0, hx00, hx01, hl0, hi0_⟩ := at_T57 HR0.out x p0 hi
      cases e0
      replace hx00 := (HB.out.cell (World.block_lt_of_cell? w _ hx00)).trans hx00
      replace hx01 := (HB.out.cell (World.block_lt_of_cell? w _ hx01)).trans hx01
      have I0 := Aside0.mk hi0_
      clear hi0_
      have P0 := Aside0.mk p0
      have HI := Aside0.mk hi
      have EX : rd_T57 l0 x = l0[x.toNat]'(by omega) := by
        unfold rd_T57
        rw [List.getD_eq_getElem?_getD, List.getElem?_eq_getElem (by omega)]
        rfl
      have EX' := Aside0.mk EX
      clear EX
      replace p0 := eq_true p0
      replace hi := eq_true hi
      cases gk with
      | zero =>
        have := hk.out.2
        have := HI.out
        omega
      | succ k1 =>
        have CC := fun W (h0 : W.cell? ⟨b, 0, none⟩ = some (.int .u8 t)) => tlv_Find.one (rd_T57 l0 x) t b B0 d0 W h0
        by_cases hq : (rd_T57 l0 x).f0 = t
        · rw [beq_iff_eq.mpr hq] at CC
          have HQ := Aside0.mk hq
          clear hq
          go_wp2_with (first | (go_at_call 47; refine (CC _ ?s1).mono ?_; (case s1 => exact (HB.out.cell (World.block_lt_of_cell? w _ HX.out)).trans HX.out); rintro e w' ⟨rfl, hb⟩; have HB2 := Aside0.mk (below_step HB.out hb); clear hb))
          go_ret
          refine ⟨?_, HB2.out⟩
          have e := tlv_Find.idx_hit (l := l0) (t := t) x.toNat (by have := HI.out; have := P0.out; omega) (by rw [← EX'.out]; exact HQ.out) (fun j hjl hjx => by
            have h3 := hj.out j (by have := P0.out; omega)
            unfold rd_T57 at h3
            rw [Int.toNat_natCast, List.getD_eq_getElem?_getD, List.getElem?_eq_getElem hjl] at h3
            exact h3)
          rw [e, Int.toNat_of_nonneg P0.out]
          rfl
        · rw [beq_eq_false_iff_ne.mpr hq] at CC
          have HQ := Aside0.mk hq
          clear hq
          go_wp2_with (first | (go_at_call 47; refine (CC _ ?s1).mono ?_; (case s1 => exact (HB.out.cell (World.block_lt_of_cell? w _ HX.out)).trans HX.out); rintro e w' ⟨rfl, hb⟩; have HB2 := Aside0.mk (below_step HB.out hb); clear hb))
          have hx1 : wrap64 (x + 1) = x + 1 := by have := HI.out; have := P0.out; unfold wrap64; omega
          go_roundg k1
          case measure => omega
          case rel =>
            refine ⟨x + 1, (by first | rfl | (rw [hx1]; done) | (simp [hx1]; done)), ⟨?_⟩, ⟨?_⟩, HB2⟩
            · have := hk.out
              omega
            · intro j hj'
              by_cases hjx : (j : Int) < x
              · exact hj.out j hjx
              · obtain rfl : (j : Int) = x := by omega
                exact HQ.out
    · have hi0 : decide (x < (l0.length : Int)) = false := decide_eq_false hi
      go_wp2
      go_ret
      refine ⟨?_, HB.out⟩
      have e := tlv_Find.idx_none (l := l0) (t := t) (fun j hjl => by
        have h3 := hj.out j (by omega)
        unfold rd_T57 at h3
        rw [Int.toNat_natCast, List.getD_eq_getElem?_getD, List.getElem?_eq_getElem hjl] at h3
        exact h3)
      rw [e]
      rfl
def tlv_Find.f (l0 : List (S57)) (a1 : Int) : Option (Int × List Int × Bool) := (tlv_Find.idxf l0 a1).bind fun t163 => (if t163 < 0 then (some (0, ([] : List Int), false)) else (if 0 ≤ t163 then (if t163 < (l0.length : Int) then ((slices_Clone_byte_byte.f ((rd_T57 l0 t163).f1)).bind fun t165 => (some (a1, t165, true))) else (none)) else (none)))

def tlv_Find.T4 : Bool × List (List Nat × List Nat) := (true, [([], []), ([], []), ([], []), ([1, 2], [1, 2]), ([3], [3]), ([4], [4]), ([5], [5]), ([0, 6], [0, 6]), ([7, 6, 0, 1, 2, 3, 4, 5, 6, 7], [7]), ([8, 0, 1, 2, 3, 4, 5, 6, 7, 8], [])])
def tlv_Find.B4 : List Nat := [0, 0, 0, 6, 14, 30, 62, 127, 255, 511]
theorem tlv_Find.tab4 : rtab .any (opsOf Try.f29 4) = tlv_Find.T4 := by kernel_rfl
theorem tlv_Find.bits4 : waitsOk tlv_Find.T4.2 tlv_Find.B4 = true := by kernel_rfl
set_option maxHeartbeats 8000000 in
set_option maxRecDepth 100000 in
theorem tlv_Find.calls (A0 : Option Addr) (c0 : Nat) (l0 : List (S57)) (a1 : Int) (r1 : Int) (r2 : List Int) (r3 : Bool) (w : World) (hr0 : Kd.C k57 w A0 l0.length l0) (hc0 : l0.length ≤ c0) (h : tlv_Find.f l0 a1 = some (r1, r2, r3)) :
    Calls Try.prog 29 #[.slice A0 l0.length c0, .int .u8 a1] w fun e w' => ∃ v1_ : Value, e = .returned (.tuple #[.agg #[.int .u8 r1, v1_], .bool r3]) ∧ Kd.R (Kd.int .u8) 5 w' w.heap.size (fun _ => True) v1_ r2 ∧ Below w.heap.size w w' := by
  have hu57 := Try.underlying57
  have HR0 := Aside0.mk hr0
  have HC0 := Aside0.mk hc0
  clear hr0 hc0
  have HB := Aside0.mk (Below.refl w.heap.size w)
  have H : ((tlv_Find.idxf l0 a1).bind fun t163 => (if t163 < 0 then (some (0, ([] : List Int), false)) else (if 0 ≤ t163 then (if t163 < (l0.length : Int) then ((slices_Clone_byte_byte.f ((rd_T57 l0 t163).f1)).bind fun t165 => (some (a1, t165, true))) else (none)) else (none)))) = some (r1, r2, r3) := h
  clear h
  replace H := Option.bind_eq_some_iff.mp H
  obtain ⟨t163, A30, H⟩ := H
  replace H : (if t163 < 0 then (some (0, ([] : List Int), false)) else (if 0 ≤ t163 then (if t163 < (l0.length : Int) then ((slices_Clone_byte_byte.f ((rd_T57 l0 t163).f1)).bind fun t165 => (some (a1, t165, true))) else (none)) else (none))) = some (r1, r2, r3) := H
  have A3 := Aside0.mk A30
  clear A30
  by_cases c4 : t163 < 0
  · rw [if_pos c4] at H
    have c4b0 : decide (t163 < 0) = true := decide_eq_true c4
    clear c4
    simp only [Option.some.injEq, Prod.mk.injEq] at H
    obtain ⟨rfl, rfl, rfl⟩ := H
    go_enter Try.func29, Try.ntmps29
    go_wp2_with (first | ((with_reducible refine gate_dst (N := 3) rfl ?_); refine box_event ?hg (N := 3) ?hd (cs := #[.int .u8 a1]) (t := 5) ?hr ?_; (case hd => rfl); (case hg => rfl); (case hr => first | (go_simp; done) | (go_simp; rfl)); intro gb3 hg w4 hbox hb; have n0_ := Aside0.mk (below_step HB.out hb); have n1_ := Aside0.mk hbox; have GX := Aside0.mk ((by rw [hg]; exact below_size HB.out) : w.heap.size ≤ gb3); clear HB; have HB := n0_; have BX := n1_; clear n0_ n1_; clear hb hbox hg) | ((with_reducible refine gate_dst (N := 4) rfl ?_); refine box_event ?hg (N := 4) ?hd (cs := #[.int .u8 0, .slice none 0 0]) (t := 57) ?hr ?_; (case hd => rfl); (case hg => rfl); (case hr => first | (go_simp; done) | (go_simp; simp only [IntKind.wrap_u8, IntKind.wrap_u16, IntKind.wrap_u32, IntKind.wrap_u64]; done) | (go_simp; rfl)); intro gb162 hg w5 hbox hb; have n0_ := Aside0.mk (below_step (by repeat (first | (with_reducible first | exact HB.out | apply below_alloc | apply pw_below_drewN | apply below_drew1) | exact HB.out)) hb); have n1_ := Aside0.mk (hbox); have n2_ := Aside0.mk ((by rw [hg]; exact (below_size (by repeat (first | (with_reducible first | exact HB.out | apply below_alloc | apply pw_below_drewN | apply below_drew1) | exact HB.out))) : w.heap.size ≤ gb162)); have n3_ := Aside0.mk ((by rw [hg]; exact (below_size (by repeat (first | (with_reducible first | exact HB.out | apply below_alloc | apply pw_below_drewN | apply below_drew1) | exact HB.out))) : w.heap.size ≤ gb162)); have n4_ := Aside0.mk (blk_below BX.out hb); have NX := Aside0.mk ((by rw [hg]; exact Nat.ne_of_lt (blk_lt BX.out)) : gb3 ≠ gb162); clear BX; clear HB; have HB := n0_; have BK162 := n1_; have GW162 := n2_; have GE162 := n3_; have BX := n4_; clear n0_ n1_ n2_ n3_ n4_; clear hb hbox hg) | ((with_reducible refine gate_callee (f := 46) rfl ?_); refine goesL_ (some 9) rfl rfl Try.func46 (by kernel_rfl) rfl #[.slice A0 l0.length c0, .func (.func 47) #[] #[.pointer (some ⟨gb3, 0, none⟩)]] rfl (by (try simp only [List.map_toArray, List.map_cons, List.map_nil]); first | done | rfl | (simp only [List.length_drop, List.length_take]; rfl)) ?_; (with_reducible refine (tlv_Find.search A0 c0 l0 a1 t163 gb3 _ ?side1 ?side2 A3.out).mono ?_); (case side1 => repeat (first | exact (Kd.C_below HR0.out HB.out) | (with_reducible refine Kd.C_alloc ?_ _) | (with_reducible refine Kd.C_drewN ?_ _) | (with_reducible refine Kd.C_drew ?_))); (case side2 => exact (blk_cell BX.out 0).trans rfl); rintro e w6 ⟨rfl, hb⟩; refine ⟨_, rfl, ?_⟩; have n9_ := Aside0.mk (blk_below BX.out hb); clear BX; have BX := n9_; clear n9_; have n0_ := Aside0.mk (blk_below (g := gb162) (o := .cells #[.int .u8 0, .slice none 0 0] 57 (0, 0)) (by (with_reducible repeat (first | refine blk_drewN ?_ _ | refine blk_drew ?_ | refine blk_alloc ?_ _)); exact BK162.out) hb); have n1_ := Aside0.mk (below_step (by repeat (first | (with_reducible first | exact HB.out | apply below_alloc | apply pw_below_drewN | apply below_drew1 | refine below_set ?_ GE162.out) | exact HB.out)) hb); clear BK162; clear HB; have BK162 := n0_; have HB := n1_; clear n0_ n1_; (try clear hb); (try clear hb2); (try clear hk); (try clear hi); have hcz7_0 : w6.cell? ⟨gb162, 0, none⟩ = some (.int .u8 0) := (blk_cell BK162.out 0).trans rfl; have hcz7_1 : w6.cell? ⟨gb162, 1, none⟩ = some (.slice none 0 0) := (blk_cell BK162.out 1).trans rfl; have hfz7_0 := blk_frozen BK162.out 0; have hfz7_1 := blk_frozen BK162.out 1))
    refine bodyPost_ret (results_ct rfl _ _ gb162 57 #[.int .u8 0, .slice none 0 0] (0, 0) _ rfl (by (with_reducible repeat (first | refine blk_drewN ?_ _ | refine blk_drew ?_ | refine blk_alloc ?_ _)); refine blk_put (cs := #[.int .u8 0, .slice none 0 0]) ?_ 1 _ rfl; (with_reducible repeat (first | refine blk_drewN ?_ _ | refine blk_drew ?_ | refine blk_alloc ?_ _)); refine blk_put (cs := #[.int .u8 0, .slice none 0 0]) ?_ 0 _ rfl; (with_reducible repeat (first | refine blk_drewN ?_ _ | refine blk_drew ?_ | refine blk_alloc ?_ _)); exact BK162.out) Try.underlying57 rfl (by kernel_rfl)) rfl ?_
    exact ⟨_, by first | rfl | (simp [errW_none, errW_some] <;> rfl) | (simp [*, errW_none, errW_some] <;> rfl), by first | exact Kd.R_nil _ _ _ _ _ | exact Kd.N_nil _ _ _ _ _ | exact Kd.V_nil _ _ _ _ _ | exact Kd.Q_nil _ _ _ _ _ | exact Kd.S_nil _ _ _ _ _, by repeat (first | (with_reducible first | exact HB.out | apply below_alloc | apply pw_below_drewN | apply below_drew1 | refine below_set ?_ GE162.out) | exact HB.out)⟩
  · rw [if_neg c4] at H
    have c4b0 : decide (t163 < 0) = false := decide_eq_false c4
    clear c4
    by_cases c8 : 0 ≤ t163
    · rw [if_pos c8] at H
      have c8b0 : decide (0 ≤ t163) = true := decide_eq_true c8
      clear c8
      by_cases c9 : t163 < (l0.length : Int)
      · rw [if_pos c9] at H
        have c9b0 : decide (t163 < (l0.length : Int)) = true := decide_eq_true c9
        clear c9
        replace H := Option.bind_eq_some_iff.mp H
        obtain ⟨t165, A100, H⟩ := H
        replace H : (some (a1, t165, true)) = some (r1, r2, r3) := H
        have A10 := Aside0.mk A100
        clear A100
        simp only [Option.some.injEq, Prod.mk.injEq] at H
        obtain ⟨rfl, rfl, rfl⟩ := H
        go_enter Try.func29, Try.ntmps29
        try go_wp2_with (first | ((with_reducible refine gate_dst (N := 3) rfl ?_); refine box_event ?hg (N := 3) ?hd (cs := #[.int .u8 a1]) (t := 5) ?hr ?_; (case hd => rfl); (case hg => rfl); (case hr => first | (go_simp; done) | (go_simp; rfl)); intro gb3 hg w4 hbox hb; have n0_ := Aside0.mk (below_step HB.out hb); have n1_ := Aside0.mk hbox; have GX := Aside0.mk ((by rw [hg]; exact below_size HB.out) : w.heap.size ≤ gb3); clear HB; have HB := n0_; have BX := n1_; clear n0_ n1_; clear hb hbox hg) | ((with_reducible refine gate_dst (N := 4) rfl ?_); refine box_event ?hg (N := 4) ?hd (cs := #[.int .u8 0, .slice none 0 0]) (t := 57) ?hr ?_; (case hd => rfl); (case hg => rfl); (case hr => first | (go_simp; done) | (go_simp; simp only [IntKind.wrap_u8, IntKind.wrap_u16, IntKind.wrap_u32, IntKind.wrap_u64]; done) | (go_simp; rfl)); intro gb162 hg w11 hbox hb; have n0_ := Aside0.mk (below_step (by repeat (first | (with_reducible first | exact HB.out | apply below_alloc | apply pw_below_drewN | apply below_drew1) | exact HB.out)) hb); have n1_ := Aside0.mk (hbox); have n2_ := Aside0.mk ((by rw [hg]; exact (below_size (by repeat (first | (with_reducible first | exact HB.out | apply below_alloc | apply pw_below_drewN | apply below_drew1) | exact HB.out))) : w.heap.size ≤ gb162)); have n3_ := Aside0.mk ((by rw [hg]; exact (below_size (by repeat (first | (with_reducible first | exact HB.out | apply below_alloc | apply pw_below_drewN | apply below_drew1) | exact HB.out))) : w.heap.size ≤ gb162)); have n4_ := Aside0.mk (blk_below BX.out hb); have NX := Aside0.mk ((by rw [hg]; exact Nat.ne_of_lt (blk_lt BX.out)) : gb3 ≠ gb162); clear BX; clear HB; have HB := n0_; have BK162 := n1_; have GW162 := n2_; have GE162 := n3_; have BX := n4_; clear n0_ n1_ n2_ n3_ n4_; clear hb hbox hg) | ((with_reducible refine gate_callee (f := 46) rfl ?_); refine goesL_ (some 9) rfl rfl Try.func46 (by kernel_rfl) rfl #[.slice A0 l0.length c0, .func (.func 47) #[] #[.pointer (some ⟨gb3, 0, none⟩)]] rfl (by (try simp only [List.map_toArray, List.map_cons, List.map_nil]); first | done | rfl | (simp only [List.length_drop, List.length_take]; rfl)) ?_; (with_reducible refine (tlv_Find.search A0 c0 l0 a1 t163 gb3 _ ?side1 ?side2 A3.out).mono ?_); (case side1 => repeat (first | exact (Kd.C_below HR0.out HB.out) | (with_reducible refine Kd.C_alloc ?_ _) | (with_reducible refine Kd.C_drewN ?_ _) | (with_reducible refine Kd.C_drew ?_))); (case side2 => exact (blk_cell BX.out 0).trans rfl); rintro e w12 ⟨rfl, hb⟩; refine ⟨_, rfl, ?_⟩; have n9_ := Aside0.mk (blk_below BX.out hb); clear BX; have BX := n9_; clear n9_; have n0_ := Aside0.mk (blk_below (g := gb162) (o := .cells #[.int .u8 0, .slice none 0 0] 57 (0, 0)) (by (with_reducible repeat (first | refine blk_drewN ?_ _ | refine blk_drew ?_ | refine blk_alloc ?_ _)); exact BK162.out) hb); have n1_ := Aside0.mk (below_step (by repeat (first | (with_reducible first | exact HB.out | apply below_alloc | apply pw_below_drewN | apply below_drew1 | refine below_set ?_ GE162.out) | exact HB.out)) hb); clear BK162; clear HB; have BK162 := n0_; have HB := n1_; clear n0_ n1_; (try clear hb); (try clear hb2); (try clear hk); (try clear hi)))
        have n9_ := Aside0.mk (blk_drew BX.out)
        clear BX
        have BX := n9_
        clear n9_
        have n0_ := Aside0.mk (blk_drew BK162.out)
        have n1_ := Aside0.mk (below_drew1 HB.out)
        clear BK162
        clear HB
        have BK162 := n0_
        have HB := n1_
        clear n0_ n1_
        have p164 : 0 ≤ (t163 : Int) := of_decide_eq_true (by first | (with_reducible assumption) | assumption)
        have q164 : t163 < (l0.length : Int) := of_decide_eq_true (by first | (with_reducible assumption) | assumption)
        obtain ⟨ad164, A164_1, c164_1, e164, hx164_0, hx164_1, hl164_1, hi164_1⟩ := at_T57 HR0.out t163 p164 q164
        have hw164_1 := hx164_1
        have hw164_0 := hx164_0
        cases e164
        replace hx164_0 := (HB.out.cell (World.block_lt_of_cell? w _ hx164_0)).trans hx164_0
        replace hx164_1 := (HB.out.cell (World.block_lt_of_cell? w _ hx164_1)).trans hx164_1
        have HR164_1 := Aside0.mk hi164_1
        have HC164_1 := Aside0.mk hl164_1
        clear hi164_1 hl164_1
        replace p164 := eq_true p164
        replace q164 := eq_true q164
        refine start_ (n := 10) (S := fun w' => w'.cell? (ad164.add ((t163).toNat * 2)) = some (.int .u8 ((rd_T57 l0 t163).f0)) ∧ w'.cell? ⟨(ad164.add ((t163).toNat * 2)).block, (ad164.add ((t163).toNat * 2)).off + 1, none⟩ = some (.slice A164_1 ((rd_T57 l0 t163).f1).length c164_1) ∧ w'.cell? ⟨gb3, 0, none⟩ = some (.int .u8 a1)) (ds := []) #[false, false, false, false, false, false, false, false, false, false] (by kernel_rfl) rfl rfl ⟨((HB.out.cell (World.block_lt_of_cell? w _ hw164_0)).trans hw164_0), ((HB.out.cell (World.block_lt_of_cell? w _ hw164_1)).trans hw164_1), (blk_cell BX.out 0).trans rfl⟩ (fun hHeld => ?_); refine with_tabW tlv_Find.tab4 tlv_Find.bits4 (fun HT_ HW_ => ?_)
        generalize w12.drew = w13 at BX BK162 HB HR164_1 hx164_0 hx164_1 hHeld ⊢
        refine take_ (i := 0) (N := some 13) (v := ?_) (a' := ?_) #[true, false, false, false, false, false, false, false, false, false] rfl rfl (take_ofW HT_.out HW_.out (by kernel_rfl)) (fun _ _ _ h => h) (Or.inl ⟨by rfl, ?_⟩) hHeld ?_ ?_
        rotate_left
        · rintro w' ⟨s0, s1, s2⟩
          go_simp
          with_reducible rfl
        rotate_left
        · simp only [Act.put, List.setIfInBounds_toArray, List.set_cons_zero, List.set_cons_succ, i64_w, i32_w]
          rfl
        refine pure_ (i := 1) (N := some 14) (v := ?_) (a' := ?_) #[true, true, false, false, false, false, false, false, false, false] rfl rfl (any_of HT_.out (by kernel_rfl)) (fun _ _ _ h => h) (Or.inl ⟨by rfl, ?_⟩) ?_ ?_
        rotate_left
        · intro w'
          go_simp
          with_reducible rfl
        rotate_left
        · simp only [Act.put, List.setIfInBounds_toArray, List.set_cons_zero, List.set_cons_succ, i64_w, i32_w]
          rfl
        refine pure_ (i := 2) (N := some 15) (v := ?_) (a' := ?_) #[true, true, true, false, false, false, false, false, false, false] rfl rfl (any_of HT_.out (by kernel_rfl)) (fun _ _ _ h => h) (Or.inl ⟨by rfl, ?_⟩) ?_ ?_
        rotate_left
        · intro w'
          go_simp
          with_reducible rfl
        rotate_left
        · simp only [Act.put, List.setIfInBounds_toArray, List.set_cons_zero, List.set_cons_succ, i64_w, i32_w]
          rfl
        refine pure_ (i := 3) (N := some 16) (v := ?_) (a' := ?_) #[true, true, true, true, false, false, false, false, false, false] rfl rfl (any_of HT_.out (by kernel_rfl)) (fun _ _ _ h => h) (Or.inl ⟨by rfl, ?_⟩) ?_ ?_
        rotate_left
        · intro w'
          go_simp
          with_reducible rfl
        rotate_left
        · simp only [Act.put, List.setIfInBounds_toArray, List.set_cons_zero, List.set_cons_succ, i64_w, i32_w]
          rfl
        refine pure_ (i := 4) (N := some 17) (v := ?_) (a' := ?_) #[true, true, true, true, true, false, false, false, false, false] rfl rfl (any_of HT_.out (by kernel_rfl)) (fun _ _ _ h => h) (Or.inl ⟨by rfl, ?_⟩) ?_ ?_
        rotate_left
        · intro w'
          go_simp
          with_reducible rfl
        rotate_left
        · simp only [Act.put, List.setIfInBounds_toArray, List.set_cons_zero, List.set_cons_succ, i64_w, i32_w]
          rfl
        refine take_ (i := 5) (N := some 18) (v := ?_) (a' := ?_) #[true, true, true, true, true, true, false, false, false, false] rfl rfl (take_ofW HT_.out HW_.out (by kernel_rfl)) (fun _ _ _ h => h) (Or.inl ⟨by rfl, ?_⟩) hHeld ?_ ?_
        rotate_left
        · rintro w' ⟨s0, s1, s2⟩
          go_simp
          with_reducible rfl
        rotate_left
        · simp only [Act.put, List.setIfInBounds_toArray, List.set_cons_zero, List.set_cons_succ, i64_w, i32_w]
          rfl
        refine one_ (i := 6) (N := some 19) #[true, true, true, true, true, true, true, false, false, false] rfl rfl (one_of HT_.out (by kernel_rfl)) (by decide) (fun K hK => ?_)
        refine goes_ Try.func48 (by kernel_rfl) rfl #[.slice A164_1 ((rd_T57 l0 t163).f1).length c164_1] (by rfl) rfl rfl (by (try simp only [List.map_toArray, List.map_cons, List.map_nil]); first | done | rfl | (simp only [List.length_drop, List.length_take]; rfl)) ?_
        with_reducible refine (slices_Clone_byte_byte.calls _ _ ((rd_T57 l0 t163).f1) t165 _ ?side1 ?side2 A10.out).mono ?_
        (case side1 => repeat (first | exact (Kd.C_below HR164_1.out HB.out) | (with_reducible refine Kd.C_alloc ?_ _) | (with_reducible refine Kd.C_drewN ?_ _) | (with_reducible refine Kd.C_drew ?_)))
        (case side2 => exact HC164_1.out)
        rintro e w14 ⟨v166, rfl, ho0, hb⟩
        refine ⟨_, rfl, ?_⟩
        have n9_ := Aside0.mk (blk_below BX.out hb)
        clear BX
        have BX := n9_
        clear n9_
        have n0_ := Aside0.mk (Kd.R_lower ho0 (below_size (by repeat (first | (with_reducible first | exact HB.out | apply below_alloc | apply pw_below_drewN | apply below_drew1 | refine below_set ?_ GE162.out) | exact HB.out))))
        have n1_ := Aside0.mk (blk_below (g := gb162) (o := .cells #[.int .u8 0, .slice none 0 0] 57 (0, 0)) (by (with_reducible repeat (first | refine blk_drewN ?_ _ | refine blk_drew ?_ | refine blk_alloc ?_ _)); exact BK162.out) hb)
        have n2_ := Aside0.mk (below_step (by repeat (first | (with_reducible first | exact HB.out | apply below_alloc | apply pw_below_drewN | apply below_drew1 | refine below_set ?_ GE162.out) | exact HB.out)) hb)
        clear BK162
        clear HB
        have HO167 := n0_
        have BK162 := n1_
        have HB := n2_
        clear n0_ n1_ n2_
        (try clear hb)
        (try clear hb2)
        (try clear hk)
        (try clear hi)
        (try clear ho0)
        obtain ⟨Ao15, co15, eo15⟩ := Kd.R_slice HO167.out
        (first | subst eo15 | (injection eo15 with f1_ f2_ f3_; have f4_ := f1_.symm; have f5_ := f3_.symm; clear f1_ f2_ f3_; subst f4_; subst f5_))
        refine hK.out _ _ ⟨((HB.out.cell (World.block_lt_of_cell? w _ hw164_0)).trans hw164_0), ((HB.out.cell (World.block_lt_of_cell? w _ hw164_1)).trans hw164_1), (blk_cell BX.out 0).trans rfl⟩ (fun hHeld => ?_)
        clear hK K
        refine norm_ (a' := ?_) ?_ ?_
        rotate_left
        · show Act.put _ (some 19) _ = _
          simp only [Act.put, List.setIfInBounds_toArray, List.set_cons_zero, List.set_cons_succ, i64_w, i32_w]
          rfl
        refine pure_ (i := 7) (N := some 20) (v := ?_) (a' := ?_) #[true, true, true, true, true, true, true, true, false, false] rfl rfl (any_of HT_.out (by kernel_rfl)) (fun _ _ _ h => h) (Or.inl ⟨by rfl, ?_⟩) ?_ ?_
        rotate_left
        · intro w'
          go_simp
          with_reducible rfl
        rotate_left
        · simp only [Act.put, List.setIfInBounds_toArray, List.set_cons_zero, List.set_cons_succ, i64_w, i32_w]
          rfl
        refine one_ (i := 8) (N := none) #[true, true, true, true, true, true, true, true, true, false] rfl rfl (one_of HT_.out (by kernel_rfl)) (by decide) (fun K hK => ?_)
        have hs16 : w14.cell? ⟨gb162, 0, none⟩ = some (.int .u8 0) := (blk_cell BK162.out 0).trans rfl
        have hfs16 := blk_frozen BK162.out 0
        have hs17 : w14.cell? ⟨gb162, 1, none⟩ = some (.slice none 0 0) := (blk_cell BK162.out 1).trans rfl
        have hfs17 := blk_frozen BK162.out 1
        refine skip_ (w1 := ?_) (by rfl) rfl ?_ ?_
        rotate_left
        · go_simp
          rfl
        refine hK.out _ _ ⟨((cell_far (p := ⟨gb162, _, none⟩) (by first | exact Nat.ne_of_lt (Nat.lt_of_lt_of_le (by have := World.block_lt_of_cell? _ _ hw164_0; first | rwa [add_block] at this | exact this) GW162.out) | (rw [add_block]; exact Nat.ne_of_lt (Nat.lt_of_lt_of_le (by have := World.block_lt_of_cell? _ _ hw164_0; first | rwa [add_block] at this | exact this) GW162.out)) | (show (Addr.add _ _).block ≠ _; rw [add_block]; exact Nat.ne_of_lt (Nat.lt_of_lt_of_le (by have := World.block_lt_of_cell? _ _ hw164_0; first | rwa [add_block] at this | exact this) GW162.out)) | (dsimp only; exact Nat.ne_of_lt (Nat.lt_of_lt_of_le (by have := World.block_lt_of_cell? _ _ hw164_0; first | rwa [add_block] at this | exact this) GW162.out))) _).trans (((cell_far (p := ⟨gb162, _, none⟩) (by first | exact Nat.ne_of_lt (Nat.lt_of_lt_of_le (by have := World.block_lt_of_cell? _ _ hw164_0; first | rwa [add_block] at this | exact this) GW162.out) | (rw [add_block]; exact Nat.ne_of_lt (Nat.lt_of_lt_of_le (by have := World.block_lt_of_cell? _ _ hw164_0; first | rwa [add_block] at this | exact this) GW162.out)) | (show (Addr.add _ _).block ≠ _; rw [add_block]; exact Nat.ne_of_lt (Nat.lt_of_lt_of_le (by have := World.block_lt_of_cell? _ _ hw164_0; first | rwa [add_block] at this | exact this) GW162.out)) | (dsimp only; exact Nat.ne_of_lt (Nat.lt_of_lt_of_le (by have := World.block_lt_of_cell? _ _ hw164_0; first | rwa [add_block] at this | exact this) GW162.out))) _).trans (hHeld.1)))), ((cell_far (p := ⟨gb162, _, none⟩) (by first | exact Nat.ne_of_lt (Nat.lt_of_lt_of_le (by have := World.block_lt_of_cell? _ _ hw164_1; first | rwa [add_block] at this | exact this) GW162.out) | (rw [add_block]; exact Nat.ne_of_lt (Nat.lt_of_lt_of_le (by have := World.block_lt_of_cell? _ _ hw164_1; first | rwa [add_block] at this | exact this) GW162.out)) | (show (Addr.add _ _).block ≠ _; rw [add_block]; exact Nat.ne_of_lt (Nat.lt_of_lt_of_le (by have := World.block_lt_of_cell? _ _ hw164_1; first | rwa [add_block] at this | exact this) GW162.out)) | (dsimp only; exact Nat.ne_of_lt (Nat.lt_of_lt_of_le (by have := World.block_lt_of_cell? _ _ hw164_1; first | rwa [add_block] at this | exact this) GW162.out))) _).trans (((cell_far (p := ⟨gb162, _, none⟩) (by first | exact Nat.ne_of_lt (Nat.lt_of_lt_of_le (by have := World.block_lt_of_cell? _ _ hw164_1; first | rwa [add_block] at this | exact this) GW162.out) | (rw [add_block]; exact Nat.ne_of_lt (Nat.lt_of_lt_of_le (by have := World.block_lt_of_cell? _ _ hw164_1; first | rwa [add_block] at this | exact this) GW162.out)) | (show (Addr.add _ _).block ≠ _; rw [add_block]; exact Nat.ne_of_lt (Nat.lt_of_lt_of_le (by have := World.block_lt_of_cell? _ _ hw164_1; first | rwa [add_block] at this | exact this) GW162.out)) | (dsimp only; exact Nat.ne_of_lt (Nat.lt_of_lt_of_le (by have := World.block_lt_of_cell? _ _ hw164_1; first | rwa [add_block] at this | exact this) GW162.out))) _).trans (hHeld.2.1)))), ((cell_far (p := ⟨gb162, _, none⟩) NX.out _).trans ((cell_far (p := ⟨gb162, _, none⟩) NX.out _).trans hHeld.2.2))⟩ (fun hHeld => ?_)
        clear hK K
        refine pure_ (i := 9) (N := some 5) (v := ?_) (a' := ?_) #[true, true, true, true, true, true, true, true, true, true] rfl rfl (any_of HT_.out (by kernel_rfl)) (fun _ _ _ h => h) (Or.inl ⟨by rfl, ?_⟩) ?_ ?_
        rotate_left
        · intro w'
          go_simp
          with_reducible rfl
        rotate_left
        · simp only [Act.put, List.setIfInBounds_toArray, List.set_cons_zero, List.set_cons_succ, i64_w, i32_w]
          rfl
        refine done_ (done_of HT_.out (by kernel_rfl)) ?_
        try go_wp2
        refine bodyPost_ret (results_ct rfl _ _ gb162 57 #[.int .u8 a1, .slice Ao15 t165.length co15] (0, 0) _ rfl (by (with_reducible repeat (first | refine blk_drewN ?_ _ | refine blk_drew ?_ | refine blk_alloc ?_ _)); refine blk_put (cs := #[.int .u8 a1, .slice none 0 0]) ?_ 1 _ rfl; (with_reducible repeat (first | refine blk_drewN ?_ _ | refine blk_drew ?_ | refine blk_alloc ?_ _)); refine blk_put (cs := #[.int .u8 0, .slice none 0 0]) ?_ 0 _ rfl; (with_reducible repeat (first | refine blk_drewN ?_ _ | refine blk_drew ?_ | refine blk_alloc ?_ _)); exact BK162.out) Try.underlying57 rfl (by kernel_rfl)) rfl ?_
        exact ⟨_, by first | rfl | (simp [errW_none, errW_some] <;> rfl) | (simp [*, errW_none, errW_some] <;> rfl), by (with_reducible repeat (first | apply Kd.R_alloc | apply Kd.R_drewN | apply Kd.R_drew)); exact Kd.R_mono (Kd.R_far (p := ⟨gb162, 1, none⟩) (Kd.R_far (p := ⟨gb162, 0, none⟩) (Kd.R_types HO167.out BK162.out (by decide)) (fun _ hk => hk.2) (.int .u8 a1)) (fun _ hk => hk.2) (.slice Ao15 t165.length co15)) (fun _ hk => trivial), by repeat (first | (with_reducible first | exact HB.out | apply below_alloc | apply pw_below_drewN | apply below_drew1 | refine below_set ?_ GE162.out) | exact HB.out)⟩
      · rw [if_neg c9] at H
        exact absurd H (by simp)
    · rw [if_neg c8] at H
      exact absurd H (by simp)


end Go.Proofs.Ytgjeahgagciagaa.Print
