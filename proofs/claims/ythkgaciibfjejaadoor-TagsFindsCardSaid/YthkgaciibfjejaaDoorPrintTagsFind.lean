/- A text that a program of this claim (wip/x) laid out of the translation: what Go functions come to, and that they come to it. Lean checks it. -/
import Derived.Test.YthkgaciibfjejaaDoorPrint0
import Derived.Test.YthkgaciibfjejaaDoorPrintBytesClone
namespace Go.Proofs.YthkgaciibfjejaaDoor.Print
open Go.RowKit Go.Proofs.YthkgaciibfjejaaDoorW.PrintWords Go.Proofs.YthkgaciibfjejaaDoorW.PrintLast Go.Proofs.YthkgaciibfjejaaDoorW.PrintMore
attribute [local go_sem] max2_int min2_int max_two min_two max_three min_three max_four min_four   -- for this text's walks alone
set_option linter.unusedVariables false
set_option linter.unusedSimpArgs false

/-! ### tags_Find: function 10 -/
/-- The place of the first tag of a type, or -1. -/
def tags_Find.idx : List S50 → Int → Int
  | [], _ => -1
  | o :: r, t => if o.f0 = t then 0 else if tags_Find.idx r t = -1 then -1 else tags_Find.idx r t + 1
def tags_Find.idxf (l : List S50) (t : Int) : Option Int := some (tags_Find.idx l t)
theorem tags_Find.idx_none {l : List S50} {t : Int} (h : ∀ j (hj : j < l.length), l[j].f0 ≠ t) : tags_Find.idx l t = -1 := by
  induction l with
  | nil => rfl
  | cons o r ih =>
    have h0 := h 0 (by simp)
    simp only [List.getElem_cons_zero] at h0
    have h1 := ih (fun j hj => h (j + 1) (by simpa using hj))
    simp only [tags_Find.idx]
    rw [if_neg h0, if_pos h1]
theorem tags_Find.idx_hit : ∀ {l : List S50} {t : Int} (i : Nat) (hi : i < l.length), l[i].f0 = t → (∀ j (hj : j < l.length), j < i → l[j].f0 ≠ t) → tags_Find.idx l t = i
  | [], t, i, hi, _, _ => by simp at hi
  | o :: r, t, 0, hi, h, _ => by
    simp only [List.getElem_cons_zero] at h
    simp only [tags_Find.idx]
    rw [if_pos h]
    rfl
  | o :: r, t, i + 1, hi, h, hne => by
    have h0 := hne 0 (by simp) (by omega)
    simp only [List.getElem_cons_zero] at h0
    have ih := tags_Find.idx_hit (l := r) (t := t) i (by simpa using hi) (by simpa using h) (fun j hj hji => hne (j + 1) (by simpa using hj) (by omega))
    simp only [tags_Find.idx]
    rw [if_neg h0, ih, if_neg (by omega)]
    omega
set_option maxHeartbeats 8000000 in
set_option maxRecDepth 100000 in
theorem tags_Find.one (x : S50) (t : Int) (b : Nat) (A0 : Option Addr) (c0 : Nat) (w : World) (hx : w.cell? ⟨b, 0, none⟩ = some (.int .u16 t)) :
    Calls Tryd.prog 21 #[.agg #[.int .u16 x.f0, .slice A0 x.f1.length c0], .pointer (some ⟨b, 0, none⟩)] w fun e w' => e = .returned (.bool (x.f0 == t)) ∧ Below w.heap.size w w' := by
  have hu := Tryd.underlying50
  have HB := Aside0.mk (Below.refl w.heap.size w)
  have hxa : ∀ o, (w.alloc o).cell? ⟨b, 0, none⟩ = some (.int .u16 t) := fun o => ((below_alloc (Below.refl _ w) o).cell (World.block_lt_of_cell? w _ hx)).trans hx
  clear hx
  go_enter Tryd.func21, Tryd.ntmps21
  go_wp2
  go_ret
  exact ⟨rfl, by repeat (first | exact HB.out | apply below_alloc)⟩
set_option maxHeartbeats 8000000 in
set_option maxRecDepth 100000 in
theorem tags_Find.search (A0 : Option Addr) (c0 : Nat) (l0 : List S50) (t r : Int) (b : Nat) (w : World) (hr0 : Kd.C k50 w A0 l0.length l0) (hx : w.cell? ⟨b, 0, none⟩ = some (.int .u16 t)) (h : tags_Find.idxf l0 t = some r) :
    Calls Tryd.prog 20 #[.slice A0 l0.length c0, .func (.func 21) #[] #[.pointer (some ⟨b, 0, none⟩)]] w fun e w' => e = .returned (.int .i64 r) ∧ Below w.heap.size w w' := by
  obtain rfl := Option.some.inj h
  clear h
  have hl : l0.length ≤ 9223372036854775807 := hr0.2.1
  have hu := Tryd.underlying50
  have HR0 := Aside0.mk hr0
  have HX := Aside0.mk hx
  clear hr0 hx
  have HB := Aside0.mk (Below.refl w.heap.size w)
  go_enter Tryd.func20, Tryd.ntmps20
  go_wp2
  go_loopg [8] (l0.length + 1) (fun kq v8 w' => ∃ (x : Int), v8 = .int .i64 x ∧ Aside0 (0 ≤ x ∧ x.toNat + kq = l0.length + 1) ∧ Aside0 (∀ j : Nat, (j : Int) < x → (rd_T50 l0 j).f0 ≠ t) ∧ Aside0 (Below w.heap.size w w'))
  case atStart => exact ⟨0, rfl, ⟨Int.le_refl _, by simp⟩, ⟨fun j h => absurd h (by omega)⟩, HB⟩
  case round =>
    obtain ⟨x, rfl, hk, hj, HB⟩ := hrel
    by_cases hi : x < (l0.length : Int)
    · have hi0 : decide (x < (l0.length : Int)) = true := decide_eq_true hi
      have p0 : 0 ≤ x := hk.out.1
      have p0b : decide (0 ≤ x) = true := decide_eq_true p0
      obtain ⟨ad0, B0, d0, e0, hx00, hx01, hl0, hi0_⟩ := at_T50 HR0.out x p0 hi
      cases e0
      replace hx00 := (HB.out.cell (World.block_lt_of_cell? w _ hx00)).trans hx00
      replace hx01 := (HB.out.cell (World.block_lt_of_cell? w _ hx01)).trans hx01
      have I0 := Aside0.mk hi0_
      clear hi0_
      have P0 := Aside0.mk p0
      have HI := Aside0.mk hi
      have EX : rd_T50 l0 x = l0[x.toNat]'(by omega) := by
        unfold rd_T50
        rw [List.getD_eq_getElem?_getD, List.getElem?_eq_getElem (by omega)]
        rfl
      have EX' := Aside0.mk EX
      clear EX
      replace p0 := eq_true p0
      replace hi := eq_true hi
      cases gk with
      | zero =>
        have := hk.out.2
        have := HI.out
        omega
      | succ k1 =>
        have CC := fun W (h0 : W.cell? ⟨b, 0, none⟩ = some (.int .u16 t)) => tags_Find.one (rd_T50 l0 x) t b B0 d0 W h0
        by_cases hq : (rd_T50 l0 x).f0 = t
        · rw [beq_iff_eq.mpr hq] at CC
          have HQ := Aside0.mk hq
          clear hq
          go_wp2_with (first | (go_at_call 21; refine (CC _ ?s1).mono ?_; (case s1 => exact (HB.out.cell (World.block_lt_of_cell? w _ HX.out)).trans HX.out); rintro e w' ⟨rfl, hb⟩; have HB2 := Aside0.mk (below_step HB.out hb); clear hb))
          go_ret
          refine ⟨?_, HB2.out⟩
          have e := tags_Find.idx_hit (l := l0) (t := t) x.toNat (by have := HI.out; have := P0.out; omega) (by rw [← EX'.out]; exact HQ.out) (fun j hjl hjx => by
            have h3 := hj.out j (by have := P0.out; omega)
            unfold rd_T50 at h3
            rw [Int.toNat_natCast, List.getD_eq_getElem?_getD, List.getElem?_eq_getElem hjl] at h3
            exact h3)
          rw [e, Int.toNat_of_nonneg P0.out]
          rfl
        · rw [beq_eq_false_iff_ne.mpr hq] at CC
          have HQ := Aside0.mk hq
          clear hq
          go_wp2_with (first | (go_at_call 21; refine (CC _ ?s1).mono ?_; (case s1 => exact (HB.out.cell (World.block_lt_of_cell? w _ HX.out)).trans HX.out); rintro e w' ⟨rfl, hb⟩; have HB2 := Aside0.mk (below_step HB.out hb); clear hb))
          have hx1 : wrap64 (x + 1) = x + 1 := by have := HI.out; have := P0.out; unfold wrap64; omega
          go_roundg k1
          case measure => omega
          case rel =>
            refine ⟨x + 1, (by first | rfl | (rw [hx1]; done) | (simp [hx1]; done)), ⟨?_⟩, ⟨?_⟩, HB2⟩
            · have := hk.out
              omega
            · intro j hj'
              by_cases hjx : (j : Int) < x
              · exact hj.out j hjx
              · obtain rfl : (j : Int) = x := by omega
                exact HQ.out
    · have hi0 : decide (x < (l0.length : Int)) = false := decide_eq_false hi
      go_wp2
      go_ret
      refine ⟨?_, HB.out⟩
      have e := tags_Find.idx_none (l := l0) (t := t) (fun j hjl => by
        have h3 := hj.out j (by omega)
        unfold rd_T50 at h3
        rw [Int.toNat_natCast, List.getD_eq_getElem?_getD, List.getElem?_eq_getElem hjl] at h3
        exact h3)
      rw [e]
      rfl
def tags_Find.f (l0 : List (S50)) (a1 : Int) : Option (List Int × Bool) := (tags_Find.idxf l0 a1).bind fun t136 => (if t136 < 0 then (some (([] : List Int), false)) else (if 0 ≤ t136 then (if t136 < (l0.length : Int) then ((bytes_Clone.f ((rd_T50 l0 t136).f1)).bind fun t138 => (some (t138, true))) else (none)) else (none)))
set_option maxHeartbeats 8000000 in
set_option maxRecDepth 100000 in
theorem tags_Find.calls (A0 : Option Addr) (c0 : Nat) (l0 : List (S50)) (a1 : Int) (r1 : List Int) (r2 : Bool) (w : World) (hr0 : Kd.C k50 w A0 l0.length l0) (hc0 : l0.length ≤ c0) (h : tags_Find.f l0 a1 = some (r1, r2)) :
    Calls Tryd.prog 10 #[.slice A0 l0.length c0, .int .u16 a1] w fun e w' => ∃ v0_ : Value, e = .returned (.tuple #[v0_, .bool r2]) ∧ Kd.R (Kd.int .u8) 5 w' w.heap.size (fun _ => True) v0_ r1 ∧ Below w.heap.size w w' := by
  have HR0 := Aside0.mk hr0
  have HC0 := Aside0.mk hc0
  clear hr0 hc0
  have HB := Aside0.mk (Below.refl w.heap.size w)
  have H : ((tags_Find.idxf l0 a1).bind fun t136 => (if t136 < 0 then (some (([] : List Int), false)) else (if 0 ≤ t136 then (if t136 < (l0.length : Int) then ((bytes_Clone.f ((rd_T50 l0 t136).f1)).bind fun t138 => (some (t138, true))) else (none)) else (none)))) = some (r1, r2) := h
  clear h
  replace H := Option.bind_eq_some_iff.mp H
  obtain ⟨t136, A30, H⟩ := H
  replace H : (if t136 < 0 then (some (([] : List Int), false)) else (if 0 ≤ t136 then (if t136 < (l0.length : Int) then ((bytes_Clone.f ((rd_T50 l0 t136).f1)).bind fun t138 => (some (t138, true))) else (none)) else (none))) = some (r1, r2) := H
  have A3 := Aside0.mk A30
  clear A30
  by_cases c4 : t136 < 0
  · rw [if_pos c4] at H
    have c4b0 : decide (t136 < 0) = true := decide_eq_true c4
    clear c4
    simp only [Option.some.injEq, Prod.mk.injEq] at H
    obtain ⟨rfl, rfl⟩ := H
    go_enter Tryd.func10, Tryd.ntmps10
    go_wp2_with (first | ((with_reducible refine gate_dst (N := 3) rfl ?_); refine box_event ?hg (N := 3) ?hd (cs := #[.int .u16 a1]) (t := 23) ?hr ?_; (case hd => rfl); (case hg => rfl); (case hr => first | (go_simp; done) | (go_simp; rfl)); intro gb3 hg w4 hbox hb; have n0_ := Aside0.mk (below_step HB.out hb); have n1_ := Aside0.mk hbox; clear HB; have HB := n0_; have BX := n1_; clear n0_ n1_; clear hb hbox hg) | ((with_reducible refine gate_callee (f := 20) rfl ?_); refine goesL_ (some 9) rfl rfl Tryd.func20 (by kernel_rfl) rfl #[.slice A0 l0.length c0, .func (.func 21) #[] #[.pointer (some ⟨gb3, 0, none⟩)]] rfl (by (try simp only [List.map_toArray, List.map_cons, List.map_nil]); first | done | rfl | (simp only [List.length_drop, List.length_take]; rfl)) ?_; (with_reducible refine (tags_Find.search A0 c0 l0 a1 t136 gb3 _ ?side1 ?side2 A3.out).mono ?_); (case side1 => repeat (first | exact (Kd.C_below HR0.out HB.out) | (with_reducible refine Kd.C_alloc ?_ _) | (with_reducible refine Kd.C_drewN ?_ _) | (with_reducible refine Kd.C_drew ?_))); (case side2 => exact (blk_cell BX.out 0).trans rfl); rintro e w5 ⟨rfl, hb⟩; refine ⟨_, rfl, ?_⟩; have n0_ := Aside0.mk (below_step (by repeat (first | (with_reducible first | exact HB.out | apply below_alloc | apply pw_below_drewN | apply below_drew1) | exact HB.out)) hb); clear HB; have HB := n0_; clear n0_; (try clear hb); (try clear hb2); (try clear hk); (try clear hi)))
    go_ret2
    exact ⟨_, by first | rfl | (simp [errW_none, errW_some] <;> rfl) | (simp [*, errW_none, errW_some] <;> rfl), by first | exact Kd.R_nil _ _ _ _ _ | exact Kd.N_nil _ _ _ _ _ | exact Kd.V_nil _ _ _ _ _ | exact Kd.Q_nil _ _ _ _ _ | exact Kd.S_nil _ _ _ _ _, by repeat (first | (with_reducible first | exact HB.out | apply below_alloc | apply pw_below_drewN | apply below_drew1) | exact HB.out)⟩
  · rw [if_neg c4] at H
    have c4b0 : decide (t136 < 0) = false := decide_eq_false c4
    clear c4
    by_cases c6 : 0 ≤ t136
    · rw [if_pos c6] at H
      have c6b0 : decide (0 ≤ t136) = true := decide_eq_true c6
      clear c6
      by_cases c7 : t136 < (l0.length : Int)
      · rw [if_pos c7] at H
        have c7b0 : decide (t136 < (l0.length : Int)) = true := decide_eq_true c7
        clear c7
        replace H := Option.bind_eq_some_iff.mp H
        obtain ⟨t138, A80, H⟩ := H
        replace H : (some (t138, true)) = some (r1, r2) := H
        have A8 := Aside0.mk A80
        clear A80
        simp only [Option.some.injEq, Prod.mk.injEq] at H
        obtain ⟨rfl, rfl⟩ := H
        go_enter Tryd.func10, Tryd.ntmps10
        go_wp2_with (first | ((with_reducible refine gate_dst (N := 3) rfl ?_); refine box_event ?hg (N := 3) ?hd (cs := #[.int .u16 a1]) (t := 23) ?hr ?_; (case hd => rfl); (case hg => rfl); (case hr => first | (go_simp; done) | (go_simp; rfl)); intro gb3 hg w4 hbox hb; have n0_ := Aside0.mk (below_step HB.out hb); have n1_ := Aside0.mk hbox; clear HB; have HB := n0_; have BX := n1_; clear n0_ n1_; clear hb hbox hg) | ((with_reducible refine gate_callee (f := 20) rfl ?_); refine goesL_ (some 9) rfl rfl Tryd.func20 (by kernel_rfl) rfl #[.slice A0 l0.length c0, .func (.func 21) #[] #[.pointer (some ⟨gb3, 0, none⟩)]] rfl (by (try simp only [List.map_toArray, List.map_cons, List.map_nil]); first | done | rfl | (simp only [List.length_drop, List.length_take]; rfl)) ?_; (with_reducible refine (tags_Find.search A0 c0 l0 a1 t136 gb3 _ ?side1 ?side2 A3.out).mono ?_); (case side1 => repeat (first | exact (Kd.C_below HR0.out HB.out) | (with_reducible refine Kd.C_alloc ?_ _) | (with_reducible refine Kd.C_drewN ?_ _) | (with_reducible refine Kd.C_drew ?_))); (case side2 => exact (blk_cell BX.out 0).trans rfl); rintro e w9 ⟨rfl, hb⟩; refine ⟨_, rfl, ?_⟩; have n0_ := Aside0.mk (below_step (by repeat (first | (with_reducible first | exact HB.out | apply below_alloc | apply pw_below_drewN | apply below_drew1) | exact HB.out)) hb); clear HB; have HB := n0_; clear n0_; (try clear hb); (try clear hb2); (try clear hk); (try clear hi); have p137 : 0 ≤ (t136 : Int) := of_decide_eq_true (by first | (with_reducible assumption) | assumption); have q137 : t136 < (l0.length : Int) := of_decide_eq_true (by first | (with_reducible assumption) | assumption); (try clear hHeld); obtain ⟨ad137, A137_1, c137_1, e137, hx137_0, hx137_1, hl137_1, hi137_1⟩ := at_T50 HR0.out t136 p137 q137; cases e137; replace hx137_0 := (HB.out.cell (World.block_lt_of_cell? w _ hx137_0)).trans hx137_0; replace hx137_1 := (HB.out.cell (World.block_lt_of_cell? w _ hx137_1)).trans hx137_1; have HR137_1 := Aside0.mk hi137_1; have HC137_1 := Aside0.mk hl137_1; clear hi137_1 hl137_1; replace p137 := eq_true p137; replace q137 := eq_true q137) | ((with_reducible refine gate_callee (f := 22) rfl ?_); refine goesL_ (some 17) rfl rfl Tryd.func22 (by kernel_rfl) rfl #[.slice A137_1 ((rd_T50 l0 t136).f1).length c137_1] rfl (by (try simp only [List.map_toArray, List.map_cons, List.map_nil]); first | done | rfl | (simp only [List.length_drop, List.length_take]; rfl)) ?_; (with_reducible refine (bytes_Clone.calls _ _ ((rd_T50 l0 t136).f1) t138 _ ?side1 ?side2 A8.out).mono ?_); (case side1 => repeat (first | exact (Kd.C_below HR137_1.out HB.out) | (with_reducible refine Kd.C_alloc ?_ _) | (with_reducible refine Kd.C_drewN ?_ _) | (with_reducible refine Kd.C_drew ?_))); (case side2 => exact HC137_1.out); rintro e w10 ⟨v139, rfl, ho0, hb⟩; refine ⟨_, rfl, ?_⟩; have n0_ := Aside0.mk (Kd.R_lower ho0 (below_size (by repeat (first | (with_reducible first | exact HB.out | apply below_alloc | apply pw_below_drewN | apply below_drew1) | exact HB.out)))); have n1_ := Aside0.mk (below_step (by repeat (first | (with_reducible first | exact HB.out | apply below_alloc | apply pw_below_drewN | apply below_drew1) | exact HB.out)) hb); clear HB; have HO140 := n0_; have HB := n1_; clear n0_ n1_; (try clear hb); (try clear hb2); (try clear hk); (try clear hi); (try clear ho0)))
        go_ret2
        exact ⟨_, by first | rfl | (simp [errW_none, errW_some] <;> rfl) | (simp [*, errW_none, errW_some] <;> rfl), by (with_reducible repeat (first | apply Kd.R_alloc | apply Kd.R_drewN | apply Kd.R_drew)); exact HO140.out, by repeat (first | (with_reducible first | exact HB.out | apply below_alloc | apply pw_below_drewN | apply below_drew1) | exact HB.out)⟩
      · rw [if_neg c7] at H
        exact absurd H (by simp)
    · rw [if_neg c6] at H
      exact absurd H (by simp)


end Go.Proofs.YthkgaciibfjejaaDoor.Print
