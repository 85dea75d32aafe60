/- A text that a program of this claim (wip/x) laid out of the translation: what Go functions come to, and that they come to it. Lean checks it. -/
import Derived.Test.YthkgaciibfjejaaDoorPrint0
import Derived.Test.YthkgaciibfjejaaDoorPrintBytesClone
import Derived.Test.YthkgaciibfjejaaDoorPrintWireGet
namespace Go.Proofs.YthkgaciibfjejaaDoor.Print
open Go.RowKit Go.Proofs.YthkgaciibfjejaaDoorW.PrintWords Go.Proofs.YthkgaciibfjejaaDoorW.PrintLast Go.Proofs.YthkgaciibfjejaaDoorW.PrintMore
attribute [local go_sem] max2_int min2_int max_two min_two max_three min_three max_four min_four   -- for this text's walks alone
set_option linter.unusedVariables false
set_option linter.unusedSimpArgs false

/-! ### tags_Get: function 16 -/
mutual
def tags_Get.l0 : Nat → List Int → List (S50) → Int → Option ((List (S50)) × Int × Int)
  | 0, _, _, _ => none
  | k + 1, x0, x5, x6 => if x6 < (x0.length : Int) then (if (wrap64 ((x0.length : Int) - x6)) < 4 then (some (([] : List (S50)), 0, 2)) else (if 0 ≤ x6 then (if x6 ≤ (x0.length : Int) then ((wire_Get.f k (x0.drop (x6 : Int).toNat) 2).bind fun t179 => (if 0 ≤ (wrap64 (x6 + 2)) then (if (wrap64 (x6 + 2)) ≤ (x0.length : Int) then ((wire_Get.f k (x0.drop ((wrap64 (x6 + 2)) : Int).toNat) 2).bind fun t185 => (if (wrap64 (t185)) > (wrap64 ((x0.length : Int) - (wrap64 (x6 + 4)))) then (some (([] : List (S50)), 0, 2)) else (if (IntKind.u16.wrap (t179)) = 0 then (tags_Get.j1 k x0 x5 (wrap64 (x6 + 4)) (wrap64 (t185)) (decide ((wrap64 (t185)) > 0)) (IntKind.u16.wrap (t179))) else (tags_Get.j1 k x0 x5 (wrap64 (x6 + 4)) (wrap64 (t185)) false (IntKind.u16.wrap (t179)))))) else (none)) else (none))) else (none)) else (none))) else (some (x5, x6, 0))
def tags_Get.j1 : Nat → List Int → List (S50) → Int → Int → Bool → Int → Option ((List (S50)) × Int × Int)
  | 0, _, _, _, _, _, _ => none
  | k + 1, x0, x5, x6, x8, x39, x181000 => if x39 = true then (some (([] : List (S50)), 0, 4)) else (if x181000 = 0 then (some (x5, x6, 0)) else (if 0 ≤ x6 then (if x6 ≤ (wrap64 (x6 + x8)) then (if (wrap64 (x6 + x8)) ≤ (x0.length : Int) then ((bytes_Clone.f ((x0.take ((wrap64 (x6 + x8)) : Int).toNat).drop (x6 : Int).toNat)).bind fun t190 => (if x5.length < 4398046511104 then (tags_Get.l0 k x0 (x5 ++ [(⟨x181000, t190⟩ : S50)]) (wrap64 (x6 + x8))) else (none))) else (none)) else (none)) else (none)))
end
def tags_Get.f (k : Nat) (l0 : List Int) : Option ((List (S50)) × Int × Int) := tags_Get.l0 k l0 ([] : List (S50)) 0
theorem tags_Get.mono_l : ∀ k, (∀ y0 y1 y2, LeO (tags_Get.l0 k y0 y1 y2) (tags_Get.l0 (k + 1) y0 y1 y2)) ∧ (∀ y0 y1 y2 y3 y4 y5, LeO (tags_Get.j1 k y0 y1 y2 y3 y4 y5) (tags_Get.j1 (k + 1) y0 y1 y2 y3 y4 y5))
  | 0 => ⟨fun _ _ _ r h => by simp [tags_Get.l0] at h, fun _ _ _ _ _ _ r h => by simp [tags_Get.j1] at h⟩
  | k + 1 => by
    obtain ⟨ih0, ih1⟩ := tags_Get.mono_l k
    refine ⟨?_, ?_⟩
    · intro y0 y1 y2
      unfold tags_Get.l0
      repeat' first
      | (with_reducible exact ih0 _ _ _)
      | (with_reducible exact ih1 _ _ _ _ _ _)
      | (with_reducible exact wire_Get.mono _ _ _)
      | (with_reducible exact LeO.refl _)
      | (with_reducible exact LeO.none _)
      | (with_reducible refine LeO.ite ?_ ?_)
      | (with_reducible refine LeO.bind ?_ (fun _ => ?_))
      | exact ih0 _ _ _
      | exact ih1 _ _ _ _ _ _
      | exact wire_Get.mono _ _ _
      | exact LeO.none _
      | refine LeO.ite ?_ ?_
      | refine LeO.bind ?_ (fun _ => ?_)
    · intro y0 y1 y2 y3 y4 y5
      unfold tags_Get.j1
      repeat' first
      | (with_reducible exact ih0 _ _ _)
      | (with_reducible exact ih1 _ _ _ _ _ _)
      | (with_reducible exact wire_Get.mono _ _ _)
      | (with_reducible exact LeO.refl _)
      | (with_reducible exact LeO.none _)
      | (with_reducible refine LeO.ite ?_ ?_)
      | (with_reducible refine LeO.bind ?_ (fun _ => ?_))
      | exact ih0 _ _ _
      | exact ih1 _ _ _ _ _ _
      | exact wire_Get.mono _ _ _
      | exact LeO.none _
      | refine LeO.ite ?_ ?_
      | refine LeO.bind ?_ (fun _ => ?_)
theorem tags_Get.mono : ∀ a0 k, LeO (tags_Get.f k a0) (tags_Get.f (k + 1) a0) := by
  intro a0 k
  obtain ⟨ih0, ih1⟩ := tags_Get.mono_l k
  unfold tags_Get.f
  repeat' first
      | (with_reducible exact ih0 _ _ _)
      | (with_reducible exact ih1 _ _ _ _ _ _)
      | (with_reducible exact wire_Get.mono _ _ _)
      | (with_reducible exact LeO.refl _)
      | (with_reducible exact LeO.none _)
      | (with_reducible refine LeO.ite ?_ ?_)
      | (with_reducible refine LeO.bind ?_ (fun _ => ?_))
      | exact ih0 _ _ _
      | exact ih1 _ _ _ _ _ _
      | exact wire_Get.mono _ _ _
      | exact LeO.none _
      | refine LeO.ite ?_ ?_
      | refine LeO.bind ?_ (fun _ => ?_)
set_option maxHeartbeats 8000000 in
set_option maxRecDepth 100000 in
theorem tags_Get.calls (k : Nat) (A0 : Option Addr) (c0 : Nat) (l0 : List Int) (r1 : List (S50)) (r2 : Int) (r3 : Int) (w : World) (hr0 : Kd.C (Kd.int .u8) w A0 l0.length l0) (hc0 : l0.length ≤ c0) (h : tags_Get.f k l0 = some (r1, r2, r3)) :
    Calls Tryd.prog 16 #[.slice A0 l0.length c0] w fun e w' => ∃ v0_ : Value, e = .returned (.tuple #[v0_, .int .i64 r2, .int .i64 r3]) ∧ Kd.S k50 50 w' w.heap.size (fun _ => True) v0_ r1 ∧ Below w.heap.size w w' := by
  have hu50 := Tryd.underlying50
  have HR0 := Aside0.mk hr0
  have HC0 := Aside0.mk hc0
  clear hr0 hc0
  have HB := Aside0.mk (Below.refl w.heap.size w)
  have H : (tags_Get.l0 k l0 ([] : List (S50)) 0) = some (r1, r2, r3) := h
  clear h
  have H' := Aside0.mk H
  clear H
  go_enter Tryd.func16, Tryd.ntmps16
  go_wp2
  go_loopg [5, 6] k (fun kq v5 v6 w' => ∃ (x5_1 : List (S50)) (x6_1 : Int), v6 = .int .i64 x6_1 ∧ Aside0 (tags_Get.l0 kq l0 x5_1 x6_1 = some (r1, r2, r3)) ∧ Aside0 (kq ≤ k) ∧ Aside0 (Kd.S k50 50 w' w.heap.size (fun _ => True) v5 x5_1) ∧ Aside0 (Below w.heap.size w w'))
  case atStart => exact ⟨(([] : List (S50))), (0), (by first | rfl | (simp; done) | (simp [*]; done)), H', ⟨Nat.le_refl _⟩, ⟨by first | exact Kd.S_nil _ _ _ _ _ | exact Kd.N_nil _ _ _ _ _ | exact Kd.V_nil _ _ _ _ _ | exact Kd.Q_nil _ _ _ _ _ | exact Kd.R_nil _ _ _ _ _⟩, ⟨by repeat (first | (with_reducible first | exact HB.out | apply below_alloc | apply pw_below_drewN | apply below_drew1) | exact HB.out)⟩⟩
  case round =>
    clear H'
    try clear c1
    obtain ⟨x5_1, x6_1, rfl, HA, HK1, HO_5, HB⟩ := hrel
    cases gk with
    | zero => exact absurd HA.out (by simp [tags_Get.l0])
    | succ k1 =>
      have H := HA.out
      clear HA
      simp only [tags_Get.l0] at H
      by_cases c2 : x6_1 < (l0.length : Int)
      · rw [if_pos c2] at H
        have c2b0 : decide (x6_1 < (l0.length : Int)) = true := decide_eq_true c2
        clear c2
        by_cases c3 : (wrap64 ((l0.length : Int) - x6_1)) < 4
        · rw [if_pos c3] at H
          have c3b0 : decide ((wrap64 ((l0.length : Int) - x6_1)) < 4) = true := decide_eq_true c3
          clear c3
          simp only [Option.some.injEq, Prod.mk.injEq] at H
          obtain ⟨rfl, rfl, rfl⟩ := H
          go_wp2
          go_ret3
          exact ⟨_, by first | rfl | (simp [errW_none, errW_some] <;> rfl) | (simp [*, errW_none, errW_some] <;> rfl), by first | exact Kd.S_nil _ _ _ _ _ | exact Kd.N_nil _ _ _ _ _ | exact Kd.V_nil _ _ _ _ _ | exact Kd.Q_nil _ _ _ _ _ | exact Kd.R_nil _ _ _ _ _, by repeat (first | (with_reducible first | exact HB.out | apply below_alloc | apply pw_below_drewN | apply below_drew1) | exact HB.out)⟩
        · rw [if_neg c3] at H
          have c3b0 : decide ((wrap64 ((l0.length : Int) - x6_1)) < 4) = false := decide_eq_false c3
          clear c3
          by_cases c4 : 0 ≤ x6_1
          · rw [if_pos c4] at H
            have c4b0 := eq_true c4
            have c4b1 : decide (0 ≤ x6_1) = true := decide_eq_true c4
            clear c4
            by_cases c5 : x6_1 ≤ (l0.length : Int)
            · rw [if_pos c5] at H
              have c5b0 := eq_true c5
              have c5b1 : decide (x6_1 ≤ (l0.length : Int)) = true := decide_eq_true c5
              clear c5
              obtain ⟨y175, hy175⟩ : ∃ y_ : List Int, y_ = (l0.drop (x6_1 : Int).toNat) := ⟨_, rfl⟩
              replace H : ((wire_Get.f k1 y175 2).bind fun t179 => (if 0 ≤ (wrap64 (x6_1 + 2)) then (if (wrap64 (x6_1 + 2)) ≤ (l0.length : Int) then ((wire_Get.f k1 (l0.drop ((wrap64 (x6_1 + 2)) : Int).toNat) 2).bind fun t185 => (if (wrap64 (t185)) > (wrap64 ((l0.length : Int) - (wrap64 (x6_1 + 4)))) then (some (([] : List (S50)), 0, 2)) else (if (IntKind.u16.wrap (t179)) = 0 then (tags_Get.j1 k1 l0 x5_1 (wrap64 (x6_1 + 4)) (wrap64 (t185)) (decide ((wrap64 (t185)) > 0)) (IntKind.u16.wrap (t179))) else (tags_Get.j1 k1 l0 x5_1 (wrap64 (x6_1 + 4)) (wrap64 (t185)) false (IntKind.u16.wrap (t179)))))) else (none)) else (none))) = some (r1, r2, r3) := by first | (rw [hy175]; with_reducible exact H) | (have H2_ := (Option.bind_some _ _).symm.trans H; rw [hy175]; with_reducible exact H2_) | (have H2_ := (Option.bind_some _ _).symm.trans H; with_reducible exact H2_) | with_reducible exact H | (rw [hy175]; exact H) | exact H
              have Ny175 := Aside0.mk hy175
              clear hy175
              replace H := Option.bind_eq_some_iff.mp H
              obtain ⟨t179, A60, H⟩ := H
              replace H : (if 0 ≤ (wrap64 (x6_1 + 2)) then (if (wrap64 (x6_1 + 2)) ≤ (l0.length : Int) then ((wire_Get.f k1 (l0.drop ((wrap64 (x6_1 + 2)) : Int).toNat) 2).bind fun t185 => (if (wrap64 (t185)) > (wrap64 ((l0.length : Int) - (wrap64 (x6_1 + 4)))) then (some (([] : List (S50)), 0, 2)) else (if (IntKind.u16.wrap (t179)) = 0 then (tags_Get.j1 k1 l0 x5_1 (wrap64 (x6_1 + 4)) (wrap64 (t185)) (decide ((wrap64 (t185)) > 0)) (IntKind.u16.wrap (t179))) else (tags_Get.j1 k1 l0 x5_1 (wrap64 (x6_1 + 4)) (wrap64 (t185)) false (IntKind.u16.wrap (t179)))))) else (none)) else (none)) = some (r1, r2, r3) := H
              have A6 := Aside0.mk A60
              clear A60
              obtain ⟨ji7, hji7⟩ : ∃ j_ : Int, (wrap64 (x6_1 + 2)) = j_ := ⟨_, rfl⟩
              replace H : (if 0 ≤ (ji7) then (if (ji7) ≤ (l0.length : Int) then ((wire_Get.f k1 (l0.drop ((ji7) : Int).toNat) 2).bind fun t185 => (if (wrap64 (t185)) > (wrap64 ((l0.length : Int) - (wrap64 (x6_1 + 4)))) then (some (([] : List (S50)), 0, 2)) else (if (IntKind.u16.wrap (t179)) = 0 then (tags_Get.j1 k1 l0 x5_1 (wrap64 (x6_1 + 4)) (wrap64 (t185)) (decide ((wrap64 (t185)) > 0)) (IntKind.u16.wrap (t179))) else (tags_Get.j1 k1 l0 x5_1 (wrap64 (x6_1 + 4)) (wrap64 (t185)) false (IntKind.u16.wrap (t179)))))) else (none)) else (none)) = some (r1, r2, r3) := by first | (rw [hji7] at H; exact H) | (simp only [hji7] at H ⊢; exact H)
              (try rw [hji7] at A6)
              have hji7w : (IntKind.i64.wrap (x6_1 + 2)) = ji7 := (i64_w _).trans hji7
              by_cases c8 : 0 ≤ (ji7)
              · rw [if_pos c8] at H
                have c8b0 := eq_true c8
                have c8b1 : decide (0 ≤ (ji7)) = true := decide_eq_true c8
                clear c8
                by_cases c9 : (ji7) ≤ (l0.length : Int)
                · rw [if_pos c9] at H
                  have c9b0 := eq_true c9
                  have c9b1 : decide ((ji7) ≤ (l0.length : Int)) = true := decide_eq_true c9
                  clear c9
                  obtain ⟨y181, hy181⟩ : ∃ y_ : List Int, y_ = (l0.drop ((ji7) : Int).toNat) := ⟨_, rfl⟩
                  replace H : ((wire_Get.f k1 y181 2).bind fun t185 => (if (wrap64 (t185)) > (wrap64 ((l0.length : Int) - (wrap64 (x6_1 + 4)))) then (some (([] : List (S50)), 0, 2)) else (if (IntKind.u16.wrap (t179)) = 0 then (tags_Get.j1 k1 l0 x5_1 (wrap64 (x6_1 + 4)) (wrap64 (t185)) (decide ((wrap64 (t185)) > 0)) (IntKind.u16.wrap (t179))) else (tags_Get.j1 k1 l0 x5_1 (wrap64 (x6_1 + 4)) (wrap64 (t185)) false (IntKind.u16.wrap (t179)))))) = some (r1, r2, r3) := by first | (rw [hy181]; with_reducible exact H) | (have H2_ := (Option.bind_some _ _).symm.trans H; rw [hy181]; with_reducible exact H2_) | (have H2_ := (Option.bind_some _ _).symm.trans H; with_reducible exact H2_) | with_reducible exact H | (rw [hy181]; exact H) | exact H
                  have Ny181 := Aside0.mk hy181
                  clear hy181
                  replace H := Option.bind_eq_some_iff.mp H
                  obtain ⟨t185, A100, H⟩ := H
                  replace H : (if (wrap64 (t185)) > (wrap64 ((l0.length : Int) - (wrap64 (x6_1 + 4)))) then (some (([] : List (S50)), 0, 2)) else (if (IntKind.u16.wrap (t179)) = 0 then (tags_Get.j1 k1 l0 x5_1 (wrap64 (x6_1 + 4)) (wrap64 (t185)) (decide ((wrap64 (t185)) > 0)) (IntKind.u16.wrap (t179))) else (tags_Get.j1 k1 l0 x5_1 (wrap64 (x6_1 + 4)) (wrap64 (t185)) false (IntKind.u16.wrap (t179))))) = some (r1, r2, r3) := H
                  have A10 := Aside0.mk A100
                  clear A100
                  by_cases c11 : (wrap64 (t185)) > (wrap64 ((l0.length : Int) - (wrap64 (x6_1 + 4))))
                  · rw [if_pos c11] at H
                    have c11b0 : decide ((wrap64 ((l0.length : Int) - (wrap64 (x6_1 + 4)))) < (wrap64 (t185))) = true := decide_eq_true c11
                    clear c11
                    simp only [Option.some.injEq, Prod.mk.injEq] at H
                    obtain ⟨rfl, rfl, rfl⟩ := H
                    have q12 : (x6_1 : Int) ≤ ((l0.length : Int) : Int) := of_decide_eq_true (by first | (with_reducible assumption) | assumption)
                    obtain ⟨i012, hi012, _, hsz12, _⟩ := info_parts info5
                    have hroom12 : l0.length ≤ c0 := HC0.out
                    have hC12 : Kd.C (Kd.int .u8) _ A0 l0.length l0 := HR0.out
                    have q012 : (0 : Int) ≤ (x6_1 : Int) := of_decide_eq_true (by first | (with_reducible assumption) | assumption)
                    have hcut12 := cut_from (P := Tryd.prog) 28 5 .i64 Tryd.underlying28 hi012 1 hsz12 A0 l0.length c0 x6_1 q012 q12
                    have hr12 := Kd.C_drop (m := (x6_1 : Int).toNat) (c := c0) hC12 (by omega) hroom12
                    obtain ⟨A12, hA12⟩ : ∃ A1_, A1_ = (if c0 = (x6_1 : Int).toNat then A0 else (A0 : Option Addr).map (·.add ((x6_1 : Int).toNat * 1))) := ⟨_, rfl⟩
                    obtain ⟨c12, hc12⟩ : ∃ c1_, c1_ = c0 - (x6_1 : Int).toNat := ⟨_, rfl⟩
                    have hy12 : y175.length = l0.length - (x6_1 : Int).toNat := (by rw [Ny175.out, List.length_drop] <;> omega)
                    rw [show (l0).drop (x6_1 : Int).toNat = y175 from Ny175.out.symm] at hr12
                    replace hr12 : Kd.C (Kd.int .u8) _ A12 y175.length y175 := (by rw [hA12]; exact hr12)
                    rw [← hy12, ← hA12, ← hc12] at hcut12
                    have HR178 := Aside0.mk hr12
                    have HC178 := Aside0.mk (show y175.length ≤ c12 from by rw [hy12, hc12]; exact Nat.sub_le_sub_right hroom12 _)
                    clear hr12 hC12 hroom12 hi012 hsz12 hc12
                    have KY12 := Aside0.mk hy12
                    have KA12 := Aside0.mk hA12
                    clear hy12 hA12
                    replace q12 := eq_true q12
                    go_wp2_with (first | ((with_reducible refine gate_callee (f := 24) rfl ?_); refine goesL_ (some 21) rfl rfl Tryd.func24 (by kernel_rfl) rfl #[.slice A12 y175.length c12, .int .i64 2] rfl (by (try simp only [List.map_toArray, List.map_cons, List.map_nil]); first | done | rfl | (simp only [List.length_drop, List.length_take]; rfl)) ?_; (with_reducible refine (wire_Get.calls k1 _ _ y175 2 t179 _ ?side1 ?side2 A6.out).mono ?_); (case side1 => repeat (first | exact (Kd.C_below HR178.out HB.out) | (with_reducible refine Kd.C_alloc ?_ _) | (with_reducible refine Kd.C_drewN ?_ _) | (with_reducible refine Kd.C_drew ?_))); (case side2 => exact HC178.out); rintro e w' ⟨rfl, ⟨nd, rfl⟩⟩; refine ⟨_, rfl, ?_⟩; (try (rw [drewN_self wr]; generalize hq_ : World.drewN wr _ = wr; have n0_ : Aside0 (Kd.S k50 50 wr w.heap.size (fun _ => True) u5 x5_1) := ⟨by rw [← hq_]; exact (by (with_reducible repeat (first | apply Kd.S_alloc | apply Kd.S_drewN | apply Kd.S_drew)); exact HO_5.out)⟩; have n1_ : Aside0 (Below w.heap.size w wr) := ⟨by rw [← hq_]; exact (by repeat (first | (with_reducible first | exact HB.out | apply below_alloc | apply pw_below_drewN | apply below_drew1) | exact HB.out))⟩; clear HO_5 HB hq_; have HO_5 := n0_; have HB := n1_; clear n0_ n1_))) | ((with_reducible refine gate_dst (N := 7) rfl ?_); refine box_event ?hg (N := 7) ?hd (cs := #[.int .u16 0, .slice none 0 0]) (t := 50) ?hr ?_; (case hd => rfl); (case hg => rfl); (case hr => first | (go_simp; done) | (go_simp; simp only [IntKind.wrap_u8, IntKind.wrap_u16, IntKind.wrap_u32, IntKind.wrap_u64]; done) | (go_simp; simp only [IntKind.wrap_u8, IntKind.wrap_u16, IntKind.wrap_u32, IntKind.wrap_u64, Int.tmod_eq_emod_of_nonneg (Int.natCast_nonneg _), Int.emod_emod]; done) | (go_simp; rfl)); intro gb180 hg w13 hbox hb; have n0_ := Aside0.mk (Kd.S_below (Kd.S_elderB (by (with_reducible repeat (first | apply Kd.S_alloc | apply Kd.S_drewN | apply Kd.S_drew)); exact HO_5.out) gb180 (Nat.le_of_eq hg.symm)) hb); have n1_ := Aside0.mk (below_step (by repeat (first | (with_reducible first | exact HB.out | apply below_alloc | apply pw_below_drewN | apply below_drew1) | exact HB.out)) hb); have n2_ := Aside0.mk (hbox); have n3_ := Aside0.mk ((by rw [hg]; exact (below_size (by repeat (first | (with_reducible first | exact HB.out | apply below_alloc | apply pw_below_drewN | apply below_drew1) | exact HB.out))) : w.heap.size ≤ gb180)); have n4_ := Aside0.mk ((by rw [hg]; exact (below_size (by repeat (first | (with_reducible first | exact HB.out | apply below_alloc | apply pw_below_drewN | apply below_drew1) | exact HB.out))) : w.heap.size ≤ gb180)); clear HO_5; clear HB; have HO_5 := n0_; have HB := n1_; have BK180 := n2_; have GW180 := n3_; have GE180 := n4_; clear n0_ n1_ n2_ n3_ n4_; clear hb hbox hg; have hcz14_0 : w13.cell? ⟨gb180, 0, none⟩ = some (.int .u16 0) := (blk_cell BK180.out 0).trans rfl; have hcz14_1 : w13.cell? ⟨gb180, 1, none⟩ = some (.slice none 0 0) := (blk_cell BK180.out 1).trans rfl; have hfz14_0 := blk_frozen BK180.out 0; have hfz14_1 := blk_frozen BK180.out 1) | ((with_reducible refine gate_store (t := 50) (p := 7) rfl ?_); refine store_event (t := 50) (p := 7) (v := ?vo_w15) (w1 := ((w13.setCell ⟨gb180, 0, none⟩ (.int .u16 (IntKind.u16.wrap (t179)))).setCell ⟨gb180, 1, none⟩ (.slice none 0 0))) ?hg ?ho ?hn ?hr ?_; (case ho => rfl); (case hg => rfl); (case hn => rfl); (case hr => first | (go_simp; done) | (go_simp; simp only [IntKind.wrap_u8, IntKind.wrap_u16, IntKind.wrap_u32, IntKind.wrap_u64]; done) | (go_simp; simp only [IntKind.wrap_u8, IntKind.wrap_u16, IntKind.wrap_u32, IntKind.wrap_u64, Int.tmod_eq_emod_of_nonneg (Int.natCast_nonneg _), Int.emod_emod]; done) | (go_simp; rfl)); intro w15 hw; have n0_ : Aside0 (Kd.S k50 50 w15 w.heap.size (fun k_ => k_ ≠ gb180) u5 x5_1) := ⟨(by rw [hw]; exact (by (with_reducible repeat (first | apply Kd.S_alloc | apply Kd.S_drewN | apply Kd.S_drew)); exact Kd.S_mono (Kd.S_far (p := ⟨gb180, 1, none⟩) (Kd.S_far (p := ⟨gb180, 0, none⟩) (Kd.S_mono HO_5.out (fun k_ hk => (⟨hk, hk.2⟩ : _ ∧ k_ ≠ gb180))) (fun _ hk => hk.2) (.int .u16 (IntKind.u16.wrap (t179)))) (fun _ hk => hk.2) (.slice none 0 0)) (fun _ hk => hk.1.2)))⟩; have n1_ : Aside0 (w15.heap[gb180]? = some (.cells #[.int .u16 (IntKind.u16.wrap (t179)), .slice none 0 0] 50 (0, 0))) := ⟨(by rw [hw]; exact (by (with_reducible repeat (first | refine blk_drewN ?_ _ | refine blk_drew ?_ | refine blk_alloc ?_ _)); refine blk_put (cs := #[.int .u16 (IntKind.u16.wrap (t179)), .slice none 0 0]) ?_ 1 _ rfl; (with_reducible repeat (first | refine blk_drewN ?_ _ | refine blk_drew ?_ | refine blk_alloc ?_ _)); refine blk_put (cs := #[.int .u16 0, .slice none 0 0]) ?_ 0 _ rfl; (with_reducible repeat (first | refine blk_drewN ?_ _ | refine blk_drew ?_ | refine blk_alloc ?_ _)); exact BK180.out))⟩; have n2_ : Aside0 (Below w.heap.size w w15) := ⟨(by rw [hw]; exact (by repeat (first | (with_reducible first | exact HB.out | apply below_alloc | apply pw_below_drewN | apply below_drew1 | refine below_set ?_ GE180.out) | exact HB.out)))⟩; clear hw; clear HO_5; clear BK180; clear HB; have HO_5 := n0_; have BK180 := n1_; have HB := n2_; clear n0_ n1_ n2_; have q16 : ((ji7) : Int) ≤ ((l0.length : Int) : Int) := of_decide_eq_true (by first | (with_reducible assumption) | assumption); obtain ⟨i016, hi016, _, hsz16, _⟩ := info_parts info5; have hroom16 : l0.length ≤ c0 := HC0.out; have hC16 : Kd.C (Kd.int .u8) _ A0 l0.length l0 := HR0.out; have q016 : (0 : Int) ≤ ((ji7) : Int) := of_decide_eq_true (by first | (with_reducible assumption) | assumption); have hcut16 := cut_from (P := Tryd.prog) 28 5 .i64 Tryd.underlying28 hi016 1 hsz16 A0 l0.length c0 (ji7) q016 q16; have hr16 := Kd.C_drop (m := ((ji7) : Int).toNat) (c := c0) hC16 (by omega) hroom16; obtain ⟨A16, hA16⟩ : ∃ A1_, A1_ = (if c0 = ((ji7) : Int).toNat then A0 else (A0 : Option Addr).map (·.add (((ji7) : Int).toNat * 1))) := ⟨_, rfl⟩; obtain ⟨c16, hc16⟩ : ∃ c1_, c1_ = c0 - ((ji7) : Int).toNat := ⟨_, rfl⟩; have hy16 : y181.length = l0.length - ((ji7) : Int).toNat := (by rw [Ny181.out, List.length_drop] <;> omega); rw [show (l0).drop ((ji7) : Int).toNat = y181 from Ny181.out.symm] at hr16; replace hr16 : Kd.C (Kd.int .u8) _ A16 y181.length y181 := (by rw [hA16]; exact hr16); rw [← hy16, ← hA16, ← hc16] at hcut16; have HR184 := Aside0.mk hr16; have HC184 := Aside0.mk (show y181.length ≤ c16 from by rw [hy16, hc16]; exact Nat.sub_le_sub_right hroom16 _); clear hr16 hC16 hroom16 hi016 hsz16 hc16; have KY16 := Aside0.mk hy16; have KA16 := Aside0.mk hA16; clear hy16 hA16; replace q16 := eq_true q16) | ((with_reducible refine gate_callee (f := 24) rfl ?_); refine goesL_ (some 28) rfl rfl Tryd.func24 (by kernel_rfl) rfl #[.slice A16 y181.length c16, .int .i64 2] rfl (by (try simp only [List.map_toArray, List.map_cons, List.map_nil]); first | done | rfl | (simp only [List.length_drop, List.length_take]; rfl)) ?_; (with_reducible refine (wire_Get.calls k1 _ _ y181 2 t185 _ ?side1 ?side2 A10.out).mono ?_); (case side1 => repeat (first | exact (Kd.C_below HR184.out HB.out) | (with_reducible refine Kd.C_alloc ?_ _) | (with_reducible refine Kd.C_drewN ?_ _) | (with_reducible refine Kd.C_drew ?_))); (case side2 => exact HC184.out); rintro e w' ⟨rfl, ⟨nd, rfl⟩⟩; refine ⟨_, rfl, ?_⟩))
                    go_ret3
                    exact ⟨_, by first | rfl | (simp [errW_none, errW_some] <;> rfl) | (simp only [← hji7]; first | rfl | (simp [errW_none, errW_some] <;> rfl)) | (simp [*, errW_none, errW_some] <;> rfl), by first | exact Kd.S_nil _ _ _ _ _ | exact Kd.N_nil _ _ _ _ _ | exact Kd.V_nil _ _ _ _ _ | exact Kd.Q_nil _ _ _ _ _ | exact Kd.R_nil _ _ _ _ _, by repeat (first | (with_reducible first | exact HB.out | apply below_alloc | apply pw_below_drewN | apply below_drew1 | refine below_set ?_ GE180.out) | exact HB.out)⟩
                  · rw [if_neg c11] at H
                    have c11b0 : decide ((wrap64 ((l0.length : Int) - (wrap64 (x6_1 + 4)))) < (wrap64 (t185))) = false := decide_eq_false c11
                    clear c11
                    have HC17 := Aside0.mk H
                    clear H
                    have q18 : (x6_1 : Int) ≤ ((l0.length : Int) : Int) := of_decide_eq_true (by first | (with_reducible assumption) | assumption)
                    obtain ⟨i018, hi018, _, hsz18, _⟩ := info_parts info5
                    have hroom18 : l0.length ≤ c0 := HC0.out
                    have hC18 : Kd.C (Kd.int .u8) _ A0 l0.length l0 := HR0.out
                    have q018 : (0 : Int) ≤ (x6_1 : Int) := of_decide_eq_true (by first | (with_reducible assumption) | assumption)
                    have hcut18 := cut_from (P := Tryd.prog) 28 5 .i64 Tryd.underlying28 hi018 1 hsz18 A0 l0.length c0 x6_1 q018 q18
                    have hr18 := Kd.C_drop (m := (x6_1 : Int).toNat) (c := c0) hC18 (by omega) hroom18
                    obtain ⟨A18, hA18⟩ : ∃ A1_, A1_ = (if c0 = (x6_1 : Int).toNat then A0 else (A0 : Option Addr).map (·.add ((x6_1 : Int).toNat * 1))) := ⟨_, rfl⟩
                    obtain ⟨c18, hc18⟩ : ∃ c1_, c1_ = c0 - (x6_1 : Int).toNat := ⟨_, rfl⟩
                    have hy18 : y175.length = l0.length - (x6_1 : Int).toNat := (by rw [Ny175.out, List.length_drop] <;> omega)
                    rw [show (l0).drop (x6_1 : Int).toNat = y175 from Ny175.out.symm] at hr18
                    replace hr18 : Kd.C (Kd.int .u8) _ A18 y175.length y175 := (by rw [hA18]; exact hr18)
                    rw [← hy18, ← hA18, ← hc18] at hcut18
                    have HR178 := Aside0.mk hr18
                    have HC178 := Aside0.mk (show y175.length ≤ c18 from by rw [hy18, hc18]; exact Nat.sub_le_sub_right hroom18 _)
                    clear hr18 hC18 hroom18 hi018 hsz18 hc18
                    have KY18 := Aside0.mk hy18
                    have KA18 := Aside0.mk hA18
                    clear hy18 hA18
                    replace q18 := eq_true q18
                    go_upto_region 11 with (first | ((with_reducible refine gate_callee (f := 24) rfl ?_); refine goesL_ (some 21) rfl rfl Tryd.func24 (by kernel_rfl) rfl #[.slice A18 y175.length c18, .int .i64 2] rfl (by (try simp only [List.map_toArray, List.map_cons, List.map_nil]); first | done | rfl | (simp only [List.length_drop, List.length_take]; rfl)) ?_; (with_reducible refine (wire_Get.calls k1 _ _ y175 2 t179 _ ?side1 ?side2 A6.out).mono ?_); (case side1 => repeat (first | exact (Kd.C_below HR178.out HB.out) | (with_reducible refine Kd.C_alloc ?_ _) | (with_reducible refine Kd.C_drewN ?_ _) | (with_reducible refine Kd.C_drew ?_))); (case side2 => exact HC178.out); rintro e w' ⟨rfl, ⟨nd, rfl⟩⟩; refine ⟨_, rfl, ?_⟩; (try (rw [drewN_self wr]; generalize hq_ : World.drewN wr _ = wr; have n0_ : Aside0 (Kd.S k50 50 wr w.heap.size (fun _ => True) u5 x5_1) := ⟨by rw [← hq_]; exact (by (with_reducible repeat (first | apply Kd.S_alloc | apply Kd.S_drewN | apply Kd.S_drew)); exact HO_5.out)⟩; have n1_ : Aside0 (Below w.heap.size w wr) := ⟨by rw [← hq_]; exact (by repeat (first | (with_reducible first | exact HB.out | apply below_alloc | apply pw_below_drewN | apply below_drew1) | exact HB.out))⟩; clear HO_5 HB hq_; have HO_5 := n0_; have HB := n1_; clear n0_ n1_))) | ((with_reducible refine gate_dst (N := 7) rfl ?_); refine box_event ?hg (N := 7) ?hd (cs := #[.int .u16 0, .slice none 0 0]) (t := 50) ?hr ?_; (case hd => rfl); (case hg => rfl); (case hr => first | (go_simp; done) | (go_simp; simp only [IntKind.wrap_u8, IntKind.wrap_u16, IntKind.wrap_u32, IntKind.wrap_u64]; done) | (go_simp; simp only [IntKind.wrap_u8, IntKind.wrap_u16, IntKind.wrap_u32, IntKind.wrap_u64, Int.tmod_eq_emod_of_nonneg (Int.natCast_nonneg _), Int.emod_emod]; done) | (go_simp; rfl)); intro gb180 hg w19 hbox hb; have n0_ := Aside0.mk (Kd.S_below (Kd.S_elderB (by (with_reducible repeat (first | apply Kd.S_alloc | apply Kd.S_drewN | apply Kd.S_drew)); exact HO_5.out) gb180 (Nat.le_of_eq hg.symm)) hb); have n1_ := Aside0.mk (below_step (by repeat (first | (with_reducible first | exact HB.out | apply below_alloc | apply pw_below_drewN | apply below_drew1) | exact HB.out)) hb); have n2_ := Aside0.mk (hbox); have n3_ := Aside0.mk ((by rw [hg]; exact (below_size (by repeat (first | (with_reducible first | exact HB.out | apply below_alloc | apply pw_below_drewN | apply below_drew1) | exact HB.out))) : w.heap.size ≤ gb180)); have n4_ := Aside0.mk ((by rw [hg]; exact (below_size (by repeat (first | (with_reducible first | exact HB.out | apply below_alloc | apply pw_below_drewN | apply below_drew1) | exact HB.out))) : w.heap.size ≤ gb180)); clear HO_5; clear HB; have HO_5 := n0_; have HB := n1_; have BK180 := n2_; have GW180 := n3_; have GE180 := n4_; clear n0_ n1_ n2_ n3_ n4_; clear hb hbox hg; have hcz20_0 : w19.cell? ⟨gb180, 0, none⟩ = some (.int .u16 0) := (blk_cell BK180.out 0).trans rfl; have hcz20_1 : w19.cell? ⟨gb180, 1, none⟩ = some (.slice none 0 0) := (blk_cell BK180.out 1).trans rfl; have hfz20_0 := blk_frozen BK180.out 0; have hfz20_1 := blk_frozen BK180.out 1) | ((with_reducible refine gate_store (t := 50) (p := 7) rfl ?_); refine store_event (t := 50) (p := 7) (v := ?vo_w21) (w1 := ((w19.setCell ⟨gb180, 0, none⟩ (.int .u16 (IntKind.u16.wrap (t179)))).setCell ⟨gb180, 1, none⟩ (.slice none 0 0))) ?hg ?ho ?hn ?hr ?_; (case ho => rfl); (case hg => rfl); (case hn => rfl); (case hr => first | (go_simp; done) | (go_simp; simp only [IntKind.wrap_u8, IntKind.wrap_u16, IntKind.wrap_u32, IntKind.wrap_u64]; done) | (go_simp; simp only [IntKind.wrap_u8, IntKind.wrap_u16, IntKind.wrap_u32, IntKind.wrap_u64, Int.tmod_eq_emod_of_nonneg (Int.natCast_nonneg _), Int.emod_emod]; done) | (go_simp; rfl)); intro w21 hw; have n0_ : Aside0 (Kd.S k50 50 w21 w.heap.size (fun k_ => k_ ≠ gb180) u5 x5_1) := ⟨(by rw [hw]; exact (by (with_reducible repeat (first | apply Kd.S_alloc | apply Kd.S_drewN | apply Kd.S_drew)); exact Kd.S_mono (Kd.S_far (p := ⟨gb180, 1, none⟩) (Kd.S_far (p := ⟨gb180, 0, none⟩) (Kd.S_mono HO_5.out (fun k_ hk => (⟨hk, hk.2⟩ : _ ∧ k_ ≠ gb180))) (fun _ hk => hk.2) (.int .u16 (IntKind.u16.wrap (t179)))) (fun _ hk => hk.2) (.slice none 0 0)) (fun _ hk => hk.1.2)))⟩; have n1_ : Aside0 (w21.heap[gb180]? = some (.cells #[.int .u16 (IntKind.u16.wrap (t179)), .slice none 0 0] 50 (0, 0))) := ⟨(by rw [hw]; exact (by (with_reducible repeat (first | refine blk_drewN ?_ _ | refine blk_drew ?_ | refine blk_alloc ?_ _)); refine blk_put (cs := #[.int .u16 (IntKind.u16.wrap (t179)), .slice none 0 0]) ?_ 1 _ rfl; (with_reducible repeat (first | refine blk_drewN ?_ _ | refine blk_drew ?_ | refine blk_alloc ?_ _)); refine blk_put (cs := #[.int .u16 0, .slice none 0 0]) ?_ 0 _ rfl; (with_reducible repeat (first | refine blk_drewN ?_ _ | refine blk_drew ?_ | refine blk_alloc ?_ _)); exact BK180.out))⟩; have n2_ : Aside0 (Below w.heap.size w w21) := ⟨(by rw [hw]; exact (by repeat (first | (with_reducible first | exact HB.out | apply below_alloc | apply pw_below_drewN | apply below_drew1 | refine below_set ?_ GE180.out) | exact HB.out)))⟩; clear hw; clear HO_5; clear BK180; clear HB; have HO_5 := n0_; have BK180 := n1_; have HB := n2_; clear n0_ n1_ n2_; have q22 : ((ji7) : Int) ≤ ((l0.length : Int) : Int) := of_decide_eq_true (by first | (with_reducible assumption) | assumption); obtain ⟨i022, hi022, _, hsz22, _⟩ := info_parts info5; have hroom22 : l0.length ≤ c0 := HC0.out; have hC22 : Kd.C (Kd.int .u8) _ A0 l0.length l0 := HR0.out; have q022 : (0 : Int) ≤ ((ji7) : Int) := of_decide_eq_true (by first | (with_reducible assumption) | assumption); have hcut22 := cut_from (P := Tryd.prog) 28 5 .i64 Tryd.underlying28 hi022 1 hsz22 A0 l0.length c0 (ji7) q022 q22; have hr22 := Kd.C_drop (m := ((ji7) : Int).toNat) (c := c0) hC22 (by omega) hroom22; obtain ⟨A22, hA22⟩ : ∃ A1_, A1_ = (if c0 = ((ji7) : Int).toNat then A0 else (A0 : Option Addr).map (·.add (((ji7) : Int).toNat * 1))) := ⟨_, rfl⟩; obtain ⟨c22, hc22⟩ : ∃ c1_, c1_ = c0 - ((ji7) : Int).toNat := ⟨_, rfl⟩; have hy22 : y181.length = l0.length - ((ji7) : Int).toNat := (by rw [Ny181.out, List.length_drop] <;> omega); rw [show (l0).drop ((ji7) : Int).toNat = y181 from Ny181.out.symm] at hr22; replace hr22 : Kd.C (Kd.int .u8) _ A22 y181.length y181 := (by rw [hA22]; exact hr22); rw [← hy22, ← hA22, ← hc22] at hcut22; have HR184 := Aside0.mk hr22; have HC184 := Aside0.mk (show y181.length ≤ c22 from by rw [hy22, hc22]; exact Nat.sub_le_sub_right hroom22 _); clear hr22 hC22 hroom22 hi022 hsz22 hc22; have KY22 := Aside0.mk hy22; have KA22 := Aside0.mk hA22; clear hy22 hA22; replace q22 := eq_true q22) | ((with_reducible refine gate_callee (f := 24) rfl ?_); refine goesL_ (some 28) rfl rfl Tryd.func24 (by kernel_rfl) rfl #[.slice A22 y181.length c22, .int .i64 2] rfl (by (try simp only [List.map_toArray, List.map_cons, List.map_nil]); first | done | rfl | (simp only [List.length_drop, List.length_take]; rfl)) ?_; (with_reducible refine (wire_Get.calls k1 _ _ y181 2 t185 _ ?side1 ?side2 A10.out).mono ?_); (case side1 => repeat (first | exact (Kd.C_below HR184.out HB.out) | (with_reducible refine Kd.C_alloc ?_ _) | (with_reducible refine Kd.C_drewN ?_ _) | (with_reducible refine Kd.C_drew ?_))); (case side2 => exact HC184.out); rintro e w' ⟨rfl, ⟨nd, rfl⟩⟩; refine ⟨_, rfl, ?_⟩))
                    (try simp only [Act.put, List.setIfInBounds_toArray, List.set_cons_zero, List.set_cons_succ])
                    go_cut [39] (fun v39 wc => ∃ (kq : Nat) (x39_16 : Bool), v39 = .bool x39_16 ∧ Aside0 (tags_Get.j1 kq l0 x5_1 (wrap64 (x6_1 + 4)) (wrap64 (t185)) x39_16 (IntKind.u16.wrap (t179)) = some (r1, r2, r3)) ∧ Aside0 (kq ≤ k1) ∧ Aside0 (Kd.S k50 50 wc w.heap.size (fun k_ => k_ ≠ gb180) u5 x5_1) ∧ Aside0 (wc.heap[gb180]? = some (.cells #[.int .u16 (IntKind.u16.wrap (t179)), (.slice none 0 0)] 50 (0, 0))) ∧ Aside0 (Below w.heap.size w wc))
                    case first =>
                      have H := HC17.out
                      clear HC17
                      by_cases c23 : (IntKind.u16.wrap (t179)) = 0
                      · rw [if_pos c23] at H
                        have c23b0 : ((IntKind.u16.wrap (t179)) == 0) = true := beq_iff_eq.mpr c23
                        have c23b1 : ((IntKind.u16.wrap (t179)) != 0) = false := bne_eq_false_iff_eq.mpr c23
                        clear c23
                        (first | rw [c23b0] | (simp only [i64_w, i32_w]; rw [c23b0]) | skip)
                        have H' := Aside0.mk H
                        clear H
                        have hcz24_0 : w21.cell? ⟨gb180, 0, none⟩ = some (.int .u16 (IntKind.u16.wrap (t179))) := (blk_cell BK180.out 0).trans rfl
                        have hcz24_1 : w21.cell? ⟨gb180, 1, none⟩ = some (.slice none 0 0) := (blk_cell BK180.out 1).trans rfl
                        have hfz24_0 := blk_frozen BK180.out 0
                        have hfz24_1 := blk_frozen BK180.out 1
                        go_wp2
                        go_meet
                        case rel => exact ⟨_, (decide ((wrap64 (t185)) > 0)), (by first | rfl | (simp; done) | (simp [*]; done)), (by first | exact H' | (simp only [hji7]; exact H')), ⟨by have := HK1.out; first | omega | exact Nat.le_refl _⟩, ⟨by (with_reducible repeat (first | apply Kd.S_alloc | apply Kd.S_drewN | apply Kd.S_drew)); exact HO_5.out⟩, ⟨by (with_reducible repeat (first | refine blk_drewN ?_ _ | refine blk_drew ?_ | refine blk_alloc ?_ _)); exact BK180.out⟩, ⟨by repeat (first | (with_reducible first | exact HB.out | apply below_alloc | apply pw_below_drewN | apply below_drew1 | refine below_set ?_ GE180.out) | exact HB.out)⟩⟩
                      · rw [if_neg c23] at H
                        have c23b0 : ((IntKind.u16.wrap (t179)) == 0) = false := beq_eq_false_iff_ne.mpr c23
                        have c23b1 : ((IntKind.u16.wrap (t179)) != 0) = true := bne_iff_ne.mpr c23
                        (first | rw [c23b0] | (simp only [i64_w, i32_w]; rw [c23b0]) | skip)
                        have H' := Aside0.mk H
                        clear H
                        have hcz25_0 : w21.cell? ⟨gb180, 0, none⟩ = some (.int .u16 (IntKind.u16.wrap (t179))) := (blk_cell BK180.out 0).trans rfl
                        have hcz25_1 : w21.cell? ⟨gb180, 1, none⟩ = some (.slice none 0 0) := (blk_cell BK180.out 1).trans rfl
                        have hfz25_0 := blk_frozen BK180.out 0
                        have hfz25_1 := blk_frozen BK180.out 1
                        go_wp2
                        go_meet
                        case rel => exact ⟨_, (false), (by first | rfl | (simp; done) | (simp [*]; done)), (by first | exact H' | (simp only [hji7]; exact H')), ⟨by have := HK1.out; first | omega | exact Nat.le_refl _⟩, ⟨by (with_reducible repeat (first | apply Kd.S_alloc | apply Kd.S_drewN | apply Kd.S_drew)); exact HO_5.out⟩, ⟨by (with_reducible repeat (first | refine blk_drewN ?_ _ | refine blk_drew ?_ | refine blk_alloc ?_ _)); exact BK180.out⟩, ⟨by repeat (first | (with_reducible first | exact HB.out | apply below_alloc | apply pw_below_drewN | apply below_drew1 | refine below_set ?_ GE180.out) | exact HB.out)⟩⟩
                    case rest =>
                      clear HC17
                      try clear c1
                      try clear q1
                      try clear c2
                      try clear c2b0
                      try clear p2
                      try clear q2
                      try clear c3
                      try clear c3b0
                      try clear c4
                      try clear c4b0
                      try clear c4b1
                      try clear c5
                      try clear c5b0
                      try clear c5b1
                      try clear p6
                      try clear c8
                      try clear c8b0
                      try clear c8b1
                      try clear c9
                      try clear c9b0
                      try clear c9b1
                      try clear c11
                      try clear c11b0
                      try clear c12
                      try clear q12
                      try clear c16
                      try clear q16
                      try clear c18
                      try clear q18
                      try clear c22
                      try clear q22
                      try clear c23
                      try clear c23b0
                      try clear c23b1
                      try clear c24
                      try clear hcz14_0
                      try clear hcz14_1
                      try clear hcz20_0
                      try clear hcz20_1
                      try clear hcz24_0
                      try clear hcz24_1
                      try clear hcz25_0
                      try clear hcz25_1
                      try clear hfz14_0
                      try clear hfz14_1
                      try clear hfz20_0
                      try clear hfz20_1
                      try clear hfz24_0
                      try clear hfz24_1
                      try clear hfz25_0
                      try clear hfz25_1
                      try clear q012
                      try clear q016
                      try clear q018
                      try clear q022
                      try clear q12
                      try clear q16
                      try clear q18
                      try clear q22
                      obtain ⟨kq, x39_16, rfl, HA, HJ16, HO_5, BK180, HB⟩ := hcut
                      cases kq with
                      | zero => exact absurd HA.out (by simp [tags_Get.j1])
                      | succ kj16 =>
                        have H := HA.out
                        clear HA
                        simp only [tags_Get.j1] at H
                        by_cases c26 : x39_16 = true
                        · subst c26
                          have H1 : (some (([] : List (S50)), 0, 4)) = some (r1, r2, r3) := by rw [if_pos rfl] at H; exact H
                          clear H
                          have H := H1
                          clear H1
                          simp only [Option.some.injEq, Prod.mk.injEq] at H
                          obtain ⟨rfl, rfl, rfl⟩ := H
                          go_wp2
                          go_ret3
                          exact ⟨_, by first | rfl | (simp [errW_none, errW_some] <;> rfl) | (simp only [← hji7]; first | rfl | (simp [errW_none, errW_some] <;> rfl)) | (simp [*, errW_none, errW_some] <;> rfl), by first | exact Kd.S_nil _ _ _ _ _ | exact Kd.N_nil _ _ _ _ _ | exact Kd.V_nil _ _ _ _ _ | exact Kd.Q_nil _ _ _ _ _ | exact Kd.R_nil _ _ _ _ _, by repeat (first | (with_reducible first | exact HB.out | apply below_alloc | apply pw_below_drewN | apply below_drew1 | refine below_set ?_ GE180.out) | exact HB.out)⟩
                        · replace c26 := Bool.eq_false_iff.mpr c26
                          subst c26
                          have H1 : (if (IntKind.u16.wrap (t179)) = 0 then (some (x5_1, (wrap64 (x6_1 + 4)), 0)) else (if 0 ≤ (wrap64 (x6_1 + 4)) then (if (wrap64 (x6_1 + 4)) ≤ (wrap64 ((wrap64 (x6_1 + 4)) + (wrap64 (t185)))) then (if (wrap64 ((wrap64 (x6_1 + 4)) + (wrap64 (t185)))) ≤ (l0.length : Int) then ((bytes_Clone.f ((l0.take ((wrap64 ((wrap64 (x6_1 + 4)) + (wrap64 (t185)))) : Int).toNat).drop ((wrap64 (x6_1 + 4)) : Int).toNat)).bind fun t190 => (if x5_1.length < 4398046511104 then (tags_Get.l0 kj16 l0 (x5_1 ++ [(⟨(IntKind.u16.wrap (t179)), t190⟩ : S50)]) (wrap64 ((wrap64 (x6_1 + 4)) + (wrap64 (t185))))) else (none))) else (none)) else (none)) else (none))) = some (r1, r2, r3) := by rw [if_neg (show ¬ (false = true) by decide)] at H; exact H
                          clear H
                          have H := H1
                          clear H1
                          by_cases c27 : (IntKind.u16.wrap (t179)) = 0
                          · rw [if_pos c27] at H
                            have c27b0 : ((IntKind.u16.wrap (t179)) == 0) = true := beq_iff_eq.mpr c27
                            have c27b1 : ((IntKind.u16.wrap (t179)) != 0) = false := bne_eq_false_iff_eq.mpr c27
                            clear c27
                            simp only [Option.some.injEq, Prod.mk.injEq] at H
                            obtain ⟨rfl, rfl, rfl⟩ := H
                            have hcz28_0 : wc.cell? ⟨gb180, 0, none⟩ = some (.int .u16 (IntKind.u16.wrap (t179))) := (blk_cell BK180.out 0).trans rfl
                            have hcz28_1 : wc.cell? ⟨gb180, 1, none⟩ = some (.slice none 0 0) := (blk_cell BK180.out 1).trans rfl
                            have hfz28_0 := blk_frozen BK180.out 0
                            have hfz28_1 := blk_frozen BK180.out 1
                            go_wp2
                            go_ret3
                            exact ⟨_, by first | rfl | (simp [errW_none, errW_some] <;> rfl) | (simp only [← hji7]; first | rfl | (simp [errW_none, errW_some] <;> rfl)) | (simp [*, errW_none, errW_some] <;> rfl), by (with_reducible repeat (first | apply Kd.S_alloc | apply Kd.S_drewN | apply Kd.S_drew)); exact Kd.S_mono HO_5.out (fun _ hk => trivial), by repeat (first | (with_reducible first | exact HB.out | apply below_alloc | apply pw_below_drewN | apply below_drew1 | refine below_set ?_ GE180.out) | exact HB.out)⟩
                          · rw [if_neg c27] at H
                            have c27b0 : ((IntKind.u16.wrap (t179)) == 0) = false := beq_eq_false_iff_ne.mpr c27
                            have c27b1 : ((IntKind.u16.wrap (t179)) != 0) = true := bne_iff_ne.mpr c27
                            obtain ⟨ji29, hji29⟩ : ∃ j_ : Int, (wrap64 (x6_1 + 4)) = j_ := ⟨_, rfl⟩
                            replace H : (if 0 ≤ (ji29) then (if (ji29) ≤ (wrap64 ((ji29) + (wrap64 (t185)))) then (if (wrap64 ((ji29) + (wrap64 (t185)))) ≤ (l0.length : Int) then ((bytes_Clone.f ((l0.take ((wrap64 ((ji29) + (wrap64 (t185)))) : Int).toNat).drop ((ji29) : Int).toNat)).bind fun t190 => (if x5_1.length < 4398046511104 then (tags_Get.l0 kj16 l0 (x5_1 ++ [(⟨(IntKind.u16.wrap (t179)), t190⟩ : S50)]) (wrap64 ((ji29) + (wrap64 (t185))))) else (none))) else (none)) else (none)) else (none)) = some (r1, r2, r3) := by first | (rw [hji29] at H; exact H) | (simp only [hji29] at H ⊢; exact H)
                            (try rw [hji29] at c11b0)
                            have hji29w : (IntKind.i64.wrap (x6_1 + 4)) = ji29 := (i64_w _).trans hji29
                            by_cases c30 : 0 ≤ (ji29)
                            · rw [if_pos c30] at H
                              have c30b0 := eq_true c30
                              have c30b1 : decide (0 ≤ (ji29)) = true := decide_eq_true c30
                              clear c30
                              by_cases c31 : (ji29) ≤ (wrap64 ((ji29) + (wrap64 (t185))))
                              · rw [if_pos c31] at H
                                have c31b0 := eq_true c31
                                have c31b1 : decide ((ji29) ≤ (wrap64 ((ji29) + (wrap64 (t185))))) = true := decide_eq_true c31
                                by_cases c32 : (wrap64 ((ji29) + (wrap64 (t185)))) ≤ (l0.length : Int)
                                · rw [if_pos c32] at H
                                  have c32b0 := eq_true c32
                                  have c32b1 : decide ((wrap64 ((ji29) + (wrap64 (t185)))) ≤ (l0.length : Int)) = true := decide_eq_true c32
                                  obtain ⟨y186, hy186⟩ : ∃ y_ : List Int, y_ = ((l0.take ((wrap64 ((ji29) + (wrap64 (t185)))) : Int).toNat).drop ((ji29) : Int).toNat) := ⟨_, rfl⟩
                                  replace H : ((bytes_Clone.f y186).bind fun t190 => (if x5_1.length < 4398046511104 then (tags_Get.l0 kj16 l0 (x5_1 ++ [(⟨(IntKind.u16.wrap (t179)), t190⟩ : S50)]) (wrap64 ((ji29) + (wrap64 (t185))))) else (none))) = some (r1, r2, r3) := by first | (rw [hy186]; with_reducible exact H) | (have H2_ := (Option.bind_some _ _).symm.trans H; rw [hy186]; with_reducible exact H2_) | (have H2_ := (Option.bind_some _ _).symm.trans H; with_reducible exact H2_) | with_reducible exact H | (rw [hy186]; exact H) | exact H
                                  have Ny186 := Aside0.mk hy186
                                  clear hy186
                                  replace H := Option.bind_eq_some_iff.mp H
                                  obtain ⟨t190, A330, H⟩ := H
                                  replace H : (if x5_1.length < 4398046511104 then (tags_Get.l0 kj16 l0 (x5_1 ++ [(⟨(IntKind.u16.wrap (t179)), t190⟩ : S50)]) (wrap64 ((ji29) + (wrap64 (t185))))) else (none)) = some (r1, r2, r3) := H
                                  have A33 := Aside0.mk A330
                                  clear A330
                                  by_cases c34 : x5_1.length < 4398046511104
                                  · rw [if_pos c34] at H
                                    have LMc34 := Aside0.mk c34
                                    clear c34
                                    obtain ⟨y193, hy193⟩ : ∃ y_ : List (S50), y_ = (x5_1 ++ [(⟨(IntKind.u16.wrap (t179)), t190⟩ : S50)]) := ⟨_, rfl⟩
                                    replace H : (tags_Get.l0 kj16 l0 y193 (wrap64 ((ji29) + (wrap64 (t185))))) = some (r1, r2, r3) := by first | (rw [hy193]; with_reducible exact H) | (have H2_ := (Option.bind_some _ _).symm.trans H; rw [hy193]; with_reducible exact H2_) | (have H2_ := (Option.bind_some _ _).symm.trans H; with_reducible exact H2_) | with_reducible exact H | (rw [hy193]; exact H) | exact H
                                    have Ny193 := Aside0.mk hy193
                                    clear hy193
                                    have H' := Aside0.mk H
                                    clear H
                                    have hcz35_0 : wc.cell? ⟨gb180, 0, none⟩ = some (.int .u16 (IntKind.u16.wrap (t179))) := (blk_cell BK180.out 0).trans rfl
                                    have hcz35_1 : wc.cell? ⟨gb180, 1, none⟩ = some (.slice none 0 0) := (blk_cell BK180.out 1).trans rfl
                                    have hfz35_0 := blk_frozen BK180.out 0
                                    have hfz35_1 := blk_frozen BK180.out 1
                                    have q36 : ((wrap64 ((ji29) + (wrap64 (t185)))) : Int) ≤ ((l0.length : Int) : Int) := of_decide_eq_true (by first | (with_reducible assumption) | assumption)
                                    obtain ⟨i036, hi036, _, hsz36, _⟩ := info_parts info5
                                    have hroom36 : l0.length ≤ c0 := HC0.out
                                    have hC36 : Kd.C (Kd.int .u8) _ A0 l0.length l0 := HR0.out
                                    have ql36 : ((ji29) : Int) ≤ ((wrap64 ((ji29) + (wrap64 (t185)))) : Int) := of_decide_eq_true (by first | (with_reducible assumption) | assumption)
                                    have q036 : (0 : Int) ≤ ((ji29) : Int) := of_decide_eq_true (by first | (with_reducible assumption) | assumption)
                                    have hcut36 := cut_mid (P := Tryd.prog) 28 5 .i64 .i64 Tryd.underlying28 hi036 1 hsz36 A0 l0.length c0 (ji29) (wrap64 ((ji29) + (wrap64 (t185)))) q036 ql36 q36 hroom36
                                    have hr36 := Kd.C_mid (lo := ((ji29) : Int).toNat) (hi := ((wrap64 ((ji29) + (wrap64 (t185)))) : Int).toNat) (c := c0) hC36 (by omega) (by omega) hroom36
                                    obtain ⟨A36, hA36⟩ : ∃ A1_, A1_ = (if c0 = ((ji29) : Int).toNat then A0 else (A0 : Option Addr).map (·.add (((ji29) : Int).toNat * 1))) := ⟨_, rfl⟩
                                    obtain ⟨c36, hc36⟩ : ∃ c1_, c1_ = c0 - ((ji29) : Int).toNat := ⟨_, rfl⟩
                                    have hy36 : y186.length = ((wrap64 ((ji29) + (wrap64 (t185)))) : Int).toNat - ((ji29) : Int).toNat := (by rw [Ny186.out, List.length_drop, List.length_take] <;> omega)
                                    rw [show ((l0).take ((wrap64 ((ji29) + (wrap64 (t185)))) : Int).toNat).drop ((ji29) : Int).toNat = y186 from Ny186.out.symm] at hr36
                                    replace hr36 : Kd.C (Kd.int .u8) _ A36 y186.length y186 := (by rw [hA36]; exact hr36)
                                    rw [← hy36, ← hA36, ← hc36] at hcut36
                                    have HR189 := Aside0.mk hr36
                                    have HC189 := Aside0.mk (show y186.length ≤ c36 from by rw [hy36, hc36]; exact Nat.sub_le_sub_right (Nat.le_trans (by omega) hroom36) _)
                                    clear hr36 hC36 hroom36 hi036 hsz36 hc36
                                    have KY36 := Aside0.mk hy36
                                    have KA36 := Aside0.mk hA36
                                    clear hy36 hA36
                                    replace q36 := eq_true q36
                                    go_wp2_with (first | ((with_reducible refine gate_callee (f := 22) rfl ?_); refine goesL_ (some 59) rfl rfl Tryd.func22 (by kernel_rfl) rfl #[.slice A36 y186.length c36] rfl (by (try simp only [List.map_toArray, List.map_cons, List.map_nil]); first | done | rfl | (simp only [List.length_drop, List.length_take]; rfl)) ?_; (with_reducible refine (bytes_Clone.calls _ _ y186 t190 _ ?side1 ?side2 A33.out).mono ?_); (case side1 => repeat (first | exact (Kd.C_below HR189.out HB.out) | (with_reducible refine Kd.C_alloc ?_ _) | (with_reducible refine Kd.C_drewN ?_ _) | (with_reducible refine Kd.C_drew ?_))); (case side2 => exact HC189.out); rintro e w37 ⟨v191, rfl, ho0, hb⟩; refine ⟨_, rfl, ?_⟩; have n0_ := Aside0.mk (Kd.S_elder' (by (with_reducible repeat (first | apply Kd.S_alloc | apply Kd.S_drewN | apply Kd.S_drew)); exact HO_5.out) (Kd.R_base ho0) hb); have n1_ := Aside0.mk (Kd.R_lower ho0 (below_size (by repeat (first | (with_reducible first | exact HB.out | apply below_alloc | apply pw_below_drewN | apply below_drew1 | refine below_set ?_ GE180.out) | exact HB.out)))); have n2_ := Aside0.mk (blk_below (g := gb180) (o := .cells #[.int .u16 (IntKind.u16.wrap (t179)), .slice none 0 0] 50 (0, 0)) (by (with_reducible repeat (first | refine blk_drewN ?_ _ | refine blk_drew ?_ | refine blk_alloc ?_ _)); exact BK180.out) hb); have n3_ := Aside0.mk (below_step (by repeat (first | (with_reducible first | exact HB.out | apply below_alloc | apply pw_below_drewN | apply below_drew1 | refine below_set ?_ GE180.out) | exact HB.out)) hb); clear HO_5; clear BK180; clear HB; have HO_5 := n0_; have HO192 := n1_; have BK180 := n2_; have HB := n3_; clear n0_ n1_ n2_ n3_; (try clear hb); (try clear hb2); (try clear hk); (try clear hi); (try clear ho0); obtain ⟨Ao38, co38, eo38⟩ := Kd.R_slice HO192.out; subst eo38; have hcz39_0 : w37.cell? ⟨gb180, 0, none⟩ = some (.int .u16 (IntKind.u16.wrap (t179))) := (blk_cell BK180.out 0).trans rfl; have hcz39_1 : w37.cell? ⟨gb180, 1, none⟩ = some (.slice none 0 0) := (blk_cell BK180.out 1).trans rfl; have hfz39_0 := blk_frozen BK180.out 0; have hfz39_1 := blk_frozen BK180.out 1) | ((with_reducible refine gate_store (t := 28) (p := 60) rfl ?_); refine store_event (t := 28) (p := 60) (v := ?vo_w40) (w1 := (w37.setCell ⟨gb180, 1, none⟩ (.slice Ao38 t190.length co38))) ?hg ?ho ?hn ?hr ?_; (case ho => rfl); (case hg => rfl); (case hn => rfl); (case hr => first | (go_simp; done) | (go_simp; simp only [IntKind.wrap_u8, IntKind.wrap_u16, IntKind.wrap_u32, IntKind.wrap_u64]; done) | (go_simp; simp only [IntKind.wrap_u8, IntKind.wrap_u16, IntKind.wrap_u32, IntKind.wrap_u64, Int.tmod_eq_emod_of_nonneg (Int.natCast_nonneg _), Int.emod_emod]; done) | (go_simp; rfl)); intro w40 hw; have n0_ : Aside0 (Kd.S k50 50 w40 w.heap.size (fun k_ => some k_ ≠ (.slice Ao38 t190.length co38 : Value).ownBlock ∧ k_ ≠ gb180) u5 x5_1) := ⟨(by rw [hw]; exact (by (with_reducible repeat (first | apply Kd.S_alloc | apply Kd.S_drewN | apply Kd.S_drew)); exact Kd.S_mono (Kd.S_far (p := ⟨gb180, 1, none⟩) (Kd.S_mono HO_5.out (fun k_ hk => (⟨hk, hk.1⟩ : _ ∧ k_ ≠ gb180))) (fun _ hk => hk.2) (.slice Ao38 t190.length co38)) (fun _ hk => ⟨hk.1.2, hk.1.1⟩)))⟩; have n1_ : Aside0 (Kd.R (Kd.int .u8) 5 w40 w.heap.size (fun _ => True) (.slice Ao38 t190.length co38) t190) := ⟨(by rw [hw]; exact (by (with_reducible repeat (first | apply Kd.R_alloc | apply Kd.R_drewN | apply Kd.R_drew)); exact Kd.R_mono (Kd.R_far (p := ⟨gb180, 1, none⟩) (Kd.R_types HO192.out BK180.out (by decide)) (fun _ hk => hk.2) (.slice Ao38 t190.length co38)) (fun _ hk => trivial)))⟩; have n2_ : Aside0 (w40.heap[gb180]? = some (.cells #[.int .u16 (IntKind.u16.wrap (t179)), .slice Ao38 t190.length co38] 50 (0, 0))) := ⟨(by rw [hw]; exact (by (with_reducible repeat (first | refine blk_drewN ?_ _ | refine blk_drew ?_ | refine blk_alloc ?_ _)); refine blk_put (cs := #[.int .u16 (IntKind.u16.wrap (t179)), .slice none 0 0]) ?_ 1 _ rfl; (with_reducible repeat (first | refine blk_drewN ?_ _ | refine blk_drew ?_ | refine blk_alloc ?_ _)); exact BK180.out))⟩; have n3_ : Aside0 (Below w.heap.size w w40) := ⟨(by rw [hw]; exact (by repeat (first | (with_reducible first | exact HB.out | apply below_alloc | apply pw_below_drewN | apply below_drew1 | refine below_set ?_ GE180.out) | exact HB.out)))⟩; clear hw; clear HO_5; clear HO192; clear BK180; clear HB; have HO_5 := n0_; have HO192 := n1_; have BK180 := n2_; have HB := n3_; clear n0_ n1_ n2_ n3_; have hcz41_0 : w40.cell? ⟨gb180, 0, none⟩ = some (.int .u16 (IntKind.u16.wrap (t179))) := (blk_cell BK180.out 0).trans rfl; have hcz41_1 : w40.cell? ⟨gb180, 1, none⟩ = some (.slice Ao38 t190.length co38) := (blk_cell BK180.out 1).trans rfl; have hfz41_0 := blk_frozen BK180.out 0; have hfz41_1 := blk_frozen BK180.out 1) | ((with_reducible refine gate_builtin (b := .append) (xs := #[.tmp 64, .tmp 66]) rfl ?_); at_builtin; refine Kd.S_append k50 (w0 := w) w.heap.size rfl (.tmp 64) (.tmp 66) 26 50 (.agg #[(.int .u16 0), (.slice none 0 0)]) 32 rfl Tryd.underlying26 info50 rfl (by decide) (by omega) u5 x5_1 (⟨(IntKind.u16.wrap (t179)), t190⟩ : S50) [.int .u16 (IntKind.u16.wrap (t179)), .slice Ao38 t190.length co38] (fun k_ => k_ ≠ gb180) (fun k_ => some k_ = (.slice Ao38 t190.length co38 : Value).ownBlock) rfl rfl ?aP (fun k_ hk_ => ((Kd.R_mono (ok' := fun k_ => ((fun k_ => k_ ≠ gb180)) k_ ∧ some k_ ≠ (u5 : Value).ownBlock) (Kd.R_types (Kd.R_apart' (HO192.out) (Kd.S_typed HO_5.out) (by decide)) BK180.out (by decide)) (fun k_ hk => ⟨hk.2, hk.1.2⟩))).1 k_ hk_.symm) ?aF ?aO ?aB ?aS ?aL ?_; (case aP => exact k50_mkM _ _ _ (⟨(IntKind.u16.wrap (t179)), t190⟩ : S50) (Kd.R_mono (Kd.R_tight rfl (Kd.R_mono (ok' := fun k_ => ((fun k_ => k_ ≠ gb180)) k_ ∧ some k_ ≠ (u5 : Value).ownBlock) (Kd.R_types (Kd.R_apart' (HO192.out) (Kd.S_typed HO_5.out) (by decide)) BK180.out (by decide)) (fun k_ hk => ⟨hk.2, hk.1.2⟩))) (fun _ h_ => h_))); (case aB => exact (by repeat (first | (with_reducible first | exact HB.out | apply below_alloc | apply pw_below_drewN | apply below_drew1 | refine below_set ?_ GE180.out) | exact HB.out))); (case aF => exact (fun k_ hk => Kd.freshB (g := gb180) (o := .cells #[.int .u16 (IntKind.u16.wrap (t179)), .slice Ao38 t190.length co38] 50 (0, 0)) (by (with_reducible repeat (first | refine blk_drewN ?_ _ | refine blk_drew ?_ | refine blk_alloc ?_ _)); exact BK180.out) k_ hk)); (case aO => exact (by (with_reducible repeat (first | apply Kd.S_alloc | apply Kd.S_drewN | apply Kd.S_drew)); exact Kd.S_mono HO_5.out (fun k_ hk => ⟨hk.2, fun e_ => hk.1 e_⟩))); (case aS => exact (below_size (by repeat (first | (with_reducible first | exact HB.out | apply below_alloc | apply pw_below_drewN | apply below_drew1 | refine below_set ?_ GE180.out) | exact HB.out)))); (case aL => have := LMc34.out; omega); intro v194 w42 ho hb hg hat; rw [← Ny193.out] at ho; have n0_ := Aside0.mk (blk_grown (g := gb180) (o := .cells #[.int .u16 (IntKind.u16.wrap (t179)), .slice Ao38 t190.length co38] 50 (0, 0)) (by (with_reducible repeat (first | refine blk_drewN ?_ _ | refine blk_drew ?_ | refine blk_alloc ?_ _)); exact BK180.out) hg (Kd.S_away HO_5.out (fun _ hk => hk.2))); have n1_ := Aside0.mk (hb); have n2_ := Aside0.mk (ho); clear BK180; clear HB; clear HO_5; clear HO192; have BK180 := n0_; have HB := n1_; have HO195 := n2_; clear n0_ n1_ n2_; clear ho hb hg hat))
                                    go_roundg kj16
                                    case measure => have := HK1.out; have := HJ16.out; omega
                                    case rel => exact ⟨(y193), (wrap64 ((ji29) + (wrap64 (t185)))), (by first | rfl | (simp; done) | (simp only [← hji29] <;> (first | rfl | simp)) | (simp [*]; done)), (by first | exact H' | (simp only [hji7, hji29]; exact H')), ⟨by have := HK1.out; have := HJ16.out; omega⟩, ⟨by (with_reducible repeat (first | apply Kd.S_alloc | apply Kd.S_drewN | apply Kd.S_drew)); exact Kd.S_mono HO195.out (fun _ hk => trivial)⟩, ⟨by repeat (first | (with_reducible first | exact HB.out | apply below_alloc | apply pw_below_drewN | apply below_drew1 | refine below_set ?_ GE180.out) | exact HB.out)⟩⟩
                                  · rw [if_neg c34] at H
                                    exact absurd H (by simp)
                                · rw [if_neg c32] at H
                                  exact absurd H (by simp)
                              · rw [if_neg c31] at H
                                exact absurd H (by simp)
                            · rw [if_neg c30] at H
                              exact absurd H (by simp)
                · rw [if_neg c9] at H
                  exact absurd H (by simp)
              · rw [if_neg c8] at H
                exact absurd H (by simp)
            · rw [if_neg c5] at H
              exact absurd H (by simp)
          · rw [if_neg c4] at H
            exact absurd H (by simp)
      · rw [if_neg c2] at H
        have c2b0 : decide (x6_1 < (l0.length : Int)) = false := decide_eq_false c2
        clear c2
        simp only [Option.some.injEq, Prod.mk.injEq] at H
        obtain ⟨rfl, rfl, rfl⟩ := H
        go_wp2
        go_ret3
        exact ⟨_, by first | rfl | (simp [errW_none, errW_some] <;> rfl) | (simp [*, errW_none, errW_some] <;> rfl), by (with_reducible repeat (first | apply Kd.S_alloc | apply Kd.S_drewN | apply Kd.S_drew)); exact HO_5.out, by repeat (first | (with_reducible first | exact HB.out | apply below_alloc | apply pw_below_drewN | apply below_drew1) | exact HB.out)⟩

end Go.Proofs.YthkgaciibfjejaaDoor.Print
