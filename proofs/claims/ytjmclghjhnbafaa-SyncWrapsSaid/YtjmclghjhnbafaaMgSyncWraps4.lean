/- Texts of this claim, several in one: what Go functions come to, and plain words on it; each says itself what it proves. -/
import Derived.Test.YtjmclghjhnbafaaMgSyncWraps1
import Derived.Test.YtjmclghjhnbafaaMgSyncWraps2
import Derived.Test.YtjmclghjhnbafaaMgSyncWraps3
/- A text that a program of this claim (wip/x) laid out of the translation: what Go functions come to, and that they come to it. Lean checks it. -/
namespace Go.Proofs.Ytjmclghjhnbafaa.Print
open Go.RowKit Go.Proofs.YtjmclghjhnbafaaW.PrintWords Go.Proofs.YtjmclghjhnbafaaW.PrintLast Go.Proofs.YtjmclghjhnbafaaW.PrintMore
attribute [local go_sem] max2_int min2_int max_two min_two max_three min_three max_four min_four   -- for this text's walks alone
set_option linter.unusedVariables false
set_option linter.unusedSimpArgs false

/-! ### marlinelaw07_SyncWraps: function 8 -/
mutual
def marlinelaw07_SyncWraps.j0 : Nat → Int → List Int → List Int → List Int → Bool → Option (Bool)
  | 0, _, _, _, _, _ => none
  | k + 1, x0, x1, x2, x3, x38 => if x38 = true then ((marlinelaw07_speaks.f k).bind fun t280 => (some t280)) else ((some (([] : List Int) : List Int)).bind fun y282 => (if y282.length + x1.length < 140737488355328 then ((some (y282 ++ x1 : List Int)).bind fun y285 => ((zero_Flag.f k).bind fun t288 => (if y285.length + t288.length < 140737488355328 then ((marlineref07_All.f k x0 (y285 ++ t288)).bind fun t294 => ((sync_Deframer_Feed.f x0 ([] : List Int) 0 false false 0 false false x1).bind fun bt297 => ((sync_Wrap.f k x2).bind fun t309 => ((sync_Deframer_Feed.f x0 bt297.2.1 bt297.2.2.1 bt297.2.2.2.1 bt297.2.2.2.2.1 bt297.2.2.2.2.2.1 bt297.2.2.2.2.2.2.1 bt297.2.2.2.2.2.2.2 t309).bind fun bt312 => (if bt297.1.length + bt312.1.length < 4398046511104 then ((some (bt297.1 ++ bt312.1 : List (S54))).bind fun y324 => (if (y324.length : Int) < (t294.length : Int) then (marlinelaw07_SyncWraps.j1 k x0 x2 x3 y324 (t294.length : Int) true x0 bt312.2.1 bt312.2.2.1 bt312.2.2.2.1 bt312.2.2.2.2.1 bt312.2.2.2.2.2.1 bt312.2.2.2.2.2.2.1 bt312.2.2.2.2.2.2.2) else (if 0 ≤ (t294.length : Int) then (if (t294.length : Int) ≤ (y324.length : Int) then ((marlinelaw07_Same.f k (y324.take ((t294.length : Int) : Int).toNat) t294).bind fun t332 => (marlinelaw07_SyncWraps.j1 k x0 x2 x3 y324 (t294.length : Int) (!t332) x0 bt312.2.1 bt312.2.2.1 bt312.2.2.2.1 bt312.2.2.2.2.1 bt312.2.2.2.2.2.1 bt312.2.2.2.2.2.2.1 bt312.2.2.2.2.2.2.2)) else (none)) else (none)))) else (none)))))) else (none)))) else (none)))
def marlinelaw07_SyncWraps.j1 : Nat → Int → List Int → List Int → List (S54) → Int → Bool → Int → List Int → Int → Bool → Bool → Int → Bool → Bool → Option (Bool)
  | 0, _, _, _, _, _, _, _, _, _, _, _, _, _, _ => none
  | k + 1, x0, x2, x3, x11, x12, x73, x282000, x282001, x282002, x282003, x282004, x282005, x282006, x282007 => if x73 = true then (none) else (if (x2.length : Int) = 0 then (some ((x11.length : Int) == x12)) else (if (x11.length : Int) = (wrap64 (x12 + 1)) then (if 0 ≤ x12 then (if x12 < (x11.length : Int) then (if (x2.length : Int) > x0 then (if ((rd_T54 x11 x12).f0) = 4 then (some ((((rd_T54 x11 x12).f1).length : Int) == 0)) else (none)) else ((sync_Deframer_Feed.f x282000 x282001 x282002 x282003 x282004 x282005 x282006 x282007 x3).bind fun bt335 => (if ((rd_T54 x11 x12).f0) = 0 then ((marlineref01_Equal.f k ((rd_T54 x11 x12).f1) x2).bind fun t347 => (some t347)) else (none)))) else (none)) else (none)) else (none)))
end
def marlinelaw07_SyncWraps.f (k : Nat) (a0 : Int) (l1 : List Int) (l2 : List Int) (l3 : List Int) : Option (Bool) := (marlinelaw07_speaks.f k).bind fun t279 => (if t279 = true then (if a0 < 1 then (marlinelaw07_SyncWraps.j0 k a0 l1 l2 l3 true) else (if a0 > 1048576 then (marlinelaw07_SyncWraps.j0 k a0 l1 l2 l3 true) else (if (l1.length : Int) > 300 then (marlinelaw07_SyncWraps.j0 k a0 l1 l2 l3 true) else (if (l2.length : Int) > 60 then (marlinelaw07_SyncWraps.j0 k a0 l1 l2 l3 true) else (marlinelaw07_SyncWraps.j0 k a0 l1 l2 l3 (decide ((l3.length : Int) > 300))))))) else (marlinelaw07_SyncWraps.j0 k a0 l1 l2 l3 true))
theorem marlinelaw07_SyncWraps.mono_l : ∀ k, (∀ y0 y1 y2 y3 y4, LeO (marlinelaw07_SyncWraps.j0 k y0 y1 y2 y3 y4) (marlinelaw07_SyncWraps.j0 (k + 1) y0 y1 y2 y3 y4)) ∧ (∀ y0 y1 y2 y3 y4 y5 y6 y7 y8 y9 y10 y11 y12 y13, LeO (marlinelaw07_SyncWraps.j1 k y0 y1 y2 y3 y4 y5 y6 y7 y8 y9 y10 y11 y12 y13) (marlinelaw07_SyncWraps.j1 (k + 1) y0 y1 y2 y3 y4 y5 y6 y7 y8 y9 y10 y11 y12 y13))
  | 0 => ⟨fun _ _ _ _ _ r h => by simp [marlinelaw07_SyncWraps.j0] at h, fun _ _ _ _ _ _ _ _ _ _ _ _ _ _ r h => by simp [marlinelaw07_SyncWraps.j1] at h⟩
  | k + 1 => by
    obtain ⟨ih0, ih1⟩ := marlinelaw07_SyncWraps.mono_l k
    refine ⟨?_, ?_⟩
    · intro y0 y1 y2 y3 y4
      unfold marlinelaw07_SyncWraps.j0
      repeat' first
      | (with_reducible exact ih0 _ _ _ _ _)
      | (with_reducible exact ih1 _ _ _ _ _ _ _ _ _ _ _ _ _ _)
      | (with_reducible exact marlinelaw07_Same.mono _ _ _)
      | (with_reducible exact marlinelaw07_speaks.mono _)
      | (with_reducible exact marlineref01_Equal.mono _ _ _)
      | (with_reducible exact marlineref07_All.mono _ _ _)
      | (with_reducible exact sync_Wrap.mono _ _)
      | (with_reducible exact zero_Flag.mono _)
      | (with_reducible exact LeO.refl _)
      | (with_reducible exact LeO.none _)
      | (with_reducible refine LeO.ite ?_ ?_)
      | (with_reducible refine LeO.bind ?_ (fun _ => ?_))
      | exact ih0 _ _ _ _ _
      | exact ih1 _ _ _ _ _ _ _ _ _ _ _ _ _ _
      | exact marlinelaw07_Same.mono _ _ _
      | exact marlinelaw07_speaks.mono _
      | exact marlineref01_Equal.mono _ _ _
      | exact marlineref07_All.mono _ _ _
      | exact sync_Wrap.mono _ _
      | exact zero_Flag.mono _
      | exact LeO.none _
      | refine LeO.ite ?_ ?_
      | refine LeO.bind ?_ (fun _ => ?_)
    · intro y0 y1 y2 y3 y4 y5 y6 y7 y8 y9 y10 y11 y12 y13
      unfold marlinelaw07_SyncWraps.j1
      repeat' first
      | (with_reducible exact ih0 _ _ _ _ _)
      | (with_reducible exact ih1 _ _ _ _ _ _ _ _ _ _ _ _ _ _)
      | (with_reducible exact marlinelaw07_Same.mono _ _ _)
      | (with_reducible exact marlinelaw07_speaks.mono _)
      | (with_reducible exact marlineref01_Equal.mono _ _ _)
      | (with_reducible exact marlineref07_All.mono _ _ _)
      | (with_reducible exact sync_Wrap.mono _ _)
      | (with_reducible exact zero_Flag.mono _)
      | (with_reducible exact LeO.refl _)
      | (with_reducible exact LeO.none _)
      | (with_reducible refine LeO.ite ?_ ?_)
      | (with_reducible refine LeO.bind ?_ (fun _ => ?_))
      | exact ih0 _ _ _ _ _
      | exact ih1 _ _ _ _ _ _ _ _ _ _ _ _ _ _
      | exact marlinelaw07_Same.mono _ _ _
      | exact marlinelaw07_speaks.mono _
      | exact marlineref01_Equal.mono _ _ _
      | exact marlineref07_All.mono _ _ _
      | exact sync_Wrap.mono _ _
      | exact zero_Flag.mono _
      | exact LeO.none _
      | refine LeO.ite ?_ ?_
      | refine LeO.bind ?_ (fun _ => ?_)
theorem marlinelaw07_SyncWraps.mono : ∀ a0 a1 a2 a3 k, LeO (marlinelaw07_SyncWraps.f k a0 a1 a2 a3) (marlinelaw07_SyncWraps.f (k + 1) a0 a1 a2 a3) := by
  intro a0 a1 a2 a3 k
  obtain ⟨ih0, ih1⟩ := marlinelaw07_SyncWraps.mono_l k
  unfold marlinelaw07_SyncWraps.f
  repeat' first
      | (with_reducible exact ih0 _ _ _ _ _)
      | (with_reducible exact ih1 _ _ _ _ _ _ _ _ _ _ _ _ _ _)
      | (with_reducible exact marlinelaw07_Same.mono _ _ _)
      | (with_reducible exact marlinelaw07_speaks.mono _)
      | (with_reducible exact marlineref01_Equal.mono _ _ _)
      | (with_reducible exact marlineref07_All.mono _ _ _)
      | (with_reducible exact sync_Wrap.mono _ _)
      | (with_reducible exact zero_Flag.mono _)
      | (with_reducible exact LeO.refl _)
      | (with_reducible exact LeO.none _)
      | (with_reducible refine LeO.ite ?_ ?_)
      | (with_reducible refine LeO.bind ?_ (fun _ => ?_))
      | exact ih0 _ _ _ _ _
      | exact ih1 _ _ _ _ _ _ _ _ _ _ _ _ _ _
      | exact marlinelaw07_Same.mono _ _ _
      | exact marlinelaw07_speaks.mono _
      | exact marlineref01_Equal.mono _ _ _
      | exact marlineref07_All.mono _ _ _
      | exact sync_Wrap.mono _ _
      | exact zero_Flag.mono _
      | exact LeO.none _
      | refine LeO.ite ?_ ?_
      | refine LeO.bind ?_ (fun _ => ?_)
set_option maxHeartbeats 8000000 in
set_option maxRecDepth 100000 in
theorem marlinelaw07_SyncWraps.calls (k : Nat) (a0 : Int) (A1 : Option Addr) (c1 : Nat) (l1 : List Int) (A2 : Option Addr) (c2 : Nat) (l2 : List Int) (A3 : Option Addr) (c3 : Nat) (l3 : List Int) (r : Bool) (w : World) (hr1 : Kd.C (Kd.int .u8) w A1 l1.length l1) (hc1 : l1.length ≤ c1) (hr2 : Kd.C (Kd.int .u8) w A2 l2.length l2) (hc2 : l2.length ≤ c2) (hr3 : Kd.C (Kd.int .u8) w A3 l3.length l3) (hc3 : l3.length ≤ c3) (h : marlinelaw07_SyncWraps.f k a0 l1 l2 l3 = some r) :
    Calls Try.prog 8 #[.int .i64 a0, .slice A1 l1.length c1, .slice A2 l2.length c2, .slice A3 l3.length c3] w fun e w' => e = .returned (.bool r) ∧ Below w.heap.size w w' := by
  have hu70 := Try.underlying70
  have hu54 := Try.underlying54
  have HR1 := Aside0.mk hr1
  have HC1 := Aside0.mk hc1
  clear hr1 hc1
  have HR2 := Aside0.mk hr2
  have HC2 := Aside0.mk hc2
  clear hr2 hc2
  have HR3 := Aside0.mk hr3
  have HC3 := Aside0.mk hc3
  clear hr3 hc3
  have HB := Aside0.mk (Below.refl w.heap.size w)
  have H : ((marlinelaw07_speaks.f k).bind fun t279 => (if t279 = true then (if a0 < 1 then (marlinelaw07_SyncWraps.j0 k a0 l1 l2 l3 true) else (if a0 > 1048576 then (marlinelaw07_SyncWraps.j0 k a0 l1 l2 l3 true) else (if (l1.length : Int) > 300 then (marlinelaw07_SyncWraps.j0 k a0 l1 l2 l3 true) else (if (l2.length : Int) > 60 then (marlinelaw07_SyncWraps.j0 k a0 l1 l2 l3 true) else (marlinelaw07_SyncWraps.j0 k a0 l1 l2 l3 (decide ((l3.length : Int) > 300))))))) else (marlinelaw07_SyncWraps.j0 k a0 l1 l2 l3 true))) = some r := h
  clear h
  have HC5 := Aside0.mk H
  clear H
  go_enter Try.func8, Try.ntmps8
  go_upto_region 1 with (fail)
  go_cut [38] (fun v38 wc => ∃ (kq : Nat) (x38_4 : Bool), v38 = .bool x38_4 ∧ Aside0 (marlinelaw07_SyncWraps.j0 kq a0 l1 l2 l3 x38_4 = some r) ∧ Aside0 (kq ≤ k) ∧ Aside0 (Below w.heap.size w wc))
  case first =>
    have H := HC5.out
    clear HC5
    replace H := Option.bind_eq_some_iff.mp H
    obtain ⟨t279, A60, H⟩ := H
    replace H : (if t279 = true then (if a0 < 1 then (marlinelaw07_SyncWraps.j0 k a0 l1 l2 l3 true) else (if a0 > 1048576 then (marlinelaw07_SyncWraps.j0 k a0 l1 l2 l3 true) else (if (l1.length : Int) > 300 then (marlinelaw07_SyncWraps.j0 k a0 l1 l2 l3 true) else (if (l2.length : Int) > 60 then (marlinelaw07_SyncWraps.j0 k a0 l1 l2 l3 true) else (marlinelaw07_SyncWraps.j0 k a0 l1 l2 l3 (decide ((l3.length : Int) > 300))))))) else (marlinelaw07_SyncWraps.j0 k a0 l1 l2 l3 true)) = some r := H
    have A6 := Aside0.mk A60
    clear A60
    by_cases c7 : t279 = true
    · subst c7
      have H1 : (if a0 < 1 then (marlinelaw07_SyncWraps.j0 k a0 l1 l2 l3 true) else (if a0 > 1048576 then (marlinelaw07_SyncWraps.j0 k a0 l1 l2 l3 true) else (if (l1.length : Int) > 300 then (marlinelaw07_SyncWraps.j0 k a0 l1 l2 l3 true) else (if (l2.length : Int) > 60 then (marlinelaw07_SyncWraps.j0 k a0 l1 l2 l3 true) else (marlinelaw07_SyncWraps.j0 k a0 l1 l2 l3 (decide ((l3.length : Int) > 300))))))) = some r := by rw [if_pos rfl] at H; exact H
      clear H
      have H := H1
      clear H1
      by_cases c8 : a0 < 1
      · rw [if_pos c8] at H
        have c8b0 : decide (a0 < 1) = true := decide_eq_true c8
        clear c8
        (first | rw [c8b0] | (simp only [i64_w, i32_w]; rw [c8b0]) | skip)
        have H' := Aside0.mk H
        clear H
        go_wp2_with (first | ((with_reducible refine gate_callee (f := 22) rfl ?_); refine goesL_ (some 14) rfl rfl Try.func22 (by kernel_rfl) rfl #[] rfl (by (try simp only [List.map_toArray, List.map_cons, List.map_nil]); first | done | rfl | (simp only [List.length_drop, List.length_take]; rfl)) ?_; (with_reducible refine (marlinelaw07_speaks.calls k  true _ A6.out).mono ?_); rintro e w9 ⟨rfl, hb⟩; refine ⟨_, rfl, ?_⟩; have n0_ := Aside0.mk (below_step (by repeat (first | (with_reducible first | exact HB.out | apply below_alloc | apply pw_below_drewN | apply below_drew1) | exact HB.out)) hb); clear HB; have HB := n0_; clear n0_; (try clear hb); (try clear hb2); (try clear hk); (try clear hi)))
        go_meet
        case rel => exact ⟨_, (true), (by first | rfl | (simp; done) | (simp [*]; done)), H', ⟨by first | omega | exact Nat.le_refl _⟩, ⟨by repeat (first | (with_reducible first | exact HB.out | apply below_alloc | apply pw_below_drewN | apply below_drew1) | exact HB.out)⟩⟩
      · rw [if_neg c8] at H
        have c8b0 : decide (a0 < 1) = false := decide_eq_false c8
        clear c8
        (first | rw [c8b0] | (simp only [i64_w, i32_w]; rw [c8b0]) | skip)
        by_cases c10 : a0 > 1048576
        · rw [if_pos c10] at H
          have c10b0 : decide (1048576 < a0) = true := decide_eq_true c10
          clear c10
          have H' := Aside0.mk H
          clear H
          go_wp2_with (first | ((with_reducible refine gate_callee (f := 22) rfl ?_); refine goesL_ (some 14) rfl rfl Try.func22 (by kernel_rfl) rfl #[] rfl (by (try simp only [List.map_toArray, List.map_cons, List.map_nil]); first | done | rfl | (simp only [List.length_drop, List.length_take]; rfl)) ?_; (with_reducible refine (marlinelaw07_speaks.calls k  true _ A6.out).mono ?_); rintro e w11 ⟨rfl, hb⟩; refine ⟨_, rfl, ?_⟩; have n0_ := Aside0.mk (below_step (by repeat (first | (with_reducible first | exact HB.out | apply below_alloc | apply pw_below_drewN | apply below_drew1) | exact HB.out)) hb); clear HB; have HB := n0_; clear n0_; (try clear hb); (try clear hb2); (try clear hk); (try clear hi)))
          go_meet
          case rel => exact ⟨_, (true), (by first | rfl | (simp; done) | (simp [*]; done)), H', ⟨by first | omega | exact Nat.le_refl _⟩, ⟨by repeat (first | (with_reducible first | exact HB.out | apply below_alloc | apply pw_below_drewN | apply below_drew1) | exact HB.out)⟩⟩
        · rw [if_neg c10] at H
          have c10b0 : decide (1048576 < a0) = false := decide_eq_false c10
          clear c10
          by_cases c12 : (l1.length : Int) > 300
          · rw [if_pos c12] at H
            have c12b0 : decide (300 < (l1.length : Int)) = true := decide_eq_true c12
            have c12b1 : decide (300 < l1.length) = true := decide_eq_true (by omega)
            clear c12
            have H' := Aside0.mk H
            clear H
            go_wp2_with (first | ((with_reducible refine gate_callee (f := 22) rfl ?_); refine goesL_ (some 14) rfl rfl Try.func22 (by kernel_rfl) rfl #[] rfl (by (try simp only [List.map_toArray, List.map_cons, List.map_nil]); first | done | rfl | (simp only [List.length_drop, List.length_take]; rfl)) ?_; (with_reducible refine (marlinelaw07_speaks.calls k  true _ A6.out).mono ?_); rintro e w13 ⟨rfl, hb⟩; refine ⟨_, rfl, ?_⟩; have n0_ := Aside0.mk (below_step (by repeat (first | (with_reducible first | exact HB.out | apply below_alloc | apply pw_below_drewN | apply below_drew1) | exact HB.out)) hb); clear HB; have HB := n0_; clear n0_; (try clear hb); (try clear hb2); (try clear hk); (try clear hi)))
            go_meet
            case rel => exact ⟨_, (true), (by first | rfl | (simp; done) | (simp [*]; done)), H', ⟨by first | omega | exact Nat.le_refl _⟩, ⟨by repeat (first | (with_reducible first | exact HB.out | apply below_alloc | apply pw_below_drewN | apply below_drew1) | exact HB.out)⟩⟩
          · rw [if_neg c12] at H
            have c12b0 : decide (300 < (l1.length : Int)) = false := decide_eq_false c12
            have c12b1 : decide (300 < l1.length) = false := decide_eq_false (by omega)
            clear c12
            by_cases c14 : (l2.length : Int) > 60
            · rw [if_pos c14] at H
              have c14b0 : decide (60 < (l2.length : Int)) = true := decide_eq_true c14
              have c14b1 : decide (60 < l2.length) = true := decide_eq_true (by omega)
              clear c14
              have H' := Aside0.mk H
              clear H
              go_wp2_with (first | ((with_reducible refine gate_callee (f := 22) rfl ?_); refine goesL_ (some 14) rfl rfl Try.func22 (by kernel_rfl) rfl #[] rfl (by (try simp only [List.map_toArray, List.map_cons, List.map_nil]); first | done | rfl | (simp only [List.length_drop, List.length_take]; rfl)) ?_; (with_reducible refine (marlinelaw07_speaks.calls k  true _ A6.out).mono ?_); rintro e w15 ⟨rfl, hb⟩; refine ⟨_, rfl, ?_⟩; have n0_ := Aside0.mk (below_step (by repeat (first | (with_reducible first | exact HB.out | apply below_alloc | apply pw_below_drewN | apply below_drew1) | exact HB.out)) hb); clear HB; have HB := n0_; clear n0_; (try clear hb); (try clear hb2); (try clear hk); (try clear hi)))
              go_meet
              case rel => exact ⟨_, (true), (by first | rfl | (simp; done) | (simp [*]; done)), H', ⟨by first | omega | exact Nat.le_refl _⟩, ⟨by repeat (first | (with_reducible first | exact HB.out | apply below_alloc | apply pw_below_drewN | apply below_drew1) | exact HB.out)⟩⟩
            · rw [if_neg c14] at H
              have c14b0 : decide (60 < (l2.length : Int)) = false := decide_eq_false c14
              have c14b1 : decide (60 < l2.length) = false := decide_eq_false (by omega)
              clear c14
              have H' := Aside0.mk H
              clear H
              go_wp2_with (first | ((with_reducible refine gate_callee (f := 22) rfl ?_); refine goesL_ (some 14) rfl rfl Try.func22 (by kernel_rfl) rfl #[] rfl (by (try simp only [List.map_toArray, List.map_cons, List.map_nil]); first | done | rfl | (simp only [List.length_drop, List.length_take]; rfl)) ?_; (with_reducible refine (marlinelaw07_speaks.calls k  true _ A6.out).mono ?_); rintro e w16 ⟨rfl, hb⟩; refine ⟨_, rfl, ?_⟩; have n0_ := Aside0.mk (below_step (by repeat (first | (with_reducible first | exact HB.out | apply below_alloc | apply pw_below_drewN | apply below_drew1) | exact HB.out)) hb); clear HB; have HB := n0_; clear n0_; (try clear hb); (try clear hb2); (try clear hk); (try clear hi)))
              go_meet
              case rel => exact ⟨_, (decide ((l3.length : Int) > 300)), (by first | rfl | (simp; done) | (simp [*]; done)), H', ⟨by first | omega | exact Nat.le_refl _⟩, ⟨by repeat (first | (with_reducible first | exact HB.out | apply below_alloc | apply pw_below_drewN | apply below_drew1) | exact HB.out)⟩⟩
    · replace c7 := Bool.eq_false_iff.mpr c7
      subst c7
      have H1 : (marlinelaw07_SyncWraps.j0 k a0 l1 l2 l3 true) = some r := by rw [if_neg (show ¬ (false = true) by decide)] at H; exact H
      clear H
      have H := H1
      clear H1
      have H' := Aside0.mk H
      clear H
      go_wp2_with (first | ((with_reducible refine gate_callee (f := 22) rfl ?_); refine goesL_ (some 14) rfl rfl Try.func22 (by kernel_rfl) rfl #[] rfl (by (try simp only [List.map_toArray, List.map_cons, List.map_nil]); first | done | rfl | (simp only [List.length_drop, List.length_take]; rfl)) ?_; (with_reducible refine (marlinelaw07_speaks.calls k  false _ A6.out).mono ?_); rintro e w17 ⟨rfl, hb⟩; refine ⟨_, rfl, ?_⟩; have n0_ := Aside0.mk (below_step (by repeat (first | (with_reducible first | exact HB.out | apply below_alloc | apply pw_below_drewN | apply below_drew1) | exact HB.out)) hb); clear HB; have HB := n0_; clear n0_; (try clear hb); (try clear hb2); (try clear hk); (try clear hi)))
      go_meet
      case rel => exact ⟨_, (true), (by first | rfl | (simp; done) | (simp [*]; done)), H', ⟨by first | omega | exact Nat.le_refl _⟩, ⟨by repeat (first | (with_reducible first | exact HB.out | apply below_alloc | apply pw_below_drewN | apply below_drew1) | exact HB.out)⟩⟩
  case rest =>
    clear HC5
    try clear c1
    try clear c2
    try clear p2
    try clear c3
    try clear c7
    try clear c8
    try clear c8b0
    try clear c10
    try clear c10b0
    try clear c12
    try clear c12b0
    try clear c12b1
    try clear c14
    try clear c14b0
    try clear c14b1
    obtain ⟨kq, x38_4, rfl, HA, HJ4, HB⟩ := hcut
    cases kq with
    | zero => exact absurd HA.out (by simp [marlinelaw07_SyncWraps.j0])
    | succ kj4 =>
      have H := HA.out
      clear HA
      simp only [marlinelaw07_SyncWraps.j0] at H
      by_cases c18 : x38_4 = true
      · subst c18
        have H1 : ((marlinelaw07_speaks.f kj4).bind fun t280 => (some t280)) = some r := by rw [if_pos rfl] at H; exact H
        clear H
        have H := H1
        clear H1
        replace H := Option.bind_eq_some_iff.mp H
        obtain ⟨t280, A190, H⟩ := H
        replace H : (some t280) = some r := H
        have A19 := Aside0.mk A190
        clear A190
        obtain rfl := Option.some.inj H
        go_wp2_with (first | ((with_reducible refine gate_callee (f := 22) rfl ?_); refine goesL_ (some 39) rfl rfl Try.func22 (by kernel_rfl) rfl #[] rfl (by (try simp only [List.map_toArray, List.map_cons, List.map_nil]); first | done | rfl | (simp only [List.length_drop, List.length_take]; rfl)) ?_; (with_reducible refine (marlinelaw07_speaks.calls kj4  t280 _ A19.out).mono ?_); rintro e w20 ⟨rfl, hb⟩; refine ⟨_, rfl, ?_⟩; have n0_ := Aside0.mk (below_step (by repeat (first | (with_reducible first | exact HB.out | apply below_alloc | apply pw_below_drewN | apply below_drew1) | exact HB.out)) hb); clear HB; have HB := n0_; clear n0_; (try clear hb); (try clear hb2); (try clear hk); (try clear hi)))
        go_ret
        exact ⟨by first | rfl | (simp [errW_none, errW_some] <;> rfl) | (simp [*, errW_none, errW_some] <;> rfl), by repeat (first | (with_reducible first | exact HB.out | apply below_alloc | apply pw_below_drewN | apply below_drew1) | exact HB.out)⟩
      · replace c18 := Bool.eq_false_iff.mpr c18
        subst c18
        have H1 : ((some (([] : List Int) : List Int)).bind fun y282 => (if y282.length + l1.length < 140737488355328 then ((some (y282 ++ l1 : List Int)).bind fun y285 => ((zero_Flag.f kj4).bind fun t288 => (if y285.length + t288.length < 140737488355328 then ((marlineref07_All.f kj4 a0 (y285 ++ t288)).bind fun t294 => ((sync_Deframer_Feed.f a0 ([] : List Int) 0 false false 0 false false l1).bind fun bt297 => ((sync_Wrap.f kj4 l2).bind fun t309 => ((sync_Deframer_Feed.f a0 bt297.2.1 bt297.2.2.1 bt297.2.2.2.1 bt297.2.2.2.2.1 bt297.2.2.2.2.2.1 bt297.2.2.2.2.2.2.1 bt297.2.2.2.2.2.2.2 t309).bind fun bt312 => (if bt297.1.length + bt312.1.length < 4398046511104 then ((some (bt297.1 ++ bt312.1 : List (S54))).bind fun y324 => (if (y324.length : Int) < (t294.length : Int) then (marlinelaw07_SyncWraps.j1 kj4 a0 l2 l3 y324 (t294.length : Int) true a0 bt312.2.1 bt312.2.2.1 bt312.2.2.2.1 bt312.2.2.2.2.1 bt312.2.2.2.2.2.1 bt312.2.2.2.2.2.2.1 bt312.2.2.2.2.2.2.2) else (if 0 ≤ (t294.length : Int) then (if (t294.length : Int) ≤ (y324.length : Int) then ((marlinelaw07_Same.f kj4 (y324.take ((t294.length : Int) : Int).toNat) t294).bind fun t332 => (marlinelaw07_SyncWraps.j1 kj4 a0 l2 l3 y324 (t294.length : Int) (!t332) a0 bt312.2.1 bt312.2.2.1 bt312.2.2.2.1 bt312.2.2.2.2.1 bt312.2.2.2.2.2.1 bt312.2.2.2.2.2.2.1 bt312.2.2.2.2.2.2.2)) else (none)) else (none)))) else (none)))))) else (none)))) else (none))) = some r := by rw [if_neg (show ¬ (false = true) by decide)] at H; exact H
        clear H
        have H := H1
        clear H1
        obtain ⟨y282, hy282⟩ : ∃ y_ : List Int, y_ = (([] : List Int)) := ⟨_, rfl⟩
        replace H : (if y282.length + l1.length < 140737488355328 then ((some (y282 ++ l1 : List Int)).bind fun y285 => ((zero_Flag.f kj4).bind fun t288 => (if y285.length + t288.length < 140737488355328 then ((marlineref07_All.f kj4 a0 (y285 ++ t288)).bind fun t294 => ((sync_Deframer_Feed.f a0 ([] : List Int) 0 false false 0 false false l1).bind fun bt297 => ((sync_Wrap.f kj4 l2).bind fun t309 => ((sync_Deframer_Feed.f a0 bt297.2.1 bt297.2.2.1 bt297.2.2.2.1 bt297.2.2.2.2.1 bt297.2.2.2.2.2.1 bt297.2.2.2.2.2.2.1 bt297.2.2.2.2.2.2.2 t309).bind fun bt312 => (if bt297.1.length + bt312.1.length < 4398046511104 then ((some (bt297.1 ++ bt312.1 : List (S54))).bind fun y324 => (if (y324.length : Int) < (t294.length : Int) then (marlinelaw07_SyncWraps.j1 kj4 a0 l2 l3 y324 (t294.length : Int) true a0 bt312.2.1 bt312.2.2.1 bt312.2.2.2.1 bt312.2.2.2.2.1 bt312.2.2.2.2.2.1 bt312.2.2.2.2.2.2.1 bt312.2.2.2.2.2.2.2) else (if 0 ≤ (t294.length : Int) then (if (t294.length : Int) ≤ (y324.length : Int) then ((marlinelaw07_Same.f kj4 (y324.take ((t294.length : Int) : Int).toNat) t294).bind fun t332 => (marlinelaw07_SyncWraps.j1 kj4 a0 l2 l3 y324 (t294.length : Int) (!t332) a0 bt312.2.1 bt312.2.2.1 bt312.2.2.2.1 bt312.2.2.2.2.1 bt312.2.2.2.2.2.1 bt312.2.2.2.2.2.2.1 bt312.2.2.2.2.2.2.2)) else (none)) else (none)))) else (none)))))) else (none)))) else (none)) = some r := by first | (rw [hy282]; with_reducible exact H) | (have H2_ := (Option.bind_some _ _).symm.trans H; rw [hy282]; with_reducible exact H2_) | (have H2_ := (Option.bind_some _ _).symm.trans H; with_reducible exact H2_) | with_reducible exact H | (rw [hy282]; exact H) | exact H
        have Ny282 := Aside0.mk hy282
        clear hy282
        by_cases c21 : y282.length + l1.length < 140737488355328
        · rw [if_pos c21] at H
          have LMc21 := Aside0.mk c21
          clear c21
          obtain ⟨y285, hy285⟩ : ∃ y_ : List Int, y_ = (y282 ++ l1) := ⟨_, rfl⟩
          replace H : ((zero_Flag.f kj4).bind fun t288 => (if y285.length + t288.length < 140737488355328 then ((marlineref07_All.f kj4 a0 (y285 ++ t288)).bind fun t294 => ((sync_Deframer_Feed.f a0 ([] : List Int) 0 false false 0 false false l1).bind fun bt297 => ((sync_Wrap.f kj4 l2).bind fun t309 => ((sync_Deframer_Feed.f a0 bt297.2.1 bt297.2.2.1 bt297.2.2.2.1 bt297.2.2.2.2.1 bt297.2.2.2.2.2.1 bt297.2.2.2.2.2.2.1 bt297.2.2.2.2.2.2.2 t309).bind fun bt312 => (if bt297.1.length + bt312.1.length < 4398046511104 then ((some (bt297.1 ++ bt312.1 : List (S54))).bind fun y324 => (if (y324.length : Int) < (t294.length : Int) then (marlinelaw07_SyncWraps.j1 kj4 a0 l2 l3 y324 (t294.length : Int) true a0 bt312.2.1 bt312.2.2.1 bt312.2.2.2.1 bt312.2.2.2.2.1 bt312.2.2.2.2.2.1 bt312.2.2.2.2.2.2.1 bt312.2.2.2.2.2.2.2) else (if 0 ≤ (t294.length : Int) then (if (t294.length : Int) ≤ (y324.length : Int) then ((marlinelaw07_Same.f kj4 (y324.take ((t294.length : Int) : Int).toNat) t294).bind fun t332 => (marlinelaw07_SyncWraps.j1 kj4 a0 l2 l3 y324 (t294.length : Int) (!t332) a0 bt312.2.1 bt312.2.2.1 bt312.2.2.2.1 bt312.2.2.2.2.1 bt312.2.2.2.2.2.1 bt312.2.2.2.2.2.2.1 bt312.2.2.2.2.2.2.2)) else (none)) else (none)))) else (none)))))) else (none))) = some r := by first | (rw [hy285]; with_reducible exact H) | (have H2_ := (Option.bind_some _ _).symm.trans H; rw [hy285]; with_reducible exact H2_) | (have H2_ := (Option.bind_some _ _).symm.trans H; with_reducible exact H2_) | with_reducible exact H | (rw [hy285]; exact H) | exact H
          have Ny285 := Aside0.mk hy285
          clear hy285
          replace H := Option.bind_eq_some_iff.mp H
          obtain ⟨t288, A220, H⟩ := H
          replace H : (if y285.length + t288.length < 140737488355328 then ((marlineref07_All.f kj4 a0 (y285 ++ t288)).bind fun t294 => ((sync_Deframer_Feed.f a0 ([] : List Int) 0 false false 0 false false l1).bind fun bt297 => ((sync_Wrap.f kj4 l2).bind fun t309 => ((sync_Deframer_Feed.f a0 bt297.2.1 bt297.2.2.1 bt297.2.2.2.1 bt297.2.2.2.2.1 bt297.2.2.2.2.2.1 bt297.2.2.2.2.2.2.1 bt297.2.2.2.2.2.2.2 t309).bind fun bt312 => (if bt297.1.length + bt312.1.length < 4398046511104 then ((some (bt297.1 ++ bt312.1 : List (S54))).bind fun y324 => (if (y324.length : Int) < (t294.length : Int) then (marlinelaw07_SyncWraps.j1 kj4 a0 l2 l3 y324 (t294.length : Int) true a0 bt312.2.1 bt312.2.2.1 bt312.2.2.2.1 bt312.2.2.2.2.1 bt312.2.2.2.2.2.1 bt312.2.2.2.2.2.2.1 bt312.2.2.2.2.2.2.2) else (if 0 ≤ (t294.length : Int) then (if (t294.length : Int) ≤ (y324.length : Int) then ((marlinelaw07_Same.f kj4 (y324.take ((t294.length : Int) : Int).toNat) t294).bind fun t332 => (marlinelaw07_SyncWraps.j1 kj4 a0 l2 l3 y324 (t294.length : Int) (!t332) a0 bt312.2.1 bt312.2.2.1 bt312.2.2.2.1 bt312.2.2.2.2.1 bt312.2.2.2.2.2.1 bt312.2.2.2.2.2.2.1 bt312.2.2.2.2.2.2.2)) else (none)) else (none)))) else (none)))))) else (none)) = some r := H
          have A22 := Aside0.mk A220
          clear A220
          by_cases c23 : y285.length + t288.length < 140737488355328
          · rw [if_pos c23] at H
            have LMc23 := Aside0.mk c23
            clear c23
            obtain ⟨y291, hy291⟩ : ∃ y_ : List Int, y_ = (y285 ++ t288) := ⟨_, rfl⟩
            replace H : ((marlineref07_All.f kj4 a0 y291).bind fun t294 => ((sync_Deframer_Feed.f a0 ([] : List Int) 0 false false 0 false false l1).bind fun bt297 => ((sync_Wrap.f kj4 l2).bind fun t309 => ((sync_Deframer_Feed.f a0 bt297.2.1 bt297.2.2.1 bt297.2.2.2.1 bt297.2.2.2.2.1 bt297.2.2.2.2.2.1 bt297.2.2.2.2.2.2.1 bt297.2.2.2.2.2.2.2 t309).bind fun bt312 => (if bt297.1.length + bt312.1.length < 4398046511104 then ((some (bt297.1 ++ bt312.1 : List (S54))).bind fun y324 => (if (y324.length : Int) < (t294.length : Int) then (marlinelaw07_SyncWraps.j1 kj4 a0 l2 l3 y324 (t294.length : Int) true a0 bt312.2.1 bt312.2.2.1 bt312.2.2.2.1 bt312.2.2.2.2.1 bt312.2.2.2.2.2.1 bt312.2.2.2.2.2.2.1 bt312.2.2.2.2.2.2.2) else (if 0 ≤ (t294.length : Int) then (if (t294.length : Int) ≤ (y324.length : Int) then ((marlinelaw07_Same.f kj4 (y324.take ((t294.length : Int) : Int).toNat) t294).bind fun t332 => (marlinelaw07_SyncWraps.j1 kj4 a0 l2 l3 y324 (t294.length : Int) (!t332) a0 bt312.2.1 bt312.2.2.1 bt312.2.2.2.1 bt312.2.2.2.2.1 bt312.2.2.2.2.2.1 bt312.2.2.2.2.2.2.1 bt312.2.2.2.2.2.2.2)) else (none)) else (none)))) else (none)))))) = some r := by first | (rw [hy291]; with_reducible exact H) | (have H2_ := (Option.bind_some _ _).symm.trans H; rw [hy291]; with_reducible exact H2_) | (have H2_ := (Option.bind_some _ _).symm.trans H; with_reducible exact H2_) | with_reducible exact H | (rw [hy291]; exact H) | exact H
            have Ny291 := Aside0.mk hy291
            clear hy291
            replace H := Option.bind_eq_some_iff.mp H
            obtain ⟨t294, A240, H⟩ := H
            replace H : ((sync_Deframer_Feed.f a0 ([] : List Int) 0 false false 0 false false l1).bind fun bt297 => ((sync_Wrap.f kj4 l2).bind fun t309 => ((sync_Deframer_Feed.f a0 bt297.2.1 bt297.2.2.1 bt297.2.2.2.1 bt297.2.2.2.2.1 bt297.2.2.2.2.2.1 bt297.2.2.2.2.2.2.1 bt297.2.2.2.2.2.2.2 t309).bind fun bt312 => (if bt297.1.length + bt312.1.length < 4398046511104 then ((some (bt297.1 ++ bt312.1 : List (S54))).bind fun y324 => (if (y324.length : Int) < (t294.length : Int) then (marlinelaw07_SyncWraps.j1 kj4 a0 l2 l3 y324 (t294.length : Int) true a0 bt312.2.1 bt312.2.2.1 bt312.2.2.2.1 bt312.2.2.2.2.1 bt312.2.2.2.2.2.1 bt312.2.2.2.2.2.2.1 bt312.2.2.2.2.2.2.2) else (if 0 ≤ (t294.length : Int) then (if (t294.length : Int) ≤ (y324.length : Int) then ((marlinelaw07_Same.f kj4 (y324.take ((t294.length : Int) : Int).toNat) t294).bind fun t332 => (marlinelaw07_SyncWraps.j1 kj4 a0 l2 l3 y324 (t294.length : Int) (!t332) a0 bt312.2.1 bt312.2.2.1 bt312.2.2.2.1 bt312.2.2.2.2.1 bt312.2.2.2.2.2.1 bt312.2.2.2.2.2.2.1 bt312.2.2.2.2.2.2.2)) else (none)) else (none)))) else (none))))) = some r := H
            have A24 := Aside0.mk A240
            clear A240
            replace H := Option.bind_eq_some_iff.mp H
            obtain ⟨⟨t297, t300, t303, t304, t305, t306, t307, t308⟩, A250, H⟩ := H
            replace H : ((sync_Wrap.f kj4 l2).bind fun t309 => ((sync_Deframer_Feed.f a0 t300 t303 t304 t305 t306 t307 t308 t309).bind fun bt312 => (if t297.length + bt312.1.length < 4398046511104 then ((some (t297 ++ bt312.1 : List (S54))).bind fun y324 => (if (y324.length : Int) < (t294.length : Int) then (marlinelaw07_SyncWraps.j1 kj4 a0 l2 l3 y324 (t294.length : Int) true a0 bt312.2.1 bt312.2.2.1 bt312.2.2.2.1 bt312.2.2.2.2.1 bt312.2.2.2.2.2.1 bt312.2.2.2.2.2.2.1 bt312.2.2.2.2.2.2.2) else (if 0 ≤ (t294.length : Int) then (if (t294.length : Int) ≤ (y324.length : Int) then ((marlinelaw07_Same.f kj4 (y324.take ((t294.length : Int) : Int).toNat) t294).bind fun t332 => (marlinelaw07_SyncWraps.j1 kj4 a0 l2 l3 y324 (t294.length : Int) (!t332) a0 bt312.2.1 bt312.2.2.1 bt312.2.2.2.1 bt312.2.2.2.2.1 bt312.2.2.2.2.2.1 bt312.2.2.2.2.2.2.1 bt312.2.2.2.2.2.2.2)) else (none)) else (none)))) else (none)))) = some r := H
            have A25 := Aside0.mk A250
            clear A250
            replace H := Option.bind_eq_some_iff.mp H
            obtain ⟨t309, A260, H⟩ := H
            replace H : ((sync_Deframer_Feed.f a0 t300 t303 t304 t305 t306 t307 t308 t309).bind fun bt312 => (if t297.length + bt312.1.length < 4398046511104 then ((some (t297 ++ bt312.1 : List (S54))).bind fun y324 => (if (y324.length : Int) < (t294.length : Int) then (marlinelaw07_SyncWraps.j1 kj4 a0 l2 l3 y324 (t294.length : Int) true a0 bt312.2.1 bt312.2.2.1 bt312.2.2.2.1 bt312.2.2.2.2.1 bt312.2.2.2.2.2.1 bt312.2.2.2.2.2.2.1 bt312.2.2.2.2.2.2.2) else (if 0 ≤ (t294.length : Int) then (if (t294.length : Int) ≤ (y324.length : Int) then ((marlinelaw07_Same.f kj4 (y324.take ((t294.length : Int) : Int).toNat) t294).bind fun t332 => (marlinelaw07_SyncWraps.j1 kj4 a0 l2 l3 y324 (t294.length : Int) (!t332) a0 bt312.2.1 bt312.2.2.1 bt312.2.2.2.1 bt312.2.2.2.2.1 bt312.2.2.2.2.2.1 bt312.2.2.2.2.2.2.1 bt312.2.2.2.2.2.2.2)) else (none)) else (none)))) else (none))) = some r := H
            have A26 := Aside0.mk A260
            clear A260
            replace H := Option.bind_eq_some_iff.mp H
            obtain ⟨⟨t312, t315, t318, t319, t320, t321, t322, t323⟩, A270, H⟩ := H
            replace H : (if t297.length + t312.length < 4398046511104 then ((some (t297 ++ t312 : List (S54))).bind fun y324 => (if (y324.length : Int) < (t294.length : Int) then (marlinelaw07_SyncWraps.j1 kj4 a0 l2 l3 y324 (t294.length : Int) true a0 t315 t318 t319 t320 t321 t322 t323) else (if 0 ≤ (t294.length : Int) then (if (t294.length : Int) ≤ (y324.length : Int) then ((marlinelaw07_Same.f kj4 (y324.take ((t294.length : Int) : Int).toNat) t294).bind fun t332 => (marlinelaw07_SyncWraps.j1 kj4 a0 l2 l3 y324 (t294.length : Int) (!t332) a0 t315 t318 t319 t320 t321 t322 t323)) else (none)) else (none)))) else (none)) = some r := H
            have A27 := Aside0.mk A270
            clear A270
            by_cases c28 : t297.length + t312.length < 4398046511104
            · rw [if_pos c28] at H
              have LMc28 := Aside0.mk c28
              clear c28
              obtain ⟨y324, hy324⟩ : ∃ y_ : List (S54), y_ = (t297 ++ t312) := ⟨_, rfl⟩
              replace H : (if (y324.length : Int) < (t294.length : Int) then (marlinelaw07_SyncWraps.j1 kj4 a0 l2 l3 y324 (t294.length : Int) true a0 t315 t318 t319 t320 t321 t322 t323) else (if 0 ≤ (t294.length : Int) then (if (t294.length : Int) ≤ (y324.length : Int) then ((marlinelaw07_Same.f kj4 (y324.take ((t294.length : Int) : Int).toNat) t294).bind fun t332 => (marlinelaw07_SyncWraps.j1 kj4 a0 l2 l3 y324 (t294.length : Int) (!t332) a0 t315 t318 t319 t320 t321 t322 t323)) else (none)) else (none))) = some r := by first | (rw [hy324]; with_reducible exact H) | (have H2_ := (Option.bind_some _ _).symm.trans H; rw [hy324]; with_reducible exact H2_) | (have H2_ := (Option.bind_some _ _).symm.trans H; with_reducible exact H2_) | with_reducible exact H | (rw [hy324]; exact H) | exact H
              have Ny324 := Aside0.mk hy324
              clear hy324
              have HC29 := Aside0.mk H
              clear H
              go_upto_region 10 with (first | (go_at_call 24; refine (sync_New.box (a0) _).mono ?_; rintro e_ w30 ⟨gb281, rfl, hg, hbox, hb⟩; have n0_ := Aside0.mk (below_step (by repeat (first | (with_reducible first | exact HB.out | apply below_alloc | apply pw_below_drewN | apply below_drew1) | exact HB.out)) hb); have n1_ := Aside0.mk (hbox); have n2_ := Aside0.mk ((by rw [hg]; exact (below_size (by repeat (first | (with_reducible first | exact HB.out | apply below_alloc | apply pw_below_drewN | apply below_drew1) | exact HB.out))) : w.heap.size ≤ gb281)); have n3_ := Aside0.mk ((by rw [hg]; exact (below_size (by repeat (first | (with_reducible first | exact HB.out | apply below_alloc | apply pw_below_drewN | apply below_drew1) | exact HB.out))) : w.heap.size ≤ gb281)); clear HB; have HB := n0_; have BK281 := n1_; have GW281 := n2_; have GE281 := n3_; clear n0_ n1_ n2_ n3_; clear hb hbox hg) | ((with_reducible refine gate_dst (N := 45) rfl ?_); (try (refine gate_guard (by rfl) ?_; dsimp only)); refine Kd.R_lit (Kd.int .u8) _ 5 ?hg (N := 45) ?hd (xs := ([] : List Int)) (inner := []) (ok := fun _ => True) (okp := fun _ => True) ?hr ?hp (fun _ hk => hk) trivial (Below.refl _ _) (Nat.le_refl _) (by simp) ?_; (case hd => rfl); (case hg => rfl); (case hr => first | (go_simp; done) | (go_simp; simp only [IntKind.wrap_u8, IntKind.wrap_u16, IntKind.wrap_u32, IntKind.wrap_u64]; done) | (go_simp; simp only [IntKind.wrap_u8, IntKind.wrap_u16, IntKind.wrap_u32, IntKind.wrap_u64, Int.tmod_eq_emod_of_nonneg (Int.natCast_nonneg _), Int.emod_emod]; done) | (go_simp; rfl)); (case hp => exact (Reps.none _ _)); intro v283 w31 ho32 hb hg_ hnew_; clear hg_ hnew_; (first | rw [← Ny282.out] at ho32 | (simp only [Int.reduceToNat] at ho32; rw [← Ny282.out] at ho32)); have n0_ := Aside0.mk (Kd.R_lower ho32 (below_size (by repeat (first | (with_reducible first | exact HB.out | apply below_alloc | apply pw_below_drewN | apply below_drew1 | refine below_set ?_ GE281.out) | exact HB.out)))); have n1_ := Aside0.mk (blk_below (g := gb281) (o := .cells #[.int .i64 a0, .slice none 0 0, .int .i64 0, .bool false, .bool false, .int .i64 0, .bool false, .bool false] 70 (0, 0)) (by (with_reducible repeat (first | refine blk_drewN ?_ _ | refine blk_drew ?_ | refine blk_alloc ?_ _)); exact BK281.out) hb); have n2_ := Aside0.mk (below_step (by repeat (first | (with_reducible first | exact HB.out | apply below_alloc | apply pw_below_drewN | apply below_drew1 | refine below_set ?_ GE281.out) | exact HB.out)) hb); clear BK281; clear HB; have HO284 := n0_; have BK281 := n1_; have HB := n2_; clear n0_ n1_ n2_; clear hb ho32) | ((with_reducible refine gate_builtin (b := .append) (xs := #[.tmp 45, .tmp 46]) rfl ?_); (try (refine gate_guard (by rfl) ?_; dsimp only)); at_builtin; refine Kd.R_append_rows (Kd.int .u8) (w0 := w) w.heap.size rfl (.tmp 45) (.tmp 46) 28 5 (.int .u8 0) 1 rfl Try.underlying28 info5 rfl (by decide) (by omega) v283 y282 l1 _ _ _ (fun _ => True) (fun _ => False) rfl rfl ?aO ?aR (fun _ _ h => h) (fun _ h => h.elim) ?aF ?aB ?aS ?aL ?_; (case aR => repeat (first | exact (Kd.C_below HR1.out HB.out) | (with_reducible refine Kd.C_alloc ?_ _) | (with_reducible refine Kd.C_drewN ?_ _) | (with_reducible refine Kd.C_drew ?_))); (case aB => exact (by repeat (first | (with_reducible first | exact HB.out | apply below_alloc | apply pw_below_drewN | apply below_drew1 | refine below_set ?_ GE281.out) | exact HB.out))); (case aF => exact (fun _ _ => trivial)); (case aO => exact (by (with_reducible repeat (first | apply Kd.R_alloc | apply Kd.R_drewN | apply Kd.R_drew)); exact HO284.out)); (case aS => exact (below_size (by repeat (first | (with_reducible first | exact HB.out | apply below_alloc | apply pw_below_drewN | apply below_drew1 | refine below_set ?_ GE281.out) | exact HB.out)))); (case aL => have := LMc21.out; omega); intro v286 w33 ho hb hg hat; rw [← Ny285.out] at ho; have n0_ := Aside0.mk (blk_grown (g := gb281) (o := .cells #[.int .i64 a0, .slice none 0 0, .int .i64 0, .bool false, .bool false, .int .i64 0, .bool false, .bool false] 70 (0, 0)) (by (with_reducible repeat (first | refine blk_drewN ?_ _ | refine blk_drew ?_ | refine blk_alloc ?_ _)); exact BK281.out) hg (Kd.R_ne HO284.out BK281.out (by decide))); have n1_ := Aside0.mk (hb); have n2_ := Aside0.mk (ho); clear BK281; clear HB; clear HO284; have BK281 := n0_; have HB := n1_; have HO287 := n2_; clear n0_ n1_ n2_; clear ho hb hg hat) | ((with_reducible refine gate_callee (f := 28) rfl ?_); refine goesL_ (some 48) rfl rfl Try.func28 (by kernel_rfl) rfl #[] rfl (by (try simp only [List.map_toArray, List.map_cons, List.map_nil]); first | done | rfl | (simp only [List.length_drop, List.length_take]; rfl)) ?_; (with_reducible refine (zero_Flag.calls kj4  t288 _ A22.out).mono ?_); rintro e w34 ⟨v289, rfl, ho0, hb⟩; refine ⟨_, rfl, ?_⟩; have n0_ := Aside0.mk (Kd.R_elder' (by (with_reducible repeat (first | apply Kd.R_alloc | apply Kd.R_drewN | apply Kd.R_drew)); exact HO287.out) (Kd.R_base ho0) hb); have n1_ := Aside0.mk (Kd.R_lower (Kd.R_new' ho0 (Kd.R_lt (by (with_reducible repeat (first | apply Kd.R_alloc | apply Kd.R_drewN | apply Kd.R_drew)); exact HO287.out))) (below_size (by repeat (first | (with_reducible first | exact HB.out | apply below_alloc | apply pw_below_drewN | apply below_drew1 | refine below_set ?_ GE281.out) | exact HB.out)))); have n2_ := Aside0.mk (blk_below (g := gb281) (o := .cells #[.int .i64 a0, .slice none 0 0, .int .i64 0, .bool false, .bool false, .int .i64 0, .bool false, .bool false] 70 (0, 0)) (by (with_reducible repeat (first | refine blk_drewN ?_ _ | refine blk_drew ?_ | refine blk_alloc ?_ _)); exact BK281.out) hb); have n3_ := Aside0.mk (below_step (by repeat (first | (with_reducible first | exact HB.out | apply below_alloc | apply pw_below_drewN | apply below_drew1 | refine below_set ?_ GE281.out) | exact HB.out)) hb); clear HO287; clear BK281; clear HB; have HO287 := n0_; have HO290 := n1_; have BK281 := n2_; have HB := n3_; clear n0_ n1_ n2_ n3_; (try clear hb); (try clear hb2); (try clear hk); (try clear hi); (try clear ho0); obtain ⟨Ao36, co36, eo36⟩ := Kd.R_slice HO290.out; subst eo36) | ((with_reducible refine gate_builtin (b := .append) (xs := #[.tmp 47, .tmp 48]) rfl ?_); (try (refine gate_guard (by rfl) ?_; dsimp only)); at_builtin; refine Kd.R_append_rows (Kd.int .u8) (w0 := w) w.heap.size rfl (.tmp 47) (.tmp 48) 28 5 (.int .u8 0) 1 rfl Try.underlying28 info5 rfl (by decide) (by omega) v286 y285 t288 _ _ _ (fun k_ => some k_ ≠ (.slice Ao36 t288.length co36 : Value).ownBlock) (fun _ => False) rfl rfl ?aO ?aR (fun _ _ h => h) (fun _ h => h.elim) ?aF ?aB ?aS ?aL ?_; (case aR => repeat (first | exact (Kd.R_reads' HO290.out).2.2 | (with_reducible refine Kd.C_alloc ?_ _) | (with_reducible refine Kd.C_drewN ?_ _) | (with_reducible refine Kd.C_drew ?_))); (case aB => exact (by repeat (first | (with_reducible first | exact HB.out | apply below_alloc | apply pw_below_drewN | apply below_drew1 | refine below_set ?_ GE281.out) | exact HB.out))); (case aF => exact (fun k_ hk => Kd.fresh' (Kd.R_lt (by (with_reducible repeat (first | apply Kd.R_alloc | apply Kd.R_drewN | apply Kd.R_drew)); exact HO290.out)) k_ hk)); (case aO => exact (by (with_reducible repeat (first | apply Kd.R_alloc | apply Kd.R_drewN | apply Kd.R_drew)); exact Kd.R_mono HO287.out (fun _ hk => hk.2))); (case aS => exact (below_size (by repeat (first | (with_reducible first | exact HB.out | apply below_alloc | apply pw_below_drewN | apply below_drew1 | refine below_set ?_ GE281.out) | exact HB.out)))); (case aL => have := LMc23.out; omega); intro v292 w35 ho hb hg hat; rw [← Ny291.out] at ho; have n0_ := Aside0.mk (blk_grown (g := gb281) (o := .cells #[.int .i64 a0, .slice none 0 0, .int .i64 0, .bool false, .bool false, .int .i64 0, .bool false, .bool false] 70 (0, 0)) (by (with_reducible repeat (first | refine blk_drewN ?_ _ | refine blk_drew ?_ | refine blk_alloc ?_ _)); exact BK281.out) hg (Kd.R_ne HO287.out BK281.out (by decide))); have n1_ := Aside0.mk (Kd.R_after (ok := (fun _ => True)) (by (with_reducible repeat (first | apply Kd.R_alloc | apply Kd.R_drewN | apply Kd.R_drew)); exact HO290.out) hg hat); have n2_ := Aside0.mk (hb); have n3_ := Aside0.mk (ho); clear BK281; clear HO290; clear HB; clear HO287; have BK281 := n0_; have HO290 := n1_; have HB := n2_; have HO293 := n3_; clear n0_ n1_ n2_ n3_; clear ho hb hg hat; obtain ⟨Ao37, co37, eo37⟩ := Kd.R_slice HO293.out; subst eo37) | ((with_reducible refine gate_callee (f := 27) rfl ?_); refine goesL_ (some 50) rfl rfl Try.func27 (by kernel_rfl) rfl #[.int .i64 a0, .slice Ao37 y291.length co37] rfl (by (try simp only [List.map_toArray, List.map_cons, List.map_nil]); first | done | rfl | (simp only [List.length_drop, List.length_take]; rfl)) ?_; (with_reducible refine (marlineref07_All.calls kj4 a0 (fun k_ => some k_ = (.slice Ao37 y291.length co37 : Value).ownBlock) _ _ y291 t294 _ ?side1 A24.out).mono ?_); (case side1 => exact Kd.R_V (Kd.R_tight rfl (Kd.R_types (HO293.out) BK281.out (by decide)))); rintro e w38 ⟨v295, rfl, ho0, hb⟩; refine ⟨_, rfl, ?_⟩; have n0_ := Aside0.mk (Kd.R_below (by (with_reducible repeat (first | apply Kd.R_alloc | apply Kd.R_drewN | apply Kd.R_drew)); exact HO290.out) hb); have n1_ := Aside0.mk (Kd.R_below (by (with_reducible repeat (first | apply Kd.R_alloc | apply Kd.R_drewN | apply Kd.R_drew)); exact HO293.out) hb); have n2_ := Aside0.mk (Kd.N_lower (Kd.N_mono (ok' := fun k_ => some k_ ≠ (.slice Ao36 t288.length co36 : Value).ownBlock ∧ k_ ≠ gb281) ho0 (fun k_ hk_ => ⟨Or.elim hk_ (fun hs_ => ((Kd.R_types (HO293.out) BK281.out (by decide)).1 k_ hs_.symm).1) (fun hn_ => (Kd.fresh' (Kd.R_lt (by (with_reducible repeat (first | apply Kd.R_alloc | apply Kd.R_drewN | apply Kd.R_drew)); exact HO290.out)) k_ hn_)), Or.elim hk_ (fun hs_ => ((Kd.R_types (HO293.out) BK281.out (by decide)).1 k_ hs_.symm).2) (fun hn_ => (Kd.freshB (g := gb281) (o := .cells #[.int .i64 a0, .slice none 0 0, .int .i64 0, .bool false, .bool false, .int .i64 0, .bool false, .bool false] 70 (0, 0)) (by (with_reducible repeat (first | refine blk_drewN ?_ _ | refine blk_drew ?_ | refine blk_alloc ?_ _)); exact BK281.out) k_ hn_))⟩)) (below_size (by repeat (first | (with_reducible first | exact HB.out | apply below_alloc | apply pw_below_drewN | apply below_drew1 | refine below_set ?_ GE281.out) | exact HB.out)))); have n3_ := Aside0.mk (blk_below (g := gb281) (o := .cells #[.int .i64 a0, .slice none 0 0, .int .i64 0, .bool false, .bool false, .int .i64 0, .bool false, .bool false] 70 (0, 0)) (by (with_reducible repeat (first | refine blk_drewN ?_ _ | refine blk_drew ?_ | refine blk_alloc ?_ _)); exact BK281.out) hb); have n4_ := Aside0.mk (below_step (by repeat (first | (with_reducible first | exact HB.out | apply below_alloc | apply pw_below_drewN | apply below_drew1 | refine below_set ?_ GE281.out) | exact HB.out)) hb); clear HO290; clear HO293; clear BK281; clear HB; have HO290 := n0_; have HO293 := n1_; have HO296 := n2_; have BK281 := n3_; have HB := n4_; clear n0_ n1_ n2_ n3_ n4_; (try clear hb); (try clear hb2); (try clear hk); (try clear hi); (try clear ho0); have hcz39_0 : w38.cell? ⟨gb281, 0, none⟩ = some (.int .i64 a0) := (blk_cell BK281.out 0).trans rfl; have hcz39_1 : w38.cell? ⟨gb281, 1, none⟩ = some (.slice none 0 0) := (blk_cell BK281.out 1).trans rfl; have hcz39_2 : w38.cell? ⟨gb281, 2, none⟩ = some (.int .i64 0) := (blk_cell BK281.out 2).trans rfl; have hcz39_3 : w38.cell? ⟨gb281, 3, none⟩ = some (.bool false) := (blk_cell BK281.out 3).trans rfl; have hcz39_4 : w38.cell? ⟨gb281, 4, none⟩ = some (.bool false) := (blk_cell BK281.out 4).trans rfl; have hcz39_5 : w38.cell? ⟨gb281, 5, none⟩ = some (.int .i64 0) := (blk_cell BK281.out 5).trans rfl; have hcz39_6 : w38.cell? ⟨gb281, 6, none⟩ = some (.bool false) := (blk_cell BK281.out 6).trans rfl; have hcz39_7 : w38.cell? ⟨gb281, 7, none⟩ = some (.bool false) := (blk_cell BK281.out 7).trans rfl; have hfz39_0 := blk_frozen BK281.out 0; have hfz39_1 := blk_frozen BK281.out 1; have hfz39_2 := blk_frozen BK281.out 2; have hfz39_3 := blk_frozen BK281.out 3; have hfz39_4 := blk_frozen BK281.out 4; have hfz39_5 := blk_frozen BK281.out 5; have hfz39_6 := blk_frozen BK281.out 6; have hfz39_7 := blk_frozen BK281.out 7) | ((with_reducible refine gate_callee (f := 25) rfl ?_); (try (refine gate_guard (by rfl) ?_; dsimp only)); refine goesL_ (some 53) rfl rfl Try.func25 (by kernel_rfl) rfl #[.pointer (some ⟨gb281, 0, none⟩), .slice A1 l1.length c1] rfl (by (try simp only [List.map_toArray, List.map_cons, List.map_nil]); first | done | rfl) ?_; refine (sdx gb281 a0 (fun k_ => some k_ = (.slice none 0 0 : Value).ownBlock) (.slice none 0 0) ([] : List Int) 0 false false 0 false false _ _ l1 t297 t300 t303 t304 t305 t306 t307 t308 w _ ?side1 ?side2 ?side3 ?side4 A25.out ?side5 ?side6 ?side7).mono ?_; (case side1 => repeat (first | (with_reducible first | exact HB.out | apply below_alloc | apply pw_below_drewN | apply below_drew1 | refine below_set ?_ GE281.out) | exact HB.out)); (case side2 => exact Kd.R_nil _ _ _ _ _); (case side3 => exact Kd.C_kept_came (Kd.heap_int .u8) HR1.out (by repeat (first | (with_reducible first | exact HB.out | apply below_alloc | apply pw_below_drewN | apply below_drew1 | refine below_set ?_ GE281.out) | exact HB.out)) (fun k_ hs_ => (fun e_ => by simp [Value.ownBlock] at e_) hs_)); (case side4 => exact HC1.out); (case side5 => exact (by (with_reducible repeat (first | refine blk_drewN ?_ _ | refine blk_drew ?_ | refine blk_alloc ?_ _)); exact BK281.out)); (case side6 => exact GE281.out); (case side7 => exact (fun hs_ => (fun e_ => by simp [Value.ownBlock] at e_) hs_)); rintro e wq_ ⟨w40, v298, v301, rfl, rfl, ho0, ho1, hb, hkp⟩; refine ⟨_, rfl, ?_⟩; have n0_ := Aside0.mk (blk_kept (by (with_reducible repeat (first | refine blk_drewN ?_ _ | refine blk_drew ?_ | refine blk_alloc ?_ _)); exact BK281.out) hkp (fun hs_ => (fun e_ => by simp [Value.ownBlock] at e_) hs_)); have n1_ := Aside0.mk (Kd.R_mono (ok' := fun k_ => some k_ ≠ (.slice Ao37 y291.length co37 : Value).ownBlock ∧ some k_ ≠ (v301 : Value).ownBlock) (Kd.R_keptB (HO290.out) hkp (fun k_ hk_ hs_ => (fun e_ => by simp [Value.ownBlock] at e_) hs_)) (fun k_ hk_ => ⟨hk_.1.2, fun e_ => Or.elim (ho1.1 k_ e_.symm) (fun hs_ => hk_.2.1 hs_) (fun hn_ => Nat.not_le.2 hk_.2.2 hn_)⟩)); have n2_ := Aside0.mk (Kd.R_mono (ok' := fun k_ => some k_ ≠ (.slice Ao36 t288.length co36 : Value).ownBlock ∧ some k_ ≠ (v301 : Value).ownBlock) (Kd.R_keptB (HO293.out) hkp (fun k_ hk_ hs_ => (fun e_ => by simp [Value.ownBlock] at e_) hs_)) (fun k_ hk_ => ⟨hk_.1, fun e_ => Or.elim (ho1.1 k_ e_.symm) (fun hs_ => hk_.2.1 hs_) (fun hn_ => Nat.not_le.2 hk_.2.2 hn_)⟩)); have n3_ := Aside0.mk (Kd.N_mono (ok' := fun k_ => some k_ ≠ (.slice Ao36 t288.length co36 : Value).ownBlock ∧ k_ ≠ gb281 ∧ some k_ ≠ (v298 : Value).ownBlock ∧ some k_ ≠ (v301 : Value).ownBlock) (Kd.N_keptB (HO296.out) hkp (fun k_ hk_ hs_ => (fun e_ => by simp [Value.ownBlock] at e_) hs_)) (fun k_ hk_ => ⟨hk_.1.1, hk_.1.2, fun e_ => Or.elim ((Kd.S_R ho0).1 k_ e_.symm).1 (fun hs_ => hk_.2.1 hs_) (fun hn_ => Nat.not_le.2 hk_.2.2 hn_), fun e_ => Or.elim (ho1.1 k_ e_.symm) (fun hs_ => hk_.2.1 hs_) (fun hn_ => Nat.not_le.2 hk_.2.2 hn_)⟩)); have n4_ := Aside0.mk (Kd.N_lower (Kd.N_mono (ok' := fun k_ => some k_ ≠ (v301 : Value).ownBlock ∧ some k_ ≠ (.slice Ao36 t288.length co36 : Value).ownBlock ∧ some k_ ≠ (.slice Ao37 y291.length co37 : Value).ownBlock ∧ some k_ ≠ (v295 : Value).ownBlock ∧ k_ ≠ gb281) (Kd.S_N ho0) (fun k_ hk_ => ⟨hk_.2, Or.elim hk_.1 (fun hs_ => absurd hs_ (by simp [Value.ownBlock])) (fun hn_ => (Kd.fresh' (Kd.R_lt (by (with_reducible repeat (first | apply Kd.R_alloc | apply Kd.R_drewN | apply Kd.R_drew)); exact HO290.out)) k_ hn_)), Or.elim hk_.1 (fun hs_ => absurd hs_ (by simp [Value.ownBlock])) (fun hn_ => (Kd.fresh' (Kd.R_lt (by (with_reducible repeat (first | apply Kd.R_alloc | apply Kd.R_drewN | apply Kd.R_drew)); exact HO293.out)) k_ hn_)), Or.elim hk_.1 (fun hs_ => absurd hs_ (by simp [Value.ownBlock])) (fun hn_ => (Kd.fresh' (Kd.N_lt (by (with_reducible repeat (first | apply Kd.N_alloc | apply Kd.N_drewN | apply Kd.N_drew)); exact HO296.out)) k_ hn_)), Or.elim hk_.1 (fun hs_ => absurd hs_ (by simp [Value.ownBlock])) (fun hn_ => (Kd.freshB (g := gb281) (o := .cells #[.int .i64 a0, .slice none 0 0, .int .i64 0, .bool false, .bool false, .int .i64 0, .bool false, .bool false] 70 (0, 0)) (by (with_reducible repeat (first | refine blk_drewN ?_ _ | refine blk_drew ?_ | refine blk_alloc ?_ _)); exact BK281.out) k_ hn_))⟩)) (Nat.le_refl _)); have n5_ := Aside0.mk (Kd.R_mono (ok' := fun k_ => some k_ ≠ (.slice Ao36 t288.length co36 : Value).ownBlock ∧ some k_ ≠ (.slice Ao37 y291.length co37 : Value).ownBlock) ho1 (fun k_ hk_ => ⟨Or.elim hk_ (fun hs_ => absurd hs_ (by simp [Value.ownBlock])) (fun hn_ => (Kd.fresh' (Kd.R_lt (by (with_reducible repeat (first | apply Kd.R_alloc | apply Kd.R_drewN | apply Kd.R_drew)); exact HO290.out)) k_ hn_)), Or.elim hk_ (fun hs_ => absurd hs_ (by simp [Value.ownBlock])) (fun hn_ => (Kd.fresh' (Kd.R_lt (by (with_reducible repeat (first | apply Kd.R_alloc | apply Kd.R_drewN | apply Kd.R_drew)); exact HO293.out)) k_ hn_))⟩)); have n6_ := Aside0.mk (hb); clear BK281; clear HO290; clear HO293; clear HO296; clear HB; have BK281 := n0_; have HO290 := n1_; have HO293 := n2_; have HO296 := n3_; have HO299 := n4_; have HO302 := n5_; have HB := n6_; clear n0_ n1_ n2_ n3_ n4_ n5_ n6_; (try clear hb); (try clear hkp); (try clear ho0); (try clear ho1); obtain ⟨Ao41, co41, eo41⟩ := Kd.R_slice HO302.out; subst eo41; have hcz42_0 : w40.cell? ⟨gb281, 0, none⟩ = some (.int .i64 a0) := (blk_cell BK281.out 0).trans rfl; have hcz42_1 : w40.cell? ⟨gb281, 1, none⟩ = some (.slice none 0 0) := (blk_cell BK281.out 1).trans rfl; have hcz42_2 : w40.cell? ⟨gb281, 2, none⟩ = some (.int .i64 0) := (blk_cell BK281.out 2).trans rfl; have hcz42_3 : w40.cell? ⟨gb281, 3, none⟩ = some (.bool false) := (blk_cell BK281.out 3).trans rfl; have hcz42_4 : w40.cell? ⟨gb281, 4, none⟩ = some (.bool false) := (blk_cell BK281.out 4).trans rfl; have hcz42_5 : w40.cell? ⟨gb281, 5, none⟩ = some (.int .i64 0) := (blk_cell BK281.out 5).trans rfl; have hcz42_6 : w40.cell? ⟨gb281, 6, none⟩ = some (.bool false) := (blk_cell BK281.out 6).trans rfl; have hcz42_7 : w40.cell? ⟨gb281, 7, none⟩ = some (.bool false) := (blk_cell BK281.out 7).trans rfl; have hfz42_0 := blk_frozen BK281.out 0; have hfz42_1 := blk_frozen BK281.out 1; have hfz42_2 := blk_frozen BK281.out 2; have hfz42_3 := blk_frozen BK281.out 3; have hfz42_4 := blk_frozen BK281.out 4; have hfz42_5 := blk_frozen BK281.out 5; have hfz42_6 := blk_frozen BK281.out 6; have hfz42_7 := blk_frozen BK281.out 7) | ((with_reducible refine gate_callee (f := 29) rfl ?_); refine goesL_ (some 57) rfl rfl Try.func29 (by kernel_rfl) rfl #[.slice A2 l2.length c2] rfl (by (try simp only [List.map_toArray, List.map_cons, List.map_nil]); first | done | rfl | (simp only [List.length_drop, List.length_take]; rfl)) ?_; (with_reducible refine (sync_Wrap.calls kj4 _ _ l2 t309 _ ?side1 ?side2 A26.out).mono ?_); (case side1 => exact Kd.C_below HR2.out (by repeat (first | (with_reducible first | exact HB.out | apply below_alloc | apply pw_below_drewN | apply below_drew1 | refine below_set ?_ GE281.out) | exact HB.out))); (case side2 => exact HC2.out); rintro e w43 ⟨v310, rfl, ho0, hb⟩; refine ⟨_, rfl, ?_⟩; have n0_ := Aside0.mk (Kd.R_elder' (by (with_reducible repeat (first | apply Kd.R_alloc | apply Kd.R_drewN | apply Kd.R_drew)); exact (Kd.R_mono (Kd.R_far (p := ⟨gb281, 7, none⟩) (Kd.R_far (p := ⟨gb281, 6, none⟩) (Kd.R_far (p := ⟨gb281, 5, none⟩) (Kd.R_far (p := ⟨gb281, 4, none⟩) (Kd.R_far (p := ⟨gb281, 3, none⟩) (Kd.R_far (p := ⟨gb281, 2, none⟩) (Kd.R_far (p := ⟨gb281, 1, none⟩) (Kd.R_types HO290.out BK281.out (by decide)) (fun _ hk => hk.2) (.slice Ao41 t300.length co41)) (fun _ hk => hk.2) (.int .i64 t303)) (fun _ hk => hk.2) (.bool t304)) (fun _ hk => hk.2) (.bool t305)) (fun _ hk => hk.2) (.int .i64 t306)) (fun _ hk => hk.2) (.bool t307)) (fun _ hk => hk.2) (.bool t308)) (fun _ h_ => h_.1))) (Kd.R_base ho0) hb); have n1_ := Aside0.mk (Kd.R_elder' (by (with_reducible repeat (first | apply Kd.R_alloc | apply Kd.R_drewN | apply Kd.R_drew)); exact (Kd.R_mono (Kd.R_far (p := ⟨gb281, 7, none⟩) (Kd.R_far (p := ⟨gb281, 6, none⟩) (Kd.R_far (p := ⟨gb281, 5, none⟩) (Kd.R_far (p := ⟨gb281, 4, none⟩) (Kd.R_far (p := ⟨gb281, 3, none⟩) (Kd.R_far (p := ⟨gb281, 2, none⟩) (Kd.R_far (p := ⟨gb281, 1, none⟩) (Kd.R_types HO293.out BK281.out (by decide)) (fun _ hk => hk.2) (.slice Ao41 t300.length co41)) (fun _ hk => hk.2) (.int .i64 t303)) (fun _ hk => hk.2) (.bool t304)) (fun _ hk => hk.2) (.bool t305)) (fun _ hk => hk.2) (.int .i64 t306)) (fun _ hk => hk.2) (.bool t307)) (fun _ hk => hk.2) (.bool t308)) (fun _ h_ => h_.1))) (Kd.R_base ho0) hb); have n2_ := Aside0.mk (Kd.N_elder' (by (with_reducible repeat (first | apply Kd.N_alloc | apply Kd.N_drewN | apply Kd.N_drew)); exact (Kd.N_mono (Kd.N_far (p := ⟨gb281, 7, none⟩) (Kd.N_far (p := ⟨gb281, 6, none⟩) (Kd.N_far (p := ⟨gb281, 5, none⟩) (Kd.N_far (p := ⟨gb281, 4, none⟩) (Kd.N_far (p := ⟨gb281, 3, none⟩) (Kd.N_far (p := ⟨gb281, 2, none⟩) (Kd.N_far (p := ⟨gb281, 1, none⟩) (Kd.N_mono HO296.out (fun k_ hk => (⟨hk, hk.2.1⟩ : _ ∧ k_ ≠ gb281))) (fun _ hk => hk.2) (.slice Ao41 t300.length co41)) (fun _ hk => hk.2) (.int .i64 t303)) (fun _ hk => hk.2) (.bool t304)) (fun _ hk => hk.2) (.bool t305)) (fun _ hk => hk.2) (.int .i64 t306)) (fun _ hk => hk.2) (.bool t307)) (fun _ hk => hk.2) (.bool t308)) (fun _ h_ => h_.1))) (Kd.R_base ho0) hb); have n3_ := Aside0.mk (Kd.N_elder' (by (with_reducible repeat (first | apply Kd.N_alloc | apply Kd.N_drewN | apply Kd.N_drew)); exact (Kd.N_mono (Kd.N_far (p := ⟨gb281, 7, none⟩) (Kd.N_far (p := ⟨gb281, 6, none⟩) (Kd.N_far (p := ⟨gb281, 5, none⟩) (Kd.N_far (p := ⟨gb281, 4, none⟩) (Kd.N_far (p := ⟨gb281, 3, none⟩) (Kd.N_far (p := ⟨gb281, 2, none⟩) (Kd.N_far (p := ⟨gb281, 1, none⟩) (Kd.N_mono HO299.out (fun k_ hk => (⟨hk, hk.2.2.2.2⟩ : _ ∧ k_ ≠ gb281))) (fun _ hk => hk.2) (.slice Ao41 t300.length co41)) (fun _ hk => hk.2) (.int .i64 t303)) (fun _ hk => hk.2) (.bool t304)) (fun _ hk => hk.2) (.bool t305)) (fun _ hk => hk.2) (.int .i64 t306)) (fun _ hk => hk.2) (.bool t307)) (fun _ hk => hk.2) (.bool t308)) (fun _ h_ => h_.1))) (Kd.R_base ho0) hb); have n4_ := Aside0.mk (Kd.R_elder' (by (with_reducible repeat (first | apply Kd.R_alloc | apply Kd.R_drewN | apply Kd.R_drew)); exact (Kd.R_mono (Kd.R_far (p := ⟨gb281, 7, none⟩) (Kd.R_far (p := ⟨gb281, 6, none⟩) (Kd.R_far (p := ⟨gb281, 5, none⟩) (Kd.R_far (p := ⟨gb281, 4, none⟩) (Kd.R_far (p := ⟨gb281, 3, none⟩) (Kd.R_far (p := ⟨gb281, 2, none⟩) (Kd.R_far (p := ⟨gb281, 1, none⟩) (Kd.R_types HO302.out BK281.out (by decide)) (fun _ hk => hk.2) (.slice Ao41 t300.length co41)) (fun _ hk => hk.2) (.int .i64 t303)) (fun _ hk => hk.2) (.bool t304)) (fun _ hk => hk.2) (.bool t305)) (fun _ hk => hk.2) (.int .i64 t306)) (fun _ hk => hk.2) (.bool t307)) (fun _ hk => hk.2) (.bool t308)) (fun _ h_ => h_.1))) (Kd.R_base ho0) hb); have n5_ := Aside0.mk (Kd.R_lower (Kd.R_new' (Kd.R_new' (Kd.R_new' ho0 (Kd.R_lt (by (with_reducible repeat (first | apply Kd.R_alloc | apply Kd.R_drewN | apply Kd.R_drew)); exact (Kd.R_mono (Kd.R_far (p := ⟨gb281, 7, none⟩) (Kd.R_far (p := ⟨gb281, 6, none⟩) (Kd.R_far (p := ⟨gb281, 5, none⟩) (Kd.R_far (p := ⟨gb281, 4, none⟩) (Kd.R_far (p := ⟨gb281, 3, none⟩) (Kd.R_far (p := ⟨gb281, 2, none⟩) (Kd.R_far (p := ⟨gb281, 1, none⟩) (Kd.R_types HO290.out BK281.out (by decide)) (fun _ hk => hk.2) (.slice Ao41 t300.length co41)) (fun _ hk => hk.2) (.int .i64 t303)) (fun _ hk => hk.2) (.bool t304)) (fun _ hk => hk.2) (.bool t305)) (fun _ hk => hk.2) (.int .i64 t306)) (fun _ hk => hk.2) (.bool t307)) (fun _ hk => hk.2) (.bool t308)) (fun _ h_ => h_.1))))) (Kd.R_lt (by (with_reducible repeat (first | apply Kd.R_alloc | apply Kd.R_drewN | apply Kd.R_drew)); exact (Kd.R_mono (Kd.R_far (p := ⟨gb281, 7, none⟩) (Kd.R_far (p := ⟨gb281, 6, none⟩) (Kd.R_far (p := ⟨gb281, 5, none⟩) (Kd.R_far (p := ⟨gb281, 4, none⟩) (Kd.R_far (p := ⟨gb281, 3, none⟩) (Kd.R_far (p := ⟨gb281, 2, none⟩) (Kd.R_far (p := ⟨gb281, 1, none⟩) (Kd.R_types HO293.out BK281.out (by decide)) (fun _ hk => hk.2) (.slice Ao41 t300.length co41)) (fun _ hk => hk.2) (.int .i64 t303)) (fun _ hk => hk.2) (.bool t304)) (fun _ hk => hk.2) (.bool t305)) (fun _ hk => hk.2) (.int .i64 t306)) (fun _ hk => hk.2) (.bool t307)) (fun _ hk => hk.2) (.bool t308)) (fun _ h_ => h_.1))))) (Kd.R_lt (by (with_reducible repeat (first | apply Kd.R_alloc | apply Kd.R_drewN | apply Kd.R_drew)); exact (Kd.R_mono (Kd.R_far (p := ⟨gb281, 7, none⟩) (Kd.R_far (p := ⟨gb281, 6, none⟩) (Kd.R_far (p := ⟨gb281, 5, none⟩) (Kd.R_far (p := ⟨gb281, 4, none⟩) (Kd.R_far (p := ⟨gb281, 3, none⟩) (Kd.R_far (p := ⟨gb281, 2, none⟩) (Kd.R_far (p := ⟨gb281, 1, none⟩) (Kd.R_types HO302.out BK281.out (by decide)) (fun _ hk => hk.2) (.slice Ao41 t300.length co41)) (fun _ hk => hk.2) (.int .i64 t303)) (fun _ hk => hk.2) (.bool t304)) (fun _ hk => hk.2) (.bool t305)) (fun _ hk => hk.2) (.int .i64 t306)) (fun _ hk => hk.2) (.bool t307)) (fun _ hk => hk.2) (.bool t308)) (fun _ h_ => h_.1))))) (below_size (by repeat (first | (with_reducible first | exact HB.out | apply below_alloc | apply pw_below_drewN | apply below_drew1 | refine below_set ?_ GE281.out) | exact HB.out)))); have n6_ := Aside0.mk (blk_below (g := gb281) (o := .cells #[.int .i64 a0, .slice Ao41 t300.length co41, .int .i64 t303, .bool t304, .bool t305, .int .i64 t306, .bool t307, .bool t308] 70 (0, 0)) (by (with_reducible repeat (first | refine blk_drewN ?_ _ | refine blk_drew ?_ | refine blk_alloc ?_ _)); refine blk_put (cs := #[.int .i64 a0, .slice Ao41 t300.length co41, .int .i64 t303, .bool t304, .bool t305, .int .i64 t306, .bool t307, .bool false]) ?_ 7 _ rfl; (with_reducible repeat (first | refine blk_drewN ?_ _ | refine blk_drew ?_ | refine blk_alloc ?_ _)); refine blk_put (cs := #[.int .i64 a0, .slice Ao41 t300.length co41, .int .i64 t303, .bool t304, .bool t305, .int .i64 t306, .bool false, .bool false]) ?_ 6 _ rfl; (with_reducible repeat (first | refine blk_drewN ?_ _ | refine blk_drew ?_ | refine blk_alloc ?_ _)); refine blk_put (cs := #[.int .i64 a0, .slice Ao41 t300.length co41, .int .i64 t303, .bool t304, .bool t305, .int .i64 0, .bool false, .bool false]) ?_ 5 _ rfl; (with_reducible repeat (first | refine blk_drewN ?_ _ | refine blk_drew ?_ | refine blk_alloc ?_ _)); refine blk_put (cs := #[.int .i64 a0, .slice Ao41 t300.length co41, .int .i64 t303, .bool t304, .bool false, .int .i64 0, .bool false, .bool false]) ?_ 4 _ rfl; (with_reducible repeat (first | refine blk_drewN ?_ _ | refine blk_drew ?_ | refine blk_alloc ?_ _)); refine blk_put (cs := #[.int .i64 a0, .slice Ao41 t300.length co41, .int .i64 t303, .bool false, .bool false, .int .i64 0, .bool false, .bool false]) ?_ 3 _ rfl; (with_reducible repeat (first | refine blk_drewN ?_ _ | refine blk_drew ?_ | refine blk_alloc ?_ _)); refine blk_put (cs := #[.int .i64 a0, .slice Ao41 t300.length co41, .int .i64 0, .bool false, .bool false, .int .i64 0, .bool false, .bool false]) ?_ 2 _ rfl; (with_reducible repeat (first | refine blk_drewN ?_ _ | refine blk_drew ?_ | refine blk_alloc ?_ _)); refine blk_put (cs := #[.int .i64 a0, .slice none 0 0, .int .i64 0, .bool false, .bool false, .int .i64 0, .bool false, .bool false]) ?_ 1 _ rfl; (with_reducible repeat (first | refine blk_drewN ?_ _ | refine blk_drew ?_ | refine blk_alloc ?_ _)); exact BK281.out) hb); have n7_ := Aside0.mk (below_step (by repeat (first | (with_reducible first | exact HB.out | apply below_alloc | apply pw_below_drewN | apply below_drew1 | refine below_set ?_ GE281.out) | exact HB.out)) hb); clear HO290; clear HO293; clear HO296; clear HO299; clear HO302; clear BK281; clear HB; have HO290 := n0_; have HO293 := n1_; have HO296 := n2_; have HO299 := n3_; have HO302 := n4_; have HO311 := n5_; have BK281 := n6_; have HB := n7_; clear n0_ n1_ n2_ n3_ n4_ n5_ n6_ n7_; (try clear hb); (try clear hb2); (try clear hk); (try clear hi); (try clear ho0); have hcz44_0 : w43.cell? ⟨gb281, 0, none⟩ = some (.int .i64 a0) := (blk_cell BK281.out 0).trans rfl; have hcz44_1 : w43.cell? ⟨gb281, 1, none⟩ = some (.slice Ao41 t300.length co41) := (blk_cell BK281.out 1).trans rfl; have hcz44_2 : w43.cell? ⟨gb281, 2, none⟩ = some (.int .i64 t303) := (blk_cell BK281.out 2).trans rfl; have hcz44_3 : w43.cell? ⟨gb281, 3, none⟩ = some (.bool t304) := (blk_cell BK281.out 3).trans rfl; have hcz44_4 : w43.cell? ⟨gb281, 4, none⟩ = some (.bool t305) := (blk_cell BK281.out 4).trans rfl; have hcz44_5 : w43.cell? ⟨gb281, 5, none⟩ = some (.int .i64 t306) := (blk_cell BK281.out 5).trans rfl; have hcz44_6 : w43.cell? ⟨gb281, 6, none⟩ = some (.bool t307) := (blk_cell BK281.out 6).trans rfl; have hcz44_7 : w43.cell? ⟨gb281, 7, none⟩ = some (.bool t308) := (blk_cell BK281.out 7).trans rfl; have hfz44_0 := blk_frozen BK281.out 0; have hfz44_1 := blk_frozen BK281.out 1; have hfz44_2 := blk_frozen BK281.out 2; have hfz44_3 := blk_frozen BK281.out 3; have hfz44_4 := blk_frozen BK281.out 4; have hfz44_5 := blk_frozen BK281.out 5; have hfz44_6 := blk_frozen BK281.out 6; have hfz44_7 := blk_frozen BK281.out 7; obtain ⟨Ao45, co45, eo45⟩ := Kd.R_slice HO311.out; subst eo45) | ((with_reducible refine gate_callee (f := 25) rfl ?_); (try (refine gate_guard (by rfl) ?_; dsimp only)); refine goesL_ (some 58) rfl rfl Try.func25 (by kernel_rfl) rfl #[.pointer (some ⟨gb281, 0, none⟩), .slice Ao45 t309.length co45] rfl (by (try simp only [List.map_toArray, List.map_cons, List.map_nil]); first | done | rfl) ?_; refine (sdx gb281 a0 (fun k_ => some k_ = (.slice Ao41 t300.length co41 : Value).ownBlock) (.slice Ao41 t300.length co41) t300 t303 t304 t305 t306 t307 t308 _ _ t309 t312 t315 t318 t319 t320 t321 t322 t323 w _ ?side1 ?side2 ?side3 ?side4 A27.out ?side5 ?side6 ?side7).mono ?_; (case side1 => repeat (first | (with_reducible first | exact HB.out | apply below_alloc | apply pw_below_drewN | apply below_drew1 | refine below_set ?_ GE281.out) | exact HB.out)); (case side2 => exact Kd.R_tight rfl HO302.out); (case side3 => exact Kd.C_kept_own (HO311.out) (fun k_ hk_ hs_ => (hk_.2) hs_)); (case side4 => exact (Kd.R_reads' HO311.out).2.1); (case side5 => exact (by (with_reducible repeat (first | refine blk_drewN ?_ _ | refine blk_drew ?_ | refine blk_alloc ?_ _)); exact BK281.out)); (case side6 => exact GE281.out); (case side7 => exact (fun hs_ => (fun e_ => (Kd.R_ne HO302.out BK281.out (by decide)) e_) hs_)); rintro e wq_ ⟨w46, v313, v316, rfl, rfl, ho0, ho1, hb, hkp⟩; refine ⟨_, rfl, ?_⟩; have n0_ := Aside0.mk (blk_kept (by (with_reducible repeat (first | refine blk_drewN ?_ _ | refine blk_drew ?_ | refine blk_alloc ?_ _)); exact BK281.out) hkp (fun hs_ => (fun e_ => (Kd.R_ne HO302.out BK281.out (by decide)) e_) hs_)); have n1_ := Aside0.mk (Kd.R_mono (ok' := fun k_ => some k_ ≠ (.slice Ao37 y291.length co37 : Value).ownBlock ∧ some k_ ≠ (.slice Ao45 t309.length co45 : Value).ownBlock ∧ some k_ ≠ (v316 : Value).ownBlock) (Kd.R_keptB (HO290.out) hkp (fun k_ hk_ hs_ => (hk_.1.2) hs_)) (fun k_ hk_ => ⟨hk_.1.1.1, hk_.1.2, fun e_ => Or.elim (ho1.1 k_ e_.symm) (fun hs_ => hk_.2.1 hs_) (fun hn_ => Nat.not_le.2 hk_.2.2 hn_)⟩)); have n2_ := Aside0.mk (Kd.R_mono (ok' := fun k_ => some k_ ≠ (.slice Ao36 t288.length co36 : Value).ownBlock ∧ some k_ ≠ (.slice Ao45 t309.length co45 : Value).ownBlock ∧ some k_ ≠ (v316 : Value).ownBlock) (Kd.R_keptB (HO293.out) hkp (fun k_ hk_ hs_ => (hk_.1.2) hs_)) (fun k_ hk_ => ⟨hk_.1.1.1, hk_.1.2, fun e_ => Or.elim (ho1.1 k_ e_.symm) (fun hs_ => hk_.2.1 hs_) (fun hn_ => Nat.not_le.2 hk_.2.2 hn_)⟩)); have n3_ := Aside0.mk (Kd.N_mono (ok' := fun k_ => some k_ ≠ (.slice Ao36 t288.length co36 : Value).ownBlock ∧ some k_ ≠ (v298 : Value).ownBlock ∧ some k_ ≠ (.slice Ao45 t309.length co45 : Value).ownBlock ∧ k_ ≠ gb281 ∧ some k_ ≠ (v313 : Value).ownBlock ∧ some k_ ≠ (v316 : Value).ownBlock) (Kd.N_keptB (HO296.out) hkp (fun k_ hk_ hs_ => (hk_.1.2.2.2) hs_)) (fun k_ hk_ => ⟨hk_.1.1.1, hk_.1.1.2.2.1, hk_.1.2, hk_.1.1.2.1, fun e_ => Or.elim ((Kd.S_R ho0).1 k_ e_.symm).1 (fun hs_ => hk_.2.1 hs_) (fun hn_ => Nat.not_le.2 hk_.2.2 hn_), fun e_ => Or.elim (ho1.1 k_ e_.symm) (fun hs_ => hk_.2.1 hs_) (fun hn_ => Nat.not_le.2 hk_.2.2 hn_)⟩)); have n4_ := Aside0.mk (Kd.N_mono (ok' := fun k_ => some k_ ≠ (.slice Ao36 t288.length co36 : Value).ownBlock ∧ some k_ ≠ (.slice Ao37 y291.length co37 : Value).ownBlock ∧ some k_ ≠ (v295 : Value).ownBlock ∧ some k_ ≠ (.slice Ao45 t309.length co45 : Value).ownBlock ∧ k_ ≠ gb281 ∧ some k_ ≠ (v313 : Value).ownBlock ∧ some k_ ≠ (v316 : Value).ownBlock) (Kd.N_keptB (HO299.out) hkp (fun k_ hk_ hs_ => (hk_.1.1) hs_)) (fun k_ hk_ => ⟨hk_.1.1.2.1, hk_.1.1.2.2.1, hk_.1.1.2.2.2.1, hk_.1.2, hk_.1.1.2.2.2.2, fun e_ => Or.elim ((Kd.S_R ho0).1 k_ e_.symm).1 (fun hs_ => hk_.2.1 hs_) (fun hn_ => Nat.not_le.2 hk_.2.2 hn_), fun e_ => Or.elim (ho1.1 k_ e_.symm) (fun hs_ => hk_.2.1 hs_) (fun hn_ => Nat.not_le.2 hk_.2.2 hn_)⟩)); have n5_ := Aside0.mk (Kd.R_mono (ok' := fun k_ => some k_ ≠ (.slice Ao36 t288.length co36 : Value).ownBlock ∧ some k_ ≠ (.slice Ao37 y291.length co37 : Value).ownBlock ∧ some k_ ≠ (v316 : Value).ownBlock) (Kd.R_keptB (HO311.out) hkp (fun k_ hk_ hs_ => (hk_.2) hs_)) (fun k_ hk_ => ⟨hk_.1.1.1.2, hk_.1.1.2, fun e_ => Or.elim (ho1.1 k_ e_.symm) (fun hs_ => hk_.2.1 hs_) (fun hn_ => Nat.not_le.2 hk_.2.2 hn_)⟩)); have n6_ := Aside0.mk (Kd.N_lower (Kd.N_mono (ok' := fun k_ => some k_ ≠ (v316 : Value).ownBlock ∧ some k_ ≠ (.slice Ao36 t288.length co36 : Value).ownBlock ∧ some k_ ≠ (.slice Ao37 y291.length co37 : Value).ownBlock ∧ some k_ ≠ (v295 : Value).ownBlock ∧ some k_ ≠ (v298 : Value).ownBlock ∧ some k_ ≠ (.slice Ao45 t309.length co45 : Value).ownBlock ∧ k_ ≠ gb281) (Kd.S_N ho0) (fun k_ hk_ => ⟨hk_.2, Or.elim hk_.1 (fun hs_ => fun e_ => (((HO290.out).1 k_ e_.symm).1.2) hs_) (fun hn_ => (Kd.fresh' (Kd.R_lt (by (with_reducible repeat (first | apply Kd.R_alloc | apply Kd.R_drewN | apply Kd.R_drew)); exact HO290.out)) k_ hn_)), Or.elim hk_.1 (fun hs_ => fun e_ => (((HO293.out).1 k_ e_.symm).1.2) hs_) (fun hn_ => (Kd.fresh' (Kd.R_lt (by (with_reducible repeat (first | apply Kd.R_alloc | apply Kd.R_drewN | apply Kd.R_drew)); exact HO293.out)) k_ hn_)), Or.elim hk_.1 (fun hs_ => fun e_ => (((HO296.out).1 k_ e_.symm).1.2.2.2) hs_) (fun hn_ => (Kd.fresh' (Kd.N_lt (by (with_reducible repeat (first | apply Kd.N_alloc | apply Kd.N_drewN | apply Kd.N_drew)); exact HO296.out)) k_ hn_)), Or.elim hk_.1 (fun hs_ => fun e_ => (((HO299.out).1 k_ e_.symm).1.1) hs_) (fun hn_ => (Kd.fresh' (Kd.N_lt (by (with_reducible repeat (first | apply Kd.N_alloc | apply Kd.N_drewN | apply Kd.N_drew)); exact HO299.out)) k_ hn_)), Or.elim hk_.1 (fun hs_ => fun e_ => (((HO311.out).1 k_ e_.symm).2) hs_) (fun hn_ => (Kd.fresh' (Kd.R_lt (by (with_reducible repeat (first | apply Kd.R_alloc | apply Kd.R_drewN | apply Kd.R_drew)); exact HO311.out)) k_ hn_)), Or.elim hk_.1 (fun hs_ => fun e_ => (Kd.R_ne HO302.out BK281.out (by decide)) (by rw [← e_]; exact hs_)) (fun hn_ => (Kd.freshB (g := gb281) (o := .cells #[.int .i64 a0, .slice Ao41 t300.length co41, .int .i64 t303, .bool t304, .bool t305, .int .i64 t306, .bool t307, .bool t308] 70 (0, 0)) (by (with_reducible repeat (first | refine blk_drewN ?_ _ | refine blk_drew ?_ | refine blk_alloc ?_ _)); exact BK281.out) k_ hn_))⟩)) (Nat.le_refl _)); have n7_ := Aside0.mk (Kd.R_mono (ok' := fun k_ => some k_ ≠ (.slice Ao36 t288.length co36 : Value).ownBlock ∧ some k_ ≠ (.slice Ao37 y291.length co37 : Value).ownBlock ∧ some k_ ≠ (.slice Ao45 t309.length co45 : Value).ownBlock) ho1 (fun k_ hk_ => ⟨Or.elim hk_ (fun hs_ => fun e_ => (((HO290.out).1 k_ e_.symm).1.2) hs_) (fun hn_ => (Kd.fresh' (Kd.R_lt (by (with_reducible repeat (first | apply Kd.R_alloc | apply Kd.R_drewN | apply Kd.R_drew)); exact HO290.out)) k_ hn_)), Or.elim hk_ (fun hs_ => fun e_ => (((HO293.out).1 k_ e_.symm).1.2) hs_) (fun hn_ => (Kd.fresh' (Kd.R_lt (by (with_reducible repeat (first | apply Kd.R_alloc | apply Kd.R_drewN | apply Kd.R_drew)); exact HO293.out)) k_ hn_)), Or.elim hk_ (fun hs_ => fun e_ => (((HO311.out).1 k_ e_.symm).2) hs_) (fun hn_ => (Kd.fresh' (Kd.R_lt (by (with_reducible repeat (first | apply Kd.R_alloc | apply Kd.R_drewN | apply Kd.R_drew)); exact HO311.out)) k_ hn_))⟩)); have n8_ := Aside0.mk (hb); clear BK281; clear HO290; clear HO293; clear HO296; clear HO299; clear HO311; clear HB; clear HO302; have BK281 := n0_; have HO290 := n1_; have HO293 := n2_; have HO296 := n3_; have HO299 := n4_; have HO311 := n5_; have HO314 := n6_; have HO317 := n7_; have HB := n8_; clear n0_ n1_ n2_ n3_ n4_ n5_ n6_ n7_ n8_; (try clear hb); (try clear hkp); (try clear ho0); (try clear ho1); obtain ⟨Ao47, co47, eo47⟩ := Kd.R_slice HO317.out; subst eo47; have hcz48_0 : w46.cell? ⟨gb281, 0, none⟩ = some (.int .i64 a0) := (blk_cell BK281.out 0).trans rfl; have hcz48_1 : w46.cell? ⟨gb281, 1, none⟩ = some (.slice Ao41 t300.length co41) := (blk_cell BK281.out 1).trans rfl; have hcz48_2 : w46.cell? ⟨gb281, 2, none⟩ = some (.int .i64 t303) := (blk_cell BK281.out 2).trans rfl; have hcz48_3 : w46.cell? ⟨gb281, 3, none⟩ = some (.bool t304) := (blk_cell BK281.out 3).trans rfl; have hcz48_4 : w46.cell? ⟨gb281, 4, none⟩ = some (.bool t305) := (blk_cell BK281.out 4).trans rfl; have hcz48_5 : w46.cell? ⟨gb281, 5, none⟩ = some (.int .i64 t306) := (blk_cell BK281.out 5).trans rfl; have hcz48_6 : w46.cell? ⟨gb281, 6, none⟩ = some (.bool t307) := (blk_cell BK281.out 6).trans rfl; have hcz48_7 : w46.cell? ⟨gb281, 7, none⟩ = some (.bool t308) := (blk_cell BK281.out 7).trans rfl; have hfz48_0 := blk_frozen BK281.out 0; have hfz48_1 := blk_frozen BK281.out 1; have hfz48_2 := blk_frozen BK281.out 2; have hfz48_3 := blk_frozen BK281.out 3; have hfz48_4 := blk_frozen BK281.out 4; have hfz48_5 := blk_frozen BK281.out 5; have hfz48_6 := blk_frozen BK281.out 6; have hfz48_7 := blk_frozen BK281.out 7; obtain ⟨Ao50, co50, eo50⟩ := Kd.N_slice HO314.out; subst eo50) | ((with_reducible refine gate_builtin (b := .append) (xs := #[.tmp 54, .tmp 58]) rfl ?_); (try (refine gate_guard (by rfl) ?_; dsimp only)); at_builtin; refine Kd.N_append_rows k54 (w0 := w) w.heap.size rfl (.tmp 54) (.tmp 58) 46 54 (.agg #[(.int .i64 0), (.slice none 0 0)]) 32 rfl Try.underlying46 info54 rfl (by decide) (by omega) v298 t297 t312 _ _ _ (fun k_ => some k_ ≠ (.slice Ao36 t288.length co36 : Value).ownBlock ∧ some k_ ≠ (.slice Ao37 y291.length co37 : Value).ownBlock ∧ some k_ ≠ (v295 : Value).ownBlock ∧ some k_ ≠ (.slice Ao45 t309.length co45 : Value).ownBlock ∧ some k_ ≠ (.slice Ao47 t315.length co47 : Value).ownBlock ∧ k_ ≠ gb281) (fun k_ => ((fun k_ => some k_ ≠ (.slice Ao36 t288.length co36 : Value).ownBlock ∧ some k_ ≠ (.slice Ao37 y291.length co37 : Value).ownBlock ∧ some k_ ≠ (v295 : Value).ownBlock ∧ some k_ ≠ (.slice Ao45 t309.length co45 : Value).ownBlock ∧ some k_ ≠ (.slice Ao47 t315.length co47 : Value).ownBlock ∧ k_ ≠ gb281)) k_ ∧ some k_ ≠ (v298 : Value).ownBlock) rfl rfl ?aO ?aR (fun _ hk => hk) ?aF ?aB ?aS ?aL ?_; (case aR => exact (by skip; exact Kd.N_F (Kd.N_mono (ok' := (fun k_ => ((fun k_ => some k_ ≠ (.slice Ao36 t288.length co36 : Value).ownBlock ∧ some k_ ≠ (.slice Ao37 y291.length co37 : Value).ownBlock ∧ some k_ ≠ (v295 : Value).ownBlock ∧ some k_ ≠ (.slice Ao45 t309.length co45 : Value).ownBlock ∧ some k_ ≠ (.slice Ao47 t315.length co47 : Value).ownBlock ∧ k_ ≠ gb281)) k_ ∧ some k_ ≠ (v298 : Value).ownBlock)) ((Kd.N_far (p := ⟨gb281, 7, none⟩) (Kd.N_far (p := ⟨gb281, 6, none⟩) (Kd.N_far (p := ⟨gb281, 5, none⟩) (Kd.N_far (p := ⟨gb281, 4, none⟩) (Kd.N_far (p := ⟨gb281, 3, none⟩) (Kd.N_far (p := ⟨gb281, 2, none⟩) (Kd.N_far (p := ⟨gb281, 1, none⟩) (Kd.N_mono HO314.out (fun k_ hk => (⟨hk, hk.2.2.2.2.2.2⟩ : _ ∧ k_ ≠ gb281))) (fun _ hk => hk.2) (.slice Ao47 t315.length co47)) (fun _ hk => hk.2) (.int .i64 t318)) (fun _ hk => hk.2) (.bool t319)) (fun _ hk => hk.2) (.bool t320)) (fun _ hk => hk.2) (.int .i64 t321)) (fun _ hk => hk.2) (.bool t322)) (fun _ hk => hk.2) (.bool t323))) (fun k_ hk => ⟨⟨hk.1.2.1, ⟨hk.1.2.2.1, ⟨hk.1.2.2.2.1, ⟨hk.1.2.2.2.2.2.1, ⟨hk.1.1, hk.1.2.2.2.2.2.2⟩⟩⟩⟩⟩, hk.1.2.2.2.2.1⟩)))); (case aB => exact (by repeat (first | (with_reducible first | exact HB.out | apply below_alloc | apply pw_below_drewN | apply below_drew1 | refine below_set ?_ GE281.out) | exact HB.out))); (case aF => exact (fun k_ hk => ⟨Kd.fresh' (Kd.R_lt (by (with_reducible repeat (first | apply Kd.R_alloc | apply Kd.R_drewN | apply Kd.R_drew)); exact (Kd.R_mono (Kd.R_far (p := ⟨gb281, 7, none⟩) (Kd.R_far (p := ⟨gb281, 6, none⟩) (Kd.R_far (p := ⟨gb281, 5, none⟩) (Kd.R_far (p := ⟨gb281, 4, none⟩) (Kd.R_far (p := ⟨gb281, 3, none⟩) (Kd.R_far (p := ⟨gb281, 2, none⟩) (Kd.R_far (p := ⟨gb281, 1, none⟩) (Kd.R_types HO290.out BK281.out (by decide)) (fun _ hk => hk.2) (.slice Ao47 t315.length co47)) (fun _ hk => hk.2) (.int .i64 t318)) (fun _ hk => hk.2) (.bool t319)) (fun _ hk => hk.2) (.bool t320)) (fun _ hk => hk.2) (.int .i64 t321)) (fun _ hk => hk.2) (.bool t322)) (fun _ hk => hk.2) (.bool t323)) (fun _ h_ => h_.1)))) k_ hk, Kd.fresh' (Kd.R_lt (by (with_reducible repeat (first | apply Kd.R_alloc | apply Kd.R_drewN | apply Kd.R_drew)); exact (Kd.R_mono (Kd.R_far (p := ⟨gb281, 7, none⟩) (Kd.R_far (p := ⟨gb281, 6, none⟩) (Kd.R_far (p := ⟨gb281, 5, none⟩) (Kd.R_far (p := ⟨gb281, 4, none⟩) (Kd.R_far (p := ⟨gb281, 3, none⟩) (Kd.R_far (p := ⟨gb281, 2, none⟩) (Kd.R_far (p := ⟨gb281, 1, none⟩) (Kd.R_types HO293.out BK281.out (by decide)) (fun _ hk => hk.2) (.slice Ao47 t315.length co47)) (fun _ hk => hk.2) (.int .i64 t318)) (fun _ hk => hk.2) (.bool t319)) (fun _ hk => hk.2) (.bool t320)) (fun _ hk => hk.2) (.int .i64 t321)) (fun _ hk => hk.2) (.bool t322)) (fun _ hk => hk.2) (.bool t323)) (fun _ h_ => h_.1)))) k_ hk, Kd.fresh' (Kd.N_lt (by (with_reducible repeat (first | apply Kd.N_alloc | apply Kd.N_drewN | apply Kd.N_drew)); exact (Kd.N_mono (Kd.N_far (p := ⟨gb281, 7, none⟩) (Kd.N_far (p := ⟨gb281, 6, none⟩) (Kd.N_far (p := ⟨gb281, 5, none⟩) (Kd.N_far (p := ⟨gb281, 4, none⟩) (Kd.N_far (p := ⟨gb281, 3, none⟩) (Kd.N_far (p := ⟨gb281, 2, none⟩) (Kd.N_far (p := ⟨gb281, 1, none⟩) (Kd.N_mono HO296.out (fun k_ hk => (⟨hk, hk.2.2.2.1⟩ : _ ∧ k_ ≠ gb281))) (fun _ hk => hk.2) (.slice Ao47 t315.length co47)) (fun _ hk => hk.2) (.int .i64 t318)) (fun _ hk => hk.2) (.bool t319)) (fun _ hk => hk.2) (.bool t320)) (fun _ hk => hk.2) (.int .i64 t321)) (fun _ hk => hk.2) (.bool t322)) (fun _ hk => hk.2) (.bool t323)) (fun _ h_ => h_.1)))) k_ hk, Kd.fresh' (Kd.R_lt (by (with_reducible repeat (first | apply Kd.R_alloc | apply Kd.R_drewN | apply Kd.R_drew)); exact (Kd.R_mono (Kd.R_far (p := ⟨gb281, 7, none⟩) (Kd.R_far (p := ⟨gb281, 6, none⟩) (Kd.R_far (p := ⟨gb281, 5, none⟩) (Kd.R_far (p := ⟨gb281, 4, none⟩) (Kd.R_far (p := ⟨gb281, 3, none⟩) (Kd.R_far (p := ⟨gb281, 2, none⟩) (Kd.R_far (p := ⟨gb281, 1, none⟩) (Kd.R_types HO311.out BK281.out (by decide)) (fun _ hk => hk.2) (.slice Ao47 t315.length co47)) (fun _ hk => hk.2) (.int .i64 t318)) (fun _ hk => hk.2) (.bool t319)) (fun _ hk => hk.2) (.bool t320)) (fun _ hk => hk.2) (.int .i64 t321)) (fun _ hk => hk.2) (.bool t322)) (fun _ hk => hk.2) (.bool t323)) (fun _ h_ => h_.1)))) k_ hk, Kd.fresh' (Kd.R_lt (by (with_reducible repeat (first | apply Kd.R_alloc | apply Kd.R_drewN | apply Kd.R_drew)); exact (Kd.R_mono (Kd.R_far (p := ⟨gb281, 7, none⟩) (Kd.R_far (p := ⟨gb281, 6, none⟩) (Kd.R_far (p := ⟨gb281, 5, none⟩) (Kd.R_far (p := ⟨gb281, 4, none⟩) (Kd.R_far (p := ⟨gb281, 3, none⟩) (Kd.R_far (p := ⟨gb281, 2, none⟩) (Kd.R_far (p := ⟨gb281, 1, none⟩) (Kd.R_types HO317.out BK281.out (by decide)) (fun _ hk => hk.2) (.slice Ao47 t315.length co47)) (fun _ hk => hk.2) (.int .i64 t318)) (fun _ hk => hk.2) (.bool t319)) (fun _ hk => hk.2) (.bool t320)) (fun _ hk => hk.2) (.int .i64 t321)) (fun _ hk => hk.2) (.bool t322)) (fun _ hk => hk.2) (.bool t323)) (fun _ h_ => h_.1)))) k_ hk, Kd.freshB (g := gb281) (o := .cells #[.int .i64 a0, .slice Ao47 t315.length co47, .int .i64 t318, .bool t319, .bool t320, .int .i64 t321, .bool t322, .bool t323] 70 (0, 0)) (by (with_reducible repeat (first | refine blk_drewN ?_ _ | refine blk_drew ?_ | refine blk_alloc ?_ _)); refine blk_put (cs := #[.int .i64 a0, .slice Ao47 t315.length co47, .int .i64 t318, .bool t319, .bool t320, .int .i64 t321, .bool t322, .bool t308]) ?_ 7 _ rfl; (with_reducible repeat (first | refine blk_drewN ?_ _ | refine blk_drew ?_ | refine blk_alloc ?_ _)); refine blk_put (cs := #[.int .i64 a0, .slice Ao47 t315.length co47, .int .i64 t318, .bool t319, .bool t320, .int .i64 t321, .bool t307, .bool t308]) ?_ 6 _ rfl; (with_reducible repeat (first | refine blk_drewN ?_ _ | refine blk_drew ?_ | refine blk_alloc ?_ _)); refine blk_put (cs := #[.int .i64 a0, .slice Ao47 t315.length co47, .int .i64 t318, .bool t319, .bool t320, .int .i64 t306, .bool t307, .bool t308]) ?_ 5 _ rfl; (with_reducible repeat (first | refine blk_drewN ?_ _ | refine blk_drew ?_ | refine blk_alloc ?_ _)); refine blk_put (cs := #[.int .i64 a0, .slice Ao47 t315.length co47, .int .i64 t318, .bool t319, .bool t305, .int .i64 t306, .bool t307, .bool t308]) ?_ 4 _ rfl; (with_reducible repeat (first | refine blk_drewN ?_ _ | refine blk_drew ?_ | refine blk_alloc ?_ _)); refine blk_put (cs := #[.int .i64 a0, .slice Ao47 t315.length co47, .int .i64 t318, .bool t304, .bool t305, .int .i64 t306, .bool t307, .bool t308]) ?_ 3 _ rfl; (with_reducible repeat (first | refine blk_drewN ?_ _ | refine blk_drew ?_ | refine blk_alloc ?_ _)); refine blk_put (cs := #[.int .i64 a0, .slice Ao47 t315.length co47, .int .i64 t303, .bool t304, .bool t305, .int .i64 t306, .bool t307, .bool t308]) ?_ 2 _ rfl; (with_reducible repeat (first | refine blk_drewN ?_ _ | refine blk_drew ?_ | refine blk_alloc ?_ _)); refine blk_put (cs := #[.int .i64 a0, .slice Ao41 t300.length co41, .int .i64 t303, .bool t304, .bool t305, .int .i64 t306, .bool t307, .bool t308]) ?_ 1 _ rfl; (with_reducible repeat (first | refine blk_drewN ?_ _ | refine blk_drew ?_ | refine blk_alloc ?_ _)); exact BK281.out) k_ hk⟩)); (case aO => exact (by (with_reducible repeat (first | apply Kd.N_alloc | apply Kd.N_drewN | apply Kd.N_drew)); exact Kd.N_mono (Kd.N_far (p := ⟨gb281, 7, none⟩) (Kd.N_far (p := ⟨gb281, 6, none⟩) (Kd.N_far (p := ⟨gb281, 5, none⟩) (Kd.N_far (p := ⟨gb281, 4, none⟩) (Kd.N_far (p := ⟨gb281, 3, none⟩) (Kd.N_far (p := ⟨gb281, 2, none⟩) (Kd.N_far (p := ⟨gb281, 1, none⟩) (Kd.N_mono HO299.out (fun k_ hk => (⟨hk, hk.2.2.2.2.1⟩ : _ ∧ k_ ≠ gb281))) (fun _ hk => hk.2) (.slice Ao47 t315.length co47)) (fun _ hk => hk.2) (.int .i64 t318)) (fun _ hk => hk.2) (.bool t319)) (fun _ hk => hk.2) (.bool t320)) (fun _ hk => hk.2) (.int .i64 t321)) (fun _ hk => hk.2) (.bool t322)) (fun _ hk => hk.2) (.bool t323)) (fun _ hk => ⟨hk.1.1, ⟨hk.1.2.1, ⟨hk.1.2.2.1, ⟨hk.1.2.2.2.1, ⟨hk.1.2.2.2.2.2.2, hk.1.2.2.2.2.1⟩⟩⟩⟩⟩))); (case aS => exact (below_size (by repeat (first | (with_reducible first | exact HB.out | apply below_alloc | apply pw_below_drewN | apply below_drew1 | refine below_set ?_ GE281.out) | exact HB.out)))); (case aL => have := LMc28.out; omega); intro v325 w49 ho hb hg hat; rw [← Ny324.out] at ho; have n0_ := Aside0.mk (blk_grown (g := gb281) (o := .cells #[.int .i64 a0, .slice Ao47 t315.length co47, .int .i64 t318, .bool t319, .bool t320, .int .i64 t321, .bool t322, .bool t323] 70 (0, 0)) (by (with_reducible repeat (first | refine blk_drewN ?_ _ | refine blk_drew ?_ | refine blk_alloc ?_ _)); refine blk_put (cs := #[.int .i64 a0, .slice Ao47 t315.length co47, .int .i64 t318, .bool t319, .bool t320, .int .i64 t321, .bool t322, .bool t308]) ?_ 7 _ rfl; (with_reducible repeat (first | refine blk_drewN ?_ _ | refine blk_drew ?_ | refine blk_alloc ?_ _)); refine blk_put (cs := #[.int .i64 a0, .slice Ao47 t315.length co47, .int .i64 t318, .bool t319, .bool t320, .int .i64 t321, .bool t307, .bool t308]) ?_ 6 _ rfl; (with_reducible repeat (first | refine blk_drewN ?_ _ | refine blk_drew ?_ | refine blk_alloc ?_ _)); refine blk_put (cs := #[.int .i64 a0, .slice Ao47 t315.length co47, .int .i64 t318, .bool t319, .bool t320, .int .i64 t306, .bool t307, .bool t308]) ?_ 5 _ rfl; (with_reducible repeat (first | refine blk_drewN ?_ _ | refine blk_drew ?_ | refine blk_alloc ?_ _)); refine blk_put (cs := #[.int .i64 a0, .slice Ao47 t315.length co47, .int .i64 t318, .bool t319, .bool t305, .int .i64 t306, .bool t307, .bool t308]) ?_ 4 _ rfl; (with_reducible repeat (first | refine blk_drewN ?_ _ | refine blk_drew ?_ | refine blk_alloc ?_ _)); refine blk_put (cs := #[.int .i64 a0, .slice Ao47 t315.length co47, .int .i64 t318, .bool t304, .bool t305, .int .i64 t306, .bool t307, .bool t308]) ?_ 3 _ rfl; (with_reducible repeat (first | refine blk_drewN ?_ _ | refine blk_drew ?_ | refine blk_alloc ?_ _)); refine blk_put (cs := #[.int .i64 a0, .slice Ao47 t315.length co47, .int .i64 t303, .bool t304, .bool t305, .int .i64 t306, .bool t307, .bool t308]) ?_ 2 _ rfl; (with_reducible repeat (first | refine blk_drewN ?_ _ | refine blk_drew ?_ | refine blk_alloc ?_ _)); refine blk_put (cs := #[.int .i64 a0, .slice Ao41 t300.length co41, .int .i64 t303, .bool t304, .bool t305, .int .i64 t306, .bool t307, .bool t308]) ?_ 1 _ rfl; (with_reducible repeat (first | refine blk_drewN ?_ _ | refine blk_drew ?_ | refine blk_alloc ?_ _)); exact BK281.out) hg (Kd.N_ne HO299.out BK281.out (by decide))); have n1_ := Aside0.mk (Kd.R_over' (by (with_reducible repeat (first | apply Kd.R_alloc | apply Kd.R_drewN | apply Kd.R_drew)); exact (Kd.R_mono (Kd.R_far (p := ⟨gb281, 7, none⟩) (Kd.R_far (p := ⟨gb281, 6, none⟩) (Kd.R_far (p := ⟨gb281, 5, none⟩) (Kd.R_far (p := ⟨gb281, 4, none⟩) (Kd.R_far (p := ⟨gb281, 3, none⟩) (Kd.R_far (p := ⟨gb281, 2, none⟩) (Kd.R_far (p := ⟨gb281, 1, none⟩) (Kd.R_types HO290.out BK281.out (by decide)) (fun _ hk => hk.2) (.slice Ao47 t315.length co47)) (fun _ hk => hk.2) (.int .i64 t318)) (fun _ hk => hk.2) (.bool t319)) (fun _ hk => hk.2) (.bool t320)) (fun _ hk => hk.2) (.int .i64 t321)) (fun _ hk => hk.2) (.bool t322)) (fun _ hk => hk.2) (.bool t323)) (fun _ h_ => h_.1))) (Kd.N_typed (by (with_reducible repeat (first | apply Kd.N_alloc | apply Kd.N_drewN | apply Kd.N_drew)); exact (Kd.N_mono (Kd.N_far (p := ⟨gb281, 7, none⟩) (Kd.N_far (p := ⟨gb281, 6, none⟩) (Kd.N_far (p := ⟨gb281, 5, none⟩) (Kd.N_far (p := ⟨gb281, 4, none⟩) (Kd.N_far (p := ⟨gb281, 3, none⟩) (Kd.N_far (p := ⟨gb281, 2, none⟩) (Kd.N_far (p := ⟨gb281, 1, none⟩) (Kd.N_mono HO299.out (fun k_ hk => (⟨hk, hk.2.2.2.2.1⟩ : _ ∧ k_ ≠ gb281))) (fun _ hk => hk.2) (.slice Ao47 t315.length co47)) (fun _ hk => hk.2) (.int .i64 t318)) (fun _ hk => hk.2) (.bool t319)) (fun _ hk => hk.2) (.bool t320)) (fun _ hk => hk.2) (.int .i64 t321)) (fun _ hk => hk.2) (.bool t322)) (fun _ hk => hk.2) (.bool t323)) (fun _ h_ => h_.1)))) (by decide) hg); have n2_ := Aside0.mk (Kd.R_over' (by (with_reducible repeat (first | apply Kd.R_alloc | apply Kd.R_drewN | apply Kd.R_drew)); exact (Kd.R_mono (Kd.R_far (p := ⟨gb281, 7, none⟩) (Kd.R_far (p := ⟨gb281, 6, none⟩) (Kd.R_far (p := ⟨gb281, 5, none⟩) (Kd.R_far (p := ⟨gb281, 4, none⟩) (Kd.R_far (p := ⟨gb281, 3, none⟩) (Kd.R_far (p := ⟨gb281, 2, none⟩) (Kd.R_far (p := ⟨gb281, 1, none⟩) (Kd.R_types HO293.out BK281.out (by decide)) (fun _ hk => hk.2) (.slice Ao47 t315.length co47)) (fun _ hk => hk.2) (.int .i64 t318)) (fun _ hk => hk.2) (.bool t319)) (fun _ hk => hk.2) (.bool t320)) (fun _ hk => hk.2) (.int .i64 t321)) (fun _ hk => hk.2) (.bool t322)) (fun _ hk => hk.2) (.bool t323)) (fun _ h_ => h_.1))) (Kd.N_typed (by (with_reducible repeat (first | apply Kd.N_alloc | apply Kd.N_drewN | apply Kd.N_drew)); exact (Kd.N_mono (Kd.N_far (p := ⟨gb281, 7, none⟩) (Kd.N_far (p := ⟨gb281, 6, none⟩) (Kd.N_far (p := ⟨gb281, 5, none⟩) (Kd.N_far (p := ⟨gb281, 4, none⟩) (Kd.N_far (p := ⟨gb281, 3, none⟩) (Kd.N_far (p := ⟨gb281, 2, none⟩) (Kd.N_far (p := ⟨gb281, 1, none⟩) (Kd.N_mono HO299.out (fun k_ hk => (⟨hk, hk.2.2.2.2.1⟩ : _ ∧ k_ ≠ gb281))) (fun _ hk => hk.2) (.slice Ao47 t315.length co47)) (fun _ hk => hk.2) (.int .i64 t318)) (fun _ hk => hk.2) (.bool t319)) (fun _ hk => hk.2) (.bool t320)) (fun _ hk => hk.2) (.int .i64 t321)) (fun _ hk => hk.2) (.bool t322)) (fun _ hk => hk.2) (.bool t323)) (fun _ h_ => h_.1)))) (by decide) hg); have n3_ := Aside0.mk (Kd.N_afterv (ok := (fun k_ => some k_ ≠ (.slice Ao36 t288.length co36 : Value).ownBlock ∧ some k_ ≠ (.slice Ao45 t309.length co45 : Value).ownBlock ∧ some k_ ≠ (.slice Ao50 t312.length co50 : Value).ownBlock ∧ some k_ ≠ (.slice Ao47 t315.length co47 : Value).ownBlock ∧ k_ ≠ gb281)) (by (with_reducible repeat (first | apply Kd.N_alloc | apply Kd.N_drewN | apply Kd.N_drew)); exact Kd.N_mono (Kd.N_far (p := ⟨gb281, 7, none⟩) (Kd.N_far (p := ⟨gb281, 6, none⟩) (Kd.N_far (p := ⟨gb281, 5, none⟩) (Kd.N_far (p := ⟨gb281, 4, none⟩) (Kd.N_far (p := ⟨gb281, 3, none⟩) (Kd.N_far (p := ⟨gb281, 2, none⟩) (Kd.N_far (p := ⟨gb281, 1, none⟩) (Kd.N_mono HO296.out (fun k_ hk => (⟨hk, hk.2.2.2.1⟩ : _ ∧ k_ ≠ gb281))) (fun _ hk => hk.2) (.slice Ao47 t315.length co47)) (fun _ hk => hk.2) (.int .i64 t318)) (fun _ hk => hk.2) (.bool t319)) (fun _ hk => hk.2) (.bool t320)) (fun _ hk => hk.2) (.int .i64 t321)) (fun _ hk => hk.2) (.bool t322)) (fun _ hk => hk.2) (.bool t323)) (fun _ hk => ⟨⟨hk.1.1, ⟨hk.1.2.2.1, ⟨hk.1.2.2.2.2.1, ⟨hk.1.2.2.2.2.2, hk.1.2.2.2.1⟩⟩⟩⟩, hk.1.2.1⟩)) hg hat); have n4_ := Aside0.mk (Kd.R_over' (by (with_reducible repeat (first | apply Kd.R_alloc | apply Kd.R_drewN | apply Kd.R_drew)); exact (Kd.R_mono (Kd.R_far (p := ⟨gb281, 7, none⟩) (Kd.R_far (p := ⟨gb281, 6, none⟩) (Kd.R_far (p := ⟨gb281, 5, none⟩) (Kd.R_far (p := ⟨gb281, 4, none⟩) (Kd.R_far (p := ⟨gb281, 3, none⟩) (Kd.R_far (p := ⟨gb281, 2, none⟩) (Kd.R_far (p := ⟨gb281, 1, none⟩) (Kd.R_types HO311.out BK281.out (by decide)) (fun _ hk => hk.2) (.slice Ao47 t315.length co47)) (fun _ hk => hk.2) (.int .i64 t318)) (fun _ hk => hk.2) (.bool t319)) (fun _ hk => hk.2) (.bool t320)) (fun _ hk => hk.2) (.int .i64 t321)) (fun _ hk => hk.2) (.bool t322)) (fun _ hk => hk.2) (.bool t323)) (fun _ h_ => h_.1))) (Kd.N_typed (by (with_reducible repeat (first | apply Kd.N_alloc | apply Kd.N_drewN | apply Kd.N_drew)); exact (Kd.N_mono (Kd.N_far (p := ⟨gb281, 7, none⟩) (Kd.N_far (p := ⟨gb281, 6, none⟩) (Kd.N_far (p := ⟨gb281, 5, none⟩) (Kd.N_far (p := ⟨gb281, 4, none⟩) (Kd.N_far (p := ⟨gb281, 3, none⟩) (Kd.N_far (p := ⟨gb281, 2, none⟩) (Kd.N_far (p := ⟨gb281, 1, none⟩) (Kd.N_mono HO299.out (fun k_ hk => (⟨hk, hk.2.2.2.2.1⟩ : _ ∧ k_ ≠ gb281))) (fun _ hk => hk.2) (.slice Ao47 t315.length co47)) (fun _ hk => hk.2) (.int .i64 t318)) (fun _ hk => hk.2) (.bool t319)) (fun _ hk => hk.2) (.bool t320)) (fun _ hk => hk.2) (.int .i64 t321)) (fun _ hk => hk.2) (.bool t322)) (fun _ hk => hk.2) (.bool t323)) (fun _ h_ => h_.1)))) (by decide) hg); have n5_ := Aside0.mk (Kd.N_afterv (ok := (fun k_ => some k_ ≠ (.slice Ao36 t288.length co36 : Value).ownBlock ∧ some k_ ≠ (.slice Ao37 y291.length co37 : Value).ownBlock ∧ some k_ ≠ (v295 : Value).ownBlock ∧ some k_ ≠ (.slice Ao45 t309.length co45 : Value).ownBlock ∧ some k_ ≠ (.slice Ao47 t315.length co47 : Value).ownBlock ∧ k_ ≠ gb281)) (by (with_reducible repeat (first | apply Kd.N_alloc | apply Kd.N_drewN | apply Kd.N_drew)); exact Kd.N_mono (Kd.N_far (p := ⟨gb281, 7, none⟩) (Kd.N_far (p := ⟨gb281, 6, none⟩) (Kd.N_far (p := ⟨gb281, 5, none⟩) (Kd.N_far (p := ⟨gb281, 4, none⟩) (Kd.N_far (p := ⟨gb281, 3, none⟩) (Kd.N_far (p := ⟨gb281, 2, none⟩) (Kd.N_far (p := ⟨gb281, 1, none⟩) (Kd.N_mono HO314.out (fun k_ hk => (⟨hk, hk.2.2.2.2.2.2⟩ : _ ∧ k_ ≠ gb281))) (fun _ hk => hk.2) (.slice Ao47 t315.length co47)) (fun _ hk => hk.2) (.int .i64 t318)) (fun _ hk => hk.2) (.bool t319)) (fun _ hk => hk.2) (.bool t320)) (fun _ hk => hk.2) (.int .i64 t321)) (fun _ hk => hk.2) (.bool t322)) (fun _ hk => hk.2) (.bool t323)) (fun _ hk => ⟨⟨hk.1.2.1, ⟨hk.1.2.2.1, ⟨hk.1.2.2.2.1, ⟨hk.1.2.2.2.2.2.1, ⟨hk.1.1, hk.1.2.2.2.2.2.2⟩⟩⟩⟩⟩, hk.1.2.2.2.2.1⟩)) hg hat); have n6_ := Aside0.mk (Kd.R_over' (by (with_reducible repeat (first | apply Kd.R_alloc | apply Kd.R_drewN | apply Kd.R_drew)); exact (Kd.R_mono (Kd.R_far (p := ⟨gb281, 7, none⟩) (Kd.R_far (p := ⟨gb281, 6, none⟩) (Kd.R_far (p := ⟨gb281, 5, none⟩) (Kd.R_far (p := ⟨gb281, 4, none⟩) (Kd.R_far (p := ⟨gb281, 3, none⟩) (Kd.R_far (p := ⟨gb281, 2, none⟩) (Kd.R_far (p := ⟨gb281, 1, none⟩) (Kd.R_types HO317.out BK281.out (by decide)) (fun _ hk => hk.2) (.slice Ao47 t315.length co47)) (fun _ hk => hk.2) (.int .i64 t318)) (fun _ hk => hk.2) (.bool t319)) (fun _ hk => hk.2) (.bool t320)) (fun _ hk => hk.2) (.int .i64 t321)) (fun _ hk => hk.2) (.bool t322)) (fun _ hk => hk.2) (.bool t323)) (fun _ h_ => h_.1))) (Kd.N_typed (by (with_reducible repeat (first | apply Kd.N_alloc | apply Kd.N_drewN | apply Kd.N_drew)); exact (Kd.N_mono (Kd.N_far (p := ⟨gb281, 7, none⟩) (Kd.N_far (p := ⟨gb281, 6, none⟩) (Kd.N_far (p := ⟨gb281, 5, none⟩) (Kd.N_far (p := ⟨gb281, 4, none⟩) (Kd.N_far (p := ⟨gb281, 3, none⟩) (Kd.N_far (p := ⟨gb281, 2, none⟩) (Kd.N_far (p := ⟨gb281, 1, none⟩) (Kd.N_mono HO299.out (fun k_ hk => (⟨hk, hk.2.2.2.2.1⟩ : _ ∧ k_ ≠ gb281))) (fun _ hk => hk.2) (.slice Ao47 t315.length co47)) (fun _ hk => hk.2) (.int .i64 t318)) (fun _ hk => hk.2) (.bool t319)) (fun _ hk => hk.2) (.bool t320)) (fun _ hk => hk.2) (.int .i64 t321)) (fun _ hk => hk.2) (.bool t322)) (fun _ hk => hk.2) (.bool t323)) (fun _ h_ => h_.1)))) (by decide) hg); have n7_ := Aside0.mk (hb); have n8_ := Aside0.mk (ho); clear BK281; clear HO290; clear HO293; clear HO296; clear HO311; clear HO314; clear HO317; clear HB; clear HO299; have BK281 := n0_; have HO290 := n1_; have HO293 := n2_; have HO296 := n3_; have HO311 := n4_; have HO314 := n5_; have HO317 := n6_; have HB := n7_; have HO326 := n8_; clear n0_ n1_ n2_ n3_ n4_ n5_ n6_ n7_ n8_; clear ho hb hg hat; obtain ⟨Ao51, co51, eo51⟩ := Kd.N_slice HO296.out; subst eo51))
              (try simp only [Act.put, List.setIfInBounds_toArray, List.set_cons_zero, List.set_cons_succ])
              go_cut [73] (fun v73 wc => ∃ (kq : Nat) (x73_28 : Bool), v73 = .bool x73_28 ∧ Aside0 (marlinelaw07_SyncWraps.j1 kq a0 l2 l3 y324 (t294.length : Int) x73_28 a0 t315 t318 t319 t320 t321 t322 t323 = some r) ∧ Aside0 (kq ≤ kj4) ∧ Aside0 (Kd.N k54 54 wc w.heap.size (fun k_ => some k_ ≠ ((.slice Ao47 t315.length co47) : Value).ownBlock ∧ k_ ≠ gb281) v325 y324) ∧ Aside0 (Kd.R (Kd.int .u8) 5 wc w.heap.size (fun _ => True) (.slice Ao47 t315.length co47) t315) ∧ Aside0 (wc.heap[gb281]? = some (.cells #[.int .i64 a0, (.slice Ao47 t315.length co47), .int .i64 t318, .bool t319, .bool t320, .int .i64 t321, .bool t322, .bool t323] 70 (0, 0))) ∧ Aside0 (Below w.heap.size w wc))
              case first =>
                have H := HC29.out
                clear HC29
                by_cases c52 : (y324.length : Int) < (t294.length : Int)
                · rw [if_pos c52] at H
                  have c52b0 : decide ((y324.length : Int) < (t294.length : Int)) = true := decide_eq_true c52
                  have c52b1 : decide (y324.length < t294.length) = true := decide_eq_true (Int.ofNat_lt.mp c52)
                  clear c52
                  (first | rw [c52b0] | (simp only [i64_w, i32_w]; rw [c52b0]) | skip)
                  have H' := Aside0.mk H
                  clear H
                  obtain ⟨Ao53, co53, eo53⟩ := Kd.N_slice HO326.out
                  subst eo53
                  go_wp2
                  go_meet
                  case rel => exact ⟨_, (true), (by first | rfl | (simp; done) | (simp [*]; done)), H', ⟨by have := HJ4.out; first | omega | exact Nat.le_refl _⟩, ⟨by (with_reducible repeat (first | apply Kd.N_alloc | apply Kd.N_drewN | apply Kd.N_drew)); exact Kd.N_mono HO326.out (fun _ hk => ⟨hk.2.2.2.2.1, hk.2.2.2.2.2⟩)⟩, ⟨by (with_reducible repeat (first | apply Kd.R_alloc | apply Kd.R_drewN | apply Kd.R_drew)); exact Kd.R_mono HO317.out (fun _ hk => trivial)⟩, ⟨by (with_reducible repeat (first | refine blk_drewN ?_ _ | refine blk_drew ?_ | refine blk_alloc ?_ _)); exact BK281.out⟩, ⟨by repeat (first | (with_reducible first | exact HB.out | apply below_alloc | apply pw_below_drewN | apply below_drew1 | refine below_set ?_ GE281.out) | exact HB.out)⟩⟩
                · rw [if_neg c52] at H
                  have c52b0 : decide ((y324.length : Int) < (t294.length : Int)) = false := decide_eq_false c52
                  have c52b1 : decide (y324.length < t294.length) = false := decide_eq_false (fun h => c52 (Int.ofNat_lt.mpr h))
                  clear c52
                  (first | rw [c52b0] | (simp only [i64_w, i32_w]; rw [c52b0]) | skip)
                  by_cases c54 : 0 ≤ (t294.length : Int)
                  · rw [if_pos c54] at H
                    have c54b0 := eq_true c54
                    have c54b1 : decide (0 ≤ (t294.length : Int)) = true := decide_eq_true c54
                    clear c54
                    by_cases c55 : (t294.length : Int) ≤ (y324.length : Int)
                    · rw [if_pos c55] at H
                      have c55b0 := eq_true c55
                      have c55b1 : decide ((t294.length : Int) ≤ (y324.length : Int)) = true := decide_eq_true c55
                      clear c55
                      obtain ⟨y327, hy327⟩ : ∃ y_ : List (S54), y_ = (y324.take ((t294.length : Int) : Int).toNat) := ⟨_, rfl⟩
                      replace H : ((marlinelaw07_Same.f kj4 y327 t294).bind fun t332 => (marlinelaw07_SyncWraps.j1 kj4 a0 l2 l3 y324 (t294.length : Int) (!t332) a0 t315 t318 t319 t320 t321 t322 t323)) = some r := by first | (rw [hy327]; with_reducible exact H) | (have H2_ := (Option.bind_some _ _).symm.trans H; rw [hy327]; with_reducible exact H2_) | (have H2_ := (Option.bind_some _ _).symm.trans H; with_reducible exact H2_) | with_reducible exact H | (rw [hy327]; exact H) | exact H
                      have Ny327 := Aside0.mk hy327
                      clear hy327
                      replace H := Option.bind_eq_some_iff.mp H
                      obtain ⟨t332, A560, H⟩ := H
                      replace H : (marlinelaw07_SyncWraps.j1 kj4 a0 l2 l3 y324 (t294.length : Int) (!t332) a0 t315 t318 t319 t320 t321 t322 t323) = some r := H
                      have A56 := Aside0.mk A560
                      clear A560
                      have H' := Aside0.mk H
                      clear H
                      obtain ⟨Ao57, co57, eo57⟩ := Kd.N_slice HO326.out
                      subst eo57
                      have q58 : ((t294.length : Int) : Int) ≤ ((y324.length : Int) : Int) := of_decide_eq_true (by first | (with_reducible assumption) | assumption)
                      obtain ⟨i058, hi058, _, hsz58, _⟩ := info_parts info54
                      have hroom58 : y324.length ≤ co57 := (Kd.N_reads' HO326.out).2.1
                      have hC58 : Kd.F k54 _ _ Ao57 y324.length y324 := (Kd.V_at (base := w.heap.size) (Kd.N_V HO326.out)).2.2
                      have hcut58 := cut_to (P := Try.prog) 46 54 .i64 Try.underlying46 hi058 Ao57 y324.length co57 (t294.length : Int) (of_decide_eq_true (by first | (with_reducible assumption) | assumption)) q58 hroom58
                      have hr58 := Kd.F_take (m := ((t294.length : Int) : Int).toNat) hC58 (by omega)
                      have hy58 : y327.length = ((t294.length : Int) : Int).toNat := (by rw [Ny327.out, List.length_take]; omega)
                      rw [← Ny327.out] at hr58
                      rw [← hy58] at hcut58
                      have HO331 := Aside0.mk (show Kd.V k54 54 _ w.heap.size _ (.slice Ao57 y327.length co57) y327 from Kd.V_mk (by omega) hr58)
                      have HC331 := Aside0.mk (show y327.length ≤ co57 from by omega)
                      clear hr58 hC58 hroom58 hi058 hsz58
                      have KY58 := Aside0.mk hy58
                      clear hy58
                      replace q58 := eq_true q58
                      go_wp2_with (first | (go_at_call 30; (with_reducible refine (marlinelaw07_Same.calls kj4 _ _ y327 _ _ t294 t332 _ ?side1 ?side2 ?side3 ?side4 A56.out).mono ?_); (case side1 => repeat (first | exact (Kd.V_reads' HO331.out).2.2 | (with_reducible refine Kd.C_alloc ?_ _) | (with_reducible refine Kd.C_drewN ?_ _) | (with_reducible refine Kd.C_drew ?_))); (case side2 => exact (Kd.V_reads' HO331.out).2.1); (case side3 => repeat (first | exact (Kd.N_reads' HO296.out).2.2 | (with_reducible refine Kd.C_alloc ?_ _) | (with_reducible refine Kd.C_drewN ?_ _) | (with_reducible refine Kd.C_drew ?_))); (case side4 => exact (Kd.N_reads' HO296.out).2.1); rintro e w' ⟨rfl, ⟨nd, rfl⟩⟩))
                      go_meet
                      case rel => exact ⟨_, (!t332), (by first | rfl | (simp; done) | (simp [*]; done)), H', ⟨by have := HJ4.out; first | omega | exact Nat.le_refl _⟩, ⟨by (with_reducible repeat (first | apply Kd.N_alloc | apply Kd.N_drewN | apply Kd.N_drew)); exact Kd.N_mono HO326.out (fun _ hk => ⟨hk.2.2.2.2.1, hk.2.2.2.2.2⟩)⟩, ⟨by (with_reducible repeat (first | apply Kd.R_alloc | apply Kd.R_drewN | apply Kd.R_drew)); exact Kd.R_mono HO317.out (fun _ hk => trivial)⟩, ⟨by (with_reducible repeat (first | refine blk_drewN ?_ _ | refine blk_drew ?_ | refine blk_alloc ?_ _)); exact BK281.out⟩, ⟨by repeat (first | (with_reducible first | exact HB.out | apply below_alloc | apply pw_below_drewN | apply below_drew1 | refine below_set ?_ GE281.out) | exact HB.out)⟩⟩
                    · rw [if_neg c55] at H
                      exact absurd H (by simp)
                  · rw [if_neg c54] at H
                    exact absurd H (by simp)
              case rest =>
                clear HC29
                try clear c1
                try clear c2
                try clear p2
                try clear c3
                try clear c5
                try clear q5
                try clear c7
                try clear c8
                try clear c8b0
                try clear c10
                try clear c10b0
                try clear c12
                try clear c12b0
                try clear c12b1
                try clear c14
                try clear c14b0
                try clear c14b1
                try clear c18
                try clear c21
                try clear c22
                try clear c23
                try clear c25
                try clear c27
                try clear c28
                try clear c29
                try clear c52
                try clear c52b0
                try clear c52b1
                try clear c54
                try clear c54b0
                try clear c54b1
                try clear c55
                try clear c55b0
                try clear c55b1
                try clear q58
                try clear hcz39_0
                try clear hcz39_1
                try clear hcz39_2
                try clear hcz39_3
                try clear hcz39_4
                try clear hcz39_5
                try clear hcz39_6
                try clear hcz39_7
                try clear hcz42_0
                try clear hcz42_1
                try clear hcz42_2
                try clear hcz42_3
                try clear hcz42_4
                try clear hcz42_5
                try clear hcz42_6
                try clear hcz42_7
                try clear hcz44_0
                try clear hcz44_1
                try clear hcz44_2
                try clear hcz44_3
                try clear hcz44_4
                try clear hcz44_5
                try clear hcz44_6
                try clear hcz44_7
                try clear hcz48_0
                try clear hcz48_1
                try clear hcz48_2
                try clear hcz48_3
                try clear hcz48_4
                try clear hcz48_5
                try clear hcz48_6
                try clear hcz48_7
                try clear hfz39_0
                try clear hfz39_1
                try clear hfz39_2
                try clear hfz39_3
                try clear hfz39_4
                try clear hfz39_5
                try clear hfz39_6
                try clear hfz39_7
                try clear hfz42_0
                try clear hfz42_1
                try clear hfz42_2
                try clear hfz42_3
                try clear hfz42_4
                try clear hfz42_5
                try clear hfz42_6
                try clear hfz42_7
                try clear hfz44_0
                try clear hfz44_1
                try clear hfz44_2
                try clear hfz44_3
                try clear hfz44_4
                try clear hfz44_5
                try clear hfz44_6
                try clear hfz44_7
                try clear hfz48_0
                try clear hfz48_1
                try clear hfz48_2
                try clear hfz48_3
                try clear hfz48_4
                try clear hfz48_5
                try clear hfz48_6
                try clear hfz48_7
                try clear p2
                try clear q58
                obtain ⟨kq, x73_28, rfl, HA, HJ28, HO_11, HO_282001, BK281, HB⟩ := hcut
                cases kq with
                | zero => exact absurd HA.out (by simp [marlinelaw07_SyncWraps.j1])
                | succ kj28 =>
                  have H := HA.out
                  clear HA
                  simp only [marlinelaw07_SyncWraps.j1] at H
                  by_cases c59 : x73_28 = true
                  · subst c59
                    have H1 : (none) = some r := by rw [if_pos rfl] at H; exact H
                    clear H
                    have H := H1
                    clear H1
                    exact absurd H (by simp)
                  · replace c59 := Bool.eq_false_iff.mpr c59
                    subst c59
                    have H1 : (if (l2.length : Int) = 0 then (some ((y324.length : Int) == (t294.length : Int))) else (if (y324.length : Int) = (wrap64 ((t294.length : Int) + 1)) then (if 0 ≤ (t294.length : Int) then (if (t294.length : Int) < (y324.length : Int) then (if (l2.length : Int) > a0 then (if ((rd_T54 y324 (t294.length : Int)).f0) = 4 then (some ((((rd_T54 y324 (t294.length : Int)).f1).length : Int) == 0)) else (none)) else ((sync_Deframer_Feed.f a0 t315 t318 t319 t320 t321 t322 t323 l3).bind fun bt335 => (if ((rd_T54 y324 (t294.length : Int)).f0) = 0 then ((marlineref01_Equal.f kj28 ((rd_T54 y324 (t294.length : Int)).f1) l2).bind fun t347 => (some t347)) else (none)))) else (none)) else (none)) else (none))) = some r := by rw [if_neg (show ¬ (false = true) by decide)] at H; exact H
                    clear H
                    have H := H1
                    clear H1
                    by_cases c60 : (l2.length : Int) = 0
                    · rw [if_pos c60] at H
                      have c60b0 : ((l2.length : Int) == 0) = true := beq_iff_eq.mpr c60
                      have c60b1 : ((l2.length : Int) != 0) = false := bne_eq_false_iff_eq.mpr c60
                      clear c60
                      obtain rfl := Option.some.inj H
                      obtain ⟨Ao61, co61, eo61⟩ := Kd.N_slice HO_11.out
                      subst eo61
                      go_wp2
                      go_ret
                      exact ⟨by first | rfl | (simp [errW_none, errW_some] <;> rfl) | (simp [*, errW_none, errW_some] <;> rfl), by repeat (first | (with_reducible first | exact HB.out | apply below_alloc | apply pw_below_drewN | apply below_drew1 | refine below_set ?_ GE281.out) | exact HB.out)⟩
                    · rw [if_neg c60] at H
                      have c60b0 : ((l2.length : Int) == 0) = false := beq_eq_false_iff_ne.mpr c60
                      have c60b1 : ((l2.length : Int) != 0) = true := bne_iff_ne.mpr c60
                      have c60b2 : ¬ (l2 = []) := fun h_ => c60 (by rw [h_]; rfl)
                      by_cases c62 : (y324.length : Int) = (wrap64 ((t294.length : Int) + 1))
                      · rw [if_pos c62] at H
                        have c62b0 : ((y324.length : Int) == (wrap64 ((t294.length : Int) + 1))) = true := beq_iff_eq.mpr c62
                        have c62b1 : ((y324.length : Int) != (wrap64 ((t294.length : Int) + 1))) = false := bne_eq_false_iff_eq.mpr c62
                        clear c62
                        by_cases c63 : 0 ≤ (t294.length : Int)
                        · rw [if_pos c63] at H
                          have c63b0 : decide (0 ≤ (t294.length : Int)) = true := decide_eq_true c63
                          have c63b1 : decide (0 ≤ t294.length) = true := decide_eq_true (by omega)
                          clear c63
                          by_cases c64 : (t294.length : Int) < (y324.length : Int)
                          · rw [if_pos c64] at H
                            have c64b0 : decide ((t294.length : Int) < (y324.length : Int)) = true := decide_eq_true c64
                            have c64b1 : decide (t294.length < y324.length) = true := decide_eq_true (Int.ofNat_lt.mp c64)
                            clear c64
                            by_cases c65 : (l2.length : Int) > a0
                            · rw [if_pos c65] at H
                              have c65b0 : decide (a0 < (l2.length : Int)) = true := decide_eq_true c65
                              clear c65
                              by_cases c66 : ((rd_T54 y324 (t294.length : Int)).f0) = 4
                              · rw [if_pos c66] at H
                                have c66b0 : (((rd_T54 y324 (t294.length : Int)).f0) == 4) = true := beq_iff_eq.mpr c66
                                have c66b1 : (((rd_T54 y324 (t294.length : Int)).f0) != 4) = false := bne_eq_false_iff_eq.mpr c66
                                clear c66
                                obtain rfl := Option.some.inj H
                                obtain ⟨Ao67, co67, eo67⟩ := Kd.N_slice HO_11.out
                                subst eo67
                                have p333 : 0 ≤ ((t294.length : Int) : Int) := of_decide_eq_true (by first | (with_reducible assumption) | assumption)
                                have q333 : (t294.length : Int) < (y324.length : Int) := of_decide_eq_true (by first | (with_reducible assumption) | assumption)
                                (try clear hHeld)
                                obtain ⟨ad333, A333_1, c333_1, e333, hx333_0, hx333_1, hl333_1, hi333_1⟩ := at_T54 (Kd.N_reads' HO_11.out).2.2 (t294.length : Int) p333 q333
                                cases e333
                                obtain ⟨ce333, hce333, hMe333, hcc333⟩ := Kd.N_get HO_11.out z54 (t294.length : Int) p333 (by first | exact q333 | exact of_decide_eq_true (by first | (with_reducible assumption) | assumption) | (have e_ := (Kd.N_reads' HO_11.out).1; omega))
                                obtain ⟨ua333_1, uc333_1, rfl, ul333_1, ge333_1⟩ := k54_openF hMe333
                                have hv333_1 := hcc333 1 _ rfl
                                rw [add_field _ _ 1 (by omega)] at hv333_1
                                replace hv333_1 := Option.some.inj (hv333_1.symm.trans hx333_1)
                                injection hv333_1 with hva_ hvn_ hvc_
                                rw [hva_] at ge333_1
                                rw [hvc_] at ul333_1
                                have HL333_1 := Aside0.mk (show Kd.V (Kd.int .u8) 5 _ w.heap.size _ _ ((rd_T54 y324 (t294.length : Int)).f1) from Kd.V_mk ul333_1 ge333_1)
                                clear hva_ hvn_ hvc_ ge333_1 ul333_1
                                clear hcc333 hce333
                                have HR333_1 := Aside0.mk hi333_1
                                have HC333_1 := Aside0.mk hl333_1
                                clear hi333_1 hl333_1
                                (try simp only [Go.IntWalk.toNatUp] at hx333_0)
                                (try simp only [Go.IntWalk.toNatUp] at hx333_1)
                                replace p333 := eq_true p333
                                replace q333 := eq_true q333
                                go_wp2_with (first | ((with_reducible refine gate_dst (N := 13) rfl ?_); (try (refine gate_guard (by rfl) ?_; dsimp only)); refine box_event ?hg (N := 13) ?hd (cs := #[.int .i64 0, .slice none 0 0]) (t := 54) ?hr ?_; (case hd => rfl); (case hg => rfl); (case hr => first | (go_simp; done) | (go_simp; simp only [IntKind.wrap_u8, IntKind.wrap_u16, IntKind.wrap_u32, IntKind.wrap_u64]; done) | (go_simp; simp only [IntKind.wrap_u8, IntKind.wrap_u16, IntKind.wrap_u32, IntKind.wrap_u64, Int.tmod_eq_emod_of_nonneg (Int.natCast_nonneg _), Int.emod_emod]; done) | (go_simp; rfl)); intro gb334 hg w68 hbox hb; have n0_ := Aside0.mk (Kd.N_below (Kd.N_elderB (by (with_reducible repeat (first | apply Kd.N_alloc | apply Kd.N_drewN | apply Kd.N_drew)); exact HO_11.out) gb334 (Nat.le_of_eq hg.symm)) hb); have n1_ := Aside0.mk (Kd.R_below (by (with_reducible repeat (first | apply Kd.R_alloc | apply Kd.R_drewN | apply Kd.R_drew)); exact HO_282001.out) hb); have n2_ := Aside0.mk (Kd.V_below (Kd.V_elderB (by (with_reducible repeat (first | apply Kd.V_alloc | apply Kd.V_drewN | apply Kd.V_drew)); exact HL333_1.out) gb334 (Nat.le_of_eq hg.symm)) hb); have n3_ := Aside0.mk (blk_below (g := gb281) (o := .cells #[.int .i64 a0, .slice Ao47 t315.length co47, .int .i64 t318, .bool t319, .bool t320, .int .i64 t321, .bool t322, .bool t323] 70 (0, 0)) (by (with_reducible repeat (first | refine blk_drewN ?_ _ | refine blk_drew ?_ | refine blk_alloc ?_ _)); exact BK281.out) hb); have n4_ := Aside0.mk (Kd.C_below (by repeat (first | (with_reducible exact HR333_1.out) | (with_reducible refine Kd.C_alloc ?_ _) | (with_reducible refine Kd.C_drewN ?_ _) | (with_reducible refine Kd.C_drew ?_) | exact HR333_1.out)) hb); have n5_ := Aside0.mk (below_step (by repeat (first | (with_reducible first | exact HB.out | apply below_alloc | apply pw_below_drewN | apply below_drew1 | refine below_set ?_ GE281.out) | exact HB.out)) hb); have n6_ := Aside0.mk (hbox); have n7_ := Aside0.mk ((by rw [hg]; exact (below_size (by repeat (first | (with_reducible first | exact HB.out | apply below_alloc | apply pw_below_drewN | apply below_drew1 | refine below_set ?_ GE281.out) | exact HB.out))) : w.heap.size ≤ gb334)); have n8_ := Aside0.mk ((by rw [hg]; exact (below_size (by repeat (first | (with_reducible first | exact HB.out | apply below_alloc | apply pw_below_drewN | apply below_drew1 | refine below_set ?_ GE281.out) | exact HB.out))) : w.heap.size ≤ gb334)); have n9_ := Aside0.mk ((by rw [hg]; exact Nat.ne_of_lt (blk_lt (g := gb281) (o := .cells #[.int .i64 a0, .slice Ao47 t315.length co47, .int .i64 t318, .bool t319, .bool t320, .int .i64 t321, .bool t322, .bool t323] 70 (0, 0)) (by (with_reducible repeat (first | refine blk_drewN ?_ _ | refine blk_drew ?_ | refine blk_alloc ?_ _)); exact BK281.out)) : gb281 ≠ gb334)); have n10_ := Aside0.mk ((by rw [hg]; exact Nat.ne_of_gt (blk_lt (g := gb281) (o := .cells #[.int .i64 a0, .slice Ao47 t315.length co47, .int .i64 t318, .bool t319, .bool t320, .int .i64 t321, .bool t322, .bool t323] 70 (0, 0)) (by (with_reducible repeat (first | refine blk_drewN ?_ _ | refine blk_drew ?_ | refine blk_alloc ?_ _)); exact BK281.out)) : gb334 ≠ gb281)); clear HO_11; clear HO_282001; clear HL333_1; clear BK281; clear HR333_1; clear HB; have HO_11 := n0_; have HO_282001 := n1_; have HL333_1 := n2_; have BK281 := n3_; have HR333_1 := n4_; have HB := n5_; have BK334 := n6_; have GW334 := n7_; have GE334 := n8_; have NB281_334 := n9_; have NB334_281 := n10_; clear n0_ n1_ n2_ n3_ n4_ n5_ n6_ n7_ n8_ n9_ n10_; clear hb hbox hg; have hnb69 := NB334_281.out; have hnc69 := NB281_334.out; have hcz70_0 : w68.cell? ⟨gb334, 0, none⟩ = some (.int .i64 0) := (blk_cell BK334.out 0).trans rfl; have hcz70_1 : w68.cell? ⟨gb334, 1, none⟩ = some (.slice none 0 0) := (blk_cell BK334.out 1).trans rfl; have hfz70_0 := blk_frozen BK334.out 0; have hfz70_1 := blk_frozen BK334.out 1))
                                go_ret
                                exact ⟨by first | rfl | (simp [errW_none, errW_some] <;> rfl) | (simp [*, errW_none, errW_some] <;> rfl), by repeat (first | (with_reducible first | exact HB.out | apply below_alloc | apply pw_below_drewN | apply below_drew1 | refine below_set ?_ GE281.out | refine below_set ?_ GE334.out) | exact HB.out)⟩
                              · rw [if_neg c66] at H
                                exact absurd H (by simp)
                            · rw [if_neg c65] at H
                              have c65b0 : decide (a0 < (l2.length : Int)) = false := decide_eq_false c65
                              clear c65
                              replace H := Option.bind_eq_some_iff.mp H
                              obtain ⟨⟨t335, t338, t341, t342, t343, t344, t345, t346⟩, A710, H⟩ := H
                              replace H : (if ((rd_T54 y324 (t294.length : Int)).f0) = 0 then ((marlineref01_Equal.f kj28 ((rd_T54 y324 (t294.length : Int)).f1) l2).bind fun t347 => (some t347)) else (none)) = some r := H
                              have A71 := Aside0.mk A710
                              clear A710
                              by_cases c72 : ((rd_T54 y324 (t294.length : Int)).f0) = 0
                              · rw [if_pos c72] at H
                                have c72b0 : (((rd_T54 y324 (t294.length : Int)).f0) == 0) = true := beq_iff_eq.mpr c72
                                have c72b1 : (((rd_T54 y324 (t294.length : Int)).f0) != 0) = false := bne_eq_false_iff_eq.mpr c72
                                clear c72
                                replace H := Option.bind_eq_some_iff.mp H
                                obtain ⟨t347, A730, H⟩ := H
                                replace H : (some t347) = some r := H
                                have A73 := Aside0.mk A730
                                clear A730
                                obtain rfl := Option.some.inj H
                                obtain ⟨Ao74, co74, eo74⟩ := Kd.N_slice HO_11.out
                                subst eo74
                                have p333 : 0 ≤ ((t294.length : Int) : Int) := of_decide_eq_true (by first | (with_reducible assumption) | assumption)
                                have q333 : (t294.length : Int) < (y324.length : Int) := of_decide_eq_true (by first | (with_reducible assumption) | assumption)
                                (try clear hHeld)
                                obtain ⟨ad333, A333_1, c333_1, e333, hx333_0, hx333_1, hl333_1, hi333_1⟩ := at_T54 (Kd.N_reads' HO_11.out).2.2 (t294.length : Int) p333 q333
                                cases e333
                                obtain ⟨ce333, hce333, hMe333, hcc333⟩ := Kd.N_get HO_11.out z54 (t294.length : Int) p333 (by first | exact q333 | exact of_decide_eq_true (by first | (with_reducible assumption) | assumption) | (have e_ := (Kd.N_reads' HO_11.out).1; omega))
                                obtain ⟨ua333_1, uc333_1, rfl, ul333_1, ge333_1⟩ := k54_openF hMe333
                                have hv333_1 := hcc333 1 _ rfl
                                rw [add_field _ _ 1 (by omega)] at hv333_1
                                replace hv333_1 := Option.some.inj (hv333_1.symm.trans hx333_1)
                                injection hv333_1 with hva_ hvn_ hvc_
                                rw [hva_] at ge333_1
                                rw [hvc_] at ul333_1
                                have HL333_1 := Aside0.mk (show Kd.V (Kd.int .u8) 5 _ w.heap.size _ _ ((rd_T54 y324 (t294.length : Int)).f1) from Kd.V_mk ul333_1 ge333_1)
                                clear hva_ hvn_ hvc_ ge333_1 ul333_1
                                clear hcc333 hce333
                                have HR333_1 := Aside0.mk hi333_1
                                have HC333_1 := Aside0.mk hl333_1
                                clear hi333_1 hl333_1
                                (try simp only [Go.IntWalk.toNatUp] at hx333_0)
                                (try simp only [Go.IntWalk.toNatUp] at hx333_1)
                                replace p333 := eq_true p333
                                replace q333 := eq_true q333
                                go_wp2_with (first | ((with_reducible refine gate_dst (N := 13) rfl ?_); (try (refine gate_guard (by rfl) ?_; dsimp only)); refine box_event ?hg (N := 13) ?hd (cs := #[.int .i64 0, .slice none 0 0]) (t := 54) ?hr ?_; (case hd => rfl); (case hg => rfl); (case hr => first | (go_simp; done) | (go_simp; simp only [IntKind.wrap_u8, IntKind.wrap_u16, IntKind.wrap_u32, IntKind.wrap_u64]; done) | (go_simp; simp only [IntKind.wrap_u8, IntKind.wrap_u16, IntKind.wrap_u32, IntKind.wrap_u64, Int.tmod_eq_emod_of_nonneg (Int.natCast_nonneg _), Int.emod_emod]; done) | (go_simp; rfl)); intro gb334 hg w75 hbox hb; have n0_ := Aside0.mk (Kd.N_below (Kd.N_elderB (by (with_reducible repeat (first | apply Kd.N_alloc | apply Kd.N_drewN | apply Kd.N_drew)); exact HO_11.out) gb334 (Nat.le_of_eq hg.symm)) hb); have n1_ := Aside0.mk (Kd.R_below (by (with_reducible repeat (first | apply Kd.R_alloc | apply Kd.R_drewN | apply Kd.R_drew)); exact HO_282001.out) hb); have n2_ := Aside0.mk (Kd.V_below (Kd.V_elderB (by (with_reducible repeat (first | apply Kd.V_alloc | apply Kd.V_drewN | apply Kd.V_drew)); exact HL333_1.out) gb334 (Nat.le_of_eq hg.symm)) hb); have n3_ := Aside0.mk (blk_below (g := gb281) (o := .cells #[.int .i64 a0, .slice Ao47 t315.length co47, .int .i64 t318, .bool t319, .bool t320, .int .i64 t321, .bool t322, .bool t323] 70 (0, 0)) (by (with_reducible repeat (first | refine blk_drewN ?_ _ | refine blk_drew ?_ | refine blk_alloc ?_ _)); exact BK281.out) hb); have n4_ := Aside0.mk (Kd.C_below (by repeat (first | (with_reducible exact HR333_1.out) | (with_reducible refine Kd.C_alloc ?_ _) | (with_reducible refine Kd.C_drewN ?_ _) | (with_reducible refine Kd.C_drew ?_) | exact HR333_1.out)) hb); have n5_ := Aside0.mk (below_step (by repeat (first | (with_reducible first | exact HB.out | apply below_alloc | apply pw_below_drewN | apply below_drew1 | refine below_set ?_ GE281.out) | exact HB.out)) hb); have n6_ := Aside0.mk (hbox); have n7_ := Aside0.mk ((by rw [hg]; exact (below_size (by repeat (first | (with_reducible first | exact HB.out | apply below_alloc | apply pw_below_drewN | apply below_drew1 | refine below_set ?_ GE281.out) | exact HB.out))) : w.heap.size ≤ gb334)); have n8_ := Aside0.mk ((by rw [hg]; exact (below_size (by repeat (first | (with_reducible first | exact HB.out | apply below_alloc | apply pw_below_drewN | apply below_drew1 | refine below_set ?_ GE281.out) | exact HB.out))) : w.heap.size ≤ gb334)); have n9_ := Aside0.mk ((by rw [hg]; exact Nat.ne_of_lt (blk_lt (g := gb281) (o := .cells #[.int .i64 a0, .slice Ao47 t315.length co47, .int .i64 t318, .bool t319, .bool t320, .int .i64 t321, .bool t322, .bool t323] 70 (0, 0)) (by (with_reducible repeat (first | refine blk_drewN ?_ _ | refine blk_drew ?_ | refine blk_alloc ?_ _)); exact BK281.out)) : gb281 ≠ gb334)); have n10_ := Aside0.mk ((by rw [hg]; exact Nat.ne_of_gt (blk_lt (g := gb281) (o := .cells #[.int .i64 a0, .slice Ao47 t315.length co47, .int .i64 t318, .bool t319, .bool t320, .int .i64 t321, .bool t322, .bool t323] 70 (0, 0)) (by (with_reducible repeat (first | refine blk_drewN ?_ _ | refine blk_drew ?_ | refine blk_alloc ?_ _)); exact BK281.out)) : gb334 ≠ gb281)); clear HO_11; clear HO_282001; clear HL333_1; clear BK281; clear HR333_1; clear HB; have HO_11 := n0_; have HO_282001 := n1_; have HL333_1 := n2_; have BK281 := n3_; have HR333_1 := n4_; have HB := n5_; have BK334 := n6_; have GW334 := n7_; have GE334 := n8_; have NB281_334 := n9_; have NB334_281 := n10_; clear n0_ n1_ n2_ n3_ n4_ n5_ n6_ n7_ n8_ n9_ n10_; clear hb hbox hg; have hnb76 := NB334_281.out; have hnc76 := NB281_334.out; have hcz77_0 : w75.cell? ⟨gb334, 0, none⟩ = some (.int .i64 0) := (blk_cell BK334.out 0).trans rfl; have hcz77_1 : w75.cell? ⟨gb334, 1, none⟩ = some (.slice none 0 0) := (blk_cell BK334.out 1).trans rfl; have hfz77_0 := blk_frozen BK334.out 0; have hfz77_1 := blk_frozen BK334.out 1) | ((with_reducible refine gate_store (t := 54) (p := 13) rfl ?_); refine store_event (t := 54) (p := 13) (v := ?vo_w78) (w1 := ((w75.setCell ⟨gb334, 0, none⟩ (.int .i64 ((rd_T54 y324 (t294.length : Int)).f0))).setCell ⟨gb334, 1, none⟩ (.slice A333_1 ((rd_T54 y324 (t294.length : Int)).f1).length c333_1))) ?hg ?ho ?hn ?hr ?_; (case ho => rfl); (case hg => rfl); (case hn => rfl); (case hr => first | (go_simp; done) | (go_simp; simp only [IntKind.wrap_u8, IntKind.wrap_u16, IntKind.wrap_u32, IntKind.wrap_u64]; done) | (go_simp; simp only [IntKind.wrap_u8, IntKind.wrap_u16, IntKind.wrap_u32, IntKind.wrap_u64, Int.tmod_eq_emod_of_nonneg (Int.natCast_nonneg _), Int.emod_emod]; done) | (go_simp; rfl)); intro w78 hw; have n0_ : Aside0 (Kd.N k54 54 w78 w.heap.size (fun k_ => some k_ ≠ (.slice Ao47 t315.length co47 : Value).ownBlock ∧ k_ ≠ gb281 ∧ k_ ≠ gb334) (.slice (some ad333) y324.length co74) y324) := ⟨(by rw [hw]; exact (by (with_reducible repeat (first | apply Kd.N_alloc | apply Kd.N_drewN | apply Kd.N_drew)); exact Kd.N_mono (Kd.N_far (p := ⟨gb334, 1, none⟩) (Kd.N_far (p := ⟨gb334, 0, none⟩) (Kd.N_mono HO_11.out (fun k_ hk => (⟨hk, hk.2⟩ : _ ∧ k_ ≠ gb334))) (fun _ hk => hk.2) (.int .i64 ((rd_T54 y324 (t294.length : Int)).f0))) (fun _ hk => hk.2) (.slice A333_1 ((rd_T54 y324 (t294.length : Int)).f1).length c333_1)) (fun _ hk => ⟨hk.1.1.1, ⟨hk.1.1.2, hk.1.2⟩⟩)))⟩; have n1_ : Aside0 (Kd.R (Kd.int .u8) 5 w78 w.heap.size (fun _ => True) (.slice Ao47 t315.length co47) t315) := ⟨(by rw [hw]; exact (by (with_reducible repeat (first | apply Kd.R_alloc | apply Kd.R_drewN | apply Kd.R_drew)); exact Kd.R_mono (Kd.R_far (p := ⟨gb334, 1, none⟩) (Kd.R_far (p := ⟨gb334, 0, none⟩) (Kd.R_types HO_282001.out BK334.out (by decide)) (fun _ hk => hk.2) (.int .i64 ((rd_T54 y324 (t294.length : Int)).f0))) (fun _ hk => hk.2) (.slice A333_1 ((rd_T54 y324 (t294.length : Int)).f1).length c333_1)) (fun _ hk => trivial)))⟩; have n2_ : Aside0 (Kd.V (Kd.int .u8) 5 w78 w.heap.size (fun k_ => some k_ ≠ (.slice (some ad333) y324.length co74 : Value).ownBlock ∧ some k_ ≠ (.slice Ao47 t315.length co47 : Value).ownBlock ∧ k_ ≠ gb281 ∧ k_ ≠ gb334) (.slice A333_1 ((rd_T54 y324 (t294.length : Int)).f1).length c333_1) ((rd_T54 y324 (t294.length : Int)).f1)) := ⟨(by rw [hw]; exact (by (with_reducible repeat (first | apply Kd.V_alloc | apply Kd.V_drewN | apply Kd.V_drew)); exact Kd.V_mono (Kd.V_far (p := ⟨gb334, 1, none⟩) (Kd.V_far (p := ⟨gb334, 0, none⟩) (Kd.V_mono HL333_1.out (fun k_ hk => (⟨hk, hk.2⟩ : _ ∧ k_ ≠ gb334))) (fun _ hk => hk.2) (.int .i64 ((rd_T54 y324 (t294.length : Int)).f0))) (fun _ hk => hk.2) (.slice A333_1 ((rd_T54 y324 (t294.length : Int)).f1).length c333_1)) (fun _ hk => ⟨hk.1.1.2, ⟨hk.1.1.1.1, ⟨hk.1.1.1.2, hk.1.2⟩⟩⟩)))⟩; have n3_ : Aside0 (w78.heap[gb281]? = some (.cells #[.int .i64 a0, .slice Ao47 t315.length co47, .int .i64 t318, .bool t319, .bool t320, .int .i64 t321, .bool t322, .bool t323] 70 (0, 0))) := ⟨(by rw [hw]; exact (by (with_reducible repeat (first | refine blk_drewN ?_ _ | refine blk_drew ?_ | refine blk_alloc ?_ _)); refine blk_far ?_ NB281_334.out _; (with_reducible repeat (first | refine blk_drewN ?_ _ | refine blk_drew ?_ | refine blk_alloc ?_ _)); refine blk_far ?_ NB281_334.out _; (with_reducible repeat (first | refine blk_drewN ?_ _ | refine blk_drew ?_ | refine blk_alloc ?_ _)); exact BK281.out))⟩; have n4_ : Aside0 (w78.heap[gb334]? = some (.cells #[.int .i64 ((rd_T54 y324 (t294.length : Int)).f0), .slice A333_1 ((rd_T54 y324 (t294.length : Int)).f1).length c333_1] 54 (0, 0))) := ⟨(by rw [hw]; exact (by (with_reducible repeat (first | refine blk_drewN ?_ _ | refine blk_drew ?_ | refine blk_alloc ?_ _)); refine blk_put (cs := #[.int .i64 ((rd_T54 y324 (t294.length : Int)).f0), .slice none 0 0]) ?_ 1 _ rfl; (with_reducible repeat (first | refine blk_drewN ?_ _ | refine blk_drew ?_ | refine blk_alloc ?_ _)); refine blk_put (cs := #[.int .i64 0, .slice none 0 0]) ?_ 0 _ rfl; (with_reducible repeat (first | refine blk_drewN ?_ _ | refine blk_drew ?_ | refine blk_alloc ?_ _)); exact BK334.out))⟩; have n5_ : Aside0 (Below w.heap.size w w78) := ⟨(by rw [hw]; exact (by repeat (first | (with_reducible first | exact HB.out | apply below_alloc | apply pw_below_drewN | apply below_drew1 | refine below_set ?_ GE281.out | refine below_set ?_ GE334.out) | exact HB.out)))⟩; clear hw; clear HO_11; clear HO_282001; clear HL333_1; clear BK281; clear BK334; clear HB; have HO_11 := n0_; have HO_282001 := n1_; have HL333_1 := n2_; have BK281 := n3_; have BK334 := n4_; have HB := n5_; clear n0_ n1_ n2_ n3_ n4_ n5_; have hcz79_0 : w78.cell? ⟨gb281, 0, none⟩ = some (.int .i64 a0) := (blk_cell BK281.out 0).trans rfl; have hcz79_1 : w78.cell? ⟨gb281, 1, none⟩ = some (.slice Ao47 t315.length co47) := (blk_cell BK281.out 1).trans rfl; have hcz79_2 : w78.cell? ⟨gb281, 2, none⟩ = some (.int .i64 t318) := (blk_cell BK281.out 2).trans rfl; have hcz79_3 : w78.cell? ⟨gb281, 3, none⟩ = some (.bool t319) := (blk_cell BK281.out 3).trans rfl; have hcz79_4 : w78.cell? ⟨gb281, 4, none⟩ = some (.bool t320) := (blk_cell BK281.out 4).trans rfl; have hcz79_5 : w78.cell? ⟨gb281, 5, none⟩ = some (.int .i64 t321) := (blk_cell BK281.out 5).trans rfl; have hcz79_6 : w78.cell? ⟨gb281, 6, none⟩ = some (.bool t322) := (blk_cell BK281.out 6).trans rfl; have hcz79_7 : w78.cell? ⟨gb281, 7, none⟩ = some (.bool t323) := (blk_cell BK281.out 7).trans rfl; have hfz79_0 := blk_frozen BK281.out 0; have hfz79_1 := blk_frozen BK281.out 1; have hfz79_2 := blk_frozen BK281.out 2; have hfz79_3 := blk_frozen BK281.out 3; have hfz79_4 := blk_frozen BK281.out 4; have hfz79_5 := blk_frozen BK281.out 5; have hfz79_6 := blk_frozen BK281.out 6; have hfz79_7 := blk_frozen BK281.out 7) | (go_at_call 25; refine (sdx gb281 a0 (fun k_ => some k_ = (.slice Ao47 t315.length co47 : Value).ownBlock) (.slice Ao47 t315.length co47) t315 t318 t319 t320 t321 t322 t323 _ _ l3 t335 t338 t341 t342 t343 t344 t345 t346 w _ ?side1 ?side2 ?side3 ?side4 A71.out ?side5 ?side6 ?side7).mono ?_; (case side1 => repeat (first | (with_reducible first | exact HB.out | apply below_alloc | apply pw_below_drewN | apply below_drew1 | refine below_set ?_ GE281.out | refine below_set ?_ GE334.out) | exact HB.out)); (case side2 => exact Kd.R_tight rfl HO_282001.out); (case side3 => exact Kd.C_kept_came (Kd.heap_int .u8) HR3.out (by repeat (first | (with_reducible first | exact HB.out | apply below_alloc | apply pw_below_drewN | apply below_drew1 | refine below_set ?_ GE281.out | refine below_set ?_ GE334.out) | exact HB.out)) (fun k_ hs_ => (fun e_ => Kd.R_base HO_282001.out k_ e_.symm) hs_)); (case side4 => exact HC3.out); (case side5 => exact (by (with_reducible repeat (first | refine blk_drewN ?_ _ | refine blk_drew ?_ | refine blk_alloc ?_ _)); exact BK281.out)); (case side6 => exact GE281.out); (case side7 => exact (fun hs_ => (fun e_ => (Kd.R_ne HO_282001.out BK281.out (by decide)) e_) hs_)); rintro e wq_ ⟨w80, v336, v339, rfl, rfl, ho0, ho1, hb, hkp⟩; have n0_ := Aside0.mk (Kd.N_mono (ok' := fun k_ => k_ ≠ gb281 ∧ k_ ≠ gb334 ∧ some k_ ≠ (v336 : Value).ownBlock ∧ some k_ ≠ (v339 : Value).ownBlock) (Kd.N_keptB (HO_11.out) hkp (fun k_ hk_ hs_ => (hk_.1) hs_)) (fun k_ hk_ => ⟨hk_.1.2.1, hk_.1.2.2, fun e_ => Or.elim ((Kd.S_R ho0).1 k_ e_.symm).1 (fun hs_ => hk_.2.1 hs_) (fun hn_ => Nat.not_le.2 hk_.2.2 hn_), fun e_ => Or.elim (ho1.1 k_ e_.symm) (fun hs_ => hk_.2.1 hs_) (fun hn_ => Nat.not_le.2 hk_.2.2 hn_)⟩)); have n1_ := Aside0.mk (blk_kept (by (with_reducible repeat (first | refine blk_drewN ?_ _ | refine blk_drew ?_ | refine blk_alloc ?_ _)); exact BK281.out) hkp (fun hs_ => (fun e_ => (Kd.R_ne HO_282001.out BK281.out (by decide)) e_) hs_)); have n2_ := Aside0.mk (Kd.V_mono (ok' := fun k_ => some k_ ≠ (.slice (some ad333) y324.length co74 : Value).ownBlock ∧ k_ ≠ gb281 ∧ k_ ≠ gb334 ∧ some k_ ≠ (v336 : Value).ownBlock ∧ some k_ ≠ (v339 : Value).ownBlock) (Kd.V_keptB (HL333_1.out) hkp (fun k_ hk_ hs_ => (hk_.2.1) hs_)) (fun k_ hk_ => ⟨hk_.1.1, hk_.1.2.2.1, hk_.1.2.2.2, fun e_ => Or.elim ((Kd.S_R ho0).1 k_ e_.symm).1 (fun hs_ => hk_.2.1 hs_) (fun hn_ => Nat.not_le.2 hk_.2.2 hn_), fun e_ => Or.elim (ho1.1 k_ e_.symm) (fun hs_ => hk_.2.1 hs_) (fun hn_ => Nat.not_le.2 hk_.2.2 hn_)⟩)); have n3_ := Aside0.mk (blk_kept (by (with_reducible repeat (first | refine blk_drewN ?_ _ | refine blk_drew ?_ | refine blk_alloc ?_ _)); exact BK334.out) hkp (fun hs_ => (fun e_ => (Kd.R_ne HO_282001.out BK334.out (by decide)) e_) hs_)); have n4_ := Aside0.mk (Kd.N_lower (Kd.N_mono (ok' := fun k_ => some k_ ≠ (v339 : Value).ownBlock ∧ some k_ ≠ (.slice (some ad333) y324.length co74 : Value).ownBlock ∧ k_ ≠ gb281 ∧ k_ ≠ gb334) (Kd.S_N ho0) (fun k_ hk_ => ⟨hk_.2, Or.elim hk_.1 (fun hs_ => fun e_ => (((HO_11.out).1 k_ e_.symm).1) hs_) (fun hn_ => (Kd.fresh' (Kd.N_lt (by (with_reducible repeat (first | apply Kd.N_alloc | apply Kd.N_drewN | apply Kd.N_drew)); exact HO_11.out)) k_ hn_)), Or.elim hk_.1 (fun hs_ => fun e_ => (Kd.R_ne HO_282001.out BK281.out (by decide)) (by rw [← e_]; exact hs_)) (fun hn_ => (Kd.freshB (g := gb281) (o := .cells #[.int .i64 a0, .slice Ao47 t315.length co47, .int .i64 t318, .bool t319, .bool t320, .int .i64 t321, .bool t322, .bool t323] 70 (0, 0)) (by (with_reducible repeat (first | refine blk_drewN ?_ _ | refine blk_drew ?_ | refine blk_alloc ?_ _)); exact BK281.out) k_ hn_)), Or.elim hk_.1 (fun hs_ => fun e_ => (Kd.R_ne HO_282001.out BK334.out (by decide)) (by rw [← e_]; exact hs_)) (fun hn_ => (Kd.freshB (g := gb334) (o := .cells #[.int .i64 ((rd_T54 y324 (t294.length : Int)).f0), .slice A333_1 ((rd_T54 y324 (t294.length : Int)).f1).length c333_1] 54 (0, 0)) (by (with_reducible repeat (first | refine blk_drewN ?_ _ | refine blk_drew ?_ | refine blk_alloc ?_ _)); exact BK334.out) k_ hn_))⟩)) (Nat.le_refl _)); have n5_ := Aside0.mk (Kd.R_mono (ok' := fun k_ => True) ho1 (fun k_ hk_ => trivial)); have n6_ := Aside0.mk (hb); clear HO_11; clear BK281; clear HL333_1; clear BK334; clear HB; clear HO_282001; have HO_11 := n0_; have BK281 := n1_; have HL333_1 := n2_; have BK334 := n3_; have HO337 := n4_; have HO340 := n5_; have HB := n6_; clear n0_ n1_ n2_ n3_ n4_ n5_ n6_; (try clear hb); (try clear hkp); (try clear ho0); (try clear ho1); obtain ⟨Ao81, co81, eo81⟩ := Kd.R_slice HO340.out; subst eo81; have hcz82_0 : w80.cell? ⟨gb281, 0, none⟩ = some (.int .i64 a0) := (blk_cell BK281.out 0).trans rfl; have hcz82_1 : w80.cell? ⟨gb281, 1, none⟩ = some (.slice Ao47 t315.length co47) := (blk_cell BK281.out 1).trans rfl; have hcz82_2 : w80.cell? ⟨gb281, 2, none⟩ = some (.int .i64 t318) := (blk_cell BK281.out 2).trans rfl; have hcz82_3 : w80.cell? ⟨gb281, 3, none⟩ = some (.bool t319) := (blk_cell BK281.out 3).trans rfl; have hcz82_4 : w80.cell? ⟨gb281, 4, none⟩ = some (.bool t320) := (blk_cell BK281.out 4).trans rfl; have hcz82_5 : w80.cell? ⟨gb281, 5, none⟩ = some (.int .i64 t321) := (blk_cell BK281.out 5).trans rfl; have hcz82_6 : w80.cell? ⟨gb281, 6, none⟩ = some (.bool t322) := (blk_cell BK281.out 6).trans rfl; have hcz82_7 : w80.cell? ⟨gb281, 7, none⟩ = some (.bool t323) := (blk_cell BK281.out 7).trans rfl; have hfz82_0 := blk_frozen BK281.out 0; have hfz82_1 := blk_frozen BK281.out 1; have hfz82_2 := blk_frozen BK281.out 2; have hfz82_3 := blk_frozen BK281.out 3; have hfz82_4 := blk_frozen BK281.out 4; have hfz82_5 := blk_frozen BK281.out 5; have hfz82_6 := blk_frozen BK281.out 6; have hfz82_7 := blk_frozen BK281.out 7; have hcz83_0 : w80.cell? ⟨gb334, 0, none⟩ = some (.int .i64 ((rd_T54 y324 (t294.length : Int)).f0)) := (blk_cell BK334.out 0).trans rfl; have hcz83_1 : w80.cell? ⟨gb334, 1, none⟩ = some (.slice A333_1 ((rd_T54 y324 (t294.length : Int)).f1).length c333_1) := (blk_cell BK334.out 1).trans rfl; have hfz83_0 := blk_frozen BK334.out 0; have hfz83_1 := blk_frozen BK334.out 1) | (go_at_call 17; (with_reducible refine (marlineref01_Equal.calls kj28 _ _ ((rd_T54 y324 (t294.length : Int)).f1) _ _ l2 t347 _ ?side1 ?side2 ?side3 ?side4 A73.out).mono ?_); (case side1 => repeat (first | exact ((Kd.V_reads' (by (with_reducible repeat (first | apply Kd.V_alloc | apply Kd.V_drewN | apply Kd.V_drew)); exact (Kd.V_mono (Kd.V_far (p := ⟨gb281, 7, none⟩) (Kd.V_far (p := ⟨gb281, 6, none⟩) (Kd.V_far (p := ⟨gb281, 5, none⟩) (Kd.V_far (p := ⟨gb281, 4, none⟩) (Kd.V_far (p := ⟨gb281, 3, none⟩) (Kd.V_far (p := ⟨gb281, 2, none⟩) (Kd.V_far (p := ⟨gb281, 1, none⟩) (Kd.V_mono HL333_1.out (fun k_ hk => (⟨hk, hk.2.1⟩ : _ ∧ k_ ≠ gb281))) (fun _ hk => hk.2) (.slice Ao81 t338.length co81)) (fun _ hk => hk.2) (.int .i64 t341)) (fun _ hk => hk.2) (.bool t342)) (fun _ hk => hk.2) (.bool t343)) (fun _ hk => hk.2) (.int .i64 t344)) (fun _ hk => hk.2) (.bool t345)) (fun _ hk => hk.2) (.bool t346)) (fun _ h_ => h_.1)))).2.2) | (with_reducible refine Kd.C_alloc ?_ _) | (with_reducible refine Kd.C_drewN ?_ _) | (with_reducible refine Kd.C_drew ?_))); (case side2 => exact HC333_1.out); (case side3 => exact Kd.C_below HR2.out (by repeat (first | (with_reducible first | exact HB.out | apply below_alloc | apply pw_below_drewN | apply below_drew1 | refine below_set ?_ GE281.out | refine below_set ?_ GE334.out) | exact HB.out))); (case side4 => exact HC2.out); rintro e w' ⟨rfl, ⟨nd, rfl⟩⟩))
                                go_ret
                                exact ⟨by first | rfl | (simp [errW_none, errW_some] <;> rfl) | (simp [*, errW_none, errW_some] <;> rfl), by repeat (first | (with_reducible first | exact HB.out | apply below_alloc | apply pw_below_drewN | apply below_drew1 | refine below_set ?_ GE281.out | refine below_set ?_ GE334.out) | exact HB.out)⟩
                              · rw [if_neg c72] at H
                                exact absurd H (by simp)
                          · rw [if_neg c64] at H
                            exact absurd H (by simp)
                        · rw [if_neg c63] at H
                          exact absurd H (by simp)
                      · rw [if_neg c62] at H
                        exact absurd H (by simp)
            · rw [if_neg c28] at H
              exact absurd H (by simp)
          · rw [if_neg c23] at H
            exact absurd H (by simp)
        · rw [if_neg c21] at H
          exact absurd H (by simp)

/-- THE ONE PURE STATEMENT of marlinelaw07_SyncWraps: yours. -/
def marlinelaw07_SyncWraps.Pure : Prop := ∀ (a0 : Int) (l1 : List Int) (l2 : List Int) (l3 : List Int), (Lit.int .i64 a0).wf = true → l1.length ≤ maxLen → l1.length * 1 ≤ 140737488351232 → (∀ x ∈ l1, (Lit.int .u8 x).wf = true) → l2.length ≤ maxLen → l2.length * 1 ≤ 140737488351232 → (∀ x ∈ l2, (Lit.int .u8 x).wf = true) → l3.length ≤ maxLen → l3.length * 1 ≤ 140737488351232 → (∀ x ∈ l3, (Lit.int .u8 x).wf = true) → ∃ k, marlinelaw07_SyncWraps.f k a0 l1 l2 l3 = some true
theorem marlinelaw07_SyncWraps.walk (P : marlinelaw07_SyncWraps.Pure) (a0 : Int) (a1 : Option Addr) (len1 cap1 : Nat) (z1 : List Int) (a2 : Option Addr) (len2 cap2 : Nat) (z2 : List Int) (a3 : Option Addr) (len3 cap3 : Nat) (z3 : List Int) (w : World) (w0 : (Lit.int .i64 a0).wf = true) (w1 : (a1 = none ∧ len1 = 0 ∧ cap1 = 0 ∧ z1 = []) ∨ ∃ x, a1 = some x ∧ len1 ≤ cap1 ∧ cap1 ≤ maxLen ∧ z1.length = cap1 ∧ (∀ i, i < z1.length → w.cell? (x.add i) = some (.int .u8 (z1.getD i 0))) ∧ ∀ n ∈ z1, (Lit.int .u8 n).wf = true) (y1 : len1 * 1 ≤ 140737488351232) (w2 : (a2 = none ∧ len2 = 0 ∧ cap2 = 0 ∧ z2 = []) ∨ ∃ x, a2 = some x ∧ len2 ≤ cap2 ∧ cap2 ≤ maxLen ∧ z2.length = cap2 ∧ (∀ i, i < z2.length → w.cell? (x.add i) = some (.int .u8 (z2.getD i 0))) ∧ ∀ n ∈ z2, (Lit.int .u8 n).wf = true) (y2 : len2 * 1 ≤ 140737488351232) (w3 : (a3 = none ∧ len3 = 0 ∧ cap3 = 0 ∧ z3 = []) ∨ ∃ x, a3 = some x ∧ len3 ≤ cap3 ∧ cap3 ≤ maxLen ∧ z3.length = cap3 ∧ (∀ i, i < z3.length → w.cell? (x.add i) = some (.int .u8 (z3.getD i 0))) ∧ ∀ n ∈ z3, (Lit.int .u8 n).wf = true) (y3 : len3 * 1 ≤ 140737488351232) :
    Calls Try.prog 8 #[.int .i64 a0, .slice a1 len1 cap1, .slice a2 len2 cap2, .slice a3 len3 cap3] w fun e w' => e = .returned (.bool true) ∧ Below w.heap.size w w' := by
  obtain ⟨l1, rfl, hr1, hm1, hw1, hc1⟩ := ReadsInt.ofRowC w1
  obtain ⟨l2, rfl, hr2, hm2, hw2, hc2⟩ := ReadsInt.ofRowC w2
  obtain ⟨l3, rfl, hr3, hm3, hw3, hc3⟩ := ReadsInt.ofRowC w3
  obtain ⟨k, h⟩ := P a0 l1 l2 l3 w0 hm1 y1 hw1 hm2 y2 hw2 hm3 y3 hw3
  refine (marlinelaw07_SyncWraps.calls k a0 _ _ l1 _ _ l2 _ _ l3 true w (Kd.C_of_reads (d := (0 : Int)) (h1 := fun _ => rfl) hr1) hc1 (Kd.C_of_reads (d := (0 : Int)) (h1 := fun _ => rfl) hr2) hc2 (Kd.C_of_reads (d := (0 : Int)) (h1 := fun _ => rfl) hr3) hc3 h).mono ?_
  rintro e w' ⟨rfl, hd⟩
  exact ⟨rfl, hd⟩

end Go.Proofs.Ytjmclghjhnbafaa.Print

/- Plain words on bits that can't be a flag: a 0 put in behind five 1s, and taken out again. No condition; no program in sight. -/
namespace Go.Proofs.Ytjmclghjhnbafaa.Pl
open Go.RowKit Go.Proofs.YtjmclghjhnbafaaW.PrintWords
set_option linter.unusedVariables false
def ins : Int → List Int → List Int
  | _, [] => []
  | n, b :: t => if b % 2 = 0 then 0 :: ins 0 t else if n + 1 = 5 then 1 :: 0 :: ins 0 t else 1 :: ins (n + 1) t
def rem : Int → List Int → List Int
  | _, [] => []
  | n, b :: t => if n = 5 then rem ((n + 1) * (b % 2)) t else b % 2 :: rem ((n + 1) * (b % 2)) t
theorem ins_clean (n : Int) (l : List Int) : ins n (clean l) = ins n l := by
  induction l generalizing n with
  | nil => rfl
  | cons b t ih =>
    show ins n (b % 2 :: clean t) = _
    simp only [ins, Int.emod_emod_of_dvd b (Int.dvd_refl 2), ih]
theorem rem_clean (n : Int) (l : List Int) : rem n (clean l) = rem n l := by
  induction l generalizing n with
  | nil => rfl
  | cons b t ih =>
    show rem n (b % 2 :: clean t) = _
    simp only [rem, Int.emod_emod_of_dvd b (Int.dvd_refl 2), ih]
theorem ins_len (n : Int) (l : List Int) (h0 : 0 ≤ n) (h4 : n ≤ 4) : (l.length : Int) ≤ (ins n l).length ∧ ((ins n l).length : Int) ≤ l.length + (l.length + n) / 5 := by
  induction l generalizing n with
  | nil => simp [ins]; omega
  | cons b t ih =>
    unfold ins
    split
    · have := ih 0 (by omega) (by omega); simp only [List.length_cons]; omega
    · split
      · have := ih 0 (by omega) (by omega); simp only [List.length_cons]; omega
      · have := ih (n + 1) (by omega) (by omega); simp only [List.length_cons]; omega
theorem ins_bits (n : Int) (l : List Int) : ∀ x ∈ ins n l, x = 0 ∨ x = 1 := by
  induction l generalizing n with
  | nil => simp [ins]
  | cons b t ih =>
    intro x hx
    unfold ins at hx
    split at hx
    · rcases List.mem_cons.1 hx with rfl | hx
      · simp
      · exact ih 0 x hx
    · split at hx
      · rcases List.mem_cons.1 hx with rfl | hx
        · simp
        · rcases List.mem_cons.1 hx with rfl | hx
          · simp
          · exact ih 0 x hx
      · rcases List.mem_cons.1 hx with rfl | hx
        · simp
        · exact ih _ x hx
theorem clean_of_bits {l : List Int} (h : ∀ x ∈ l, x = 0 ∨ x = 1) : clean l = l := by
  unfold clean
  conv => rhs; rw [← List.map_id l]
  refine List.map_congr_left (fun x hx => ?_)
  rcases h x hx with rfl | rfl <;> simp
theorem bytes_of_bits {l : List Int} (h : ∀ x ∈ l, x = 0 ∨ x = 1) : Bytes l := fun x hx => by rcases h x hx with rfl | rfl <;> constructor <;> omega
theorem bytes_ins (n : Int) (l : List Int) : Bytes (ins n l) := bytes_of_bits (ins_bits n l)
theorem rem_bits (n : Int) (l : List Int) : ∀ x ∈ rem n l, x = 0 ∨ x = 1 := by
  induction l generalizing n with
  | nil => simp [rem]
  | cons b t ih =>
    intro x hx
    unfold rem at hx
    split at hx
    · exact ih _ x hx
    · rcases List.mem_cons.1 hx with rfl | hx
      · omega
      · exact ih _ x hx
theorem rem_len (n : Int) (l : List Int) : (rem n l).length ≤ l.length := by
  induction l generalizing n with
  | nil => simp [rem]
  | cons b t ih =>
    unfold rem
    split
    · have := ih ((n + 1) * (b % 2)); simp only [List.length_cons]; omega
    · have := ih ((n + 1) * (b % 2)); simp only [List.length_cons]; omega
theorem peak_ins (n : Int) (l : List Int) (h0 : 0 ≤ n) (h4 : n ≤ 4) : peak n (ins n l) ≤ 5 := by
  induction l generalizing n with
  | nil => simp [ins, peak]
  | cons b t ih =>
    unfold ins
    split
    · have := ih 0 (by omega) (by omega)
      simp only [peak, Int.zero_emod, Int.mul_zero]; omega
    · split
      · have := ih 0 (by omega) (by omega)
        have e : (1 : Int) % 2 = 1 := by decide
        simp only [peak, Int.zero_emod, Int.mul_zero, e, Int.mul_one]; omega
      · have := ih (n + 1) (by omega) (by omega)
        have e : (1 : Int) % 2 = 1 := by decide
        simp only [peak, e, Int.mul_one]; omega
theorem run_ins (l : List Int) : run (ins 0 l) ≤ 5 := peak_ins 0 l (by omega) (by omega)
theorem rem_ins (n : Int) (l : List Int) (h0 : 0 ≤ n) (h4 : n ≤ 4) : rem n (ins n l) = clean l := by
  induction l generalizing n with
  | nil => rfl
  | cons b t ih =>
    have e : (1 : Int) % 2 = 1 := by decide
    have hc : clean (b :: t) = b % 2 :: clean t := rfl
    unfold ins
    split
    · rename_i hb
      rw [rem, if_neg (by omega), Int.zero_emod, Int.mul_zero, ih 0 (by omega) (by omega), hc, hb]
    · rename_i hb
      have hb1 : b % 2 = 1 := by omega
      split
      · rename_i h5
        rw [rem, if_neg (by omega), e, Int.mul_one, h5, rem, if_pos rfl, Int.zero_emod, Int.mul_zero, ih 0 (by omega) (by omega), hc, hb1]
      · rw [rem, if_neg (by omega), e, Int.mul_one, ih (n + 1) (by omega) (by omega), hc, hb1]
theorem again (l : List Int) : (∀ n : Int, 0 ≤ n → n ≤ 4 → peak n l ≤ 5 → ins n (rem n l) = clean l ∨ ins n (rem n l) = clean l ++ [0]) ∧ (peak 5 l ≤ 5 → 0 :: ins 0 (rem 5 l) = clean l ∨ 0 :: ins 0 (rem 5 l) = clean l ++ [0]) := by
  induction l with
  | nil => simp [ins, rem, clean]
  | cons b t ih =>
    obtain ⟨ih1, ih2⟩ := ih
    have hc : clean (b :: t) = b % 2 :: clean t := rfl
    refine ⟨fun n h0 h4 hp => ?_, fun hp => ?_⟩
    · rw [rem, if_neg (by omega), ins, hc]
      rcases bitmul n b h0 with ⟨e, h1⟩ | ⟨e, h1⟩
      · rw [peak, h1] at hp
        rw [h1, e, Int.zero_emod, if_pos rfl]
        rcases ih1 0 (by omega) (by omega) (by omega) with h | h <;> rw [h] <;> simp
      · rw [peak, h1] at hp
        rw [h1, e, if_neg (by decide)]
        split
        · rename_i h5
          rw [h5] at hp ⊢
          rcases ih2 (by omega) with h | h <;> rw [h] <;> simp
        · rcases ih1 (n + 1) (by omega) (by omega) (by omega) with h | h <;> rw [h] <;> simp
    · rw [rem, if_pos rfl, hc]
      rcases bitmul 5 b (by omega) with ⟨e, h1⟩ | ⟨e, h1⟩
      · rw [peak, h1] at hp
        rw [h1, e]
        rcases ih1 0 (by omega) (by omega) (by omega) with h | h <;> rw [h] <;> simp
      · rw [peak, h1] at hp
        omega
theorem ins_zero (n : Int) (a b : List Int) : ins n (a ++ 0 :: b) = ins n (a ++ [0]) ++ ins 0 b := by
  induction a generalizing n with
  | nil => simp [ins]
  | cons c t ih =>
    simp only [List.cons_append, ins]
    split
    · rw [ih]; rfl
    · split
      · rw [ih]; rfl
      · rw [ih]; rfl
/-- Without what was put in, read bit by bit: none where six 1s stand in a row. -/
def rrem : Int → List Int → Option (List Int)
  | _, [] => some []
  | n, b :: t => if b % 2 = 1 then (if n + 1 = 6 then none else (rrem (n + 1) t).map (1 :: ·)) else (rrem 0 t).map (fun r => if n < 5 then 0 :: r else r)
theorem rrem_is (n : Int) (l : List Int) (h0 : 0 ≤ n) (h5 : n ≤ 5) : rrem n l = if peak n l > 5 then none else some (rem n l) := by
  induction l generalizing n with
  | nil => simp [rrem, peak, rem]
  | cons b t ih =>
    rcases bitmul n b h0 with ⟨e, h1⟩ | ⟨e, h1⟩
    · rw [rrem, if_neg (by omega), ih 0 (by omega) (by omega), peak, h1, rem, h1, e]
      have hm : max 0 (peak 0 t) = peak 0 t := by have := peak_nonneg 0 t (by omega); omega
      rw [hm]
      by_cases hp : peak 0 t > 5
      · rw [if_pos hp, if_pos hp]; rfl
      · rw [if_neg hp, if_neg hp, Option.map_some]
        by_cases hn : n = 5
        · rw [if_neg (by omega), if_pos hn]
        · rw [if_pos (by omega), if_neg hn]
    · rw [rrem, if_pos e, peak, h1, rem, h1, e]
      by_cases hn : n + 1 = 6
      · rw [if_pos hn, if_pos (by omega)]
      · rw [if_neg hn, ih (n + 1) (by omega) (by omega), if_neg (by omega : ¬ n = 5)]
        have hm : (max (n + 1) (peak (n + 1) t) > 5) ↔ peak (n + 1) t > 5 := by omega
        by_cases hp : peak (n + 1) t > 5
        · rw [if_pos hp, if_pos (hm.2 hp)]; rfl
        · rw [if_neg hp, if_neg (fun h => hp (hm.1 h))]; rfl
theorem last_append (n : Int) (a b : List Int) : last n (a ++ b) = last (last n a) b := by
  induction a generalizing n with
  | nil => rfl
  | cons c t ih => exact ih _
theorem five_ones (a : List Int) (s0 s1 s2 s3 s4 : Int) (h0 : s0 = 0 ∨ s0 = 1) (h1 : s1 = 0 ∨ s1 = 1) (h2 : s2 = 0 ∨ s2 = 1) (h3 : s3 = 0 ∨ s3 = 1) (h4 : s4 = 0 ∨ s4 = 1) :
    ([s0, s1, s2, s3, s4].all (· == 1) = true) ↔ 5 ≤ last 0 (a ++ [s0, s1, s2, s3, s4]) := by
  rw [last_append]
  have hn := last_nonneg 0 a (by omega)
  generalize last 0 a = n at hn
  rcases h0 with rfl | rfl <;> rcases h1 with rfl | rfl <;> rcases h2 with rfl | rfl <;> rcases h3 with rfl | rfl <;> rcases h4 with rfl | rfl <;> simp [last] <;> omega
end Go.Proofs.Ytjmclghjhnbafaa.Pl

/- What the printed functions of layer 6 and of its reference come to, in plain words. -/
namespace Go.Proofs.Ytjmclghjhnbafaa.Sp
open Go.RowKit Go.Proofs.Ytjmclghjhnbafaa.Print Go.Proofs.YtjmclghjhnbafaaW.PrintWords Go.Proofs.YtjmclghjhnbafaaW.PrintLast Go.Proofs.Ytjmclghjhnbafaa.Pl
set_option linter.unusedVariables false
theorem Insert_l0 (c : List Int) (hl : Lim c) (hbit : ∀ x ∈ c, x = 0 ∨ x = 1) : ∀ (t : List Int) (i : Nat) (x : List Int) (n : Int), c.drop i = t → x.length ≤ 2 * i → 0 ≤ n → n ≤ 4 → Ev (fun k => zero_Insert.l0 k x n c (c.length : Int) i) (x ++ ins n t)
  | [], i, x, n, h1, hx, h0, h4 => by
    have h3 := drop_nil_len h1
    rw [ins, List.append_nil]
    exact Ev.step (fun k => by simp only [zero_Insert.l0]; rw [if_neg (by omega)]) (Ev.now _)
  | b :: t, i, x, n, h1, hx, h0, h4 => by
    obtain ⟨e1, e2, e3⟩ := rd_drop h1
    have hb := hbit b (by have : b ∈ c.drop i := by rw [h1]; simp
                          exact List.mem_of_mem_drop this)
    unfold Lim at hl
    have e : x ++ ins n (b :: t) = if b = 0 then (x ++ [b]) ++ ins 0 t else if n + 1 = 5 then ((x ++ [b]) ++ [0]) ++ ins 0 t else (x ++ [b]) ++ ins (n + 1) t := by
      rcases hb with rfl | rfl
      · simp [ins]
      · have e9 : (1 : Int) % 2 = 1 := by decide
        rw [ins, e9, if_neg (show ¬ (1 : Int) = 0 by decide), if_neg (show ¬ (1 : Int) = 0 by decide)]
        split <;> simp
    rw [e]
    refine Ev.step (fun k => by simp only [zero_Insert.l0]; rw [if_pos (by omega), if_pos (by omega), if_pos (by omega), if_pos (by omega), e1, suc i (by omega), w64 (x := n + 1) (by omega) (by omega)]) ?_
    refine Ev.name ?_
    by_cases hz : b = 0
    · rw [if_pos hz]
      exact Ev.pos hz (Insert_l0 c hl hbit t (i + 1) _ 0 e2 (by simp; omega) (by omega) (by omega))
    · rw [if_neg hz]
      refine Ev.neg hz ?_
      by_cases h5 : n + 1 = 5
      · rw [if_pos h5]
        refine Ev.pos h5 (Ev.pos (by simp; omega) ?_)
        exact Insert_l0 c hl hbit t (i + 1) _ 0 e2 (by simp; omega) (by omega) (by omega)
      · rw [if_neg h5]
        exact Ev.neg h5 (Insert_l0 c hl hbit t (i + 1) _ (n + 1) e2 (by simp; omega) (by omega) (by omega))
theorem Insert (l : List Int) (hl : Lim l) (hb : Bytes l) : Ev (fun k => zero_Insert.f k l) (ins 0 l) := by
  have hlc : Lim (clean l) := by unfold Lim; rw [clean_length]; exact hl
  have h := Insert_l0 (clean l) hlc (fun x hx => bit_clean hx) (clean l) 0 [] 0 rfl (by simp) (by omega) (by omega)
  rw [ins_clean] at h
  have hll := hl
  unfold Lim at hll
  have hq : Int.tdiv (l.length : Int) 5 = (l.length : Int) / 5 := Int.tdiv_eq_ediv_of_nonneg (by omega)
  unfold zero_Insert.f
  simp only [w64 (x := (l.length : Int) / 5) (by omega) (by omega), w64 (x := (l.length : Int) + (l.length : Int) / 5) (by omega) (by omega)]
  refine Ev.pos (by omega) (Ev.pos (by omega) ?_)
  refine Ev.bind (Clean l hl hb) ?_
  exact h
theorem Flag : Ev (fun k => zero_Flag.f k) [0, 1, 1, 1, 1, 1, 1, 0] := by
  unfold zero_Flag.f
  refine Ev.bind (Of [126] (by unfold Lim; decide) (bytes_lit (by decide))) ?_
  exact Ev.end_ (by decide)

def told : Option (List Int) → List Int → List Int × Int
  | none, _ => ([], 10)
  | some r, x => (x ++ r, 0)
theorem rRemove_l0 (l : List Int) (hl : Lim l) (hb : Bytes l) : ∀ (t : List Int) (i : Nat) (x : List Int) (n : Int), l.drop i = t → x.length ≤ i → 0 ≤ n → n ≤ 5 → Ev (fun k => marlineref06_Remove.l0 k l x n i) (told (rrem n t) x)
  | [], i, x, n, h1, hx, h0, h4 => by
    have h3 := drop_nil_len h1
    rw [rrem, told, List.append_nil]
    exact Ev.step (fun k => by simp only [marlineref06_Remove.l0]; rw [if_neg (by omega)]) (Ev.now _)
  | b :: t, i, x, n, h1, hx, h0, h4 => by
    obtain ⟨e1, e2, e3⟩ := rd_drop h1
    have hc : Byte b := by
      have h4 := hb.drop i
      rw [h1] at h4
      exact h4.head
    have hll := hl
    unfold Lim at hll
    have hc0 := hc.1
    refine Ev.step (fun k => by simp only [marlineref06_Remove.l0]; rw [if_pos (by omega), if_pos (by omega), e1, Int.tmod_eq_emod_of_nonneg hc0, suc i (by omega), w64 (x := n + 1) (by omega) (by omega)]) ?_
    rw [rrem]
    by_cases hb1 : b % 2 = 1
    · rw [if_pos hb1]
      refine Ev.pos hb1 ?_
      by_cases h6 : n + 1 = 6
      · rw [if_pos h6]
        exact Ev.pos h6 (Ev.now _)
      · rw [if_neg h6]
        refine Ev.neg h6 (Ev.pos (by omega) ?_)
        have ih := rRemove_l0 l hl hb t (i + 1) (x ++ [1]) (n + 1) e2 (by simp; omega) (by omega) (by omega)
        rw [show told ((rrem (n + 1) t).map (1 :: ·)) x = told (rrem (n + 1) t) (x ++ [1]) by cases rrem (n + 1) t <;> simp [told]]
        exact ih
    · rw [if_neg hb1]
      refine Ev.neg hb1 ?_
      by_cases h5 : n < 5
      · refine Ev.pos h5 (Ev.pos (by omega) ?_)
        have ih := rRemove_l0 l hl hb t (i + 1) (x ++ [0]) 0 e2 (by simp; omega) (by omega) (by omega)
        rw [show told ((rrem 0 t).map (fun r => if n < 5 then 0 :: r else r)) x = told (rrem 0 t) (x ++ [0]) by cases rrem 0 t <;> simp [told, h5]]
        exact ih
      · refine Ev.neg h5 ?_
        have ih := rRemove_l0 l hl hb t (i + 1) x 0 e2 (by omega) (by omega) (by omega)
        rw [show told ((rrem 0 t).map (fun r => if n < 5 then 0 :: r else r)) x = told (rrem 0 t) x by cases rrem 0 t <;> simp [told, h5]]
        exact ih
theorem rRemove (l : List Int) (hl : Lim l) (hb : Bytes l) : Ev (fun k => marlineref06_Remove.f k l) (if run l > 5 then ([], 10) else (rem 0 l, 0)) := by
  have h := rRemove_l0 l hl hb l 0 [] 0 rfl (by simp) (by omega) (by omega)
  rw [rrem_is 0 l (by omega) (by omega)] at h
  rw [show (if run l > 5 then (([] : List Int), (10 : Int)) else (rem 0 l, 0)) = told (if peak 0 l > 5 then none else some (rem 0 l)) [] by unfold run; split <;> rfl]
  exact h
theorem Concat3 (a b c : List Int) (ha : Lim a) (hb : Lim b) (hc : Lim c) : Ev (fun k => slices_Concat_byte_byte.f k [a, b, c]) (a ++ b ++ c) := by
  unfold Lim at ha hb hc
  unfold slices_Concat_byte_byte.f
  have r0 : rd_L1 [a, b, c] 0 = a := rfl
  have r1 : rd_L1 [a, b, c] 1 = b := rfl
  have r2 : rd_L1 [a, b, c] 2 = c := rfl
  have w0 : wrap64 (0 + (a.length : Int)) = a.length := w64 (by omega) (by omega) |>.trans (by omega)
  have w1 : wrap64 ((a.length : Int) + b.length) = a.length + b.length := w64 (by omega) (by omega)
  have w2 : wrap64 ((a.length : Int) + b.length + c.length) = a.length + b.length + c.length := w64 (by omega) (by omega)
  have v0 : wrap64 (0 + 1 : Int) = 1 := w64 (by omega) (by omega)
  have v1 : wrap64 (1 + 1 : Int) = 2 := w64 (by omega) (by omega)
  have v2 : wrap64 (2 + 1 : Int) = 3 := w64 (by omega) (by omega)
  refine Ev.step (fun k => by simp only [slices_Concat_byte_byte.l0]; rw [if_pos (by simp), if_pos (by omega), if_pos (by simp), r0, w0, if_neg (by omega), v0]) ?_
  refine Ev.step (fun k => by simp only [slices_Concat_byte_byte.l0]; rw [if_pos (by simp), if_pos (by omega), if_pos (by simp), r1, w1, if_neg (by omega), v1]) ?_
  refine Ev.step (fun k => by simp only [slices_Concat_byte_byte.l0]; rw [if_pos (by simp), if_pos (by omega), if_pos (by simp), r2, w2, if_neg (by omega), v2]) ?_
  refine Ev.step (fun k => by simp only [slices_Concat_byte_byte.l0]; rw [if_neg (by simp)]) ?_
  have hg : slices_Grow_byte_byte.f ([] : List Int) ((a.length : Int) + b.length + c.length) = some [] := by
    unfold slices_Grow_byte_byte.f
    rw [if_pos (by omega), if_pos (by omega)]
  rw [hg]
  refine Ev.name ?_
  refine Ev.step (fun k => by simp only [slices_Concat_byte_byte.l1]; rw [if_pos (by simp), if_pos (by omega), if_pos (by simp), r0, if_pos (by simp only [List.length_nil]; omega), v0, List.nil_append]) ?_
  refine Ev.step (fun k => by simp only [slices_Concat_byte_byte.l1]; rw [if_pos (by simp), if_pos (by omega), if_pos (by simp), r1, if_pos (by omega), v1]) ?_
  refine Ev.step (fun k => by simp only [slices_Concat_byte_byte.l1]; rw [if_pos (by simp), if_pos (by omega), if_pos (by simp), r2, if_pos (by rw [List.length_append]; omega), v2]) ?_
  exact Ev.step (fun k => by simp only [slices_Concat_byte_byte.l1]; rw [if_neg (by simp)]) (Ev.now _)
/-- A flag's bits. -/
def flag : List Int := [0, 1, 1, 1, 1, 1, 1, 0]
/-- What octets come to, wrapped. -/
def wrapZ (l : List Int) : List Int := flag ++ ins 0 (ofOct l) ++ flag
theorem WrapZ (l : List Int) (hl : l.length ≤ 10000) (hb : Bytes l) : Ev (fun k => sync_Wrap.f k l) (wrapZ l) := by
  unfold sync_Wrap.f
  have h8 := ofOct_length l
  have hi := ins_len 0 (ofOct l) (by omega) (by omega)
  have hbb : Bytes (ofOct l) := by rw [← clean_ofOct]; exact bytes_clean _
  exact Ev.bind Flag (Ev.bind (Of l (by unfold Lim; omega) hb) (Ev.bind (Insert (ofOct l) (by unfold Lim; omega) hbb) (Ev.bind Flag (Ev.bind (Concat3 flag (ins 0 (ofOct l)) flag (by unfold Lim flag; simp) (by unfold Lim; omega) (by unfold Lim flag; simp)) (Ev.now _)))))
end Go.Proofs.Ytjmclghjhnbafaa.Sp

/- A text that a program of this claim (wip/x) laid out of the translation: what Go functions come to, and that they come to it. Lean checks it. -/
namespace Go.Proofs.Ytjmclghjhnbafaa.Print
open Go.RowKit Go.Proofs.YtjmclghjhnbafaaW.PrintWords Go.Proofs.YtjmclghjhnbafaaW.PrintLast Go.Proofs.YtjmclghjhnbafaaW.PrintMore
attribute [local go_sem] max2_int min2_int max_two min_two max_three min_three max_four min_four   -- for this text's walks alone
set_option linter.unusedVariables false
set_option linter.unusedSimpArgs false

/-! ### marlinelaw07_same: function 26 -/
def marlinelaw07_same.l0 : Nat → List (S54) → List (S54) → Int → Int → Option (Bool)
  | 0, _, _, _, _ => none
  | k + 1, x0, x1, x12, x13 => if x13 < x12 then (if 0 ≤ x13 then (if x13 < (x0.length : Int) then (if x13 < (x1.length : Int) then (if ((rd_T54 x0 x13).f0) = ((rd_T54 x1 x13).f0) then ((marlineref01_Equal.f k ((rd_T54 x0 x13).f1) ((rd_T54 x1 x13).f1)).bind fun t307 => (if t307 = true then (marlinelaw07_same.l0 k x0 x1 x12 (wrap64 (x13 + 1))) else (some false))) else (some false)) else (none)) else (none)) else (none)) else (some true)
def marlinelaw07_same.f (k : Nat) (l0 : List (S54)) (l1 : List (S54)) : Option (Bool) := if (l0.length : Int) = (l1.length : Int) then (marlinelaw07_same.l0 k l0 l1 (l0.length : Int) 0) else (some false)
theorem marlinelaw07_same.mono_l : ∀ k, (∀ y0 y1 y2 y3, LeO (marlinelaw07_same.l0 k y0 y1 y2 y3) (marlinelaw07_same.l0 (k + 1) y0 y1 y2 y3))
  | 0 => fun _ _ _ _ r h => by simp [marlinelaw07_same.l0] at h
  | k + 1 => by
    have ih0 := marlinelaw07_same.mono_l k
    · intro y0 y1 y2 y3
      unfold marlinelaw07_same.l0
      repeat' first
      | (with_reducible exact ih0 _ _ _ _)
      | (with_reducible exact marlineref01_Equal.mono _ _ _)
      | (with_reducible exact LeO.refl _)
      | (with_reducible exact LeO.none _)
      | (with_reducible refine LeO.ite ?_ ?_)
      | (with_reducible refine LeO.bind ?_ (fun _ => ?_))
      | exact ih0 _ _ _ _
      | exact marlineref01_Equal.mono _ _ _
      | exact LeO.none _
      | refine LeO.ite ?_ ?_
      | refine LeO.bind ?_ (fun _ => ?_)
theorem marlinelaw07_same.mono : ∀ a0 a1 k, LeO (marlinelaw07_same.f k a0 a1) (marlinelaw07_same.f (k + 1) a0 a1) := by
  intro a0 a1 k
  have ih0 := marlinelaw07_same.mono_l k
  unfold marlinelaw07_same.f
  repeat' first
      | (with_reducible exact ih0 _ _ _ _)
      | (with_reducible exact marlineref01_Equal.mono _ _ _)
      | (with_reducible exact LeO.refl _)
      | (with_reducible exact LeO.none _)
      | (with_reducible refine LeO.ite ?_ ?_)
      | (with_reducible refine LeO.bind ?_ (fun _ => ?_))
      | exact ih0 _ _ _ _
      | exact marlineref01_Equal.mono _ _ _
      | exact LeO.none _
      | refine LeO.ite ?_ ?_
      | refine LeO.bind ?_ (fun _ => ?_)
set_option maxHeartbeats 8000000 in
set_option maxRecDepth 100000 in
theorem marlinelaw07_same.calls (k : Nat) (A0 : Option Addr) (c0 : Nat) (l0 : List (S54)) (A1 : Option Addr) (c1 : Nat) (l1 : List (S54)) (r : Bool) (w : World) (hr0 : Kd.C k54 w A0 l0.length l0) (hc0 : l0.length ≤ c0) (hr1 : Kd.C k54 w A1 l1.length l1) (hc1 : l1.length ≤ c1) (h : marlinelaw07_same.f k l0 l1 = some r) :
    Calls Try.prog 26 #[.slice A0 l0.length c0, .slice A1 l1.length c1] w fun e w' => e = .returned (.bool r) ∧ Drawn0 w w' := by
  have HR0 := Aside0.mk hr0
  have HC0 := Aside0.mk hc0
  clear hr0 hc0
  have HR1 := Aside0.mk hr1
  have HC1 := Aside0.mk hc1
  clear hr1 hc1
  have H : (if (l0.length : Int) = (l1.length : Int) then (marlinelaw07_same.l0 k l0 l1 (l0.length : Int) 0) else (some false)) = some r := h
  clear h
  by_cases c3 : (l0.length : Int) = (l1.length : Int)
  · rw [if_pos c3] at H
    have c3b0 : ((l0.length : Int) == (l1.length : Int)) = true := beq_iff_eq.mpr c3
    have c3b1 : ((l0.length : Int) != (l1.length : Int)) = false := bne_eq_false_iff_eq.mpr c3
    have c3b2 : (l0.length == l1.length) = true := by first | simpa using c3 | (simp at c3 ⊢; omega)
    clear c3
    have H' := Aside0.mk H
    clear H
    go_enter Try.func26, Try.ntmps26
    go_wp2
    repeat (go_quiet (fail); try go_wp2)
    go_loopg [13] k (fun kq v13 w' => ∃ (x13_1 : Int), v13 = .int .i64 x13_1 ∧ Aside0 (marlinelaw07_same.l0 kq l0 l1 (l0.length : Int) x13_1 = some r) ∧ Aside0 (kq ≤ k) ∧ Drawn0 w w')
    case atStart => exact ⟨(0), (by first | rfl | (simp; done) | (simp [*]; done)), H', ⟨Nat.le_refl _⟩, by repeat (first | exact Drawn0.refl _ | apply Drawn0.step)⟩
    case round =>
      clear H'
      try clear c1
      try clear c2
      try clear p2
      try clear c3
      try clear c3b0
      try clear c3b1
      try clear c3b2
      obtain ⟨x13_1, rfl, HA, HK1, ⟨m1, rfl⟩⟩ := hrel
      cases gk with
      | zero => exact absurd HA.out (by simp [marlinelaw07_same.l0])
      | succ k1 =>
        have H := HA.out
        clear HA
        simp only [marlinelaw07_same.l0] at H
        by_cases c4 : x13_1 < (l0.length : Int)
        · rw [if_pos c4] at H
          have c4b0 : decide (x13_1 < (l0.length : Int)) = true := decide_eq_true c4
          clear c4
          by_cases c5 : 0 ≤ x13_1
          · rw [if_pos c5] at H
            have c5b0 : decide (0 ≤ x13_1) = true := decide_eq_true c5
            clear c5
            by_cases c6 : x13_1 < (l0.length : Int)
            · rw [if_pos c6] at H
              have c6b0 : decide (x13_1 < (l0.length : Int)) = true := decide_eq_true c6
              clear c6
              by_cases c7 : x13_1 < (l1.length : Int)
              · rw [if_pos c7] at H
                have c7b0 : decide (x13_1 < (l1.length : Int)) = true := decide_eq_true c7
                clear c7
                by_cases c8 : ((rd_T54 l0 x13_1).f0) = ((rd_T54 l1 x13_1).f0)
                · rw [if_pos c8] at H
                  have c8b0 : (((rd_T54 l0 x13_1).f0) == ((rd_T54 l1 x13_1).f0)) = true := beq_iff_eq.mpr c8
                  have c8b1 : (((rd_T54 l0 x13_1).f0) != ((rd_T54 l1 x13_1).f0)) = false := bne_eq_false_iff_eq.mpr c8
                  clear c8
                  replace H := Option.bind_eq_some_iff.mp H
                  obtain ⟨t307, A90, H⟩ := H
                  replace H : (if t307 = true then (marlinelaw07_same.l0 k1 l0 l1 (l0.length : Int) (wrap64 (x13_1 + 1))) else (some false)) = some r := H
                  have A9 := Aside0.mk A90
                  clear A90
                  by_cases c10 : t307 = true
                  · subst c10
                    have H1 : (marlinelaw07_same.l0 k1 l0 l1 (l0.length : Int) (wrap64 (x13_1 + 1))) = some r := by rw [if_pos rfl] at H; exact H
                    clear H
                    have H := H1
                    clear H1
                    have H' := Aside0.mk H
                    clear H
                    have p303 : 0 ≤ (x13_1 : Int) := of_decide_eq_true (by first | (with_reducible assumption) | assumption)
                    have q303 : x13_1 < (l0.length : Int) := of_decide_eq_true (by first | (with_reducible assumption) | assumption)
                    (try clear hHeld)
                    obtain ⟨ad303, A303_1, c303_1, e303, hx303_0, hx303_1, hl303_1, hi303_1⟩ := at_T54 HR0.out x13_1 p303 q303
                    cases e303
                    have HR303_1 := Aside0.mk hi303_1
                    have HC303_1 := Aside0.mk hl303_1
                    clear hi303_1 hl303_1
                    replace p303 := eq_true p303
                    replace q303 := eq_true q303
                    have p304 : 0 ≤ (x13_1 : Int) := of_decide_eq_true (by first | (with_reducible assumption) | assumption)
                    have q304 : x13_1 < (l1.length : Int) := of_decide_eq_true (by first | (with_reducible assumption) | assumption)
                    (try clear hHeld)
                    obtain ⟨ad304, A304_1, c304_1, e304, hx304_0, hx304_1, hl304_1, hi304_1⟩ := at_T54 HR1.out x13_1 p304 q304
                    cases e304
                    have HR304_1 := Aside0.mk hi304_1
                    have HC304_1 := Aside0.mk hl304_1
                    clear hi304_1 hl304_1
                    replace p304 := eq_true p304
                    replace q304 := eq_true q304
                    have p305 : 0 ≤ (x13_1 : Int) := of_decide_eq_true (by first | (with_reducible assumption) | assumption)
                    have q305 : x13_1 < (l0.length : Int) := of_decide_eq_true (by first | (with_reducible assumption) | assumption)
                    (try clear hHeld)
                    obtain ⟨ad305, A305_1, c305_1, e305, hx305_0, hx305_1, hl305_1, hi305_1⟩ := at_T54 HR0.out x13_1 p305 q305
                    obtain rfl : ad303 = ad305 := (by injection e305)
                    have HR305_1 := Aside0.mk hi305_1
                    have HC305_1 := Aside0.mk hl305_1
                    clear hi305_1 hl305_1
                    replace p305 := eq_true p305
                    replace q305 := eq_true q305
                    have ea_ := Option.some.inj (hx303_1.symm.trans hx305_1)
                    injection ea_ with ea_ en_ ec_
                    subst ea_
                    subst ec_
                    clear en_
                    have p306 : 0 ≤ (x13_1 : Int) := of_decide_eq_true (by first | (with_reducible assumption) | assumption)
                    have q306 : x13_1 < (l1.length : Int) := of_decide_eq_true (by first | (with_reducible assumption) | assumption)
                    (try clear hHeld)
                    obtain ⟨ad306, A306_1, c306_1, e306, hx306_0, hx306_1, hl306_1, hi306_1⟩ := at_T54 HR1.out x13_1 p306 q306
                    obtain rfl : ad304 = ad306 := (by injection e306)
                    have HR306_1 := Aside0.mk hi306_1
                    have HC306_1 := Aside0.mk hl306_1
                    clear hi306_1 hl306_1
                    replace p306 := eq_true p306
                    replace q306 := eq_true q306
                    have ea_ := Option.some.inj (hx304_1.symm.trans hx306_1)
                    injection ea_ with ea_ en_ ec_
                    subst ea_
                    subst ec_
                    clear en_
                    go_wp2_with (first | (go_at_call 17; (with_reducible refine (marlineref01_Equal.calls k1 _ _ ((rd_T54 l0 x13_1).f1) _ _ ((rd_T54 l1 x13_1).f1) true _ ?side1 ?side2 ?side3 ?side4 A9.out).mono ?_); (case side1 => repeat (first | exact HR305_1.out | (with_reducible refine Kd.C_alloc ?_ _) | (with_reducible refine Kd.C_drewN ?_ _) | (with_reducible refine Kd.C_drew ?_))); (case side2 => exact HC305_1.out); (case side3 => repeat (first | exact HR306_1.out | (with_reducible refine Kd.C_alloc ?_ _) | (with_reducible refine Kd.C_drewN ?_ _) | (with_reducible refine Kd.C_drew ?_))); (case side4 => exact HC306_1.out); rintro e w' ⟨rfl, ⟨nd, rfl⟩⟩; (try first | exact ⟨rfl, _, World.drewN_drewN _ _ _⟩ | exact ⟨rfl, _, Eq.trans (World.drewN_drewN _ _ _) (congrArg (World.drewN _) (Nat.add_assoc _ _ _))⟩)))
                    repeat (go_quiet (first | (go_at_call 17; (with_reducible refine (marlineref01_Equal.calls k1 _ _ ((rd_T54 l0 x13_1).f1) _ _ ((rd_T54 l1 x13_1).f1) true _ ?side1 ?side2 ?side3 ?side4 A9.out).mono ?_); (case side1 => repeat (first | exact HR305_1.out | (with_reducible refine Kd.C_alloc ?_ _) | (with_reducible refine Kd.C_drewN ?_ _) | (with_reducible refine Kd.C_drew ?_))); (case side2 => exact HC305_1.out); (case side3 => repeat (first | exact HR306_1.out | (with_reducible refine Kd.C_alloc ?_ _) | (with_reducible refine Kd.C_drewN ?_ _) | (with_reducible refine Kd.C_drew ?_))); (case side4 => exact HC306_1.out); rintro e w' ⟨rfl, ⟨nd, rfl⟩⟩; (try first | exact ⟨rfl, _, World.drewN_drewN _ _ _⟩ | exact ⟨rfl, _, Eq.trans (World.drewN_drewN _ _ _) (congrArg (World.drewN _) (Nat.add_assoc _ _ _))⟩))); try go_wp2_with (first | (go_at_call 17; (with_reducible refine (marlineref01_Equal.calls k1 _ _ ((rd_T54 l0 x13_1).f1) _ _ ((rd_T54 l1 x13_1).f1) true _ ?side1 ?side2 ?side3 ?side4 A9.out).mono ?_); (case side1 => repeat (first | exact HR305_1.out | (with_reducible refine Kd.C_alloc ?_ _) | (with_reducible refine Kd.C_drewN ?_ _) | (with_reducible refine Kd.C_drew ?_))); (case side2 => exact HC305_1.out); (case side3 => repeat (first | exact HR306_1.out | (with_reducible refine Kd.C_alloc ?_ _) | (with_reducible refine Kd.C_drewN ?_ _) | (with_reducible refine Kd.C_drew ?_))); (case side4 => exact HC306_1.out); rintro e w' ⟨rfl, ⟨nd, rfl⟩⟩; (try first | exact ⟨rfl, _, World.drewN_drewN _ _ _⟩ | exact ⟨rfl, _, Eq.trans (World.drewN_drewN _ _ _) (congrArg (World.drewN _) (Nat.add_assoc _ _ _))⟩))))
                    go_roundg k1
                    case measure => have := HK1.out; omega
                    case rel => exact ⟨(wrap64 (x13_1 + 1)), (by first | rfl | (simp; done) | (simp [*]; done)), H', ⟨by have := HK1.out; omega⟩, by repeat (first | exact Drawn0.refl _ | apply Drawn0.step)⟩
                  · replace c10 := Bool.eq_false_iff.mpr c10
                    subst c10
                    have H1 : (some false) = some r := by rw [if_neg (show ¬ (false = true) by decide)] at H; exact H
                    clear H
                    have H := H1
                    clear H1
                    obtain rfl := Option.some.inj H
                    have p303 : 0 ≤ (x13_1 : Int) := of_decide_eq_true (by first | (with_reducible assumption) | assumption)
                    have q303 : x13_1 < (l0.length : Int) := of_decide_eq_true (by first | (with_reducible assumption) | assumption)
                    (try clear hHeld)
                    obtain ⟨ad303, A303_1, c303_1, e303, hx303_0, hx303_1, hl303_1, hi303_1⟩ := at_T54 HR0.out x13_1 p303 q303
                    cases e303
                    have HR303_1 := Aside0.mk hi303_1
                    have HC303_1 := Aside0.mk hl303_1
                    clear hi303_1 hl303_1
                    replace p303 := eq_true p303
                    replace q303 := eq_true q303
                    have p304 : 0 ≤ (x13_1 : Int) := of_decide_eq_true (by first | (with_reducible assumption) | assumption)
                    have q304 : x13_1 < (l1.length : Int) := of_decide_eq_true (by first | (with_reducible assumption) | assumption)
                    (try clear hHeld)
                    obtain ⟨ad304, A304_1, c304_1, e304, hx304_0, hx304_1, hl304_1, hi304_1⟩ := at_T54 HR1.out x13_1 p304 q304
                    cases e304
                    have HR304_1 := Aside0.mk hi304_1
                    have HC304_1 := Aside0.mk hl304_1
                    clear hi304_1 hl304_1
                    replace p304 := eq_true p304
                    replace q304 := eq_true q304
                    have p305 : 0 ≤ (x13_1 : Int) := of_decide_eq_true (by first | (with_reducible assumption) | assumption)
                    have q305 : x13_1 < (l0.length : Int) := of_decide_eq_true (by first | (with_reducible assumption) | assumption)
                    (try clear hHeld)
                    obtain ⟨ad305, A305_1, c305_1, e305, hx305_0, hx305_1, hl305_1, hi305_1⟩ := at_T54 HR0.out x13_1 p305 q305
                    obtain rfl : ad303 = ad305 := (by injection e305)
                    have HR305_1 := Aside0.mk hi305_1
                    have HC305_1 := Aside0.mk hl305_1
                    clear hi305_1 hl305_1
                    replace p305 := eq_true p305
                    replace q305 := eq_true q305
                    have ea_ := Option.some.inj (hx303_1.symm.trans hx305_1)
                    injection ea_ with ea_ en_ ec_
                    subst ea_
                    subst ec_
                    clear en_
                    have p306 : 0 ≤ (x13_1 : Int) := of_decide_eq_true (by first | (with_reducible assumption) | assumption)
                    have q306 : x13_1 < (l1.length : Int) := of_decide_eq_true (by first | (with_reducible assumption) | assumption)
                    (try clear hHeld)
                    obtain ⟨ad306, A306_1, c306_1, e306, hx306_0, hx306_1, hl306_1, hi306_1⟩ := at_T54 HR1.out x13_1 p306 q306
                    obtain rfl : ad304 = ad306 := (by injection e306)
                    have HR306_1 := Aside0.mk hi306_1
                    have HC306_1 := Aside0.mk hl306_1
                    clear hi306_1 hl306_1
                    replace p306 := eq_true p306
                    replace q306 := eq_true q306
                    have ea_ := Option.some.inj (hx304_1.symm.trans hx306_1)
                    injection ea_ with ea_ en_ ec_
                    subst ea_
                    subst ec_
                    clear en_
                    go_wp2_with (first | (go_at_call 17; (with_reducible refine (marlineref01_Equal.calls k1 _ _ ((rd_T54 l0 x13_1).f1) _ _ ((rd_T54 l1 x13_1).f1) false _ ?side1 ?side2 ?side3 ?side4 A9.out).mono ?_); (case side1 => repeat (first | exact HR305_1.out | (with_reducible refine Kd.C_alloc ?_ _) | (with_reducible refine Kd.C_drewN ?_ _) | (with_reducible refine Kd.C_drew ?_))); (case side2 => exact HC305_1.out); (case side3 => repeat (first | exact HR306_1.out | (with_reducible refine Kd.C_alloc ?_ _) | (with_reducible refine Kd.C_drewN ?_ _) | (with_reducible refine Kd.C_drew ?_))); (case side4 => exact HC306_1.out); rintro e w' ⟨rfl, ⟨nd, rfl⟩⟩; (try first | exact ⟨rfl, _, World.drewN_drewN _ _ _⟩ | exact ⟨rfl, _, Eq.trans (World.drewN_drewN _ _ _) (congrArg (World.drewN _) (Nat.add_assoc _ _ _))⟩)))
                    repeat (go_quiet (first | (go_at_call 17; (with_reducible refine (marlineref01_Equal.calls k1 _ _ ((rd_T54 l0 x13_1).f1) _ _ ((rd_T54 l1 x13_1).f1) false _ ?side1 ?side2 ?side3 ?side4 A9.out).mono ?_); (case side1 => repeat (first | exact HR305_1.out | (with_reducible refine Kd.C_alloc ?_ _) | (with_reducible refine Kd.C_drewN ?_ _) | (with_reducible refine Kd.C_drew ?_))); (case side2 => exact HC305_1.out); (case side3 => repeat (first | exact HR306_1.out | (with_reducible refine Kd.C_alloc ?_ _) | (with_reducible refine Kd.C_drewN ?_ _) | (with_reducible refine Kd.C_drew ?_))); (case side4 => exact HC306_1.out); rintro e w' ⟨rfl, ⟨nd, rfl⟩⟩; (try first | exact ⟨rfl, _, World.drewN_drewN _ _ _⟩ | exact ⟨rfl, _, Eq.trans (World.drewN_drewN _ _ _) (congrArg (World.drewN _) (Nat.add_assoc _ _ _))⟩))); try go_wp2_with (first | (go_at_call 17; (with_reducible refine (marlineref01_Equal.calls k1 _ _ ((rd_T54 l0 x13_1).f1) _ _ ((rd_T54 l1 x13_1).f1) false _ ?side1 ?side2 ?side3 ?side4 A9.out).mono ?_); (case side1 => repeat (first | exact HR305_1.out | (with_reducible refine Kd.C_alloc ?_ _) | (with_reducible refine Kd.C_drewN ?_ _) | (with_reducible refine Kd.C_drew ?_))); (case side2 => exact HC305_1.out); (case side3 => repeat (first | exact HR306_1.out | (with_reducible refine Kd.C_alloc ?_ _) | (with_reducible refine Kd.C_drewN ?_ _) | (with_reducible refine Kd.C_drew ?_))); (case side4 => exact HC306_1.out); rintro e w' ⟨rfl, ⟨nd, rfl⟩⟩; (try first | exact ⟨rfl, _, World.drewN_drewN _ _ _⟩ | exact ⟨rfl, _, Eq.trans (World.drewN_drewN _ _ _) (congrArg (World.drewN _) (Nat.add_assoc _ _ _))⟩))))
                    go_ret
                    exact ⟨by first | rfl | (simp; done) | (simp [*]; done), by repeat (first | exact Drawn0.refl _ | apply Drawn0.step)⟩
                · rw [if_neg c8] at H
                  have c8b0 : (((rd_T54 l0 x13_1).f0) == ((rd_T54 l1 x13_1).f0)) = false := beq_eq_false_iff_ne.mpr c8
                  have c8b1 : (((rd_T54 l0 x13_1).f0) != ((rd_T54 l1 x13_1).f0)) = true := bne_iff_ne.mpr c8
                  obtain rfl := Option.some.inj H
                  have p303 : 0 ≤ (x13_1 : Int) := of_decide_eq_true (by first | (with_reducible assumption) | assumption)
                  have q303 : x13_1 < (l0.length : Int) := of_decide_eq_true (by first | (with_reducible assumption) | assumption)
                  (try clear hHeld)
                  obtain ⟨ad303, A303_1, c303_1, e303, hx303_0, hx303_1, hl303_1, hi303_1⟩ := at_T54 HR0.out x13_1 p303 q303
                  cases e303
                  have HR303_1 := Aside0.mk hi303_1
                  have HC303_1 := Aside0.mk hl303_1
                  clear hi303_1 hl303_1
                  replace p303 := eq_true p303
                  replace q303 := eq_true q303
                  have p304 : 0 ≤ (x13_1 : Int) := of_decide_eq_true (by first | (with_reducible assumption) | assumption)
                  have q304 : x13_1 < (l1.length : Int) := of_decide_eq_true (by first | (with_reducible assumption) | assumption)
                  (try clear hHeld)
                  obtain ⟨ad304, A304_1, c304_1, e304, hx304_0, hx304_1, hl304_1, hi304_1⟩ := at_T54 HR1.out x13_1 p304 q304
                  cases e304
                  have HR304_1 := Aside0.mk hi304_1
                  have HC304_1 := Aside0.mk hl304_1
                  clear hi304_1 hl304_1
                  replace p304 := eq_true p304
                  replace q304 := eq_true q304
                  go_wp2
                  repeat (go_quiet (fail); try go_wp2)
                  go_ret
                  exact ⟨by first | rfl | (simp; done) | (simp [*]; done), by repeat (first | exact Drawn0.refl _ | apply Drawn0.step)⟩
              · rw [if_neg c7] at H
                exact absurd H (by simp)
            · rw [if_neg c6] at H
              exact absurd H (by simp)
          · rw [if_neg c5] at H
            exact absurd H (by simp)
        · rw [if_neg c4] at H
          have c4b0 : decide (x13_1 < (l0.length : Int)) = false := decide_eq_false c4
          clear c4
          obtain rfl := Option.some.inj H
          go_wp2
          repeat (go_quiet (fail); try go_wp2)
          go_ret
          exact ⟨by first | rfl | (simp; done) | (simp [*]; done), by repeat (first | exact Drawn0.refl _ | apply Drawn0.step)⟩
  · rw [if_neg c3] at H
    have c3b0 : ((l0.length : Int) == (l1.length : Int)) = false := beq_eq_false_iff_ne.mpr c3
    have c3b1 : ((l0.length : Int) != (l1.length : Int)) = true := bne_iff_ne.mpr c3
    have c3b2 : (l0.length == l1.length) = false := by first | simpa using c3 | (simp at c3 ⊢; omega)
    obtain rfl := Option.some.inj H
    go_enter Try.func26, Try.ntmps26
    go_wp2
    repeat (go_quiet (fail); try go_wp2)
    go_ret
    exact ⟨by first | rfl | (simp; done) | (simp [*]; done), by repeat (first | exact Drawn0.refl _ | apply Drawn0.step)⟩

end Go.Proofs.Ytjmclghjhnbafaa.Print

/- A text that a program of this claim (wip/x) laid out of the translation: what Go functions come to, and that they come to it. Lean checks it. -/
namespace Go.Proofs.Ytjmclghjhnbafaa.Print
open Go.RowKit Go.Proofs.YtjmclghjhnbafaaW.PrintWords Go.Proofs.YtjmclghjhnbafaaW.PrintLast Go.Proofs.YtjmclghjhnbafaaW.PrintMore
attribute [local go_sem] max2_int min2_int max_two min_two max_three min_three max_four min_four   -- for this text's walks alone
set_option linter.unusedVariables false
set_option linter.unusedSimpArgs false

/-! ### marlinelaw07_right: function 23 -/
def marlinelaw07_right.l0 : Nat → Int → List (List Int) → Int → List (List Int) → Int → Int → Option (Bool)
  | 0, _, _, _, _, _, _ => none
  | k + 1, x0, x1, x5, x8, x9, x10 => if x10 < x9 then (if 0 ≤ x10 then (if x10 < (x8.length : Int) then (marlinelaw07_right.l0 k x0 x1 (wrap64 (x5 + ((rd_L1 x8 x10).length : Int))) x8 x9 (wrap64 (x10 + 1))) else (none)) else (none)) else (if x0 ≥ 1 then (if x0 ≤ 1048576 then (if (x1.length : Int) ≤ 60 then (some (decide (x5 ≤ 900))) else (some false)) else (some false)) else (some false))
def marlinelaw07_right.f (k : Nat) (a0 : Int) (l1 : List (List Int)) : Option (Bool) := marlinelaw07_right.l0 k a0 l1 0 l1 (l1.length : Int) 0
theorem marlinelaw07_right.mono_l : ∀ k, (∀ y0 y1 y2 y3 y4 y5, LeO (marlinelaw07_right.l0 k y0 y1 y2 y3 y4 y5) (marlinelaw07_right.l0 (k + 1) y0 y1 y2 y3 y4 y5))
  | 0 => fun _ _ _ _ _ _ r h => by simp [marlinelaw07_right.l0] at h
  | k + 1 => by
    have ih0 := marlinelaw07_right.mono_l k
    · intro y0 y1 y2 y3 y4 y5
      unfold marlinelaw07_right.l0
      repeat' first
      | (with_reducible exact ih0 _ _ _ _ _ _)
      | (with_reducible exact LeO.refl _)
      | (with_reducible exact LeO.none _)
      | (with_reducible refine LeO.ite ?_ ?_)
      | (with_reducible refine LeO.bind ?_ (fun _ => ?_))
      | exact ih0 _ _ _ _ _ _
      | exact LeO.none _
      | refine LeO.ite ?_ ?_
      | refine LeO.bind ?_ (fun _ => ?_)
theorem marlinelaw07_right.mono : ∀ a0 a1 k, LeO (marlinelaw07_right.f k a0 a1) (marlinelaw07_right.f (k + 1) a0 a1) := by
  intro a0 a1 k
  have ih0 := marlinelaw07_right.mono_l k
  unfold marlinelaw07_right.f
  repeat' first
      | (with_reducible exact ih0 _ _ _ _ _ _)
      | (with_reducible exact LeO.refl _)
      | (with_reducible exact LeO.none _)
      | (with_reducible refine LeO.ite ?_ ?_)
      | (with_reducible refine LeO.bind ?_ (fun _ => ?_))
      | exact ih0 _ _ _ _ _ _
      | exact LeO.none _
      | refine LeO.ite ?_ ?_
      | refine LeO.bind ?_ (fun _ => ?_)
set_option maxHeartbeats 8000000 in
set_option maxRecDepth 100000 in
theorem marlinelaw07_right.calls (k : Nat) (a0 : Int) (A1 : Option Addr) (c1 : Nat) (l1 : List (List Int)) (r : Bool) (w : World) (hr1 : Kd.C (Kd.slice 5 (Kd.int .u8)) w A1 l1.length l1) (hc1 : l1.length ≤ c1) (h : marlinelaw07_right.f k a0 l1 = some r) :
    Calls Try.prog 23 #[.int .i64 a0, .slice A1 l1.length c1] w fun e w' => e = .returned (.bool r) ∧ Drawn0 w w' := by
  have HR1 := Aside0.mk hr1
  have HC1 := Aside0.mk hc1
  clear hr1 hc1
  have H : (marlinelaw07_right.l0 k a0 l1 0 l1 (l1.length : Int) 0) = some r := h
  clear h
  have H' := Aside0.mk H
  clear H
  go_enter Try.func23, Try.ntmps23
  go_wp2
  go_loopg [5, 10] k (fun kq v5 v10 w' => ∃ (x5_1 : Int) (x10_1 : Int), v5 = .int .i64 x5_1 ∧ v10 = .int .i64 x10_1 ∧ Aside0 (marlinelaw07_right.l0 kq a0 l1 x5_1 l1 (l1.length : Int) x10_1 = some r) ∧ Aside0 (kq ≤ k) ∧ Drawn0 w w')
  case atStart => exact ⟨(0), (0), (by first | rfl | (simp; done) | (simp [*]; done)), (by first | rfl | (simp; done) | (simp [*]; done)), H', ⟨Nat.le_refl _⟩, by repeat (first | exact Drawn0.refl _ | apply Drawn0.step)⟩
  case round =>
    clear H'
    try clear c1
    try clear c2
    try clear p2
    obtain ⟨x5_1, x10_1, rfl, rfl, HA, HK1, ⟨m1, rfl⟩⟩ := hrel
    cases gk with
    | zero => exact absurd HA.out (by simp [marlinelaw07_right.l0])
    | succ k1 =>
      have H := HA.out
      clear HA
      simp only [marlinelaw07_right.l0] at H
      by_cases c3 : x10_1 < (l1.length : Int)
      · rw [if_pos c3] at H
        have c3b0 : decide (x10_1 < (l1.length : Int)) = true := decide_eq_true c3
        clear c3
        by_cases c4 : 0 ≤ x10_1
        · rw [if_pos c4] at H
          have c4b0 : decide (0 ≤ x10_1) = true := decide_eq_true c4
          clear c4
          by_cases c5 : x10_1 < (l1.length : Int)
          · rw [if_pos c5] at H
            have c5b0 : decide (x10_1 < (l1.length : Int)) = true := decide_eq_true c5
            clear c5
            have H' := Aside0.mk H
            clear H
            have p302 : 0 ≤ (x10_1 : Int) := of_decide_eq_true (by first | (with_reducible assumption) | assumption)
            have q302 : x10_1 < (l1.length : Int) := of_decide_eq_true (by first | (with_reducible assumption) | assumption)
            (try clear hHeld)
            obtain ⟨ad302, A302_0, c302_0, e302, hx302_0, hl302_0, hi302_0⟩ := at_L1 HR1.out x10_1 p302 q302
            cases e302
            have HR302_0 := Aside0.mk hi302_0
            have HC302_0 := Aside0.mk hl302_0
            clear hi302_0 hl302_0
            replace p302 := eq_true p302
            replace q302 := eq_true q302
            go_wp2
            go_roundg k1
            case measure => have := HK1.out; omega
            case rel => exact ⟨(wrap64 (x5_1 + ((rd_L1 l1 x10_1).length : Int))), (wrap64 (x10_1 + 1)), (by first | rfl | (simp; done) | (simp [*]; done)), (by first | rfl | (simp; done) | (simp [*]; done)), H', ⟨by have := HK1.out; omega⟩, by repeat (first | exact Drawn0.refl _ | apply Drawn0.step)⟩
          · rw [if_neg c5] at H
            exact absurd H (by simp)
        · rw [if_neg c4] at H
          exact absurd H (by simp)
      · rw [if_neg c3] at H
        have c3b0 : decide (x10_1 < (l1.length : Int)) = false := decide_eq_false c3
        clear c3
        by_cases c6 : a0 ≥ 1
        · rw [if_pos c6] at H
          have c6b0 : decide (1 ≤ a0) = true := decide_eq_true c6
          clear c6
          by_cases c7 : a0 ≤ 1048576
          · rw [if_pos c7] at H
            have c7b0 : decide (a0 ≤ 1048576) = true := decide_eq_true c7
            clear c7
            by_cases c8 : (l1.length : Int) ≤ 60
            · rw [if_pos c8] at H
              have c8b0 : decide ((l1.length : Int) ≤ 60) = true := decide_eq_true c8
              have c8b1 : decide (l1.length ≤ 60) = true := decide_eq_true (by omega)
              clear c8
              obtain rfl := Option.some.inj H
              go_wp2
              go_ret
              exact ⟨by first | rfl | (simp; done) | (simp [*]; done), by repeat (first | exact Drawn0.refl _ | apply Drawn0.step)⟩
            · rw [if_neg c8] at H
              have c8b0 : decide ((l1.length : Int) ≤ 60) = false := decide_eq_false c8
              have c8b1 : decide (l1.length ≤ 60) = false := decide_eq_false (by omega)
              clear c8
              obtain rfl := Option.some.inj H
              go_wp2
              go_ret
              exact ⟨by first | rfl | (simp; done) | (simp [*]; done), by repeat (first | exact Drawn0.refl _ | apply Drawn0.step)⟩
          · rw [if_neg c7] at H
            have c7b0 : decide (a0 ≤ 1048576) = false := decide_eq_false c7
            clear c7
            obtain rfl := Option.some.inj H
            go_wp2
            go_ret
            exact ⟨by first | rfl | (simp; done) | (simp [*]; done), by repeat (first | exact Drawn0.refl _ | apply Drawn0.step)⟩
        · rw [if_neg c6] at H
          have c6b0 : decide (1 ≤ a0) = false := decide_eq_false c6
          clear c6
          obtain rfl := Option.some.inj H
          go_wp2
          go_ret
          exact ⟨by first | rfl | (simp; done) | (simp [*]; done), by repeat (first | exact Drawn0.refl _ | apply Drawn0.step)⟩

end Go.Proofs.Ytjmclghjhnbafaa.Print

/- The synchronous deframer as a fold, in plain words: chunks joined, how much is told and kept; speaks, same and right of its laws. -/
namespace Go.Proofs.Ytjmclghjhnbafaa.Sp
open Go.RowKit Go.Proofs.Ytjmclghjhnbafaa.Print Go.Proofs.YtjmclghjhnbafaaW.PrintWords Go.Proofs.YtjmclghjhnbafaaW.PrintLast Go.Proofs.Ytjmclghjhnbafaa.Pl
set_option linter.unusedVariables false
theorem sstep_out (m : Int) (o : List S54) (s : Sst) (c : Int) : sstep m (o, s) c = (o ++ (sstep m ([], s) c).1, (sstep m ([], s) c).2) := by
  unfold sstep
  by_cases h1 : sbit c = true
  · simp [h1]
  · simp only [if_neg h1]
    by_cases h2 : s.ones = 6
    · simp only [if_pos h2]
      by_cases h3 : s.any = true <;> simp [h3]
    · simp [h2]
theorem sfold_out (m : Int) : ∀ (l : List Int) (o : List S54) (s : Sst), l.foldl (sstep m) (o, s) = (o ++ (sfeed m s l).1, (sfeed m s l).2)
  | [], o, s => by simp [sfeed]
  | c :: t, o, s => by
    unfold sfeed
    rw [List.foldl_cons, List.foldl_cons, sstep_out m o s c]
    rw [sfold_out m t (o ++ (sstep m ([], s) c).1) (sstep m ([], s) c).2]
    have h := sfold_out m t (sstep m ([], s) c).1 (sstep m ([], s) c).2
    rw [show ((sstep m ([], s) c).1, (sstep m ([], s) c).2) = sstep m ([], s) c from rfl] at h
    rw [h, List.append_assoc]
theorem sfeed_append (m : Int) (s : Sst) (a b : List Int) : sfeed m s (a ++ b) = ((sfeed m s a).1 ++ (sfeed m (sfeed m s a).2 b).1, (sfeed m (sfeed m s a).2 b).2) := by
  have h := sfold_out m b (sfeed m s a).1 (sfeed m s a).2
  rw [show ((sfeed m s a).1, (sfeed m s a).2) = sfeed m s a from rfl] at h
  rw [← h]
  unfold sfeed
  rw [List.foldl_append]
theorem sfeed_cons (m : Int) (s : Sst) (c : Int) (t : List Int) : sfeed m s (c :: t) = ((sstep m ([], s) c).1 ++ (sfeed m (sstep m ([], s) c).2 t).1, (sfeed m (sstep m ([], s) c).2 t).2) := by
  have h := sfold_out m t (sstep m ([], s) c).1 (sstep m ([], s) c).2
  rw [show ((sstep m ([], s) c).1, (sstep m ([], s) c).2) = sstep m ([], s) c from rfl] at h
  rw [← h]
  rfl
theorem sok0 {n : Nat} (h : n ≤ 100000) : Sok s00 n := ⟨by simp only [s00, List.length_nil]; omega, Bytes.nil, by simp [s00], by simp only [s00]; omega⟩
theorem Sok.le {s : Sst} {n k : Nat} (h : Sok s n) (hk : k ≤ n) : Sok s k := ⟨by have := h.len; omega, h.byt, h.on0, by have := h.on1; omega⟩
theorem Sok.after {m : Int} {s : Sst} {n : Nat} {l : List Int} (h : Sok s (n + l.length)) : Sok (sfeed m s l).2 n ∧ (sfeed m s l).1.length ≤ l.length := by
  have := Sok.fold m l ([], s) n h
  simpa [sfeed] using this
theorem soc_len (l : List Int) : (soc l).length ≤ l.length / 8 := by
  unfold soc
  split
  · rw [octs_length]; exact Nat.le_refl _
  · simp
theorem sseg_len (m : Int) (s : Sst) : (sseg m s (soc s.bits)).length ≤ s.bits.length / 8 := by
  unfold sseg
  split
  · exact soc_len _
  · simp
theorem sstep_seg {m : Int} {s : Sst} {n : Nat} (h : Sok s n) (c : Int) : ∀ x ∈ (sstep m ([], s) c).1, x.f1.length ≤ 1000000 := by
  intro x hx
  unfold sstep at hx
  split at hx
  · simp at hx
  · split at hx
    · simp only at hx
      split at hx
      · rw [List.nil_append, List.mem_singleton] at hx
        subst hx
        have h1 := sseg_len m s
        have h2 := h.len
        simp only at h1 ⊢
        omega
      · simp at hx
    · simp at hx
theorem sfeed_seg {m : Int} : ∀ (l : List Int) (s : Sst), Sok s l.length → ∀ x ∈ (sfeed m s l).1, x.f1.length ≤ 1000000
  | [], s, h => by simp [sfeed]
  | c :: t, s, h => by
    intro x hx
    rw [sfeed_cons] at hx
    rcases List.mem_append.1 hx with hx | hx
    · exact sstep_seg h c x hx
    · exact sfeed_seg t _ (Sok.step (p := ([], s)) h c).1 x hx
/-- Feed's function is the fold, where what is kept is small. -/
theorem FeedS (m : Int) (s : Sst) (l : List Int) (h : Sok s l.length) :
    sync_Deframer_Feed.f m s.bits s.many s.any s.broken s.ones s.zero s.stuff l = some ((sfeed m s l).1, (sfeed m s l).2.bits, (sfeed m s l).2.many, (sfeed m s l).2.any, (sfeed m s l).2.broken, (sfeed m s l).2.ones, (sfeed m s l).2.zero, (sfeed m s l).2.stuff) := by
  unfold sync_Deframer_Feed.f
  rw [if_pos ⟨h.len, List.all_eq_true.2 (fun x hx => decide_eq_true (h.byt x hx)), h.on0, h.on1⟩]
theorem FeedS0 (m : Int) (l : List Int) (h : l.length ≤ 100000) :
    sync_Deframer_Feed.f m [] 0 false false 0 false false l = some ((sfeed m s00 l).1, (sfeed m s00 l).2.bits, (sfeed m s00 l).2.many, (sfeed m s00 l).2.any, (sfeed m s00 l).2.broken, (sfeed m s00 l).2.ones, (sfeed m s00 l).2.zero, (sfeed m s00 l).2.stuff) :=
  FeedS m s00 l (sok0 h)
theorem sfeed_speaks : (sfeed 9 s00 [0, 1, 1, 1, 1, 1, 1, 0, 0, 0, 0, 0, 0, 0, 0, 0, 0, 1, 1, 1, 1, 1, 1, 0]).1 = [⟨0, [0]⟩] := by kernel_rfl
theorem wrap_speaks : wrapZ [0] = [0, 1, 1, 1, 1, 1, 1, 0, 0, 0, 0, 0, 0, 0, 0, 0, 0, 1, 1, 1, 1, 1, 1, 0] := by kernel_rfl
theorem Speaks07 : Ev (fun k => marlinelaw07_speaks.f k) true := by
  unfold marlinelaw07_speaks.f
  refine Ev.bind (WrapZ [0] (by simp) (bytes_lit (by decide))) ?_
  rw [wrap_speaks, FeedS0 9 _ (by simp)]
  refine Ev.name ?_
  simp only [sfeed_speaks]
  refine Ev.pos (by simp) (Ev.pos (by simp) (Ev.pos (by simp) (Ev.pos rfl ?_)))
  refine Ev.bind (Equal [0] [0] (by unfold Lim; simp)) (Ev.end_ (by simp))
/-! ### same -/
def SegsOk (l : List S54) : Prop := l.length ≤ 1000000 ∧ ∀ s ∈ l, Lim s.f1
theorem rdT_drop {xs : List S54} {i : Nat} {b : S54} {t : List S54} (h : xs.drop i = b :: t) : rd_T54 xs (i : Int) = b ∧ xs.drop (i + 1) = t ∧ i < xs.length := by
  have h1 : i < xs.length := by
    apply Decidable.byContradiction
    intro hn
    rw [List.drop_of_length_le (by omega)] at h
    cases h
  have h2 := List.drop_eq_getElem_cons h1
  rw [h] at h2
  injection h2 with h3 h4
  refine ⟨?_, h4.symm, h1⟩
  unfold rd_T54
  rw [Int.toNat_natCast, List.getD_eq_getElem?_getD, List.getElem?_eq_getElem h1]
  exact h3.symm
theorem Same_l0 (l : List S54) (ok : SegsOk l) : ∀ (t : List S54) (i : Nat), l.drop i = t → Ev (fun k => marlinelaw07_same.l0 k l l (l.length : Int) i) true
  | [], i, h => by
    have h3 : l.length ≤ i := by
      have := congrArg List.length h
      simp at this; omega
    exact Ev.step (fun k => by simp only [marlinelaw07_same.l0]; rw [if_neg (by omega)]) (Ev.end_ rfl)
  | c :: t, i, h => by
    obtain ⟨e1, e2, e3⟩ := rdT_drop h
    have h0 := ok.1
    have hc : Lim c.f1 := ok.2 c (by
      have : c ∈ l.drop i := by rw [h]; simp
      exact List.mem_of_mem_drop this)
    refine Ev.step (fun k => by simp only [marlinelaw07_same.l0]; rw [if_pos (by omega), if_pos (by omega), if_pos (by omega), if_pos (by omega), if_pos trivial, e1, suc i (by omega)]) ?_
    refine Ev.bind (Equal c.f1 c.f1 hc) (Ev.pos (by simp) ?_)
    exact Same_l0 l ok t (i + 1) e2
theorem SameD (l : List S54) (ok : SegsOk l) : Ev (fun k => marlinelaw07_same.f k l l) true := by
  unfold marlinelaw07_same.f
  exact Ev.pos rfl (Same_l0 l ok l 0 rfl)
/-! ### right -/
def tot : List (List Int) → Int
  | [] => 0
  | c :: t => c.length + tot t
theorem tot_nn (l : List (List Int)) : 0 ≤ tot l := by
  induction l with
  | nil => simp [tot]
  | cons c t ih => simp only [tot]; omega
def SegsLim (l : List (List Int)) : Prop := ∀ c ∈ l, (c.length : Int) ≤ 140737488351232
theorem rdL_drop {xs : List (List Int)} {i : Nat} {b : List Int} {t : List (List Int)} (h : xs.drop i = b :: t) : rd_L1 xs (i : Int) = b ∧ xs.drop (i + 1) = t ∧ i < xs.length := by
  have h1 : i < xs.length := by
    apply Decidable.byContradiction
    intro hn
    rw [List.drop_of_length_le (by omega)] at h
    cases h
  have h2 := List.drop_eq_getElem_cons h1
  rw [h] at h2
  injection h2 with h3 h4
  refine ⟨?_, h4.symm, h1⟩
  unfold rd_L1
  rw [Int.toNat_natCast, List.getD_eq_getElem?_getD, List.getElem?_eq_getElem h1]
  exact h3.symm
theorem dropL_nil {xs : List (List Int)} {i : Nat} (h : xs.drop i = []) : xs.length ≤ i := by
  have := congrArg List.length h
  simp at this; omega
/-- What right answers: whether few octets, where the chunks are no more than 60; no matter what where there are more. -/
theorem Right_l0 (m : Int) (l : List (List Int)) (hs : SegsLim l) (hl : l.length ≤ 5864062014634) : ∀ (t : List (List Int)) (i : Nat) (n : Int), l.drop i = t →
    ∃ n' : Int, (l.length ≤ 60 → 0 ≤ n → n + 140737488351232 * t.length ≤ 140737488351232 * 60 → n' = n + tot t) ∧ Ev (fun k => marlinelaw07_right.l0 k m l n l (l.length : Int) i) (if m ≥ 1 ∧ m ≤ 1048576 ∧ (l.length : Int) ≤ 60 then decide (n' ≤ 900) else false)
  | [], i, n, h => by
    have h3 := dropL_nil h
    refine ⟨n, fun _ _ _ => by simp [tot], Ev.step (fun k => by simp only [marlinelaw07_right.l0]; rw [if_neg (by omega)]) ?_⟩
    by_cases h1 : m ≥ 1
    · refine Ev.pos h1 ?_
      by_cases h2 : m ≤ 1048576
      · refine Ev.pos h2 ?_
        by_cases h4 : (l.length : Int) ≤ 60
        · exact Ev.pos h4 (Ev.end_ (by rw [if_pos ⟨h1, h2, h4⟩]))
        · exact Ev.neg h4 (Ev.end_ (by rw [if_neg (fun h => h4 h.2.2)]))
      · exact Ev.neg h2 (Ev.end_ (by rw [if_neg (fun h => h2 h.2.1)]))
    · exact Ev.neg h1 (Ev.end_ (by rw [if_neg (fun h => h1 h.1)]))
  | c :: t, i, n, h => by
    obtain ⟨e1, e2, e3⟩ := rdL_drop h
    have hc := hs c (List.mem_of_mem_drop (by rw [h]; simp : c ∈ l.drop i))
    obtain ⟨n', k1, k2⟩ := Right_l0 m l hs hl t (i + 1) (wrap64 (n + c.length)) e2
    refine ⟨n', ?_, Ev.step (fun k => by simp only [marlinelaw07_right.l0]; rw [if_pos (by omega), if_pos (by omega), if_pos (by omega), e1, show wrap64 ((i : Int) + 1) = ((i + 1 : Nat) : Int) by rw [w64 (by omega) (by omega)]; omega]) k2⟩
    intro a b d
    simp only [List.length_cons] at d
    have w : wrap64 (n + c.length) = n + c.length := w64 (by omega) (by omega)
    rw [w] at k1
    rw [k1 a (by omega) (by omega)]
    simp only [tot]
    omega
theorem RightD (m : Int) (l : List (List Int)) (hs : SegsLim l) (hl : l.length ≤ 5864062014634) : ∃ b : Bool, (b = true → 1 ≤ m ∧ m ≤ 1048576 ∧ l.length ≤ 60 ∧ tot l ≤ 900) ∧ Ev (fun k => marlinelaw07_right.f k m l) b := by
  obtain ⟨n', k1, k2⟩ := Right_l0 m l hs hl l 0 0 rfl
  refine ⟨_, ?_, k2⟩
  intro h
  by_cases h1 : m ≥ 1 ∧ m ≤ 1048576 ∧ (l.length : Int) ≤ 60
  · rw [if_pos h1, decide_eq_true_iff] at h
    have := k1 (by omega) (by omega) (by omega)
    exact ⟨by omega, by omega, by omega, by omega⟩
  · rw [if_neg h1] at h; cases h
theorem segs_ok (m : Int) (l : List Int) (h : l.length ≤ 100000) : SegsOk (sfeed m s00 l).1 := by
  have h1 := sok0 h
  have h2 := (Sok.after (m := m) (n := 0) (l := l) (by rw [Nat.zero_add]; exact h1)).2
  exact ⟨by omega, fun x hx => by have := sfeed_seg l s00 h1 x hx; unfold Lim; omega⟩
end Go.Proofs.Ytjmclghjhnbafaa.Sp

/- How much the synchronous deframer tells and keeps; what a flag does to it. -/
namespace Go.Proofs.Ytjmclghjhnbafaa.Sp
open Go.RowKit Go.Proofs.Ytjmclghjhnbafaa.Print Go.Proofs.YtjmclghjhnbafaaW.PrintWords Go.Proofs.YtjmclghjhnbafaaW.PrintLast Go.Proofs.Ytjmclghjhnbafaa.Pl
set_option linter.unusedVariables false
theorem wm {m : Int} (h1 : 1 ≤ m) (h2 : m ≤ 1048576) : wrap64 (8 * m) = 8 * m := w64 (by omega) (by omega)
theorem sput_cap {m : Int} (h1 : 1 ≤ m) (h2 : m ≤ 1048576) (b : Int) : ∀ (k : Nat) (s : Sst), (s.bits.length : Int) ≤ 8 * m → ((sput m b k s).bits.length : Int) ≤ 8 * m
  | 0, s, h => h
  | k + 1, s, h => by
    have ih := sput_cap h1 h2 b k s h
    simp only [sput, sput1, wm h1 h2]
    split
    · rw [List.length_append]; simp only [List.length_cons, List.length_nil]; omega
    · exact ih
/-- What is kept fits, and is no more than was fed. -/
structure Ib (m : Int) (s : Sst) (n : Nat) : Prop where
  cap : (s.bits.length : Int) ≤ 8 * m
  bud : (s.bits.length : Int) + (if s.zero = true then 1 else 0) + s.ones ≤ n
  on0 : 0 ≤ s.ones
theorem ssettle_b {m : Int} (h1 : 1 ≤ m) (h2 : m ≤ 1048576) (s : Sst) (h : (s.bits.length : Int) ≤ 8 * m) : ((ssettle m s).bits.length : Int) ≤ 8 * m ∧ ((ssettle m s).bits.length : Int) ≤ s.bits.length + (if s.zero = true then 1 else 0) := by
  unfold ssettle
  by_cases hz : s.zero = true
  · rw [if_pos hz, if_pos hz]
    by_cases hs : s.stuff = true
    · rw [if_pos hs]; simp only; exact ⟨h, by omega⟩
    · rw [if_neg hs]
      have a := sput_cap h1 h2 0 1 { s with any := true } h
      have b := sput_len m 0 1 { s with any := true }
      simp only at a b ⊢
      exact ⟨a, by omega⟩
  · rw [if_neg hz, if_neg hz]
    exact ⟨h, by omega⟩
theorem srow_b {m : Int} (h1 : 1 ≤ m) (h2 : m ≤ 1048576) (s : Sst) (h : (s.bits.length : Int) ≤ 8 * m) (h0 : 0 ≤ s.ones) : ((srow m s).bits.length : Int) ≤ 8 * m ∧ ((srow m s).bits.length : Int) ≤ s.bits.length + (if s.zero = true then 1 else 0) + s.ones := by
  obtain ⟨a, b⟩ := ssettle_b h1 h2 s h
  have c := sput_cap h1 h2 1 (min s.ones 5).toNat (srow1 (ssettle m s)) a
  have d := sput_len m 1 (min s.ones 5).toNat (srow1 (ssettle m s))
  rw [show (srow1 (ssettle m s)).bits = (ssettle m s).bits from rfl] at d
  unfold srow
  exact ⟨c, by omega⟩
def Good7 (m : Int) (x : S54) : Prop := (x.f0 = 0 → (x.f1.length : Int) ≤ m) ∧ (x.f0 ≠ 0 → x.f1.length = 0)
def sum7 : List S54 → Nat
  | [] => 0
  | s :: t => s.f1.length + sum7 t
theorem sum7_append (a b : List S54) : sum7 (a ++ b) = sum7 a + sum7 b := by
  induction a with
  | nil => simp [sum7]
  | cons s t ih => simp only [List.cons_append, sum7, ih]; omega
theorem sstep_inv {m : Int} (h1 : 1 ≤ m) (h2 : m ≤ 1048576) {s : Sst} {n : Nat} (hn : n ≤ 100000) (h : Ib m s n) (c : Int) :
    (∀ x ∈ (sstep m ([], s) c).1, Good7 m x) ∧ ∃ n' : Nat, 8 * sum7 (sstep m ([], s) c).1 + n' ≤ n + 1 ∧ Ib m (sstep m ([], s) c).2 n' := by
  obtain ⟨a, b, d⟩ := h
  have hz0 : (0 : Int) ≤ (if s.zero = true then (1 : Int) else 0) := by split <;> omega
  unfold sstep
  by_cases hb : sbit c = true
  · have w : wrap64 (s.ones + 1) = s.ones + 1 := w64 (by omega) (by omega)
    rw [if_pos hb]
    refine ⟨fun x hx => by simp at hx, n + 1, by simp [sum7], a, ?_, by simp only; rw [w]; omega⟩
    show (s.bits.length : Int) + (if s.zero = true then (1 : Int) else 0) + wrap64 (s.ones + 1) ≤ ((n + 1 : Nat) : Int)
    rw [w]
    omega
  · rw [if_neg hb]
    by_cases h6 : s.ones = 6
    · simp only [if_pos h6]
      refine ⟨?_, 0, ?_, by simp [s00]; omega, by simp [s00], by simp [s00]⟩
      · intro x hx
        split at hx
        · rw [List.nil_append, List.mem_singleton] at hx
          subst hx
          have hl := sseg_len m s
          refine ⟨fun _ => by simp only; omega, fun hk => ?_⟩
          simp only at hk ⊢
          unfold sseg
          rw [if_neg hk]
          rfl
        · simp at hx
      · split
        · have hl := sseg_len m s
          simp only [List.nil_append, sum7]
          split at b <;> omega
        · simp [sum7]
    · simp only [if_neg h6]
      obtain ⟨e, f⟩ := srow_b h1 h2 s a d
      refine ⟨fun x hx => by simp at hx, n + 1, by simp [sum7], e, ?_, by simp⟩
      simp only [if_true]
      omega
theorem sfeed_inv {m : Int} (h1 : 1 ≤ m) (h2 : m ≤ 1048576) : ∀ (l : List Int) (s : Sst) (n : Nat), n + l.length ≤ 100000 → Ib m s n → (∀ x ∈ (sfeed m s l).1, Good7 m x) ∧ 8 * sum7 (sfeed m s l).1 ≤ n + l.length
  | [], s, n, hn, h => by simp [sfeed, sum7]
  | c :: t, s, n, hn, h => by
    simp only [List.length_cons] at hn ⊢
    obtain ⟨a, n', b, d⟩ := sstep_inv h1 h2 (by omega) h c
    obtain ⟨e, f⟩ := sfeed_inv h1 h2 t _ n' (by omega) d
    rw [sfeed_cons]
    refine ⟨fun x hx => ?_, by simp only [sum7_append]; omega⟩
    rcases List.mem_append.1 hx with hx | hx
    · exact a x hx
    · exact e x hx
/-! ### a flag -/
theorem feed_ones (m : Int) (s : Sst) (h : s.ones = 0) : (sfeed m s [1, 1, 1, 1, 1, 1, 0]).2 = s00 := by
  obtain ⟨bits, many, any, broken, ones, zero, stuff⟩ := s
  simp only at h
  subst h
  kernel_rfl
theorem step_zero (m : Int) (s : Sst) : (sstep m ([], s) 0).2.ones = 0 := by
  unfold sstep
  rw [if_neg (by decide)]
  split <;> rfl
theorem feed_flag (m : Int) (s : Sst) : (sfeed m s flag).2 = s00 := by
  unfold flag
  rw [sfeed_cons]
  exact feed_ones m _ (step_zero m s)
theorem flag_none (m : Int) : sfeed m s00 flag = ([], s00) := by kernel_rfl
theorem flag_none1 (m : Int) : sfeed m s00 (flag.drop 1) = ([], s00) := by kernel_rfl
end Go.Proofs.Ytjmclghjhnbafaa.Sp

/- The synchronous deframer's fold against a stream, parted: plain words. No condition but the bounds. -/
namespace Go.Proofs.Ytjmclghjhnbafaa.Sp
open Go.RowKit Go.Proofs.Ytjmclghjhnbafaa.Print Go.Proofs.YtjmclghjhnbafaaW.PrintWords Go.Proofs.YtjmclghjhnbafaaW.PrintLast Go.Proofs.Ytjmclghjhnbafaa.Pl
set_option linter.unusedVariables false
/-! ### rows of 1s -/
def Odd7 (l : List Int) : Prop := ∀ x ∈ l, x % 2 = 1
theorem Odd7.tail {c : Int} {t : List Int} (h : Odd7 (c :: t)) : Odd7 t := fun x hx => h x (by simp [hx])
theorem Odd7.head {c : Int} {t : List Int} (h : Odd7 (c :: t)) : c % 2 = 1 := h c (by simp)
theorem Odd7.snoc {c : Int} {t : List Int} (h : Odd7 t) (hc : c % 2 = 1) : Odd7 (t ++ [c]) := fun x hx => by
  rcases List.mem_append.1 hx with hx | hx
  · exact h x hx
  · rw [List.mem_singleton.1 hx]; exact hc
theorem last_ones : ∀ (o : List Int) (n : Int), Odd7 o → last n o = n + o.length
  | [], n, h => by simp [last]
  | c :: t, n, h => by
    rw [last, h.head, last_ones t _ h.tail]
    simp only [List.length_cons]
    omega
theorem peak_ones : ∀ (o : List Int) (n : Int), 0 ≤ n → Odd7 o → peak n o = if o.length = 0 then 0 else n + o.length
  | [], n, h0, h => by simp [peak]
  | c :: t, n, h0, h => by
    rw [peak, h.head, peak_ones t _ (by omega) h.tail]
    simp only [List.length_cons]
    split <;> omega
theorem rem_ones : ∀ (o : List Int) (n : Int), 0 ≤ n → n + o.length ≤ 5 → Odd7 o → rem n o = List.replicate o.length 1
  | [], n, h0, h5, h => by simp [rem]
  | c :: t, n, h0, h5, h => by
    simp only [List.length_cons] at h5
    rw [rem, if_neg (by omega), h.head, rem_ones t _ (by omega) (by omega) h.tail]
    rfl
theorem rem_append : ∀ (a b : List Int) (n : Int), rem n (a ++ b) = rem n a ++ rem (last n a) b
  | [], b, n => rfl
  | c :: t, b, n => by
    simp only [List.cons_append, rem, last]
    split
    · exact rem_append t b _
    · rw [rem_append t b _]; rfl
theorem last_snoc (a : List Int) (c : Int) : last 0 (a ++ [c]) = (last 0 a + 1) * (c % 2) := by rw [last_append]; rfl
theorem last_len (a : List Int) : last 0 a ≤ a.length := by
  have h1 := last_le_peak 0 a (by omega)
  have h2 := run_le a
  unfold run at h2
  omega
theorem sstep_cap {m : Int} (h1 : 1 ≤ m) (h2 : m ≤ 1048576) (s : Sst) (c : Int) (h : (s.bits.length : Int) ≤ 8 * m) : ((sstep m ([], s) c).2.bits.length : Int) ≤ 8 * m := by
  unfold sstep
  split
  · exact h
  · split
    · simp [s00]; omega
    · exact sput_cap h1 h2 1 _ _ (show ((srow1 (ssettle m s)).bits.length : Int) ≤ 8 * m from (ssettle_b h1 h2 s h).1)
theorem sfeed_cap {m : Int} (h1 : 1 ≤ m) (h2 : m ≤ 1048576) : ∀ (l : List Int) (s : Sst), (s.bits.length : Int) ≤ 8 * m → ((sfeed m s l).2.bits.length : Int) ≤ 8 * m
  | [], s, h => h
  | c :: t, s, h => by
    rw [sfeed_cons]
    exact sfeed_cap h1 h2 t _ (sstep_cap h1 h2 s c h)
/-! ### a stream, parted -/
def segZ (cur : List Int) : List Int := cur.take (cur.length - 7)
def partsZ : List Int → List Int → List (List Int)
  | cur, [] => []
  | cur, c :: t => if c % 2 = 0 ∧ last 0 cur = 6 then segZ cur :: partsZ [] t else partsZ (cur ++ [c]) t
def tellZ (m : Int) (raw : List Int) : Int × List Int × Bool :=
  if raw.length = 0 then (0, [], false) else if run raw > 5 then (2, [], true) else if (rem 0 raw).length % 8 = 0 then (if ((octs (rem 0 raw)).length : Int) > m then (4, [], true) else (0, octs (rem 0 raw), true)) else (3, [], true)
def allZ (m : Int) : List (List Int) → List S74
  | [] => []
  | s :: t => if (tellZ m s).2.2 = true then ⟨(tellZ m s).1, (tellZ m s).2.1⟩ :: allZ m t else allZ m t
def s74 (x : S54) : S74 := ⟨x.f0, x.f1⟩
/-! ### what is kept -/
theorem sput_take {m : Int} (h1 : 1 ≤ m) (h2 : m ≤ 1048576) (b : Int) : ∀ (n : Nat) (s : Sst) (L : List Int), s.bits = L.take (8 * m).toNat → s.many = L.length → L.length + n ≤ 1000000 →
    sput m b n s = { s with bits := (L ++ List.replicate n b).take (8 * m).toNat, many := L.length + n }
  | 0, s, L, hb, hm, hl => by
    obtain ⟨bits, many, any, broken, ones, zero, stuff⟩ := s
    simp only at hb hm
    subst hb hm
    simp [sput]
  | n + 1, s, L, hb, hm, hl => by
    have ih := sput_take h1 h2 b n s L hb hm (by omega)
    have w : wrap64 ((L.length : Int) + n + 1) = L.length + (n + 1 : Nat) := by rw [w64 (by omega) (by omega)]; omega
    rw [sput, ih]
    unfold sput1
    simp only [wm h1 h2, w]
    have e : L ++ List.replicate (n + 1) b = (L ++ List.replicate n b) ++ [b] := by rw [List.replicate_succ', List.append_assoc]
    have hlen : (L ++ List.replicate n b).length = L.length + n := by rw [List.length_append, List.length_replicate]
    rw [e]
    by_cases h : L.length + n < (8 * m).toNat
    · have t1 : (L ++ List.replicate n b).take (8 * m).toNat = L ++ List.replicate n b := List.take_of_length_le (by omega)
      rw [t1, if_pos (by omega), List.take_of_length_le (by rw [List.length_append]; simp only [List.length_cons, List.length_nil]; omega)]
    · have t2 : ((L ++ List.replicate n b) ++ [b]).take (8 * m).toNat = (L ++ List.replicate n b).take (8 * m).toNat := List.take_append_of_le_length (by omega)
      rw [if_neg (by rw [List.length_take]; omega), t2]
/-- Behind a part that a 0 has ended. -/
structure Cz (m : Int) (q : List Int) (s : Sst) : Prop where
  any : s.any = decide (q.length ≠ 0)
  broken : s.broken = decide (run q > 5)
  left : run q ≤ 5 → s.bits = (rem 0 q).take (8 * m).toNat ∧ s.many = (rem 0 q).length
inductive Rz (m : Int) (cur : List Int) (s : Sst) : Prop where
  | a : s.zero = false → Odd7 cur → s.ones = cur.length → s.bits = [] → s.many = 0 → s.any = false → s.broken = false → Rz m cur s
  | b (q : List Int) (c0 : Int) (o : List Int) : s.zero = true → cur = q ++ c0 :: o → c0 % 2 = 0 → Odd7 o → s.ones = o.length → s.stuff = (last 0 q == 5) → Cz m q s → Rz m cur s
theorem last_b (q : List Int) {c0 : Int} {o : List Int} (h0 : c0 % 2 = 0) (ho : Odd7 o) : last 0 (q ++ c0 :: o) = o.length := by
  rw [last_append, last, h0, last_ones o _ ho]; omega
theorem Rz.ones {m : Int} {cur : List Int} {s : Sst} (h : Rz m cur s) : s.ones = last 0 cur := by
  cases h with
  | a z o k b mm a br => rw [last_ones cur 0 o, k]; omega
  | b q c0 o z e h0 ho k st c => rw [e, last_b q h0 ho, k]
theorem run_b (q : List Int) {c0 : Int} {o : List Int} (h0 : c0 % 2 = 0) (ho : Odd7 o) : run (q ++ c0 :: o) = max (run q) o.length := by
  unfold run
  have hl := last_nonneg 0 q (by omega)
  have hp := peak_nonneg 0 q (by omega)
  rw [peak_append 0 q _ (by omega), peak, h0]
  simp only [Int.mul_zero]
  rw [peak_ones o 0 (by omega) ho]
  split <;> omega
theorem rem_b (q : List Int) {c0 : Int} {o : List Int} (h0 : c0 % 2 = 0) (ho : Odd7 o) (h5 : o.length ≤ 5) : rem 0 (q ++ c0 :: o) = (rem 0 q ++ (if last 0 q = 5 then [] else [0])) ++ List.replicate o.length 1 := by
  rw [rem_append, rem, h0]
  simp only [Int.mul_zero]
  rw [rem_ones o 0 (by omega) (by omega) ho]
  split <;> simp
/-- A row that is no flag's ends. -/
theorem Cz_row {m : Int} (h1 : 1 ≤ m) (h2 : m ≤ 1048576) {cur : List Int} {s : Sst} (h : Rz m cur s) (hl : cur.length ≤ 100000) (h6 : s.ones ≠ 6) : Cz m cur (srow m s) := by
  cases h with
  | a z o k b mm a br =>
    have es : ssettle m s = s := by unfold ssettle; rw [if_neg (by rw [z]; decide)]
    have hr : run cur = cur.length := by unfold run; rw [peak_ones cur 0 (by omega) o]; split <;> omega
    have e := sput_take h1 h2 1 (min s.ones 5).toNat (srow1 s) [] (by show s.bits = _; rw [b]; simp) (by show s.many = _; rw [mm]; simp) (by simp only [List.length_nil]; omega)
    unfold srow
    rw [es, e]
    refine ⟨?_, ?_, ?_⟩
    · show (srow1 s).any = _
      unfold srow1
      simp only
      rw [k, a]
      by_cases h0 : cur.length = 0
      · rw [if_neg (by omega), decide_eq_false (by omega)]
      · rw [if_pos (by omega), decide_eq_true (by omega)]
    · show (srow1 s).broken = _
      unfold srow1
      simp only
      rw [k] at h6 ⊢
      rw [br, hr]
      by_cases h7 : (cur.length : Int) > 6
      · rw [if_pos h7, decide_eq_true (by omega)]
      · rw [if_neg h7, decide_eq_false (by omega)]
    · intro h5
      rw [hr] at h5
      rw [rem_ones cur 0 (by omega) (by omega) o, k, show (min (cur.length : Int) 5).toNat = cur.length by omega]
      simp
  | b q c0 o z e h0 ho k st c =>
    subst e
    have hq : q.length ≤ 100000 := by rw [List.length_append] at hl; omega
    have ho5 : o.length ≤ 100000 := by rw [List.length_append, List.length_cons] at hl; omega
    have hrl := rem_len 0 q
    have hr := run_b q h0 ho
    obtain ⟨c1, c2, c3⟩ := c
    have hany : (srow m s).any = true := by
      have e1 : ∀ n s', (sput m 1 n s').any = s'.any := by
        intro n s'
        induction n with
        | zero => rfl
        | succ n ih => exact ih
      unfold srow
      rw [e1]
      unfold srow1
      simp only
      have : (ssettle m s).any = true := by
        unfold ssettle
        rw [if_pos z]
        split
        · rfl
        · rfl
      rw [this]
      split <;> rfl
    have hbr : (srow m s).broken = if s.ones > 6 then true else s.broken := by
      have e1 : ∀ b n s', (sput m b n s').broken = s'.broken := by
        intro b n s'
        induction n with
        | zero => rfl
        | succ n ih => exact ih
      unfold srow
      rw [e1]
      unfold srow1
      simp only
      rw [ssettle_ones]
      have : (ssettle m s).broken = s.broken := by
        unfold ssettle
        rw [if_pos z]
        split
        · rfl
        · exact e1 0 1 { s with any := true }
      rw [this]
    refine ⟨?_, ?_, ?_⟩
    · rw [hany, decide_eq_true (by rw [List.length_append, List.length_cons]; omega)]
    · rw [hbr, hr, c2, k]
      rw [k] at h6
      by_cases h7 : (o.length : Int) > 6
      · rw [if_pos h7, decide_eq_true (by omega)]
      · rw [if_neg h7]
        apply decide_eq_decide.2
        omega
    · intro h5
      rw [hr] at h5
      obtain ⟨d1, d2⟩ := c3 (by omega)
      rw [rem_b q h0 ho (by omega)]
      have hset : ∃ sx : Sst, ssettle m s = sx ∧ sx.bits = (rem 0 q ++ (if last 0 q = 5 then [] else [0])).take (8 * m).toNat ∧ sx.many = (rem 0 q ++ (if last 0 q = 5 then [] else [0])).length ∧ sx.ones = s.ones := by
        refine ⟨_, rfl, ?_⟩
        unfold ssettle
        rw [if_pos z]
        by_cases hs : last 0 q = 5
        · rw [if_pos (by rw [st, hs]; rfl), if_pos hs]
          rw [List.append_nil]
          exact ⟨d1, d2, rfl⟩
        · rw [if_neg (by rw [st]; simp [hs]), if_neg hs]
          have e := sput_take h1 h2 0 1 { s with any := true } (rem 0 q) d1 d2 (by omega)
          rw [e]
          refine ⟨rfl, ?_, rfl⟩
          simp
      obtain ⟨sx, ex, f1, f2, f3⟩ := hset
      have hlen : (rem 0 q ++ (if last 0 q = 5 then [] else [0])).length ≤ q.length + 1 := by
        rw [List.length_append]
        split <;> simp <;> omega
      have e := sput_take h1 h2 1 (min s.ones 5).toNat (srow1 sx) _ f1 f2 (by omega)
      unfold srow
      rw [ex, e, k, show (min (o.length : Int) 5).toNat = o.length by omega]
      refine ⟨rfl, ?_⟩
      simp only [List.length_append, List.length_replicate]
      omega
/-- What is kept, one bit more. -/
theorem Rz.snoc {m : Int} (h1 : 1 ≤ m) (h2 : m ≤ 1048576) {cur : List Int} {s : Sst} (h : Rz m cur s) (hl : cur.length ≤ 99999) {c : Int} (hc : Byte c) (hf : ¬ (c % 2 = 0 ∧ last 0 cur = 6)) :
    (sstep m ([], s) c).1 = [] ∧ Rz m (cur ++ [c]) (sstep m ([], s) c).2 := by
  have ho := h.ones
  have hll := last_len cur
  have hl0 := last_nonneg 0 cur (by omega)
  have hsb : sbit c = (c % 2 == 1) := by unfold sbit; rw [and1 hc]
  unfold sstep
  by_cases hb : c % 2 = 1
  · have w : wrap64 (s.ones + 1) = s.ones + 1 := w64 (by omega) (by omega)
    rw [if_pos (by rw [hsb, hb]; rfl)]
    refine ⟨rfl, ?_⟩
    simp only [w]
    cases h with
    | a z o k b mm a br => exact .a z (o.snoc hb) (by simp only; rw [k, List.length_append]; simp) b mm a br
    | b q c0 o z e h0 ho' k st cz =>
      exact .b q c0 (o ++ [c]) z (by rw [e, List.append_assoc]; rfl) h0 (ho'.snoc hb) (by simp only; rw [k, List.length_append]; simp) st ⟨cz.any, cz.broken, cz.left⟩
  · have h6 : s.ones ≠ 6 := fun e => hf ⟨by omega, by rw [← ho]; exact e⟩
    rw [if_neg (by rw [hsb]; simp [hb])]
    simp only [if_neg h6]
    refine ⟨trivial, ?_⟩
    have cz := Cz_row h1 h2 h (by omega) h6
    exact .b cur c [] rfl rfl (by omega) (fun x hx => by simp at hx) (by simp) (by simp only; rw [ho]) ⟨cz.any, cz.broken, cz.left⟩
/-- A flag. -/
theorem Rz.flag {m : Int} (h1 : 1 ≤ m) (h2 : m ≤ 1048576) {cur : List Int} {s : Sst} (h : Rz m cur s) (hl : cur.length ≤ 99999) {c : Int} (hc : Byte c) (hf : c % 2 = 0 ∧ last 0 cur = 6) :
    (sstep m ([], s) c).1.map s74 = (if (tellZ m (segZ cur)).2.2 = true then [⟨(tellZ m (segZ cur)).1, (tellZ m (segZ cur)).2.1⟩] else []) ∧ (sstep m ([], s) c).2 = s00 := by
  have ho := h.ones
  rw [hf.2] at ho
  have hsb : sbit c = (c % 2 == 1) := by unfold sbit; rw [and1 hc]
  unfold sstep
  rw [if_neg (by rw [hsb, hf.1]; decide)]
  simp only [if_pos ho]
  refine ⟨?_, trivial⟩
  cases h with
  | a z o k b mm a br =>
    have e : segZ cur = [] := by unfold segZ; rw [show cur.length - 7 = 0 by omega]; rfl
    rw [e, if_neg (by rw [a]; decide)]
    simp [tellZ]
  | b q c0 o z e h0 ho' k st cz =>
    have hol : o.length = 6 := by omega
    have es : segZ cur = q := by
      unfold segZ
      rw [e, List.length_append, List.length_cons, hol, show q.length + (6 + 1) - 7 = q.length by omega, List.take_left' rfl]
    have hq : q.length ≤ 100000 := by rw [e, List.length_append] at hl; omega
    have hrl := rem_len 0 q
    rw [es]
    obtain ⟨c1, c2, c3⟩ := cz
    unfold tellZ
    by_cases hq0 : q.length = 0
    · rw [if_pos hq0, if_neg (by rw [c1, decide_eq_false (by omega)]; decide)]
      simp
    · rw [if_neg hq0, if_pos (by rw [c1, decide_eq_true (by omega)])]
      simp only [List.nil_append, List.map_cons, List.map_nil]
      by_cases hr : run q > 5
      · have hk : skind m s = 2 := by unfold skind; rw [if_pos (by rw [c2, decide_eq_true hr])]
        rw [if_pos hr]
        unfold s74 sseg
        rw [hk, if_neg (by decide)]
        rfl
      · obtain ⟨d1, d2⟩ := c3 (by omega)
        have hb : s.broken ≠ true := by rw [c2, decide_eq_false hr]; decide
        rw [if_neg hr]
        have ht : s.many.tmod 8 = ((rem 0 q).length % 8 : Nat) := by
          rw [d2, Int.tmod_eq_emod_of_nonneg (by omega)]
          omega
        by_cases h8 : (rem 0 q).length % 8 = 0
        · rw [if_pos h8, octs_length]
          by_cases hm : (((rem 0 q).length / 8 : Nat) : Int) > m
          · have hk : skind m s = 4 := by unfold skind; rw [if_neg hb, if_neg (by rw [ht, h8]; simp), if_pos (by rw [d2, wm h1 h2]; omega)]
            rw [if_pos hm]
            unfold s74 sseg
            rw [hk, if_neg (by decide)]
            rfl
          · have hk : skind m s = 0 := by unfold skind; rw [if_neg hb, if_neg (by rw [ht, h8]; simp), if_neg (by rw [d2, wm h1 h2]; omega)]
            rw [if_neg hm]
            unfold s74 sseg
            rw [hk, if_pos rfl]
            have eb : s.bits = rem 0 q := by rw [d1]; exact List.take_of_length_le (by omega)
            rw [eb]
            unfold soc
            rw [if_pos h8]
            rfl
        · have hk : skind m s = 3 := by unfold skind; rw [if_neg hb, if_pos (by rw [ht]; omega)]
          rw [if_neg h8]
          unfold s74 sseg
          rw [hk, if_neg (by decide)]
          rfl
theorem Rz.s00 (m : Int) : Rz m [] s00 := .a rfl (fun x hx => by simp at hx) rfl rfl rfl rfl rfl
theorem sfeed_all {m : Int} (h1 : 1 ≤ m) (h2 : m ≤ 1048576) : ∀ (t cur : List Int) (s : Sst), Bytes t → cur.length + t.length ≤ 99999 → Rz m cur s → allZ m (partsZ cur t) = (sfeed m s t).1.map s74
  | [], cur, s, hb, hl, h => by simp [sfeed, partsZ, allZ]
  | c :: t, cur, s, hb, hl, h => by
    simp only [List.length_cons] at hl
    rw [sfeed_cons, List.map_append]
    by_cases hf : c % 2 = 0 ∧ last 0 cur = 6
    · obtain ⟨a, b⟩ := h.flag h1 h2 (by omega) hb.head hf
      have ih := sfeed_all h1 h2 t [] Print.s00 hb.tail (by simp only [List.length_nil]; omega) (Rz.s00 m)
      rw [a, b, ← ih]
      simp only [partsZ, if_pos hf, allZ]
      split <;> rfl
    · obtain ⟨a, b⟩ := h.snoc h1 h2 (by omega) hb.head hf
      have ih := sfeed_all h1 h2 t (cur ++ [c]) _ hb.tail (by rw [List.length_append]; simp only [List.length_cons, List.length_nil]; omega) b
      rw [a, ← ih]
      simp only [partsZ, if_neg hf]
      rfl
end Go.Proofs.Ytjmclghjhnbafaa.Sp

/- The reference of layer 7, in plain words: a row of 1s, a stream parted, a segment told, all that it tells; the layer's list and the reference's compared. -/
namespace Go.Proofs.Ytjmclghjhnbafaa.Sp
open Go.RowKit Go.Proofs.Ytjmclghjhnbafaa.Print Go.Proofs.YtjmclghjhnbafaaW.PrintWords Go.Proofs.YtjmclghjhnbafaaW.PrintLast Go.Proofs.Ytjmclghjhnbafaa.Pl
set_option linter.unusedVariables false
theorem bytesAt {l : List Int} (h : Bytes l) {i : Nat} {c : Int} {t : List Int} (e : l.drop i = c :: t) : Byte c := by
  have h4 := h.drop i
  rw [e] at h4
  exact h4.head
theorem rdAt {l : List Int} {j : Nat} (h : j < l.length) : rd l (j : Int) = l[j] := by
  unfold rd
  rw [Int.toNat_natCast, List.getD_eq_getElem?_getD, List.getElem?_eq_getElem h]
  rfl
theorem takeS {l : List Int} {j : Nat} (h : j < l.length) : l.take (j + 1) = l.take j ++ [l[j]] := List.take_succ_eq_append_getElem h
theorem RowAhead_l0 (l : List Int) (hl : l.length ≤ 2000) (hb : Bytes l) (i : Nat) (hi : i ≤ l.length) : ∀ (j n : Nat), j + n = i → last 0 (l.take i) = last 0 (l.take j) + n → Ev (fun k => marlineref07_rowAhead.l0 k l i n) (last 0 (l.take i))
  | 0, n, hj, h => by
    refine Ev.step (fun k => by simp only [marlineref07_rowAhead.l0]; rw [if_neg (by omega)]) (Ev.end_ ?_)
    rw [h]
    simp [last]
  | j + 1, n, hj, h => by
    have e : wrap64 (wrap64 ((i : Int) - 1) - n) = (j : Int) := by
      rw [w64 (x := (i : Int) - 1) (by omega) (by omega), w64 (by omega) (by omega)]
      omega
    have hjl : j < l.length := by omega
    have hc : Byte l[j] := hb _ (List.getElem_mem _)
    have hs := last_snoc (l.take j) l[j]
    rw [← takeS hjl] at hs
    have ht : Int.tmod (rd l (j : Int)) 2 = l[j] % 2 := by rw [rdAt hjl, Int.tmod_eq_emod_of_nonneg hc.1]
    refine Ev.step (fun k => by simp only [marlineref07_rowAhead.l0]; rw [if_pos (by omega), e, if_pos (by omega), if_pos (by omega), ht, suc n (by omega)]) ?_
    by_cases ho : l[j] % 2 = 1
    · rw [ho, Int.mul_one] at hs
      have ih := RowAhead_l0 l hl hb i hi j (n + 1) (by omega) (by rw [h, hs]; omega)
      exact Ev.pos ho ih
    · have h0 : l[j] % 2 = 0 := by omega
      rw [h0, Int.mul_zero] at hs
      exact Ev.neg ho (Ev.end_ (by rw [h, hs]; omega))
theorem RowAhead (l : List Int) (hl : l.length ≤ 2000) (hb : Bytes l) (i : Nat) (hi : i ≤ l.length) : Ev (fun k => marlineref07_rowAhead.f k l i) (last 0 (l.take i)) := by
  unfold marlineref07_rowAhead.f
  exact RowAhead_l0 l hl hb i hi i 0 (by omega) (by omega)
theorem partsZ_len : ∀ (t cur : List Int), (partsZ cur t).length ≤ t.length
  | [], cur => by simp [partsZ]
  | c :: t, cur => by
    simp only [partsZ, List.length_cons]
    split
    · have := partsZ_len t []; simp only [List.length_cons]; omega
    · have := partsZ_len t (cur ++ [c]); omega
theorem partsZ_ok : ∀ (t cur : List Int), Bytes t → Bytes cur → ∀ s ∈ partsZ cur t, s.length ≤ cur.length + t.length ∧ Bytes s
  | [], cur, hb, hc => by simp [partsZ]
  | c :: t, cur, hb, hc => by
    intro s hs
    simp only [partsZ] at hs
    simp only [List.length_cons]
    split at hs
    · rcases List.mem_cons.1 hs with rfl | hs
      · exact ⟨by unfold segZ; rw [List.length_take]; omega, by unfold segZ; exact hc.take _⟩
      · have := partsZ_ok t [] hb.tail Bytes.nil s hs
        exact ⟨by have := this.1; simp only [List.length_nil] at this; omega, this.2⟩
    · have := partsZ_ok t (cur ++ [c]) hb.tail (hc.append (Bytes.cons hb.head Bytes.nil)) s hs
      exact ⟨by have := this.1; simp only [List.length_append, List.length_cons, List.length_nil] at this; omega, this.2⟩
theorem PartsZ_l0 (l : List Int) (hl : l.length ≤ 2000) (hb : Bytes l) : ∀ (t : List Int) (i j : Nat) (x : List (List Int)), l.drop i = t → j ≤ i → i ≤ l.length → x.length ≤ i → last 0 (l.take i) = last 0 ((l.take i).drop j) →
    Ev (fun k => marlineref07_Parts.l0 k l x j i) (x ++ partsZ ((l.take i).drop j) t)
  | [], i, j, x, h, hj, hi, hx, hla => by
    have h3 := drop_nil_len h
    exact Ev.step (fun k => by simp only [marlineref07_Parts.l0]; rw [if_neg (by omega)]) (Ev.end_ (by simp [partsZ]))
  | c :: t, i, j, x, h, hj, hi, hx, hla => by
    obtain ⟨e1, e2, e3⟩ := rd_drop h
    have hc := bytesAt hb h
    have hci : l[i] = c := by rw [← rdAt e3, e1]
    have ht : l.take (i + 1) = l.take i ++ [c] := by rw [takeS e3, hci]
    have hs := last_snoc (l.take i) c
    rw [← ht] at hs
    have hcl : ((l.take i).drop j).length = i - j := by rw [List.length_drop, List.length_take]; omega
    have hll := last_len ((l.take i).drop j)
    have hd : (l.take (i + 1)).drop j = (l.take i).drop j ++ [c] := by rw [ht, List.drop_append_of_le_length (by rw [List.length_take]; omega)]
    refine Ev.step (fun k => by simp only [marlineref07_Parts.l0]; rw [if_pos (by omega), if_pos (by omega), e1, Int.tmod_eq_emod_of_nonneg hc.1]) ?_
    have next : ¬ (c % 2 = 0 ∧ last 0 ((l.take i).drop j) = 6) → Ev (fun k => marlineref07_Parts.j1 k l x j i true) (x ++ partsZ ((l.take i).drop j) (c :: t)) := by
      intro hf
      have ih := PartsZ_l0 l hl hb t (i + 1) j x e2 (by omega) (by omega) (by omega) (by rw [hd, last_snoc, hs, hla])
      rw [hd] at ih
      simp only [partsZ, if_neg hf]
      exact Ev.step (fun k => by simp only [marlineref07_Parts.j1]; rw [if_pos trivial, suc i (by omega)]) ih
    by_cases ho : c % 2 = 1
    · exact Ev.pos ho (next (fun hf => by omega))
    · refine Ev.neg ho (Ev.bind (RowAhead l hl hb i (by omega)) ?_)
      by_cases h6 : last 0 (l.take i) = 6
      · have h0 : c % 2 = 0 := by omega
        rw [h6]
        have hf : c % 2 = 0 ∧ last 0 ((l.take i).drop j) = 6 := ⟨h0, by rw [← hla]; exact h6⟩
        have ih := PartsZ_l0 l hl hb t (i + 1) (i + 1) (x ++ [segZ ((l.take i).drop j)]) e2 (by omega) (by omega) (by simp only [List.length_append, List.length_cons, List.length_nil]; omega) (by rw [hs, h0, Int.mul_zero, List.drop_of_length_le (by rw [List.length_take]; omega)]; rfl)
        rw [show (l.take (i + 1)).drop (i + 1) = [] from List.drop_of_length_le (by rw [List.length_take]; omega), List.append_assoc] at ih
        have w6 : wrap64 ((i : Int) - 6) = i - 6 := w64 (by omega) (by omega)
        have hi6 : j + 6 ≤ i := by omega
        simp only [partsZ, if_pos hf]
        refine Ev.step (fun k => by simp only [marlineref07_Parts.j1]; rw [if_neg (by decide), w6]) ?_
        by_cases hg : (i : Int) - 6 > j
        · have w7 : wrap64 ((i : Int) - 6 - 1) = ((i - 7 : Nat) : Int) := by rw [w64 (by omega) (by omega)]; omega
          rw [w7]
          have es : (l.take (i - 7)).drop j = segZ ((l.take i).drop j) := by
            unfold segZ
            rw [hcl, List.take_drop, List.take_take, show min (j + (i - j - 7)) i = i - 7 by omega]
          refine Ev.pos hg (Ev.step (fun k => by simp only [marlineref07_Parts.j2]; rw [if_neg (by omega), if_pos (by omega), if_pos (by omega), if_pos (by omega), if_pos (by omega), Int.toNat_natCast, Int.toNat_natCast, es, suc i (by omega)]) ?_)
          exact ih
        · have e6 : (i : Int) - 6 = ((i - 6 : Nat) : Int) := by omega
          have es : (l.take (i - 6)).drop j = segZ ((l.take i).drop j) := by
            unfold segZ
            rw [hcl, show i - j - 7 = 0 by omega, List.take_zero, List.drop_of_length_le (by rw [List.length_take]; omega)]
          rw [e6]
          refine Ev.neg (by omega) (Ev.step (fun k => by simp only [marlineref07_Parts.j2]; rw [if_neg (by omega), if_pos (by omega), if_pos (by omega), if_pos (by omega), if_pos (by omega), Int.toNat_natCast, Int.toNat_natCast, es, suc i (by omega)]) ?_)
          exact ih
      · have hb6 : (last 0 (l.take i) != 6) = true := by simp [h6]
        rw [hb6]
        exact next (fun hf => h6 (by rw [hla]; exact hf.2))
theorem PartsZ (l : List Int) (hl : l.length ≤ 2000) (hb : Bytes l) : Ev (fun k => marlineref07_Parts.f k l) (partsZ [] l) := by
  unfold marlineref07_Parts.f
  exact PartsZ_l0 l hl hb l 0 0 [] rfl (by omega) (by omega) (by simp) (by simp)
theorem TellZ (m : Int) (l : List Int) (hl : l.length ≤ 2000) (hb : Bytes l) : Ev (fun k => marlineref07_Tell.f k m l) (tellZ m l) := by
  unfold marlineref07_Tell.f
  have hrl := rem_len 0 l
  have hrb : Bytes (rem 0 l) := bytes_of_bits (rem_bits 0 l)
  by_cases h0 : l.length = 0
  · rw [show tellZ m l = (0, [], false) by unfold tellZ; rw [if_pos h0]]
    exact Ev.pos (by omega) (Ev.now _)
  · refine Ev.neg (by omega) (Ev.bind (rRemove l (by unfold Lim; omega) hb) ?_)
    by_cases hr : run l > 5
    · rw [show tellZ m l = (2, [], true) by unfold tellZ; rw [if_neg h0, if_pos hr], if_pos hr]
      exact Ev.neg (by decide) (Ev.now _)
    · rw [if_neg hr]
      refine Ev.pos rfl (Ev.bind (rOctets (rem 0 l) (by unfold Lim; omega) hrb) ?_)
      by_cases h8 : (rem 0 l).length % 8 = 0
      · rw [if_pos h8]
        by_cases hm : ((octs (rem 0 l)).length : Int) > m
        · rw [show tellZ m l = (4, [], true) by unfold tellZ; rw [if_neg h0, if_neg hr, if_pos h8, if_pos hm]]
          exact Ev.pos rfl (Ev.pos hm (Ev.now _))
        · rw [show tellZ m l = (0, octs (rem 0 l), true) by unfold tellZ; rw [if_neg h0, if_neg hr, if_pos h8, if_neg hm]]
          exact Ev.pos rfl (Ev.neg hm (Ev.now _))
      · rw [if_neg h8, show tellZ m l = (3, [], true) by unfold tellZ; rw [if_neg h0, if_neg hr, if_neg h8]]
        exact Ev.neg (by decide) (Ev.now _)
theorem AllZ_l0 (m : Int) (segs : List (List Int)) (hn : segs.length ≤ 2000) (hs : ∀ s ∈ segs, s.length ≤ 2000 ∧ Bytes s) : ∀ (t : List (List Int)) (i : Nat) (x : List S74), segs.drop i = t → x.length ≤ i →
    Ev (fun k => marlineref07_All.l0 k m x segs i) (x ++ allZ m t)
  | [], i, x, h, hx => by
    have h3 := dropL_nil h
    exact Ev.step (fun k => by simp only [marlineref07_All.l0]; rw [if_neg (by omega)]) (Ev.end_ (by simp [allZ]))
  | c :: t, i, x, h, hx => by
    obtain ⟨e1, e2, e3⟩ := rdL_drop h
    have hc := hs c (List.mem_of_mem_drop (by rw [h]; simp : c ∈ segs.drop i))
    refine Ev.step (fun k => by simp only [marlineref07_All.l0]; rw [if_pos (by omega), if_pos (by omega), e1, suc i (by omega)]) ?_
    refine Ev.bind (TellZ m c hc.1 hc.2) ?_
    by_cases h0 : (tellZ m c).2.2 = true
    · have ih := AllZ_l0 m segs hn hs t (i + 1) (x ++ [⟨(tellZ m c).1, (tellZ m c).2.1⟩]) e2 (by simp only [List.length_append, List.length_cons, List.length_nil]; omega)
      rw [show x ++ allZ m (c :: t) = (x ++ [⟨(tellZ m c).1, (tellZ m c).2.1⟩]) ++ allZ m t by simp [allZ, h0]]
      exact Ev.pos h0 (Ev.pos (by omega) ih)
    · have ih := AllZ_l0 m segs hn hs t (i + 1) x e2 (by omega)
      rw [show x ++ allZ m (c :: t) = x ++ allZ m t by simp [allZ, h0]]
      exact Ev.neg h0 ih
theorem AllZ (m : Int) (h1 : 1 ≤ m) (h2 : m ≤ 1048576) (l : List Int) (hl : l.length ≤ 2000) (hb : Bytes l) : Ev (fun k => marlineref07_All.f k m l) ((sfeed m s00 l).1.map s74) := by
  unfold marlineref07_All.f
  refine Ev.bind (PartsZ l hl hb) ?_
  rw [← sfeed_all h1 h2 l [] s00 hb (by simp only [List.length_nil]; omega) (Rz.s00 m)]
  have hn := partsZ_len l []
  exact AllZ_l0 m (partsZ [] l) (by omega) (fun s hs => by have := partsZ_ok l [] hb Bytes.nil s hs; exact ⟨by have := this.1; simp only [List.length_nil] at this; omega, this.2⟩) _ 0 [] rfl (by simp)
/-! ### the lists compared -/
theorem rd74 {l : List S54} {i : Nat} (h : i < l.length) : rd_T74 (l.map s74) (i : Int) = s74 (rd_T54 l (i : Int)) := by
  unfold rd_T74 rd_T54
  rw [Int.toNat_natCast, List.getD_eq_getElem?_getD, List.getD_eq_getElem?_getD, List.getElem?_map, List.getElem?_eq_getElem h]
  rfl
theorem SameR_l0 (l : List S54) (ok : SegsOk l) : ∀ (t : List S54) (i : Nat), l.drop i = t → Ev (fun k => marlinelaw07_Same.l0 k l (l.map s74) (l.length : Int) i) true
  | [], i, h => by
    have h3 : l.length ≤ i := by
      have := congrArg List.length h
      simp at this; omega
    exact Ev.step (fun k => by simp only [marlinelaw07_Same.l0]; rw [if_neg (by omega)]) (Ev.end_ rfl)
  | c :: t, i, h => by
    obtain ⟨e1, e2, e3⟩ := rdT_drop h
    have h0 := ok.1
    have hc : Lim c.f1 := ok.2 c (List.mem_of_mem_drop (by rw [h]; simp : c ∈ l.drop i))
    refine Ev.step (fun k => by simp only [marlinelaw07_Same.l0]; rw [if_pos (by omega), if_pos (by omega), if_pos (by omega), if_pos (by rw [List.length_map]; omega), rd74 e3, e1, suc i (by omega)]) ?_
    refine Ev.pos rfl (Ev.bind (Equal c.f1 c.f1 hc) (Ev.pos (by simp) ?_))
    exact SameR_l0 l ok t (i + 1) e2
theorem SameR (l : List S54) (ok : SegsOk l) : Ev (fun k => marlinelaw07_Same.f k l (l.map s74)) true := by
  unfold marlinelaw07_Same.f
  exact Ev.pos (by rw [List.length_map]) (SameR_l0 l ok l 0 rfl)
end Go.Proofs.Ytjmclghjhnbafaa.Sp
