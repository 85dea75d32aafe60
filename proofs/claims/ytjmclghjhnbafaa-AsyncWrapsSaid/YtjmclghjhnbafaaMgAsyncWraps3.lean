/- Texts of this claim, several in one: what Go functions come to, and plain words on it; each says itself what it proves. -/
import Derived.Test.YtjmclghjhnbafaaWMore
import Derived.Laws.BitsAllLaws
import Derived.RowKit
import Derived.Test.YtjmclghjhnbafaaMgAsyncWraps1
import Derived.Test.YtjmclghjhnbafaaMgAsyncWraps2
/- A text that a program of this claim (wip/x) laid out of the translation: what Go functions come to, and that they come to it. Lean checks it. -/
namespace Go.Proofs.Ytjmclghjhnbafaa.Print
open Go.RowKit Go.Proofs.YtjmclghjhnbafaaW.PrintWords Go.Proofs.YtjmclghjhnbafaaW.PrintLast Go.Proofs.YtjmclghjhnbafaaW.PrintMore
attribute [local go_sem] max2_int min2_int max_two min_two max_three min_three max_four min_four   -- for this text's walks alone
set_option linter.unusedVariables false
set_option linter.unusedSimpArgs false

/-! ### marlinelaw05_AsyncWraps: function 6 -/
mutual
def marlinelaw05_AsyncWraps.j0 : Nat → Int → Int → Int → List Int → List Int → List Int → Bool → Option (Bool)
  | 0, _, _, _, _, _, _, _ => none
  | k + 1, x0, x1, x2, x3, x4, x5, x43 => if x43 = true then ((marlinelaw05_speaks.f k).bind fun t244 => (some t244)) else ((some (([] : List Int) : List Int)).bind fun y246 => (if y246.length + x3.length < 140737488355328 then ((some (y246 ++ x3 : List Int)).bind fun y249 => (if y249.length < 140737488355328 then ((marlineref05_All.f k (Go.bits .and .u32 x0 x1) x2 (y249 ++ [126])).bind fun t255 => ((async_Deframer_Feed.f (Go.bits .and .u32 x0 x1) x2 ([] : List Int) false false false x3).bind fun bt258 => ((async_Wrap.f k x0 x4).bind fun t267 => ((async_Deframer_Feed.f (Go.bits .and .u32 x0 x1) x2 bt258.2.1 bt258.2.2.1 bt258.2.2.2.1 bt258.2.2.2.2 t267).bind fun bt270 => (if bt258.1.length + bt270.1.length < 4398046511104 then ((some (bt258.1 ++ bt270.1 : List (S34))).bind fun y279 => (if (y279.length : Int) < (t255.length : Int) then (marlinelaw05_AsyncWraps.j1 k x2 x4 x5 y279 (t255.length : Int) true (Go.bits .and .u32 x0 x1) x2 bt270.2.1 bt270.2.2.1 bt270.2.2.2.1 bt270.2.2.2.2) else (if 0 ≤ (t255.length : Int) then (if (t255.length : Int) ≤ (y279.length : Int) then ((marlinelaw05_Same.f k (y279.take ((t255.length : Int) : Int).toNat) t255).bind fun t287 => (if t287 = true then (marlinelaw05_AsyncWraps.j1 k x2 x4 x5 y279 (t255.length : Int) ((bt270.2.1.length : Int) != 0) (Go.bits .and .u32 x0 x1) x2 bt270.2.1 bt270.2.2.1 bt270.2.2.2.1 bt270.2.2.2.2) else (marlinelaw05_AsyncWraps.j1 k x2 x4 x5 y279 (t255.length : Int) true (Go.bits .and .u32 x0 x1) x2 bt270.2.1 bt270.2.2.1 bt270.2.2.2.1 bt270.2.2.2.2))) else (none)) else (none)))) else (none)))))) else (none))) else (none)))
def marlinelaw05_AsyncWraps.j1 : Nat → Int → List Int → List Int → List (S34) → Int → Bool → Int → Int → List Int → Bool → Bool → Bool → Option (Bool)
  | 0, _, _, _, _, _, _, _, _, _, _, _, _ => none
  | k + 1, x2, x4, x5, x16, x17, x89, x246000, x246001, x246002, x246003, x246004, x246005 => if x89 = true then (none) else (if (x4.length : Int) = 0 then (some ((x16.length : Int) == x17)) else (if (x16.length : Int) = (wrap64 (x17 + 1)) then (if 0 ≤ x17 then (if x17 < (x16.length : Int) then (if (x4.length : Int) > x2 then (if ((rd_T34 x16 x17).f0) = 4 then (some ((((rd_T34 x16 x17).f1).length : Int) == 0)) else (none)) else ((async_Deframer_Feed.f x246000 x246001 x246002 x246003 x246004 x246005 x5).bind fun bt290 => (if ((rd_T34 x16 x17).f0) = 0 then ((marlineref01_Equal.f k ((rd_T34 x16 x17).f1) x4).bind fun t299 => (some t299)) else (none)))) else (none)) else (none)) else (none)))
end
def marlinelaw05_AsyncWraps.f (k : Nat) (a0 : Int) (a1 : Int) (a2 : Int) (l3 : List Int) (l4 : List Int) (l5 : List Int) : Option (Bool) := (marlinelaw05_speaks.f k).bind fun t243 => (if t243 = true then (if a2 < 1 then (marlinelaw05_AsyncWraps.j0 k a0 a1 a2 l3 l4 l5 true) else (if a2 > 1048576 then (marlinelaw05_AsyncWraps.j0 k a0 a1 a2 l3 l4 l5 true) else (if (l3.length : Int) > 200 then (marlinelaw05_AsyncWraps.j0 k a0 a1 a2 l3 l4 l5 true) else (if (l4.length : Int) > 200 then (marlinelaw05_AsyncWraps.j0 k a0 a1 a2 l3 l4 l5 true) else (marlinelaw05_AsyncWraps.j0 k a0 a1 a2 l3 l4 l5 (decide ((l5.length : Int) > 200))))))) else (marlinelaw05_AsyncWraps.j0 k a0 a1 a2 l3 l4 l5 true))
theorem marlinelaw05_AsyncWraps.mono_l : ∀ k, (∀ y0 y1 y2 y3 y4 y5 y6, LeO (marlinelaw05_AsyncWraps.j0 k y0 y1 y2 y3 y4 y5 y6) (marlinelaw05_AsyncWraps.j0 (k + 1) y0 y1 y2 y3 y4 y5 y6)) ∧ (∀ y0 y1 y2 y3 y4 y5 y6 y7 y8 y9 y10 y11, LeO (marlinelaw05_AsyncWraps.j1 k y0 y1 y2 y3 y4 y5 y6 y7 y8 y9 y10 y11) (marlinelaw05_AsyncWraps.j1 (k + 1) y0 y1 y2 y3 y4 y5 y6 y7 y8 y9 y10 y11))
  | 0 => ⟨fun _ _ _ _ _ _ _ r h => by simp [marlinelaw05_AsyncWraps.j0] at h, fun _ _ _ _ _ _ _ _ _ _ _ _ r h => by simp [marlinelaw05_AsyncWraps.j1] at h⟩
  | k + 1 => by
    obtain ⟨ih0, ih1⟩ := marlinelaw05_AsyncWraps.mono_l k
    refine ⟨?_, ?_⟩
    · intro y0 y1 y2 y3 y4 y5 y6
      unfold marlinelaw05_AsyncWraps.j0
      repeat' first
      | (with_reducible exact ih0 _ _ _ _ _ _ _)
      | (with_reducible exact ih1 _ _ _ _ _ _ _ _ _ _ _ _)
      | (with_reducible exact async_Wrap.mono _ _ _)
      | (with_reducible exact marlinelaw05_Same.mono _ _ _)
      | (with_reducible exact marlinelaw05_speaks.mono _)
      | (with_reducible exact marlineref01_Equal.mono _ _ _)
      | (with_reducible exact marlineref05_All.mono _ _ _ _)
      | (with_reducible exact LeO.refl _)
      | (with_reducible exact LeO.none _)
      | (with_reducible refine LeO.ite ?_ ?_)
      | (with_reducible refine LeO.bind ?_ (fun _ => ?_))
      | exact ih0 _ _ _ _ _ _ _
      | exact ih1 _ _ _ _ _ _ _ _ _ _ _ _
      | exact async_Wrap.mono _ _ _
      | exact marlinelaw05_Same.mono _ _ _
      | exact marlinelaw05_speaks.mono _
      | exact marlineref01_Equal.mono _ _ _
      | exact marlineref05_All.mono _ _ _ _
      | exact LeO.none _
      | refine LeO.ite ?_ ?_
      | refine LeO.bind ?_ (fun _ => ?_)
    · intro y0 y1 y2 y3 y4 y5 y6 y7 y8 y9 y10 y11
      unfold marlinelaw05_AsyncWraps.j1
      repeat' first
      | (with_reducible exact ih0 _ _ _ _ _ _ _)
      | (with_reducible exact ih1 _ _ _ _ _ _ _ _ _ _ _ _)
      | (with_reducible exact async_Wrap.mono _ _ _)
      | (with_reducible exact marlinelaw05_Same.mono _ _ _)
      | (with_reducible exact marlinelaw05_speaks.mono _)
      | (with_reducible exact marlineref01_Equal.mono _ _ _)
      | (with_reducible exact marlineref05_All.mono _ _ _ _)
      | (with_reducible exact LeO.refl _)
      | (with_reducible exact LeO.none _)
      | (with_reducible refine LeO.ite ?_ ?_)
      | (with_reducible refine LeO.bind ?_ (fun _ => ?_))
      | exact ih0 _ _ _ _ _ _ _
      | exact ih1 _ _ _ _ _ _ _ _ _ _ _ _
      | exact async_Wrap.mono _ _ _
      | exact marlinelaw05_Same.mono _ _ _
      | exact marlinelaw05_speaks.mono _
      | exact marlineref01_Equal.mono _ _ _
      | exact marlineref05_All.mono _ _ _ _
      | exact LeO.none _
      | refine LeO.ite ?_ ?_
      | refine LeO.bind ?_ (fun _ => ?_)
theorem marlinelaw05_AsyncWraps.mono : ∀ a0 a1 a2 a3 a4 a5 k, LeO (marlinelaw05_AsyncWraps.f k a0 a1 a2 a3 a4 a5) (marlinelaw05_AsyncWraps.f (k + 1) a0 a1 a2 a3 a4 a5) := by
  intro a0 a1 a2 a3 a4 a5 k
  obtain ⟨ih0, ih1⟩ := marlinelaw05_AsyncWraps.mono_l k
  unfold marlinelaw05_AsyncWraps.f
  repeat' first
      | (with_reducible exact ih0 _ _ _ _ _ _ _)
      | (with_reducible exact ih1 _ _ _ _ _ _ _ _ _ _ _ _)
      | (with_reducible exact async_Wrap.mono _ _ _)
      | (with_reducible exact marlinelaw05_Same.mono _ _ _)
      | (with_reducible exact marlinelaw05_speaks.mono _)
      | (with_reducible exact marlineref01_Equal.mono _ _ _)
      | (with_reducible exact marlineref05_All.mono _ _ _ _)
      | (with_reducible exact LeO.refl _)
      | (with_reducible exact LeO.none _)
      | (with_reducible refine LeO.ite ?_ ?_)
      | (with_reducible refine LeO.bind ?_ (fun _ => ?_))
      | exact ih0 _ _ _ _ _ _ _
      | exact ih1 _ _ _ _ _ _ _ _ _ _ _ _
      | exact async_Wrap.mono _ _ _
      | exact marlinelaw05_Same.mono _ _ _
      | exact marlinelaw05_speaks.mono _
      | exact marlineref01_Equal.mono _ _ _
      | exact marlineref05_All.mono _ _ _ _
      | exact LeO.none _
      | refine LeO.ite ?_ ?_
      | refine LeO.bind ?_ (fun _ => ?_)
set_option maxHeartbeats 8000000 in
set_option maxRecDepth 100000 in
theorem marlinelaw05_AsyncWraps.calls (k : Nat) (a0 : Int) (a1 : Int) (a2 : Int) (A3 : Option Addr) (c3 : Nat) (l3 : List Int) (A4 : Option Addr) (c4 : Nat) (l4 : List Int) (A5 : Option Addr) (c5 : Nat) (l5 : List Int) (r : Bool) (w : World) (hr3 : Kd.C (Kd.int .u8) w A3 l3.length l3) (hc3 : l3.length ≤ c3) (hr4 : Kd.C (Kd.int .u8) w A4 l4.length l4) (hc4 : l4.length ≤ c4) (hr5 : Kd.C (Kd.int .u8) w A5 l5.length l5) (hc5 : l5.length ≤ c5) (h : marlinelaw05_AsyncWraps.f k a0 a1 a2 l3 l4 l5 = some r) :
    Calls Try.prog 6 #[.int .u32 a0, .int .u32 a1, .int .i64 a2, .slice A3 l3.length c3, .slice A4 l4.length c4, .slice A5 l5.length c5] w fun e w' => e = .returned (.bool r) ∧ Below w.heap.size w w' := by
  have hu58 := Try.underlying58
  have hu34 := Try.underlying34
  have HR3 := Aside0.mk hr3
  have HC3 := Aside0.mk hc3
  clear hr3 hc3
  have HR4 := Aside0.mk hr4
  have HC4 := Aside0.mk hc4
  clear hr4 hc4
  have HR5 := Aside0.mk hr5
  have HC5 := Aside0.mk hc5
  clear hr5 hc5
  have HB := Aside0.mk (Below.refl w.heap.size w)
  have H : ((marlinelaw05_speaks.f k).bind fun t243 => (if t243 = true then (if a2 < 1 then (marlinelaw05_AsyncWraps.j0 k a0 a1 a2 l3 l4 l5 true) else (if a2 > 1048576 then (marlinelaw05_AsyncWraps.j0 k a0 a1 a2 l3 l4 l5 true) else (if (l3.length : Int) > 200 then (marlinelaw05_AsyncWraps.j0 k a0 a1 a2 l3 l4 l5 true) else (if (l4.length : Int) > 200 then (marlinelaw05_AsyncWraps.j0 k a0 a1 a2 l3 l4 l5 true) else (marlinelaw05_AsyncWraps.j0 k a0 a1 a2 l3 l4 l5 (decide ((l5.length : Int) > 200))))))) else (marlinelaw05_AsyncWraps.j0 k a0 a1 a2 l3 l4 l5 true))) = some r := h
  clear h
  have HC7 := Aside0.mk H
  clear H
  go_enter Try.func6, Try.ntmps6
  go_upto_region 1 with (fail)
  go_cut [43] (fun v43 wc => ∃ (kq : Nat) (x43_6 : Bool), v43 = .bool x43_6 ∧ Aside0 (marlinelaw05_AsyncWraps.j0 kq a0 a1 a2 l3 l4 l5 x43_6 = some r) ∧ Aside0 (kq ≤ k) ∧ Aside0 (Below w.heap.size w wc))
  case first =>
    have H := HC7.out
    clear HC7
    replace H := Option.bind_eq_some_iff.mp H
    obtain ⟨t243, A80, H⟩ := H
    replace H : (if t243 = true then (if a2 < 1 then (marlinelaw05_AsyncWraps.j0 k a0 a1 a2 l3 l4 l5 true) else (if a2 > 1048576 then (marlinelaw05_AsyncWraps.j0 k a0 a1 a2 l3 l4 l5 true) else (if (l3.length : Int) > 200 then (marlinelaw05_AsyncWraps.j0 k a0 a1 a2 l3 l4 l5 true) else (if (l4.length : Int) > 200 then (marlinelaw05_AsyncWraps.j0 k a0 a1 a2 l3 l4 l5 true) else (marlinelaw05_AsyncWraps.j0 k a0 a1 a2 l3 l4 l5 (decide ((l5.length : Int) > 200))))))) else (marlinelaw05_AsyncWraps.j0 k a0 a1 a2 l3 l4 l5 true)) = some r := H
    have A8 := Aside0.mk A80
    clear A80
    by_cases c9 : t243 = true
    · subst c9
      have H1 : (if a2 < 1 then (marlinelaw05_AsyncWraps.j0 k a0 a1 a2 l3 l4 l5 true) else (if a2 > 1048576 then (marlinelaw05_AsyncWraps.j0 k a0 a1 a2 l3 l4 l5 true) else (if (l3.length : Int) > 200 then (marlinelaw05_AsyncWraps.j0 k a0 a1 a2 l3 l4 l5 true) else (if (l4.length : Int) > 200 then (marlinelaw05_AsyncWraps.j0 k a0 a1 a2 l3 l4 l5 true) else (marlinelaw05_AsyncWraps.j0 k a0 a1 a2 l3 l4 l5 (decide ((l5.length : Int) > 200))))))) = some r := by rw [if_pos rfl] at H; exact H
      clear H
      have H := H1
      clear H1
      by_cases c10 : a2 < 1
      · rw [if_pos c10] at H
        have c10b0 : decide (a2 < 1) = true := decide_eq_true c10
        clear c10
        (first | rw [c10b0] | (simp only [i64_w, i32_w]; rw [c10b0]) | skip)
        have H' := Aside0.mk H
        clear H
        go_wp2_with (first | ((with_reducible refine gate_callee (f := 11) rfl ?_); refine goesL_ (some 19) rfl rfl Try.func11 (by kernel_rfl) rfl #[] rfl (by (try simp only [List.map_toArray, List.map_cons, List.map_nil]); first | done | rfl | (simp only [List.length_drop, List.length_take]; rfl)) ?_; (with_reducible refine (marlinelaw05_speaks.calls k  true _ A8.out).mono ?_); rintro e w11 ⟨rfl, hb⟩; refine ⟨_, rfl, ?_⟩; have n0_ := Aside0.mk (below_step (by repeat (first | (with_reducible first | exact HB.out | apply below_alloc | apply pw_below_drewN | apply below_drew1) | exact HB.out)) hb); clear HB; have HB := n0_; clear n0_; (try clear hb); (try clear hb2); (try clear hk); (try clear hi)))
        go_meet
        case rel => exact ⟨_, (true), (by first | rfl | (simp; done) | (simp [*]; done)), H', ⟨by first | omega | exact Nat.le_refl _⟩, ⟨by repeat (first | (with_reducible first | exact HB.out | apply below_alloc | apply pw_below_drewN | apply below_drew1) | exact HB.out)⟩⟩
      · rw [if_neg c10] at H
        have c10b0 : decide (a2 < 1) = false := decide_eq_false c10
        clear c10
        (first | rw [c10b0] | (simp only [i64_w, i32_w]; rw [c10b0]) | skip)
        by_cases c12 : a2 > 1048576
        · rw [if_pos c12] at H
          have c12b0 : decide (1048576 < a2) = true := decide_eq_true c12
          clear c12
          have H' := Aside0.mk H
          clear H
          go_wp2_with (first | ((with_reducible refine gate_callee (f := 11) rfl ?_); refine goesL_ (some 19) rfl rfl Try.func11 (by kernel_rfl) rfl #[] rfl (by (try simp only [List.map_toArray, List.map_cons, List.map_nil]); first | done | rfl | (simp only [List.length_drop, List.length_take]; rfl)) ?_; (with_reducible refine (marlinelaw05_speaks.calls k  true _ A8.out).mono ?_); rintro e w13 ⟨rfl, hb⟩; refine ⟨_, rfl, ?_⟩; have n0_ := Aside0.mk (below_step (by repeat (first | (with_reducible first | exact HB.out | apply below_alloc | apply pw_below_drewN | apply below_drew1) | exact HB.out)) hb); clear HB; have HB := n0_; clear n0_; (try clear hb); (try clear hb2); (try clear hk); (try clear hi)))
          go_meet
          case rel => exact ⟨_, (true), (by first | rfl | (simp; done) | (simp [*]; done)), H', ⟨by first | omega | exact Nat.le_refl _⟩, ⟨by repeat (first | (with_reducible first | exact HB.out | apply below_alloc | apply pw_below_drewN | apply below_drew1) | exact HB.out)⟩⟩
        · rw [if_neg c12] at H
          have c12b0 : decide (1048576 < a2) = false := decide_eq_false c12
          clear c12
          by_cases c14 : (l3.length : Int) > 200
          · rw [if_pos c14] at H
            have c14b0 : decide (200 < (l3.length : Int)) = true := decide_eq_true c14
            have c14b1 : decide (200 < l3.length) = true := decide_eq_true (by omega)
            clear c14
            have H' := Aside0.mk H
            clear H
            go_wp2_with (first | ((with_reducible refine gate_callee (f := 11) rfl ?_); refine goesL_ (some 19) rfl rfl Try.func11 (by kernel_rfl) rfl #[] rfl (by (try simp only [List.map_toArray, List.map_cons, List.map_nil]); first | done | rfl | (simp only [List.length_drop, List.length_take]; rfl)) ?_; (with_reducible refine (marlinelaw05_speaks.calls k  true _ A8.out).mono ?_); rintro e w15 ⟨rfl, hb⟩; refine ⟨_, rfl, ?_⟩; have n0_ := Aside0.mk (below_step (by repeat (first | (with_reducible first | exact HB.out | apply below_alloc | apply pw_below_drewN | apply below_drew1) | exact HB.out)) hb); clear HB; have HB := n0_; clear n0_; (try clear hb); (try clear hb2); (try clear hk); (try clear hi)))
            go_meet
            case rel => exact ⟨_, (true), (by first | rfl | (simp; done) | (simp [*]; done)), H', ⟨by first | omega | exact Nat.le_refl _⟩, ⟨by repeat (first | (with_reducible first | exact HB.out | apply below_alloc | apply pw_below_drewN | apply below_drew1) | exact HB.out)⟩⟩
          · rw [if_neg c14] at H
            have c14b0 : decide (200 < (l3.length : Int)) = false := decide_eq_false c14
            have c14b1 : decide (200 < l3.length) = false := decide_eq_false (by omega)
            clear c14
            by_cases c16 : (l4.length : Int) > 200
            · rw [if_pos c16] at H
              have c16b0 : decide (200 < (l4.length : Int)) = true := decide_eq_true c16
              have c16b1 : decide (200 < l4.length) = true := decide_eq_true (by omega)
              clear c16
              have H' := Aside0.mk H
              clear H
              go_wp2_with (first | ((with_reducible refine gate_callee (f := 11) rfl ?_); refine goesL_ (some 19) rfl rfl Try.func11 (by kernel_rfl) rfl #[] rfl (by (try simp only [List.map_toArray, List.map_cons, List.map_nil]); first | done | rfl | (simp only [List.length_drop, List.length_take]; rfl)) ?_; (with_reducible refine (marlinelaw05_speaks.calls k  true _ A8.out).mono ?_); rintro e w17 ⟨rfl, hb⟩; refine ⟨_, rfl, ?_⟩; have n0_ := Aside0.mk (below_step (by repeat (first | (with_reducible first | exact HB.out | apply below_alloc | apply pw_below_drewN | apply below_drew1) | exact HB.out)) hb); clear HB; have HB := n0_; clear n0_; (try clear hb); (try clear hb2); (try clear hk); (try clear hi)))
              go_meet
              case rel => exact ⟨_, (true), (by first | rfl | (simp; done) | (simp [*]; done)), H', ⟨by first | omega | exact Nat.le_refl _⟩, ⟨by repeat (first | (with_reducible first | exact HB.out | apply below_alloc | apply pw_below_drewN | apply below_drew1) | exact HB.out)⟩⟩
            · rw [if_neg c16] at H
              have c16b0 : decide (200 < (l4.length : Int)) = false := decide_eq_false c16
              have c16b1 : decide (200 < l4.length) = false := decide_eq_false (by omega)
              clear c16
              have H' := Aside0.mk H
              clear H
              go_wp2_with (first | ((with_reducible refine gate_callee (f := 11) rfl ?_); refine goesL_ (some 19) rfl rfl Try.func11 (by kernel_rfl) rfl #[] rfl (by (try simp only [List.map_toArray, List.map_cons, List.map_nil]); first | done | rfl | (simp only [List.length_drop, List.length_take]; rfl)) ?_; (with_reducible refine (marlinelaw05_speaks.calls k  true _ A8.out).mono ?_); rintro e w18 ⟨rfl, hb⟩; refine ⟨_, rfl, ?_⟩; have n0_ := Aside0.mk (below_step (by repeat (first | (with_reducible first | exact HB.out | apply below_alloc | apply pw_below_drewN | apply below_drew1) | exact HB.out)) hb); clear HB; have HB := n0_; clear n0_; (try clear hb); (try clear hb2); (try clear hk); (try clear hi)))
              go_meet
              case rel => exact ⟨_, (decide ((l5.length : Int) > 200)), (by first | rfl | (simp; done) | (simp [*]; done)), H', ⟨by first | omega | exact Nat.le_refl _⟩, ⟨by repeat (first | (with_reducible first | exact HB.out | apply below_alloc | apply pw_below_drewN | apply below_drew1) | exact HB.out)⟩⟩
    · replace c9 := Bool.eq_false_iff.mpr c9
      subst c9
      have H1 : (marlinelaw05_AsyncWraps.j0 k a0 a1 a2 l3 l4 l5 true) = some r := by rw [if_neg (show ¬ (false = true) by decide)] at H; exact H
      clear H
      have H := H1
      clear H1
      have H' := Aside0.mk H
      clear H
      go_wp2_with (first | ((with_reducible refine gate_callee (f := 11) rfl ?_); refine goesL_ (some 19) rfl rfl Try.func11 (by kernel_rfl) rfl #[] rfl (by (try simp only [List.map_toArray, List.map_cons, List.map_nil]); first | done | rfl | (simp only [List.length_drop, List.length_take]; rfl)) ?_; (with_reducible refine (marlinelaw05_speaks.calls k  false _ A8.out).mono ?_); rintro e w19 ⟨rfl, hb⟩; refine ⟨_, rfl, ?_⟩; have n0_ := Aside0.mk (below_step (by repeat (first | (with_reducible first | exact HB.out | apply below_alloc | apply pw_below_drewN | apply below_drew1) | exact HB.out)) hb); clear HB; have HB := n0_; clear n0_; (try clear hb); (try clear hb2); (try clear hk); (try clear hi)))
      go_meet
      case rel => exact ⟨_, (true), (by first | rfl | (simp; done) | (simp [*]; done)), H', ⟨by first | omega | exact Nat.le_refl _⟩, ⟨by repeat (first | (with_reducible first | exact HB.out | apply below_alloc | apply pw_below_drewN | apply below_drew1) | exact HB.out)⟩⟩
  case rest =>
    clear HC7
    try clear c1
    try clear p2
    try clear c3
    try clear c4
    try clear c5
    try clear c6
    try clear c9
    try clear c10
    try clear c10b0
    try clear c11
    try clear c12
    try clear c12b0
    try clear c14
    try clear c14b0
    try clear c14b1
    try clear c16
    try clear c16b0
    try clear c16b1
    obtain ⟨kq, x43_6, rfl, HA, HJ6, HB⟩ := hcut
    cases kq with
    | zero => exact absurd HA.out (by simp [marlinelaw05_AsyncWraps.j0])
    | succ kj6 =>
      have H := HA.out
      clear HA
      simp only [marlinelaw05_AsyncWraps.j0] at H
      by_cases c20 : x43_6 = true
      · subst c20
        have H1 : ((marlinelaw05_speaks.f kj6).bind fun t244 => (some t244)) = some r := by rw [if_pos rfl] at H; exact H
        clear H
        have H := H1
        clear H1
        replace H := Option.bind_eq_some_iff.mp H
        obtain ⟨t244, A210, H⟩ := H
        replace H : (some t244) = some r := H
        have A21 := Aside0.mk A210
        clear A210
        obtain rfl := Option.some.inj H
        go_wp2_with (first | ((with_reducible refine gate_callee (f := 11) rfl ?_); refine goesL_ (some 44) rfl rfl Try.func11 (by kernel_rfl) rfl #[] rfl (by (try simp only [List.map_toArray, List.map_cons, List.map_nil]); first | done | rfl | (simp only [List.length_drop, List.length_take]; rfl)) ?_; (with_reducible refine (marlinelaw05_speaks.calls kj6  t244 _ A21.out).mono ?_); rintro e w22 ⟨rfl, hb⟩; refine ⟨_, rfl, ?_⟩; have n0_ := Aside0.mk (below_step (by repeat (first | (with_reducible first | exact HB.out | apply below_alloc | apply pw_below_drewN | apply below_drew1) | exact HB.out)) hb); clear HB; have HB := n0_; clear n0_; (try clear hb); (try clear hb2); (try clear hk); (try clear hi)))
        go_ret
        exact ⟨by first | rfl | (simp [errW_none, errW_some] <;> rfl) | (simp [*, errW_none, errW_some] <;> rfl), by repeat (first | (with_reducible first | exact HB.out | apply below_alloc | apply pw_below_drewN | apply below_drew1) | exact HB.out)⟩
      · replace c20 := Bool.eq_false_iff.mpr c20
        subst c20
        have H1 : ((some (([] : List Int) : List Int)).bind fun y246 => (if y246.length + l3.length < 140737488355328 then ((some (y246 ++ l3 : List Int)).bind fun y249 => (if y249.length < 140737488355328 then ((marlineref05_All.f kj6 (Go.bits .and .u32 a0 a1) a2 (y249 ++ [126])).bind fun t255 => ((async_Deframer_Feed.f (Go.bits .and .u32 a0 a1) a2 ([] : List Int) false false false l3).bind fun bt258 => ((async_Wrap.f kj6 a0 l4).bind fun t267 => ((async_Deframer_Feed.f (Go.bits .and .u32 a0 a1) a2 bt258.2.1 bt258.2.2.1 bt258.2.2.2.1 bt258.2.2.2.2 t267).bind fun bt270 => (if bt258.1.length + bt270.1.length < 4398046511104 then ((some (bt258.1 ++ bt270.1 : List (S34))).bind fun y279 => (if (y279.length : Int) < (t255.length : Int) then (marlinelaw05_AsyncWraps.j1 kj6 a2 l4 l5 y279 (t255.length : Int) true (Go.bits .and .u32 a0 a1) a2 bt270.2.1 bt270.2.2.1 bt270.2.2.2.1 bt270.2.2.2.2) else (if 0 ≤ (t255.length : Int) then (if (t255.length : Int) ≤ (y279.length : Int) then ((marlinelaw05_Same.f kj6 (y279.take ((t255.length : Int) : Int).toNat) t255).bind fun t287 => (if t287 = true then (marlinelaw05_AsyncWraps.j1 kj6 a2 l4 l5 y279 (t255.length : Int) ((bt270.2.1.length : Int) != 0) (Go.bits .and .u32 a0 a1) a2 bt270.2.1 bt270.2.2.1 bt270.2.2.2.1 bt270.2.2.2.2) else (marlinelaw05_AsyncWraps.j1 kj6 a2 l4 l5 y279 (t255.length : Int) true (Go.bits .and .u32 a0 a1) a2 bt270.2.1 bt270.2.2.1 bt270.2.2.2.1 bt270.2.2.2.2))) else (none)) else (none)))) else (none)))))) else (none))) else (none))) = some r := by rw [if_neg (show ¬ (false = true) by decide)] at H; exact H
        clear H
        have H := H1
        clear H1
        obtain ⟨y246, hy246⟩ : ∃ y_ : List Int, y_ = (([] : List Int)) := ⟨_, rfl⟩
        replace H : (if y246.length + l3.length < 140737488355328 then ((some (y246 ++ l3 : List Int)).bind fun y249 => (if y249.length < 140737488355328 then ((marlineref05_All.f kj6 (Go.bits .and .u32 a0 a1) a2 (y249 ++ [126])).bind fun t255 => ((async_Deframer_Feed.f (Go.bits .and .u32 a0 a1) a2 ([] : List Int) false false false l3).bind fun bt258 => ((async_Wrap.f kj6 a0 l4).bind fun t267 => ((async_Deframer_Feed.f (Go.bits .and .u32 a0 a1) a2 bt258.2.1 bt258.2.2.1 bt258.2.2.2.1 bt258.2.2.2.2 t267).bind fun bt270 => (if bt258.1.length + bt270.1.length < 4398046511104 then ((some (bt258.1 ++ bt270.1 : List (S34))).bind fun y279 => (if (y279.length : Int) < (t255.length : Int) then (marlinelaw05_AsyncWraps.j1 kj6 a2 l4 l5 y279 (t255.length : Int) true (Go.bits .and .u32 a0 a1) a2 bt270.2.1 bt270.2.2.1 bt270.2.2.2.1 bt270.2.2.2.2) else (if 0 ≤ (t255.length : Int) then (if (t255.length : Int) ≤ (y279.length : Int) then ((marlinelaw05_Same.f kj6 (y279.take ((t255.length : Int) : Int).toNat) t255).bind fun t287 => (if t287 = true then (marlinelaw05_AsyncWraps.j1 kj6 a2 l4 l5 y279 (t255.length : Int) ((bt270.2.1.length : Int) != 0) (Go.bits .and .u32 a0 a1) a2 bt270.2.1 bt270.2.2.1 bt270.2.2.2.1 bt270.2.2.2.2) else (marlinelaw05_AsyncWraps.j1 kj6 a2 l4 l5 y279 (t255.length : Int) true (Go.bits .and .u32 a0 a1) a2 bt270.2.1 bt270.2.2.1 bt270.2.2.2.1 bt270.2.2.2.2))) else (none)) else (none)))) else (none)))))) else (none))) else (none)) = some r := by first | (rw [hy246]; with_reducible exact H) | (have H2_ := (Option.bind_some _ _).symm.trans H; rw [hy246]; with_reducible exact H2_) | (have H2_ := (Option.bind_some _ _).symm.trans H; with_reducible exact H2_) | with_reducible exact H | (rw [hy246]; exact H) | exact H
        have Ny246 := Aside0.mk hy246
        clear hy246
        by_cases c23 : y246.length + l3.length < 140737488355328
        · rw [if_pos c23] at H
          have LMc23 := Aside0.mk c23
          clear c23
          obtain ⟨y249, hy249⟩ : ∃ y_ : List Int, y_ = (y246 ++ l3) := ⟨_, rfl⟩
          replace H : (if y249.length < 140737488355328 then ((marlineref05_All.f kj6 (Go.bits .and .u32 a0 a1) a2 (y249 ++ [126])).bind fun t255 => ((async_Deframer_Feed.f (Go.bits .and .u32 a0 a1) a2 ([] : List Int) false false false l3).bind fun bt258 => ((async_Wrap.f kj6 a0 l4).bind fun t267 => ((async_Deframer_Feed.f (Go.bits .and .u32 a0 a1) a2 bt258.2.1 bt258.2.2.1 bt258.2.2.2.1 bt258.2.2.2.2 t267).bind fun bt270 => (if bt258.1.length + bt270.1.length < 4398046511104 then ((some (bt258.1 ++ bt270.1 : List (S34))).bind fun y279 => (if (y279.length : Int) < (t255.length : Int) then (marlinelaw05_AsyncWraps.j1 kj6 a2 l4 l5 y279 (t255.length : Int) true (Go.bits .and .u32 a0 a1) a2 bt270.2.1 bt270.2.2.1 bt270.2.2.2.1 bt270.2.2.2.2) else (if 0 ≤ (t255.length : Int) then (if (t255.length : Int) ≤ (y279.length : Int) then ((marlinelaw05_Same.f kj6 (y279.take ((t255.length : Int) : Int).toNat) t255).bind fun t287 => (if t287 = true then (marlinelaw05_AsyncWraps.j1 kj6 a2 l4 l5 y279 (t255.length : Int) ((bt270.2.1.length : Int) != 0) (Go.bits .and .u32 a0 a1) a2 bt270.2.1 bt270.2.2.1 bt270.2.2.2.1 bt270.2.2.2.2) else (marlinelaw05_AsyncWraps.j1 kj6 a2 l4 l5 y279 (t255.length : Int) true (Go.bits .and .u32 a0 a1) a2 bt270.2.1 bt270.2.2.1 bt270.2.2.2.1 bt270.2.2.2.2))) else (none)) else (none)))) else (none)))))) else (none)) = some r := by first | (rw [hy249]; with_reducible exact H) | (have H2_ := (Option.bind_some _ _).symm.trans H; rw [hy249]; with_reducible exact H2_) | (have H2_ := (Option.bind_some _ _).symm.trans H; with_reducible exact H2_) | with_reducible exact H | (rw [hy249]; exact H) | exact H
          have Ny249 := Aside0.mk hy249
          clear hy249
          by_cases c24 : y249.length < 140737488355328
          · rw [if_pos c24] at H
            have LMc24 := Aside0.mk c24
            clear c24
            obtain ⟨y252, hy252⟩ : ∃ y_ : List Int, y_ = (y249 ++ [126]) := ⟨_, rfl⟩
            replace H : ((marlineref05_All.f kj6 (Go.bits .and .u32 a0 a1) a2 y252).bind fun t255 => ((async_Deframer_Feed.f (Go.bits .and .u32 a0 a1) a2 ([] : List Int) false false false l3).bind fun bt258 => ((async_Wrap.f kj6 a0 l4).bind fun t267 => ((async_Deframer_Feed.f (Go.bits .and .u32 a0 a1) a2 bt258.2.1 bt258.2.2.1 bt258.2.2.2.1 bt258.2.2.2.2 t267).bind fun bt270 => (if bt258.1.length + bt270.1.length < 4398046511104 then ((some (bt258.1 ++ bt270.1 : List (S34))).bind fun y279 => (if (y279.length : Int) < (t255.length : Int) then (marlinelaw05_AsyncWraps.j1 kj6 a2 l4 l5 y279 (t255.length : Int) true (Go.bits .and .u32 a0 a1) a2 bt270.2.1 bt270.2.2.1 bt270.2.2.2.1 bt270.2.2.2.2) else (if 0 ≤ (t255.length : Int) then (if (t255.length : Int) ≤ (y279.length : Int) then ((marlinelaw05_Same.f kj6 (y279.take ((t255.length : Int) : Int).toNat) t255).bind fun t287 => (if t287 = true then (marlinelaw05_AsyncWraps.j1 kj6 a2 l4 l5 y279 (t255.length : Int) ((bt270.2.1.length : Int) != 0) (Go.bits .and .u32 a0 a1) a2 bt270.2.1 bt270.2.2.1 bt270.2.2.2.1 bt270.2.2.2.2) else (marlinelaw05_AsyncWraps.j1 kj6 a2 l4 l5 y279 (t255.length : Int) true (Go.bits .and .u32 a0 a1) a2 bt270.2.1 bt270.2.2.1 bt270.2.2.2.1 bt270.2.2.2.2))) else (none)) else (none)))) else (none)))))) = some r := by first | (rw [hy252]; with_reducible exact H) | (have H2_ := (Option.bind_some _ _).symm.trans H; rw [hy252]; with_reducible exact H2_) | (have H2_ := (Option.bind_some _ _).symm.trans H; with_reducible exact H2_) | with_reducible exact H | (rw [hy252]; exact H) | exact H
            have Ny252 := Aside0.mk hy252
            clear hy252
            replace H := Option.bind_eq_some_iff.mp H
            obtain ⟨t255, A250, H⟩ := H
            replace H : ((async_Deframer_Feed.f (Go.bits .and .u32 a0 a1) a2 ([] : List Int) false false false l3).bind fun bt258 => ((async_Wrap.f kj6 a0 l4).bind fun t267 => ((async_Deframer_Feed.f (Go.bits .and .u32 a0 a1) a2 bt258.2.1 bt258.2.2.1 bt258.2.2.2.1 bt258.2.2.2.2 t267).bind fun bt270 => (if bt258.1.length + bt270.1.length < 4398046511104 then ((some (bt258.1 ++ bt270.1 : List (S34))).bind fun y279 => (if (y279.length : Int) < (t255.length : Int) then (marlinelaw05_AsyncWraps.j1 kj6 a2 l4 l5 y279 (t255.length : Int) true (Go.bits .and .u32 a0 a1) a2 bt270.2.1 bt270.2.2.1 bt270.2.2.2.1 bt270.2.2.2.2) else (if 0 ≤ (t255.length : Int) then (if (t255.length : Int) ≤ (y279.length : Int) then ((marlinelaw05_Same.f kj6 (y279.take ((t255.length : Int) : Int).toNat) t255).bind fun t287 => (if t287 = true then (marlinelaw05_AsyncWraps.j1 kj6 a2 l4 l5 y279 (t255.length : Int) ((bt270.2.1.length : Int) != 0) (Go.bits .and .u32 a0 a1) a2 bt270.2.1 bt270.2.2.1 bt270.2.2.2.1 bt270.2.2.2.2) else (marlinelaw05_AsyncWraps.j1 kj6 a2 l4 l5 y279 (t255.length : Int) true (Go.bits .and .u32 a0 a1) a2 bt270.2.1 bt270.2.2.1 bt270.2.2.2.1 bt270.2.2.2.2))) else (none)) else (none)))) else (none))))) = some r := H
            have A25 := Aside0.mk A250
            clear A250
            replace H := Option.bind_eq_some_iff.mp H
            obtain ⟨⟨t258, t261, t264, t265, t266⟩, A260, H⟩ := H
            replace H : ((async_Wrap.f kj6 a0 l4).bind fun t267 => ((async_Deframer_Feed.f (Go.bits .and .u32 a0 a1) a2 t261 t264 t265 t266 t267).bind fun bt270 => (if t258.length + bt270.1.length < 4398046511104 then ((some (t258 ++ bt270.1 : List (S34))).bind fun y279 => (if (y279.length : Int) < (t255.length : Int) then (marlinelaw05_AsyncWraps.j1 kj6 a2 l4 l5 y279 (t255.length : Int) true (Go.bits .and .u32 a0 a1) a2 bt270.2.1 bt270.2.2.1 bt270.2.2.2.1 bt270.2.2.2.2) else (if 0 ≤ (t255.length : Int) then (if (t255.length : Int) ≤ (y279.length : Int) then ((marlinelaw05_Same.f kj6 (y279.take ((t255.length : Int) : Int).toNat) t255).bind fun t287 => (if t287 = true then (marlinelaw05_AsyncWraps.j1 kj6 a2 l4 l5 y279 (t255.length : Int) ((bt270.2.1.length : Int) != 0) (Go.bits .and .u32 a0 a1) a2 bt270.2.1 bt270.2.2.1 bt270.2.2.2.1 bt270.2.2.2.2) else (marlinelaw05_AsyncWraps.j1 kj6 a2 l4 l5 y279 (t255.length : Int) true (Go.bits .and .u32 a0 a1) a2 bt270.2.1 bt270.2.2.1 bt270.2.2.2.1 bt270.2.2.2.2))) else (none)) else (none)))) else (none)))) = some r := H
            have A26 := Aside0.mk A260
            clear A260
            replace H := Option.bind_eq_some_iff.mp H
            obtain ⟨t267, A270, H⟩ := H
            replace H : ((async_Deframer_Feed.f (Go.bits .and .u32 a0 a1) a2 t261 t264 t265 t266 t267).bind fun bt270 => (if t258.length + bt270.1.length < 4398046511104 then ((some (t258 ++ bt270.1 : List (S34))).bind fun y279 => (if (y279.length : Int) < (t255.length : Int) then (marlinelaw05_AsyncWraps.j1 kj6 a2 l4 l5 y279 (t255.length : Int) true (Go.bits .and .u32 a0 a1) a2 bt270.2.1 bt270.2.2.1 bt270.2.2.2.1 bt270.2.2.2.2) else (if 0 ≤ (t255.length : Int) then (if (t255.length : Int) ≤ (y279.length : Int) then ((marlinelaw05_Same.f kj6 (y279.take ((t255.length : Int) : Int).toNat) t255).bind fun t287 => (if t287 = true then (marlinelaw05_AsyncWraps.j1 kj6 a2 l4 l5 y279 (t255.length : Int) ((bt270.2.1.length : Int) != 0) (Go.bits .and .u32 a0 a1) a2 bt270.2.1 bt270.2.2.1 bt270.2.2.2.1 bt270.2.2.2.2) else (marlinelaw05_AsyncWraps.j1 kj6 a2 l4 l5 y279 (t255.length : Int) true (Go.bits .and .u32 a0 a1) a2 bt270.2.1 bt270.2.2.1 bt270.2.2.2.1 bt270.2.2.2.2))) else (none)) else (none)))) else (none))) = some r := H
            have A27 := Aside0.mk A270
            clear A270
            replace H := Option.bind_eq_some_iff.mp H
            obtain ⟨⟨t270, t273, t276, t277, t278⟩, A280, H⟩ := H
            replace H : (if t258.length + t270.length < 4398046511104 then ((some (t258 ++ t270 : List (S34))).bind fun y279 => (if (y279.length : Int) < (t255.length : Int) then (marlinelaw05_AsyncWraps.j1 kj6 a2 l4 l5 y279 (t255.length : Int) true (Go.bits .and .u32 a0 a1) a2 t273 t276 t277 t278) else (if 0 ≤ (t255.length : Int) then (if (t255.length : Int) ≤ (y279.length : Int) then ((marlinelaw05_Same.f kj6 (y279.take ((t255.length : Int) : Int).toNat) t255).bind fun t287 => (if t287 = true then (marlinelaw05_AsyncWraps.j1 kj6 a2 l4 l5 y279 (t255.length : Int) ((t273.length : Int) != 0) (Go.bits .and .u32 a0 a1) a2 t273 t276 t277 t278) else (marlinelaw05_AsyncWraps.j1 kj6 a2 l4 l5 y279 (t255.length : Int) true (Go.bits .and .u32 a0 a1) a2 t273 t276 t277 t278))) else (none)) else (none)))) else (none)) = some r := H
            have A28 := Aside0.mk A280
            clear A280
            by_cases c29 : t258.length + t270.length < 4398046511104
            · rw [if_pos c29] at H
              have LMc29 := Aside0.mk c29
              clear c29
              obtain ⟨y279, hy279⟩ : ∃ y_ : List (S34), y_ = (t258 ++ t270) := ⟨_, rfl⟩
              replace H : (if (y279.length : Int) < (t255.length : Int) then (marlinelaw05_AsyncWraps.j1 kj6 a2 l4 l5 y279 (t255.length : Int) true (Go.bits .and .u32 a0 a1) a2 t273 t276 t277 t278) else (if 0 ≤ (t255.length : Int) then (if (t255.length : Int) ≤ (y279.length : Int) then ((marlinelaw05_Same.f kj6 (y279.take ((t255.length : Int) : Int).toNat) t255).bind fun t287 => (if t287 = true then (marlinelaw05_AsyncWraps.j1 kj6 a2 l4 l5 y279 (t255.length : Int) ((t273.length : Int) != 0) (Go.bits .and .u32 a0 a1) a2 t273 t276 t277 t278) else (marlinelaw05_AsyncWraps.j1 kj6 a2 l4 l5 y279 (t255.length : Int) true (Go.bits .and .u32 a0 a1) a2 t273 t276 t277 t278))) else (none)) else (none))) = some r := by first | (rw [hy279]; with_reducible exact H) | (have H2_ := (Option.bind_some _ _).symm.trans H; rw [hy279]; with_reducible exact H2_) | (have H2_ := (Option.bind_some _ _).symm.trans H; with_reducible exact H2_) | with_reducible exact H | (rw [hy279]; exact H) | exact H
              have Ny279 := Aside0.mk hy279
              clear hy279
              have HC30 := Aside0.mk H
              clear H
              go_upto_region 11 with (first | (go_at_call 13; refine (async_New.box ((Go.bits .and .u32 a0 a1)) (a2) _).mono ?_; rintro e_ w31 ⟨gb245, rfl, hg, hbox, hb⟩; have n0_ := Aside0.mk (below_step (by repeat (first | (with_reducible first | exact HB.out | apply below_alloc | apply pw_below_drewN | apply below_drew1) | exact HB.out)) hb); have n1_ := Aside0.mk (hbox); have n2_ := Aside0.mk ((by rw [hg]; exact (below_size (by repeat (first | (with_reducible first | exact HB.out | apply below_alloc | apply pw_below_drewN | apply below_drew1) | exact HB.out))) : w.heap.size ≤ gb245)); have n3_ := Aside0.mk ((by rw [hg]; exact (below_size (by repeat (first | (with_reducible first | exact HB.out | apply below_alloc | apply pw_below_drewN | apply below_drew1) | exact HB.out))) : w.heap.size ≤ gb245)); clear HB; have HB := n0_; have BK245 := n1_; have GW245 := n2_; have GE245 := n3_; clear n0_ n1_ n2_ n3_; clear hb hbox hg) | ((with_reducible refine gate_dst (N := 55) rfl ?_); (try (refine gate_guard (by rfl) ?_; dsimp only)); refine Kd.R_lit (Kd.int .u8) _ 5 ?hg (N := 55) ?hd (xs := ([] : List Int)) (inner := []) (ok := fun _ => True) (okp := fun _ => True) ?hr ?hp (fun _ hk => hk) trivial (Below.refl _ _) (Nat.le_refl _) (by simp) ?_; (case hd => rfl); (case hg => rfl); (case hr => first | (go_simp; done) | (go_simp; simp only [IntKind.wrap_u8, IntKind.wrap_u16, IntKind.wrap_u32, IntKind.wrap_u64]; done) | (go_simp; simp only [IntKind.wrap_u8, IntKind.wrap_u16, IntKind.wrap_u32, IntKind.wrap_u64, Int.tmod_eq_emod_of_nonneg (Int.natCast_nonneg _), Int.emod_emod]; done) | (go_simp; rfl)); (case hp => exact (Reps.none _ _)); intro v247 w32 ho33 hb hg_ hnew_; clear hg_ hnew_; (first | rw [← Ny246.out] at ho33 | (simp only [Int.reduceToNat] at ho33; rw [← Ny246.out] at ho33)); have n0_ := Aside0.mk (Kd.R_lower ho33 (below_size (by repeat (first | (with_reducible first | exact HB.out | apply below_alloc | apply pw_below_drewN | apply below_drew1 | refine below_set ?_ GE245.out) | exact HB.out)))); have n1_ := Aside0.mk (blk_below (g := gb245) (o := .cells #[.int .u32 (Go.bits .and .u32 a0 a1), .int .i64 a2, .slice none 0 0, .bool false, .bool false, .bool false] 58 (0, 0)) (by (with_reducible repeat (first | refine blk_drewN ?_ _ | refine blk_drew ?_ | refine blk_alloc ?_ _)); exact BK245.out) hb); have n2_ := Aside0.mk (below_step (by repeat (first | (with_reducible first | exact HB.out | apply below_alloc | apply pw_below_drewN | apply below_drew1 | refine below_set ?_ GE245.out) | exact HB.out)) hb); clear BK245; clear HB; have HO248 := n0_; have BK245 := n1_; have HB := n2_; clear n0_ n1_ n2_; clear hb ho33) | ((with_reducible refine gate_builtin (b := .append) (xs := #[.tmp 55, .tmp 56]) rfl ?_); (try (refine gate_guard (by rfl) ?_; dsimp only)); at_builtin; refine Kd.R_append_rows (Kd.int .u8) (w0 := w) w.heap.size rfl (.tmp 55) (.tmp 56) 28 5 (.int .u8 0) 1 rfl Try.underlying28 info5 rfl (by decide) (by omega) v247 y246 l3 _ _ _ (fun _ => True) (fun _ => False) rfl rfl ?aO ?aR (fun _ _ h => h) (fun _ h => h.elim) ?aF ?aB ?aS ?aL ?_; (case aR => repeat (first | exact (Kd.C_below HR3.out HB.out) | (with_reducible refine Kd.C_alloc ?_ _) | (with_reducible refine Kd.C_drewN ?_ _) | (with_reducible refine Kd.C_drew ?_))); (case aB => exact (by repeat (first | (with_reducible first | exact HB.out | apply below_alloc | apply pw_below_drewN | apply below_drew1 | refine below_set ?_ GE245.out) | exact HB.out))); (case aF => exact (fun _ _ => trivial)); (case aO => exact (by (with_reducible repeat (first | apply Kd.R_alloc | apply Kd.R_drewN | apply Kd.R_drew)); exact HO248.out)); (case aS => exact (below_size (by repeat (first | (with_reducible first | exact HB.out | apply below_alloc | apply pw_below_drewN | apply below_drew1 | refine below_set ?_ GE245.out) | exact HB.out)))); (case aL => have := LMc23.out; omega); intro v250 w34 ho hb hg hat; rw [← Ny249.out] at ho; have n0_ := Aside0.mk (blk_grown (g := gb245) (o := .cells #[.int .u32 (Go.bits .and .u32 a0 a1), .int .i64 a2, .slice none 0 0, .bool false, .bool false, .bool false] 58 (0, 0)) (by (with_reducible repeat (first | refine blk_drewN ?_ _ | refine blk_drew ?_ | refine blk_alloc ?_ _)); exact BK245.out) hg (Kd.R_ne HO248.out BK245.out (by decide))); have n1_ := Aside0.mk (hb); have n2_ := Aside0.mk (ho); clear BK245; clear HB; clear HO248; have BK245 := n0_; have HB := n1_; have HO251 := n2_; clear n0_ n1_ n2_; clear ho hb hg hat) | ((with_reducible refine gate_builtin (b := .append) (xs := #[.tmp 57, .tmp 58]) rfl ?_); (try (refine gate_guard (by rfl) ?_; dsimp only)); at_builtin; refine Kd.R_append (Kd.int .u8) (w0 := w) w.heap.size rfl (.tmp 57) (.tmp 58) 28 5 (.int .u8 0) 1 rfl Try.underlying28 info5 rfl (by decide) (by omega) v250 y249 126 [.int .u8 126] (fun _ => True) (fun _ => False) rfl rfl ?aP (fun _ hk => hk.elim) ?aF ?aO ?aB ?aS ?aL ?_; (case aP => exact rfl); (case aB => exact (by repeat (first | (with_reducible first | exact HB.out | apply below_alloc | apply pw_below_drewN | apply below_drew1 | refine below_set ?_ GE245.out) | exact HB.out))); (case aF => exact (fun _ _ => trivial)); (case aO => exact (by (with_reducible repeat (first | apply Kd.R_alloc | apply Kd.R_drewN | apply Kd.R_drew)); exact HO251.out)); (case aS => exact (below_size (by repeat (first | (with_reducible first | exact HB.out | apply below_alloc | apply pw_below_drewN | apply below_drew1 | refine below_set ?_ GE245.out) | exact HB.out)))); (case aL => have := LMc24.out; omega); intro v253 w35 ho hb hg hat; rw [← Ny252.out] at ho; have n0_ := Aside0.mk (blk_grown (g := gb245) (o := .cells #[.int .u32 (Go.bits .and .u32 a0 a1), .int .i64 a2, .slice none 0 0, .bool false, .bool false, .bool false] 58 (0, 0)) (by (with_reducible repeat (first | refine blk_drewN ?_ _ | refine blk_drew ?_ | refine blk_alloc ?_ _)); exact BK245.out) hg (Kd.R_ne HO251.out BK245.out (by decide))); have n1_ := Aside0.mk (hb); have n2_ := Aside0.mk (ho); clear BK245; clear HB; clear HO251; have BK245 := n0_; have HB := n1_; have HO254 := n2_; clear n0_ n1_ n2_; clear ho hb hg hat; obtain ⟨Ao36, co36, eo36⟩ := Kd.R_slice HO254.out; subst eo36) | ((with_reducible refine gate_callee (f := 18) rfl ?_); refine goesL_ (some 60) rfl rfl Try.func18 (by kernel_rfl) rfl #[.int .u32 (Go.bits .and .u32 a0 a1), .int .i64 a2, .slice Ao36 y252.length co36] rfl (by (try simp only [List.map_toArray, List.map_cons, List.map_nil]); first | done | rfl | (simp only [List.length_drop, List.length_take]; rfl)) ?_; (with_reducible refine (marlineref05_All.calls kj6 (Go.bits .and .u32 a0 a1) a2 (fun k_ => some k_ = (.slice Ao36 y252.length co36 : Value).ownBlock) _ _ y252 t255 _ ?side1 A25.out).mono ?_); (case side1 => exact Kd.R_V (Kd.R_tight rfl (Kd.R_types (HO254.out) BK245.out (by decide)))); rintro e w37 ⟨v256, rfl, ho0, hb⟩; refine ⟨_, rfl, ?_⟩; have n0_ := Aside0.mk (Kd.R_below (by (with_reducible repeat (first | apply Kd.R_alloc | apply Kd.R_drewN | apply Kd.R_drew)); exact HO254.out) hb); have n1_ := Aside0.mk (Kd.N_lower (Kd.N_mono (ok' := fun k_ => k_ ≠ gb245) ho0 (fun k_ hk_ => Or.elim hk_ (fun hs_ => ((Kd.R_types (HO254.out) BK245.out (by decide)).1 k_ hs_.symm).2) (fun hn_ => (Kd.freshB (g := gb245) (o := .cells #[.int .u32 (Go.bits .and .u32 a0 a1), .int .i64 a2, .slice none 0 0, .bool false, .bool false, .bool false] 58 (0, 0)) (by (with_reducible repeat (first | refine blk_drewN ?_ _ | refine blk_drew ?_ | refine blk_alloc ?_ _)); exact BK245.out) k_ hn_)))) (below_size (by repeat (first | (with_reducible first | exact HB.out | apply below_alloc | apply pw_below_drewN | apply below_drew1 | refine below_set ?_ GE245.out) | exact HB.out)))); have n2_ := Aside0.mk (blk_below (g := gb245) (o := .cells #[.int .u32 (Go.bits .and .u32 a0 a1), .int .i64 a2, .slice none 0 0, .bool false, .bool false, .bool false] 58 (0, 0)) (by (with_reducible repeat (first | refine blk_drewN ?_ _ | refine blk_drew ?_ | refine blk_alloc ?_ _)); exact BK245.out) hb); have n3_ := Aside0.mk (below_step (by repeat (first | (with_reducible first | exact HB.out | apply below_alloc | apply pw_below_drewN | apply below_drew1 | refine below_set ?_ GE245.out) | exact HB.out)) hb); clear HO254; clear BK245; clear HB; have HO254 := n0_; have HO257 := n1_; have BK245 := n2_; have HB := n3_; clear n0_ n1_ n2_ n3_; (try clear hb); (try clear hb2); (try clear hk); (try clear hi); (try clear ho0); have hcz38_0 : w37.cell? ⟨gb245, 0, none⟩ = some (.int .u32 (Go.bits .and .u32 a0 a1)) := (blk_cell BK245.out 0).trans rfl; have hcz38_1 : w37.cell? ⟨gb245, 1, none⟩ = some (.int .i64 a2) := (blk_cell BK245.out 1).trans rfl; have hcz38_2 : w37.cell? ⟨gb245, 2, none⟩ = some (.slice none 0 0) := (blk_cell BK245.out 2).trans rfl; have hcz38_3 : w37.cell? ⟨gb245, 3, none⟩ = some (.bool false) := (blk_cell BK245.out 3).trans rfl; have hcz38_4 : w37.cell? ⟨gb245, 4, none⟩ = some (.bool false) := (blk_cell BK245.out 4).trans rfl; have hcz38_5 : w37.cell? ⟨gb245, 5, none⟩ = some (.bool false) := (blk_cell BK245.out 5).trans rfl; have hfz38_0 := blk_frozen BK245.out 0; have hfz38_1 := blk_frozen BK245.out 1; have hfz38_2 := blk_frozen BK245.out 2; have hfz38_3 := blk_frozen BK245.out 3; have hfz38_4 := blk_frozen BK245.out 4; have hfz38_5 := blk_frozen BK245.out 5) | ((with_reducible refine gate_callee (f := 14) rfl ?_); refine goesL_ (some 63) rfl rfl Try.func14 (by kernel_rfl) rfl #[.pointer (some ⟨gb245, 0, none⟩), .slice A3 l3.length c3] rfl (by (try simp only [List.map_toArray, List.map_cons, List.map_nil]); first | done | rfl) ?_; refine (dfx gb245 (Go.bits .and .u32 a0 a1) a2 (fun k_ => some k_ = (.slice none 0 0 : Value).ownBlock) (.slice none 0 0) ([] : List Int) false false false _ _ l3 t258 t261 t264 t265 t266 w _ ?side1 ?side2 ?side3 ?side4 A26.out ?side5 ?side6 ?side7).mono ?_; (case side1 => repeat (first | (with_reducible first | exact HB.out | apply below_alloc | apply pw_below_drewN | apply below_drew1 | refine below_set ?_ GE245.out) | exact HB.out)); (case side2 => exact Kd.R_nil _ _ _ _ _); (case side3 => exact Kd.C_kept_came (Kd.heap_int .u8) HR3.out (by repeat (first | (with_reducible first | exact HB.out | apply below_alloc | apply pw_below_drewN | apply below_drew1 | refine below_set ?_ GE245.out) | exact HB.out)) (fun k_ hs_ => (fun e_ => by simp [Value.ownBlock] at e_) hs_)); (case side4 => exact HC3.out); (case side5 => exact (by (with_reducible repeat (first | refine blk_drewN ?_ _ | refine blk_drew ?_ | refine blk_alloc ?_ _)); exact BK245.out)); (case side6 => exact GE245.out); (case side7 => exact (fun hs_ => (fun e_ => by simp [Value.ownBlock] at e_) hs_)); rintro e wq_ ⟨w39, v259, v262, rfl, rfl, ho0, ho1, hb, hkp⟩; refine ⟨_, rfl, ?_⟩; have n0_ := Aside0.mk (blk_kept (by (with_reducible repeat (first | refine blk_drewN ?_ _ | refine blk_drew ?_ | refine blk_alloc ?_ _)); exact BK245.out) hkp (fun hs_ => (fun e_ => by simp [Value.ownBlock] at e_) hs_)); have n1_ := Aside0.mk (Kd.R_mono (ok' := fun k_ => some k_ ≠ (v262 : Value).ownBlock) (Kd.R_keptB (HO254.out) hkp (fun k_ hk_ hs_ => (fun e_ => by simp [Value.ownBlock] at e_) hs_)) (fun k_ hk_ => fun e_ => Or.elim (ho1.1 k_ e_.symm) (fun hs_ => hk_.2.1 hs_) (fun hn_ => Nat.not_le.2 hk_.2.2 hn_))); have n2_ := Aside0.mk (Kd.N_mono (ok' := fun k_ => k_ ≠ gb245 ∧ some k_ ≠ (v259 : Value).ownBlock ∧ some k_ ≠ (v262 : Value).ownBlock) (Kd.N_keptB (HO257.out) hkp (fun k_ hk_ hs_ => (fun e_ => by simp [Value.ownBlock] at e_) hs_)) (fun k_ hk_ => ⟨hk_.1, fun e_ => Or.elim ((Kd.S_R ho0).1 k_ e_.symm).1 (fun hs_ => hk_.2.1 hs_) (fun hn_ => Nat.not_le.2 hk_.2.2 hn_), fun e_ => Or.elim (ho1.1 k_ e_.symm) (fun hs_ => hk_.2.1 hs_) (fun hn_ => Nat.not_le.2 hk_.2.2 hn_)⟩)); have n3_ := Aside0.mk (Kd.N_lower (Kd.N_mono (ok' := fun k_ => some k_ ≠ (v262 : Value).ownBlock ∧ some k_ ≠ (.slice Ao36 y252.length co36 : Value).ownBlock ∧ some k_ ≠ (v256 : Value).ownBlock ∧ k_ ≠ gb245) (Kd.S_N ho0) (fun k_ hk_ => ⟨hk_.2, Or.elim hk_.1 (fun hs_ => absurd hs_ (by simp [Value.ownBlock])) (fun hn_ => (Kd.fresh' (Kd.R_lt (by (with_reducible repeat (first | apply Kd.R_alloc | apply Kd.R_drewN | apply Kd.R_drew)); exact HO254.out)) k_ hn_)), Or.elim hk_.1 (fun hs_ => absurd hs_ (by simp [Value.ownBlock])) (fun hn_ => (Kd.fresh' (Kd.N_lt (by (with_reducible repeat (first | apply Kd.N_alloc | apply Kd.N_drewN | apply Kd.N_drew)); exact HO257.out)) k_ hn_)), Or.elim hk_.1 (fun hs_ => absurd hs_ (by simp [Value.ownBlock])) (fun hn_ => (Kd.freshB (g := gb245) (o := .cells #[.int .u32 (Go.bits .and .u32 a0 a1), .int .i64 a2, .slice none 0 0, .bool false, .bool false, .bool false] 58 (0, 0)) (by (with_reducible repeat (first | refine blk_drewN ?_ _ | refine blk_drew ?_ | refine blk_alloc ?_ _)); exact BK245.out) k_ hn_))⟩)) (Nat.le_refl _)); have n4_ := Aside0.mk (Kd.R_mono (ok' := fun k_ => some k_ ≠ (.slice Ao36 y252.length co36 : Value).ownBlock) ho1 (fun k_ hk_ => Or.elim hk_ (fun hs_ => absurd hs_ (by simp [Value.ownBlock])) (fun hn_ => (Kd.fresh' (Kd.R_lt (by (with_reducible repeat (first | apply Kd.R_alloc | apply Kd.R_drewN | apply Kd.R_drew)); exact HO254.out)) k_ hn_)))); have n5_ := Aside0.mk (hb); clear BK245; clear HO254; clear HO257; clear HB; have BK245 := n0_; have HO254 := n1_; have HO257 := n2_; have HO260 := n3_; have HO263 := n4_; have HB := n5_; clear n0_ n1_ n2_ n3_ n4_ n5_; (try clear hb); (try clear hkp); (try clear ho0); (try clear ho1); obtain ⟨Ao40, co40, eo40⟩ := Kd.R_slice HO263.out; subst eo40; have hcz41_0 : w39.cell? ⟨gb245, 0, none⟩ = some (.int .u32 (Go.bits .and .u32 a0 a1)) := (blk_cell BK245.out 0).trans rfl; have hcz41_1 : w39.cell? ⟨gb245, 1, none⟩ = some (.int .i64 a2) := (blk_cell BK245.out 1).trans rfl; have hcz41_2 : w39.cell? ⟨gb245, 2, none⟩ = some (.slice none 0 0) := (blk_cell BK245.out 2).trans rfl; have hcz41_3 : w39.cell? ⟨gb245, 3, none⟩ = some (.bool false) := (blk_cell BK245.out 3).trans rfl; have hcz41_4 : w39.cell? ⟨gb245, 4, none⟩ = some (.bool false) := (blk_cell BK245.out 4).trans rfl; have hcz41_5 : w39.cell? ⟨gb245, 5, none⟩ = some (.bool false) := (blk_cell BK245.out 5).trans rfl; have hfz41_0 := blk_frozen BK245.out 0; have hfz41_1 := blk_frozen BK245.out 1; have hfz41_2 := blk_frozen BK245.out 2; have hfz41_3 := blk_frozen BK245.out 3; have hfz41_4 := blk_frozen BK245.out 4; have hfz41_5 := blk_frozen BK245.out 5) | ((with_reducible refine gate_callee (f := 19) rfl ?_); refine goesL_ (some 68) rfl rfl Try.func19 (by kernel_rfl) rfl #[.int .u32 a0, .slice A4 l4.length c4] rfl (by (try simp only [List.map_toArray, List.map_cons, List.map_nil]); first | done | rfl | (simp only [List.length_drop, List.length_take]; rfl)) ?_; (with_reducible refine (async_Wrap.calls kj6 a0 _ _ l4 t267 _ ?side1 ?side2 A27.out).mono ?_); (case side1 => exact Kd.C_below HR4.out (by repeat (first | (with_reducible first | exact HB.out | apply below_alloc | apply pw_below_drewN | apply below_drew1 | refine below_set ?_ GE245.out) | exact HB.out))); (case side2 => exact HC4.out); rintro e w42 ⟨v268, rfl, ho0, hb⟩; refine ⟨_, rfl, ?_⟩; have n0_ := Aside0.mk (Kd.R_elder' (by (with_reducible repeat (first | apply Kd.R_alloc | apply Kd.R_drewN | apply Kd.R_drew)); exact (Kd.R_mono (Kd.R_far (p := ⟨gb245, 5, none⟩) (Kd.R_far (p := ⟨gb245, 4, none⟩) (Kd.R_far (p := ⟨gb245, 3, none⟩) (Kd.R_far (p := ⟨gb245, 2, none⟩) (Kd.R_types HO254.out BK245.out (by decide)) (fun _ hk => hk.2) (.slice Ao40 t261.length co40)) (fun _ hk => hk.2) (.bool t264)) (fun _ hk => hk.2) (.bool t265)) (fun _ hk => hk.2) (.bool t266)) (fun _ h_ => h_.1))) (Kd.R_base ho0) hb); have n1_ := Aside0.mk (Kd.N_elder' (by (with_reducible repeat (first | apply Kd.N_alloc | apply Kd.N_drewN | apply Kd.N_drew)); exact (Kd.N_mono (Kd.N_far (p := ⟨gb245, 5, none⟩) (Kd.N_far (p := ⟨gb245, 4, none⟩) (Kd.N_far (p := ⟨gb245, 3, none⟩) (Kd.N_far (p := ⟨gb245, 2, none⟩) (Kd.N_mono HO257.out (fun k_ hk => (⟨hk, hk.1⟩ : _ ∧ k_ ≠ gb245))) (fun _ hk => hk.2) (.slice Ao40 t261.length co40)) (fun _ hk => hk.2) (.bool t264)) (fun _ hk => hk.2) (.bool t265)) (fun _ hk => hk.2) (.bool t266)) (fun _ h_ => h_.1))) (Kd.R_base ho0) hb); have n2_ := Aside0.mk (Kd.N_elder' (by (with_reducible repeat (first | apply Kd.N_alloc | apply Kd.N_drewN | apply Kd.N_drew)); exact (Kd.N_mono (Kd.N_far (p := ⟨gb245, 5, none⟩) (Kd.N_far (p := ⟨gb245, 4, none⟩) (Kd.N_far (p := ⟨gb245, 3, none⟩) (Kd.N_far (p := ⟨gb245, 2, none⟩) (Kd.N_mono HO260.out (fun k_ hk => (⟨hk, hk.2.2.2⟩ : _ ∧ k_ ≠ gb245))) (fun _ hk => hk.2) (.slice Ao40 t261.length co40)) (fun _ hk => hk.2) (.bool t264)) (fun _ hk => hk.2) (.bool t265)) (fun _ hk => hk.2) (.bool t266)) (fun _ h_ => h_.1))) (Kd.R_base ho0) hb); have n3_ := Aside0.mk (Kd.R_elder' (by (with_reducible repeat (first | apply Kd.R_alloc | apply Kd.R_drewN | apply Kd.R_drew)); exact (Kd.R_mono (Kd.R_far (p := ⟨gb245, 5, none⟩) (Kd.R_far (p := ⟨gb245, 4, none⟩) (Kd.R_far (p := ⟨gb245, 3, none⟩) (Kd.R_far (p := ⟨gb245, 2, none⟩) (Kd.R_types HO263.out BK245.out (by decide)) (fun _ hk => hk.2) (.slice Ao40 t261.length co40)) (fun _ hk => hk.2) (.bool t264)) (fun _ hk => hk.2) (.bool t265)) (fun _ hk => hk.2) (.bool t266)) (fun _ h_ => h_.1))) (Kd.R_base ho0) hb); have n4_ := Aside0.mk (Kd.R_lower (Kd.R_new' (Kd.R_new' ho0 (Kd.R_lt (by (with_reducible repeat (first | apply Kd.R_alloc | apply Kd.R_drewN | apply Kd.R_drew)); exact (Kd.R_mono (Kd.R_far (p := ⟨gb245, 5, none⟩) (Kd.R_far (p := ⟨gb245, 4, none⟩) (Kd.R_far (p := ⟨gb245, 3, none⟩) (Kd.R_far (p := ⟨gb245, 2, none⟩) (Kd.R_types HO254.out BK245.out (by decide)) (fun _ hk => hk.2) (.slice Ao40 t261.length co40)) (fun _ hk => hk.2) (.bool t264)) (fun _ hk => hk.2) (.bool t265)) (fun _ hk => hk.2) (.bool t266)) (fun _ h_ => h_.1))))) (Kd.R_lt (by (with_reducible repeat (first | apply Kd.R_alloc | apply Kd.R_drewN | apply Kd.R_drew)); exact (Kd.R_mono (Kd.R_far (p := ⟨gb245, 5, none⟩) (Kd.R_far (p := ⟨gb245, 4, none⟩) (Kd.R_far (p := ⟨gb245, 3, none⟩) (Kd.R_far (p := ⟨gb245, 2, none⟩) (Kd.R_types HO263.out BK245.out (by decide)) (fun _ hk => hk.2) (.slice Ao40 t261.length co40)) (fun _ hk => hk.2) (.bool t264)) (fun _ hk => hk.2) (.bool t265)) (fun _ hk => hk.2) (.bool t266)) (fun _ h_ => h_.1))))) (below_size (by repeat (first | (with_reducible first | exact HB.out | apply below_alloc | apply pw_below_drewN | apply below_drew1 | refine below_set ?_ GE245.out) | exact HB.out)))); have n5_ := Aside0.mk (blk_below (g := gb245) (o := .cells #[.int .u32 (Go.bits .and .u32 a0 a1), .int .i64 a2, .slice Ao40 t261.length co40, .bool t264, .bool t265, .bool t266] 58 (0, 0)) (by (with_reducible repeat (first | refine blk_drewN ?_ _ | refine blk_drew ?_ | refine blk_alloc ?_ _)); refine blk_put (cs := #[.int .u32 (Go.bits .and .u32 a0 a1), .int .i64 a2, .slice Ao40 t261.length co40, .bool t264, .bool t265, .bool false]) ?_ 5 _ rfl; (with_reducible repeat (first | refine blk_drewN ?_ _ | refine blk_drew ?_ | refine blk_alloc ?_ _)); refine blk_put (cs := #[.int .u32 (Go.bits .and .u32 a0 a1), .int .i64 a2, .slice Ao40 t261.length co40, .bool t264, .bool false, .bool false]) ?_ 4 _ rfl; (with_reducible repeat (first | refine blk_drewN ?_ _ | refine blk_drew ?_ | refine blk_alloc ?_ _)); refine blk_put (cs := #[.int .u32 (Go.bits .and .u32 a0 a1), .int .i64 a2, .slice Ao40 t261.length co40, .bool false, .bool false, .bool false]) ?_ 3 _ rfl; (with_reducible repeat (first | refine blk_drewN ?_ _ | refine blk_drew ?_ | refine blk_alloc ?_ _)); refine blk_put (cs := #[.int .u32 (Go.bits .and .u32 a0 a1), .int .i64 a2, .slice none 0 0, .bool false, .bool false, .bool false]) ?_ 2 _ rfl; (with_reducible repeat (first | refine blk_drewN ?_ _ | refine blk_drew ?_ | refine blk_alloc ?_ _)); exact BK245.out) hb); have n6_ := Aside0.mk (below_step (by repeat (first | (with_reducible first | exact HB.out | apply below_alloc | apply pw_below_drewN | apply below_drew1 | refine below_set ?_ GE245.out) | exact HB.out)) hb); clear HO254; clear HO257; clear HO260; clear HO263; clear BK245; clear HB; have HO254 := n0_; have HO257 := n1_; have HO260 := n2_; have HO263 := n3_; have HO269 := n4_; have BK245 := n5_; have HB := n6_; clear n0_ n1_ n2_ n3_ n4_ n5_ n6_; (try clear hb); (try clear hb2); (try clear hk); (try clear hi); (try clear ho0); have hcz43_0 : w42.cell? ⟨gb245, 0, none⟩ = some (.int .u32 (Go.bits .and .u32 a0 a1)) := (blk_cell BK245.out 0).trans rfl; have hcz43_1 : w42.cell? ⟨gb245, 1, none⟩ = some (.int .i64 a2) := (blk_cell BK245.out 1).trans rfl; have hcz43_2 : w42.cell? ⟨gb245, 2, none⟩ = some (.slice Ao40 t261.length co40) := (blk_cell BK245.out 2).trans rfl; have hcz43_3 : w42.cell? ⟨gb245, 3, none⟩ = some (.bool t264) := (blk_cell BK245.out 3).trans rfl; have hcz43_4 : w42.cell? ⟨gb245, 4, none⟩ = some (.bool t265) := (blk_cell BK245.out 4).trans rfl; have hcz43_5 : w42.cell? ⟨gb245, 5, none⟩ = some (.bool t266) := (blk_cell BK245.out 5).trans rfl; have hfz43_0 := blk_frozen BK245.out 0; have hfz43_1 := blk_frozen BK245.out 1; have hfz43_2 := blk_frozen BK245.out 2; have hfz43_3 := blk_frozen BK245.out 3; have hfz43_4 := blk_frozen BK245.out 4; have hfz43_5 := blk_frozen BK245.out 5; obtain ⟨Ao44, co44, eo44⟩ := Kd.R_slice HO269.out; subst eo44) | ((with_reducible refine gate_callee (f := 14) rfl ?_); refine goesL_ (some 69) rfl rfl Try.func14 (by kernel_rfl) rfl #[.pointer (some ⟨gb245, 0, none⟩), .slice Ao44 t267.length co44] rfl (by (try simp only [List.map_toArray, List.map_cons, List.map_nil]); first | done | rfl) ?_; refine (dfx gb245 (Go.bits .and .u32 a0 a1) a2 (fun k_ => some k_ = (.slice Ao40 t261.length co40 : Value).ownBlock) (.slice Ao40 t261.length co40) t261 t264 t265 t266 _ _ t267 t270 t273 t276 t277 t278 w _ ?side1 ?side2 ?side3 ?side4 A28.out ?side5 ?side6 ?side7).mono ?_; (case side1 => repeat (first | (with_reducible first | exact HB.out | apply below_alloc | apply pw_below_drewN | apply below_drew1 | refine below_set ?_ GE245.out) | exact HB.out)); (case side2 => exact Kd.R_tight rfl HO263.out); (case side3 => exact Kd.C_kept_own (HO269.out) (fun k_ hk_ hs_ => (hk_.2) hs_)); (case side4 => exact (Kd.R_reads' HO269.out).2.1); (case side5 => exact (by (with_reducible repeat (first | refine blk_drewN ?_ _ | refine blk_drew ?_ | refine blk_alloc ?_ _)); exact BK245.out)); (case side6 => exact GE245.out); (case side7 => exact (fun hs_ => (fun e_ => (Kd.R_ne HO263.out BK245.out (by decide)) e_) hs_)); rintro e wq_ ⟨w45, v271, v274, rfl, rfl, ho0, ho1, hb, hkp⟩; refine ⟨_, rfl, ?_⟩; have n0_ := Aside0.mk (blk_kept (by (with_reducible repeat (first | refine blk_drewN ?_ _ | refine blk_drew ?_ | refine blk_alloc ?_ _)); exact BK245.out) hkp (fun hs_ => (fun e_ => (Kd.R_ne HO263.out BK245.out (by decide)) e_) hs_)); have n1_ := Aside0.mk (Kd.R_mono (ok' := fun k_ => some k_ ≠ (.slice Ao44 t267.length co44 : Value).ownBlock ∧ some k_ ≠ (v274 : Value).ownBlock) (Kd.R_keptB (HO254.out) hkp (fun k_ hk_ hs_ => (hk_.1) hs_)) (fun k_ hk_ => ⟨hk_.1.2, fun e_ => Or.elim (ho1.1 k_ e_.symm) (fun hs_ => hk_.2.1 hs_) (fun hn_ => Nat.not_le.2 hk_.2.2 hn_)⟩)); have n2_ := Aside0.mk (Kd.N_mono (ok' := fun k_ => some k_ ≠ (v259 : Value).ownBlock ∧ some k_ ≠ (.slice Ao44 t267.length co44 : Value).ownBlock ∧ k_ ≠ gb245 ∧ some k_ ≠ (v271 : Value).ownBlock ∧ some k_ ≠ (v274 : Value).ownBlock) (Kd.N_keptB (HO257.out) hkp (fun k_ hk_ hs_ => (hk_.1.2.2) hs_)) (fun k_ hk_ => ⟨hk_.1.1.2.1, hk_.1.2, hk_.1.1.1, fun e_ => Or.elim ((Kd.S_R ho0).1 k_ e_.symm).1 (fun hs_ => hk_.2.1 hs_) (fun hn_ => Nat.not_le.2 hk_.2.2 hn_), fun e_ => Or.elim (ho1.1 k_ e_.symm) (fun hs_ => hk_.2.1 hs_) (fun hn_ => Nat.not_le.2 hk_.2.2 hn_)⟩)); have n3_ := Aside0.mk (Kd.N_mono (ok' := fun k_ => some k_ ≠ (.slice Ao36 y252.length co36 : Value).ownBlock ∧ some k_ ≠ (v256 : Value).ownBlock ∧ some k_ ≠ (.slice Ao44 t267.length co44 : Value).ownBlock ∧ k_ ≠ gb245 ∧ some k_ ≠ (v271 : Value).ownBlock ∧ some k_ ≠ (v274 : Value).ownBlock) (Kd.N_keptB (HO260.out) hkp (fun k_ hk_ hs_ => (hk_.1.1) hs_)) (fun k_ hk_ => ⟨hk_.1.1.2.1, hk_.1.1.2.2.1, hk_.1.2, hk_.1.1.2.2.2, fun e_ => Or.elim ((Kd.S_R ho0).1 k_ e_.symm).1 (fun hs_ => hk_.2.1 hs_) (fun hn_ => Nat.not_le.2 hk_.2.2 hn_), fun e_ => Or.elim (ho1.1 k_ e_.symm) (fun hs_ => hk_.2.1 hs_) (fun hn_ => Nat.not_le.2 hk_.2.2 hn_)⟩)); have n4_ := Aside0.mk (Kd.R_mono (ok' := fun k_ => some k_ ≠ (.slice Ao36 y252.length co36 : Value).ownBlock ∧ some k_ ≠ (v274 : Value).ownBlock) (Kd.R_keptB (HO269.out) hkp (fun k_ hk_ hs_ => (hk_.2) hs_)) (fun k_ hk_ => ⟨hk_.1.1.2, fun e_ => Or.elim (ho1.1 k_ e_.symm) (fun hs_ => hk_.2.1 hs_) (fun hn_ => Nat.not_le.2 hk_.2.2 hn_)⟩)); have n5_ := Aside0.mk (Kd.N_lower (Kd.N_mono (ok' := fun k_ => some k_ ≠ (v274 : Value).ownBlock ∧ some k_ ≠ (.slice Ao36 y252.length co36 : Value).ownBlock ∧ some k_ ≠ (v256 : Value).ownBlock ∧ some k_ ≠ (v259 : Value).ownBlock ∧ some k_ ≠ (.slice Ao44 t267.length co44 : Value).ownBlock ∧ k_ ≠ gb245) (Kd.S_N ho0) (fun k_ hk_ => ⟨hk_.2, Or.elim hk_.1 (fun hs_ => fun e_ => (((HO254.out).1 k_ e_.symm).1) hs_) (fun hn_ => (Kd.fresh' (Kd.R_lt (by (with_reducible repeat (first | apply Kd.R_alloc | apply Kd.R_drewN | apply Kd.R_drew)); exact HO254.out)) k_ hn_)), Or.elim hk_.1 (fun hs_ => fun e_ => (((HO257.out).1 k_ e_.symm).1.2.2) hs_) (fun hn_ => (Kd.fresh' (Kd.N_lt (by (with_reducible repeat (first | apply Kd.N_alloc | apply Kd.N_drewN | apply Kd.N_drew)); exact HO257.out)) k_ hn_)), Or.elim hk_.1 (fun hs_ => fun e_ => (((HO260.out).1 k_ e_.symm).1.1) hs_) (fun hn_ => (Kd.fresh' (Kd.N_lt (by (with_reducible repeat (first | apply Kd.N_alloc | apply Kd.N_drewN | apply Kd.N_drew)); exact HO260.out)) k_ hn_)), Or.elim hk_.1 (fun hs_ => fun e_ => (((HO269.out).1 k_ e_.symm).2) hs_) (fun hn_ => (Kd.fresh' (Kd.R_lt (by (with_reducible repeat (first | apply Kd.R_alloc | apply Kd.R_drewN | apply Kd.R_drew)); exact HO269.out)) k_ hn_)), Or.elim hk_.1 (fun hs_ => fun e_ => (Kd.R_ne HO263.out BK245.out (by decide)) (by rw [← e_]; exact hs_)) (fun hn_ => (Kd.freshB (g := gb245) (o := .cells #[.int .u32 (Go.bits .and .u32 a0 a1), .int .i64 a2, .slice Ao40 t261.length co40, .bool t264, .bool t265, .bool t266] 58 (0, 0)) (by (with_reducible repeat (first | refine blk_drewN ?_ _ | refine blk_drew ?_ | refine blk_alloc ?_ _)); exact BK245.out) k_ hn_))⟩)) (Nat.le_refl _)); have n6_ := Aside0.mk (Kd.R_mono (ok' := fun k_ => some k_ ≠ (.slice Ao36 y252.length co36 : Value).ownBlock ∧ some k_ ≠ (.slice Ao44 t267.length co44 : Value).ownBlock) ho1 (fun k_ hk_ => ⟨Or.elim hk_ (fun hs_ => fun e_ => (((HO254.out).1 k_ e_.symm).1) hs_) (fun hn_ => (Kd.fresh' (Kd.R_lt (by (with_reducible repeat (first | apply Kd.R_alloc | apply Kd.R_drewN | apply Kd.R_drew)); exact HO254.out)) k_ hn_)), Or.elim hk_ (fun hs_ => fun e_ => (((HO269.out).1 k_ e_.symm).2) hs_) (fun hn_ => (Kd.fresh' (Kd.R_lt (by (with_reducible repeat (first | apply Kd.R_alloc | apply Kd.R_drewN | apply Kd.R_drew)); exact HO269.out)) k_ hn_))⟩)); have n7_ := Aside0.mk (hb); clear BK245; clear HO254; clear HO257; clear HO260; clear HO269; clear HB; clear HO263; have BK245 := n0_; have HO254 := n1_; have HO257 := n2_; have HO260 := n3_; have HO269 := n4_; have HO272 := n5_; have HO275 := n6_; have HB := n7_; clear n0_ n1_ n2_ n3_ n4_ n5_ n6_ n7_; (try clear hb); (try clear hkp); (try clear ho0); (try clear ho1); obtain ⟨Ao46, co46, eo46⟩ := Kd.R_slice HO275.out; subst eo46; have hcz47_0 : w45.cell? ⟨gb245, 0, none⟩ = some (.int .u32 (Go.bits .and .u32 a0 a1)) := (blk_cell BK245.out 0).trans rfl; have hcz47_1 : w45.cell? ⟨gb245, 1, none⟩ = some (.int .i64 a2) := (blk_cell BK245.out 1).trans rfl; have hcz47_2 : w45.cell? ⟨gb245, 2, none⟩ = some (.slice Ao40 t261.length co40) := (blk_cell BK245.out 2).trans rfl; have hcz47_3 : w45.cell? ⟨gb245, 3, none⟩ = some (.bool t264) := (blk_cell BK245.out 3).trans rfl; have hcz47_4 : w45.cell? ⟨gb245, 4, none⟩ = some (.bool t265) := (blk_cell BK245.out 4).trans rfl; have hcz47_5 : w45.cell? ⟨gb245, 5, none⟩ = some (.bool t266) := (blk_cell BK245.out 5).trans rfl; have hfz47_0 := blk_frozen BK245.out 0; have hfz47_1 := blk_frozen BK245.out 1; have hfz47_2 := blk_frozen BK245.out 2; have hfz47_3 := blk_frozen BK245.out 3; have hfz47_4 := blk_frozen BK245.out 4; have hfz47_5 := blk_frozen BK245.out 5; obtain ⟨Ao49, co49, eo49⟩ := Kd.N_slice HO272.out; subst eo49) | ((with_reducible refine gate_builtin (b := .append) (xs := #[.tmp 64, .tmp 69]) rfl ?_); (try (refine gate_guard (by rfl) ?_; dsimp only)); at_builtin; refine Kd.N_append_rows k34 (w0 := w) w.heap.size rfl (.tmp 64) (.tmp 69) 29 34 (.agg #[(.int .i64 0), (.slice none 0 0)]) 32 rfl Try.underlying29 info34 rfl (by decide) (by omega) v259 t258 t270 _ _ _ (fun k_ => some k_ ≠ (.slice Ao36 y252.length co36 : Value).ownBlock ∧ some k_ ≠ (v256 : Value).ownBlock ∧ some k_ ≠ (.slice Ao44 t267.length co44 : Value).ownBlock ∧ some k_ ≠ (.slice Ao46 t273.length co46 : Value).ownBlock ∧ k_ ≠ gb245) (fun k_ => ((fun k_ => some k_ ≠ (.slice Ao36 y252.length co36 : Value).ownBlock ∧ some k_ ≠ (v256 : Value).ownBlock ∧ some k_ ≠ (.slice Ao44 t267.length co44 : Value).ownBlock ∧ some k_ ≠ (.slice Ao46 t273.length co46 : Value).ownBlock ∧ k_ ≠ gb245)) k_ ∧ some k_ ≠ (v259 : Value).ownBlock) rfl rfl ?aO ?aR (fun _ hk => hk) ?aF ?aB ?aS ?aL ?_; (case aR => exact (by skip; exact Kd.N_F (Kd.N_mono (ok' := (fun k_ => ((fun k_ => some k_ ≠ (.slice Ao36 y252.length co36 : Value).ownBlock ∧ some k_ ≠ (v256 : Value).ownBlock ∧ some k_ ≠ (.slice Ao44 t267.length co44 : Value).ownBlock ∧ some k_ ≠ (.slice Ao46 t273.length co46 : Value).ownBlock ∧ k_ ≠ gb245)) k_ ∧ some k_ ≠ (v259 : Value).ownBlock)) ((Kd.N_far (p := ⟨gb245, 5, none⟩) (Kd.N_far (p := ⟨gb245, 4, none⟩) (Kd.N_far (p := ⟨gb245, 3, none⟩) (Kd.N_far (p := ⟨gb245, 2, none⟩) (Kd.N_mono HO272.out (fun k_ hk => (⟨hk, hk.2.2.2.2.2⟩ : _ ∧ k_ ≠ gb245))) (fun _ hk => hk.2) (.slice Ao46 t273.length co46)) (fun _ hk => hk.2) (.bool t276)) (fun _ hk => hk.2) (.bool t277)) (fun _ hk => hk.2) (.bool t278))) (fun k_ hk => ⟨⟨hk.1.2.1, ⟨hk.1.2.2.1, ⟨hk.1.2.2.2.2.1, ⟨hk.1.1, hk.1.2.2.2.2.2⟩⟩⟩⟩, hk.1.2.2.2.1⟩)))); (case aB => exact (by repeat (first | (with_reducible first | exact HB.out | apply below_alloc | apply pw_below_drewN | apply below_drew1 | refine below_set ?_ GE245.out) | exact HB.out))); (case aF => exact (fun k_ hk => ⟨Kd.fresh' (Kd.R_lt (by (with_reducible repeat (first | apply Kd.R_alloc | apply Kd.R_drewN | apply Kd.R_drew)); exact (Kd.R_mono (Kd.R_far (p := ⟨gb245, 5, none⟩) (Kd.R_far (p := ⟨gb245, 4, none⟩) (Kd.R_far (p := ⟨gb245, 3, none⟩) (Kd.R_far (p := ⟨gb245, 2, none⟩) (Kd.R_types HO254.out BK245.out (by decide)) (fun _ hk => hk.2) (.slice Ao46 t273.length co46)) (fun _ hk => hk.2) (.bool t276)) (fun _ hk => hk.2) (.bool t277)) (fun _ hk => hk.2) (.bool t278)) (fun _ h_ => h_.1)))) k_ hk, Kd.fresh' (Kd.N_lt (by (with_reducible repeat (first | apply Kd.N_alloc | apply Kd.N_drewN | apply Kd.N_drew)); exact (Kd.N_mono (Kd.N_far (p := ⟨gb245, 5, none⟩) (Kd.N_far (p := ⟨gb245, 4, none⟩) (Kd.N_far (p := ⟨gb245, 3, none⟩) (Kd.N_far (p := ⟨gb245, 2, none⟩) (Kd.N_mono HO257.out (fun k_ hk => (⟨hk, hk.2.2.1⟩ : _ ∧ k_ ≠ gb245))) (fun _ hk => hk.2) (.slice Ao46 t273.length co46)) (fun _ hk => hk.2) (.bool t276)) (fun _ hk => hk.2) (.bool t277)) (fun _ hk => hk.2) (.bool t278)) (fun _ h_ => h_.1)))) k_ hk, Kd.fresh' (Kd.R_lt (by (with_reducible repeat (first | apply Kd.R_alloc | apply Kd.R_drewN | apply Kd.R_drew)); exact (Kd.R_mono (Kd.R_far (p := ⟨gb245, 5, none⟩) (Kd.R_far (p := ⟨gb245, 4, none⟩) (Kd.R_far (p := ⟨gb245, 3, none⟩) (Kd.R_far (p := ⟨gb245, 2, none⟩) (Kd.R_types HO269.out BK245.out (by decide)) (fun _ hk => hk.2) (.slice Ao46 t273.length co46)) (fun _ hk => hk.2) (.bool t276)) (fun _ hk => hk.2) (.bool t277)) (fun _ hk => hk.2) (.bool t278)) (fun _ h_ => h_.1)))) k_ hk, Kd.fresh' (Kd.R_lt (by (with_reducible repeat (first | apply Kd.R_alloc | apply Kd.R_drewN | apply Kd.R_drew)); exact (Kd.R_mono (Kd.R_far (p := ⟨gb245, 5, none⟩) (Kd.R_far (p := ⟨gb245, 4, none⟩) (Kd.R_far (p := ⟨gb245, 3, none⟩) (Kd.R_far (p := ⟨gb245, 2, none⟩) (Kd.R_types HO275.out BK245.out (by decide)) (fun _ hk => hk.2) (.slice Ao46 t273.length co46)) (fun _ hk => hk.2) (.bool t276)) (fun _ hk => hk.2) (.bool t277)) (fun _ hk => hk.2) (.bool t278)) (fun _ h_ => h_.1)))) k_ hk, Kd.freshB (g := gb245) (o := .cells #[.int .u32 (Go.bits .and .u32 a0 a1), .int .i64 a2, .slice Ao46 t273.length co46, .bool t276, .bool t277, .bool t278] 58 (0, 0)) (by (with_reducible repeat (first | refine blk_drewN ?_ _ | refine blk_drew ?_ | refine blk_alloc ?_ _)); refine blk_put (cs := #[.int .u32 (Go.bits .and .u32 a0 a1), .int .i64 a2, .slice Ao46 t273.length co46, .bool t276, .bool t277, .bool t266]) ?_ 5 _ rfl; (with_reducible repeat (first | refine blk_drewN ?_ _ | refine blk_drew ?_ | refine blk_alloc ?_ _)); refine blk_put (cs := #[.int .u32 (Go.bits .and .u32 a0 a1), .int .i64 a2, .slice Ao46 t273.length co46, .bool t276, .bool t265, .bool t266]) ?_ 4 _ rfl; (with_reducible repeat (first | refine blk_drewN ?_ _ | refine blk_drew ?_ | refine blk_alloc ?_ _)); refine blk_put (cs := #[.int .u32 (Go.bits .and .u32 a0 a1), .int .i64 a2, .slice Ao46 t273.length co46, .bool t264, .bool t265, .bool t266]) ?_ 3 _ rfl; (with_reducible repeat (first | refine blk_drewN ?_ _ | refine blk_drew ?_ | refine blk_alloc ?_ _)); refine blk_put (cs := #[.int .u32 (Go.bits .and .u32 a0 a1), .int .i64 a2, .slice Ao40 t261.length co40, .bool t264, .bool t265, .bool t266]) ?_ 2 _ rfl; (with_reducible repeat (first | refine blk_drewN ?_ _ | refine blk_drew ?_ | refine blk_alloc ?_ _)); exact BK245.out) k_ hk⟩)); (case aO => exact (by (with_reducible repeat (first | apply Kd.N_alloc | apply Kd.N_drewN | apply Kd.N_drew)); exact Kd.N_mono (Kd.N_far (p := ⟨gb245, 5, none⟩) (Kd.N_far (p := ⟨gb245, 4, none⟩) (Kd.N_far (p := ⟨gb245, 3, none⟩) (Kd.N_far (p := ⟨gb245, 2, none⟩) (Kd.N_mono HO260.out (fun k_ hk => (⟨hk, hk.2.2.2.1⟩ : _ ∧ k_ ≠ gb245))) (fun _ hk => hk.2) (.slice Ao46 t273.length co46)) (fun _ hk => hk.2) (.bool t276)) (fun _ hk => hk.2) (.bool t277)) (fun _ hk => hk.2) (.bool t278)) (fun _ hk => ⟨hk.1.1, ⟨hk.1.2.1, ⟨hk.1.2.2.1, ⟨hk.1.2.2.2.2.2, hk.1.2.2.2.1⟩⟩⟩⟩))); (case aS => exact (below_size (by repeat (first | (with_reducible first | exact HB.out | apply below_alloc | apply pw_below_drewN | apply below_drew1 | refine below_set ?_ GE245.out) | exact HB.out)))); (case aL => have := LMc29.out; omega); intro v280 w48 ho hb hg hat; rw [← Ny279.out] at ho; have n0_ := Aside0.mk (blk_grown (g := gb245) (o := .cells #[.int .u32 (Go.bits .and .u32 a0 a1), .int .i64 a2, .slice Ao46 t273.length co46, .bool t276, .bool t277, .bool t278] 58 (0, 0)) (by (with_reducible repeat (first | refine blk_drewN ?_ _ | refine blk_drew ?_ | refine blk_alloc ?_ _)); refine blk_put (cs := #[.int .u32 (Go.bits .and .u32 a0 a1), .int .i64 a2, .slice Ao46 t273.length co46, .bool t276, .bool t277, .bool t266]) ?_ 5 _ rfl; (with_reducible repeat (first | refine blk_drewN ?_ _ | refine blk_drew ?_ | refine blk_alloc ?_ _)); refine blk_put (cs := #[.int .u32 (Go.bits .and .u32 a0 a1), .int .i64 a2, .slice Ao46 t273.length co46, .bool t276, .bool t265, .bool t266]) ?_ 4 _ rfl; (with_reducible repeat (first | refine blk_drewN ?_ _ | refine blk_drew ?_ | refine blk_alloc ?_ _)); refine blk_put (cs := #[.int .u32 (Go.bits .and .u32 a0 a1), .int .i64 a2, .slice Ao46 t273.length co46, .bool t264, .bool t265, .bool t266]) ?_ 3 _ rfl; (with_reducible repeat (first | refine blk_drewN ?_ _ | refine blk_drew ?_ | refine blk_alloc ?_ _)); refine blk_put (cs := #[.int .u32 (Go.bits .and .u32 a0 a1), .int .i64 a2, .slice Ao40 t261.length co40, .bool t264, .bool t265, .bool t266]) ?_ 2 _ rfl; (with_reducible repeat (first | refine blk_drewN ?_ _ | refine blk_drew ?_ | refine blk_alloc ?_ _)); exact BK245.out) hg (Kd.N_ne HO260.out BK245.out (by decide))); have n1_ := Aside0.mk (Kd.R_over' (by (with_reducible repeat (first | apply Kd.R_alloc | apply Kd.R_drewN | apply Kd.R_drew)); exact (Kd.R_mono (Kd.R_far (p := ⟨gb245, 5, none⟩) (Kd.R_far (p := ⟨gb245, 4, none⟩) (Kd.R_far (p := ⟨gb245, 3, none⟩) (Kd.R_far (p := ⟨gb245, 2, none⟩) (Kd.R_types HO254.out BK245.out (by decide)) (fun _ hk => hk.2) (.slice Ao46 t273.length co46)) (fun _ hk => hk.2) (.bool t276)) (fun _ hk => hk.2) (.bool t277)) (fun _ hk => hk.2) (.bool t278)) (fun _ h_ => h_.1))) (Kd.N_typed (by (with_reducible repeat (first | apply Kd.N_alloc | apply Kd.N_drewN | apply Kd.N_drew)); exact (Kd.N_mono (Kd.N_far (p := ⟨gb245, 5, none⟩) (Kd.N_far (p := ⟨gb245, 4, none⟩) (Kd.N_far (p := ⟨gb245, 3, none⟩) (Kd.N_far (p := ⟨gb245, 2, none⟩) (Kd.N_mono HO260.out (fun k_ hk => (⟨hk, hk.2.2.2.1⟩ : _ ∧ k_ ≠ gb245))) (fun _ hk => hk.2) (.slice Ao46 t273.length co46)) (fun _ hk => hk.2) (.bool t276)) (fun _ hk => hk.2) (.bool t277)) (fun _ hk => hk.2) (.bool t278)) (fun _ h_ => h_.1)))) (by decide) hg); have n2_ := Aside0.mk (Kd.N_afterv (ok := (fun k_ => some k_ ≠ (.slice Ao44 t267.length co44 : Value).ownBlock ∧ some k_ ≠ (.slice Ao49 t270.length co49 : Value).ownBlock ∧ some k_ ≠ (.slice Ao46 t273.length co46 : Value).ownBlock ∧ k_ ≠ gb245)) (by (with_reducible repeat (first | apply Kd.N_alloc | apply Kd.N_drewN | apply Kd.N_drew)); exact Kd.N_mono (Kd.N_far (p := ⟨gb245, 5, none⟩) (Kd.N_far (p := ⟨gb245, 4, none⟩) (Kd.N_far (p := ⟨gb245, 3, none⟩) (Kd.N_far (p := ⟨gb245, 2, none⟩) (Kd.N_mono HO257.out (fun k_ hk => (⟨hk, hk.2.2.1⟩ : _ ∧ k_ ≠ gb245))) (fun _ hk => hk.2) (.slice Ao46 t273.length co46)) (fun _ hk => hk.2) (.bool t276)) (fun _ hk => hk.2) (.bool t277)) (fun _ hk => hk.2) (.bool t278)) (fun _ hk => ⟨⟨hk.1.2.1, ⟨hk.1.2.2.2.1, ⟨hk.1.2.2.2.2, hk.1.2.2.1⟩⟩⟩, hk.1.1⟩)) hg hat); have n3_ := Aside0.mk (Kd.R_over' (by (with_reducible repeat (first | apply Kd.R_alloc | apply Kd.R_drewN | apply Kd.R_drew)); exact (Kd.R_mono (Kd.R_far (p := ⟨gb245, 5, none⟩) (Kd.R_far (p := ⟨gb245, 4, none⟩) (Kd.R_far (p := ⟨gb245, 3, none⟩) (Kd.R_far (p := ⟨gb245, 2, none⟩) (Kd.R_types HO269.out BK245.out (by decide)) (fun _ hk => hk.2) (.slice Ao46 t273.length co46)) (fun _ hk => hk.2) (.bool t276)) (fun _ hk => hk.2) (.bool t277)) (fun _ hk => hk.2) (.bool t278)) (fun _ h_ => h_.1))) (Kd.N_typed (by (with_reducible repeat (first | apply Kd.N_alloc | apply Kd.N_drewN | apply Kd.N_drew)); exact (Kd.N_mono (Kd.N_far (p := ⟨gb245, 5, none⟩) (Kd.N_far (p := ⟨gb245, 4, none⟩) (Kd.N_far (p := ⟨gb245, 3, none⟩) (Kd.N_far (p := ⟨gb245, 2, none⟩) (Kd.N_mono HO260.out (fun k_ hk => (⟨hk, hk.2.2.2.1⟩ : _ ∧ k_ ≠ gb245))) (fun _ hk => hk.2) (.slice Ao46 t273.length co46)) (fun _ hk => hk.2) (.bool t276)) (fun _ hk => hk.2) (.bool t277)) (fun _ hk => hk.2) (.bool t278)) (fun _ h_ => h_.1)))) (by decide) hg); have n4_ := Aside0.mk (Kd.N_afterv (ok := (fun k_ => some k_ ≠ (.slice Ao36 y252.length co36 : Value).ownBlock ∧ some k_ ≠ (v256 : Value).ownBlock ∧ some k_ ≠ (.slice Ao44 t267.length co44 : Value).ownBlock ∧ some k_ ≠ (.slice Ao46 t273.length co46 : Value).ownBlock ∧ k_ ≠ gb245)) (by (with_reducible repeat (first | apply Kd.N_alloc | apply Kd.N_drewN | apply Kd.N_drew)); exact Kd.N_mono (Kd.N_far (p := ⟨gb245, 5, none⟩) (Kd.N_far (p := ⟨gb245, 4, none⟩) (Kd.N_far (p := ⟨gb245, 3, none⟩) (Kd.N_far (p := ⟨gb245, 2, none⟩) (Kd.N_mono HO272.out (fun k_ hk => (⟨hk, hk.2.2.2.2.2⟩ : _ ∧ k_ ≠ gb245))) (fun _ hk => hk.2) (.slice Ao46 t273.length co46)) (fun _ hk => hk.2) (.bool t276)) (fun _ hk => hk.2) (.bool t277)) (fun _ hk => hk.2) (.bool t278)) (fun _ hk => ⟨⟨hk.1.2.1, ⟨hk.1.2.2.1, ⟨hk.1.2.2.2.2.1, ⟨hk.1.1, hk.1.2.2.2.2.2⟩⟩⟩⟩, hk.1.2.2.2.1⟩)) hg hat); have n5_ := Aside0.mk (Kd.R_over' (by (with_reducible repeat (first | apply Kd.R_alloc | apply Kd.R_drewN | apply Kd.R_drew)); exact (Kd.R_mono (Kd.R_far (p := ⟨gb245, 5, none⟩) (Kd.R_far (p := ⟨gb245, 4, none⟩) (Kd.R_far (p := ⟨gb245, 3, none⟩) (Kd.R_far (p := ⟨gb245, 2, none⟩) (Kd.R_types HO275.out BK245.out (by decide)) (fun _ hk => hk.2) (.slice Ao46 t273.length co46)) (fun _ hk => hk.2) (.bool t276)) (fun _ hk => hk.2) (.bool t277)) (fun _ hk => hk.2) (.bool t278)) (fun _ h_ => h_.1))) (Kd.N_typed (by (with_reducible repeat (first | apply Kd.N_alloc | apply Kd.N_drewN | apply Kd.N_drew)); exact (Kd.N_mono (Kd.N_far (p := ⟨gb245, 5, none⟩) (Kd.N_far (p := ⟨gb245, 4, none⟩) (Kd.N_far (p := ⟨gb245, 3, none⟩) (Kd.N_far (p := ⟨gb245, 2, none⟩) (Kd.N_mono HO260.out (fun k_ hk => (⟨hk, hk.2.2.2.1⟩ : _ ∧ k_ ≠ gb245))) (fun _ hk => hk.2) (.slice Ao46 t273.length co46)) (fun _ hk => hk.2) (.bool t276)) (fun _ hk => hk.2) (.bool t277)) (fun _ hk => hk.2) (.bool t278)) (fun _ h_ => h_.1)))) (by decide) hg); have n6_ := Aside0.mk (hb); have n7_ := Aside0.mk (ho); clear BK245; clear HO254; clear HO257; clear HO269; clear HO272; clear HO275; clear HB; clear HO260; have BK245 := n0_; have HO254 := n1_; have HO257 := n2_; have HO269 := n3_; have HO272 := n4_; have HO275 := n5_; have HB := n6_; have HO281 := n7_; clear n0_ n1_ n2_ n3_ n4_ n5_ n6_ n7_; clear ho hb hg hat; obtain ⟨Ao50, co50, eo50⟩ := Kd.N_slice HO257.out; subst eo50))
              (try simp only [Act.put, List.setIfInBounds_toArray, List.set_cons_zero, List.set_cons_succ])
              go_cut [89] (fun v89 wc => ∃ (kq : Nat) (x89_29 : Bool), v89 = .bool x89_29 ∧ Aside0 (marlinelaw05_AsyncWraps.j1 kq a2 l4 l5 y279 (t255.length : Int) x89_29 (Go.bits .and .u32 a0 a1) a2 t273 t276 t277 t278 = some r) ∧ Aside0 (kq ≤ kj6) ∧ Aside0 (Kd.N k34 34 wc w.heap.size (fun k_ => some k_ ≠ ((.slice Ao46 t273.length co46) : Value).ownBlock ∧ k_ ≠ gb245) v280 y279) ∧ Aside0 (Kd.R (Kd.int .u8) 5 wc w.heap.size (fun _ => True) (.slice Ao46 t273.length co46) t273) ∧ Aside0 (wc.heap[gb245]? = some (.cells #[.int .u32 (Go.bits .and .u32 a0 a1), .int .i64 a2, (.slice Ao46 t273.length co46), .bool t276, .bool t277, .bool t278] 58 (0, 0))) ∧ Aside0 (Below w.heap.size w wc))
              case first =>
                have H := HC30.out
                clear HC30
                by_cases c51 : (y279.length : Int) < (t255.length : Int)
                · rw [if_pos c51] at H
                  have c51b0 : decide ((y279.length : Int) < (t255.length : Int)) = true := decide_eq_true c51
                  have c51b1 : decide (y279.length < t255.length) = true := decide_eq_true (Int.ofNat_lt.mp c51)
                  clear c51
                  (first | rw [c51b0] | (simp only [i64_w, i32_w]; rw [c51b0]) | skip)
                  have H' := Aside0.mk H
                  clear H
                  obtain ⟨Ao52, co52, eo52⟩ := Kd.N_slice HO281.out
                  subst eo52
                  go_wp2
                  go_meet
                  case rel => exact ⟨_, (true), (by first | rfl | (simp; done) | (simp [*]; done)), H', ⟨by have := HJ6.out; first | omega | exact Nat.le_refl _⟩, ⟨by (with_reducible repeat (first | apply Kd.N_alloc | apply Kd.N_drewN | apply Kd.N_drew)); exact Kd.N_mono HO281.out (fun _ hk => ⟨hk.2.2.2.1, hk.2.2.2.2⟩)⟩, ⟨by (with_reducible repeat (first | apply Kd.R_alloc | apply Kd.R_drewN | apply Kd.R_drew)); exact Kd.R_mono HO275.out (fun _ hk => trivial)⟩, ⟨by (with_reducible repeat (first | refine blk_drewN ?_ _ | refine blk_drew ?_ | refine blk_alloc ?_ _)); exact BK245.out⟩, ⟨by repeat (first | (with_reducible first | exact HB.out | apply below_alloc | apply pw_below_drewN | apply below_drew1 | refine below_set ?_ GE245.out) | exact HB.out)⟩⟩
                · rw [if_neg c51] at H
                  have c51b0 : decide ((y279.length : Int) < (t255.length : Int)) = false := decide_eq_false c51
                  have c51b1 : decide (y279.length < t255.length) = false := decide_eq_false (fun h => c51 (Int.ofNat_lt.mpr h))
                  clear c51
                  (first | rw [c51b0] | (simp only [i64_w, i32_w]; rw [c51b0]) | skip)
                  by_cases c53 : 0 ≤ (t255.length : Int)
                  · rw [if_pos c53] at H
                    have c53b0 := eq_true c53
                    have c53b1 : decide (0 ≤ (t255.length : Int)) = true := decide_eq_true c53
                    clear c53
                    by_cases c54 : (t255.length : Int) ≤ (y279.length : Int)
                    · rw [if_pos c54] at H
                      have c54b0 := eq_true c54
                      have c54b1 : decide ((t255.length : Int) ≤ (y279.length : Int)) = true := decide_eq_true c54
                      clear c54
                      obtain ⟨y282, hy282⟩ : ∃ y_ : List (S34), y_ = (y279.take ((t255.length : Int) : Int).toNat) := ⟨_, rfl⟩
                      replace H : ((marlinelaw05_Same.f kj6 y282 t255).bind fun t287 => (if t287 = true then (marlinelaw05_AsyncWraps.j1 kj6 a2 l4 l5 y279 (t255.length : Int) ((t273.length : Int) != 0) (Go.bits .and .u32 a0 a1) a2 t273 t276 t277 t278) else (marlinelaw05_AsyncWraps.j1 kj6 a2 l4 l5 y279 (t255.length : Int) true (Go.bits .and .u32 a0 a1) a2 t273 t276 t277 t278))) = some r := by first | (rw [hy282]; with_reducible exact H) | (have H2_ := (Option.bind_some _ _).symm.trans H; rw [hy282]; with_reducible exact H2_) | (have H2_ := (Option.bind_some _ _).symm.trans H; with_reducible exact H2_) | with_reducible exact H | (rw [hy282]; exact H) | exact H
                      have Ny282 := Aside0.mk hy282
                      clear hy282
                      replace H := Option.bind_eq_some_iff.mp H
                      obtain ⟨t287, A550, H⟩ := H
                      replace H : (if t287 = true then (marlinelaw05_AsyncWraps.j1 kj6 a2 l4 l5 y279 (t255.length : Int) ((t273.length : Int) != 0) (Go.bits .and .u32 a0 a1) a2 t273 t276 t277 t278) else (marlinelaw05_AsyncWraps.j1 kj6 a2 l4 l5 y279 (t255.length : Int) true (Go.bits .and .u32 a0 a1) a2 t273 t276 t277 t278)) = some r := H
                      have A55 := Aside0.mk A550
                      clear A550
                      by_cases c56 : t287 = true
                      · subst c56
                        have H1 : (marlinelaw05_AsyncWraps.j1 kj6 a2 l4 l5 y279 (t255.length : Int) ((t273.length : Int) != 0) (Go.bits .and .u32 a0 a1) a2 t273 t276 t277 t278) = some r := by rw [if_pos rfl] at H; exact H
                        clear H
                        have H := H1
                        clear H1
                        have H' := Aside0.mk H
                        clear H
                        obtain ⟨Ao57, co57, eo57⟩ := Kd.N_slice HO281.out
                        subst eo57
                        have q58 : ((t255.length : Int) : Int) ≤ ((y279.length : Int) : Int) := of_decide_eq_true (by first | (with_reducible assumption) | assumption)
                        obtain ⟨i058, hi058, _, hsz58, _⟩ := info_parts info34
                        have hroom58 : y279.length ≤ co57 := (Kd.N_reads' HO281.out).2.1
                        have hC58 : Kd.F k34 _ _ Ao57 y279.length y279 := (Kd.V_at (base := w.heap.size) (Kd.N_V HO281.out)).2.2
                        have hcut58 := cut_to (P := Try.prog) 29 34 .i64 Try.underlying29 hi058 Ao57 y279.length co57 (t255.length : Int) (of_decide_eq_true (by first | (with_reducible assumption) | assumption)) q58 hroom58
                        have hr58 := Kd.F_take (m := ((t255.length : Int) : Int).toNat) hC58 (by omega)
                        have hy58 : y282.length = ((t255.length : Int) : Int).toNat := (by rw [Ny282.out, List.length_take]; omega)
                        rw [← Ny282.out] at hr58
                        rw [← hy58] at hcut58
                        have HO286 := Aside0.mk (show Kd.V k34 34 _ w.heap.size _ (.slice Ao57 y282.length co57) y282 from Kd.V_mk (by omega) hr58)
                        have HC286 := Aside0.mk (show y282.length ≤ co57 from by omega)
                        clear hr58 hC58 hroom58 hi058 hsz58
                        have KY58 := Aside0.mk hy58
                        clear hy58
                        replace q58 := eq_true q58
                        go_wp2_with (first | (go_at_call 20; (with_reducible refine (marlinelaw05_Same.calls kj6 _ _ y282 _ _ t255 true _ ?side1 ?side2 ?side3 ?side4 A55.out).mono ?_); (case side1 => repeat (first | exact (Kd.V_reads' HO286.out).2.2 | (with_reducible refine Kd.C_alloc ?_ _) | (with_reducible refine Kd.C_drewN ?_ _) | (with_reducible refine Kd.C_drew ?_))); (case side2 => exact (Kd.V_reads' HO286.out).2.1); (case side3 => repeat (first | exact (Kd.N_reads' HO257.out).2.2 | (with_reducible refine Kd.C_alloc ?_ _) | (with_reducible refine Kd.C_drewN ?_ _) | (with_reducible refine Kd.C_drew ?_))); (case side4 => exact (Kd.N_reads' HO257.out).2.1); rintro e w' ⟨rfl, ⟨nd, rfl⟩⟩; have hcz59_0 : w48.cell? ⟨gb245, 0, none⟩ = some (.int .u32 (Go.bits .and .u32 a0 a1)) := (blk_cell BK245.out 0).trans rfl; have hcz59_1 : w48.cell? ⟨gb245, 1, none⟩ = some (.int .i64 a2) := (blk_cell BK245.out 1).trans rfl; have hcz59_2 : w48.cell? ⟨gb245, 2, none⟩ = some (.slice Ao46 t273.length co46) := (blk_cell BK245.out 2).trans rfl; have hcz59_3 : w48.cell? ⟨gb245, 3, none⟩ = some (.bool t276) := (blk_cell BK245.out 3).trans rfl; have hcz59_4 : w48.cell? ⟨gb245, 4, none⟩ = some (.bool t277) := (blk_cell BK245.out 4).trans rfl; have hcz59_5 : w48.cell? ⟨gb245, 5, none⟩ = some (.bool t278) := (blk_cell BK245.out 5).trans rfl; have hfz59_0 := blk_frozen BK245.out 0; have hfz59_1 := blk_frozen BK245.out 1; have hfz59_2 := blk_frozen BK245.out 2; have hfz59_3 := blk_frozen BK245.out 3; have hfz59_4 := blk_frozen BK245.out 4; have hfz59_5 := blk_frozen BK245.out 5) | (go_at_call 21; refine (df_held gb245 _ _ _ _ _ _ _ _ _ (by (with_reducible repeat (first | refine blk_drewN ?_ _ | refine blk_drew ?_ | refine blk_alloc ?_ _)); exact BK245.out)).mono ?_; rintro e_ w_ ⟨rfl, rfl⟩))
                        go_meet
                        case rel => exact ⟨_, (((t273.length : Int) != 0)), (by first | rfl | (simp; done) | (simp [*]; done)), H', ⟨by have := HJ6.out; first | omega | exact Nat.le_refl _⟩, ⟨by (with_reducible repeat (first | apply Kd.N_alloc | apply Kd.N_drewN | apply Kd.N_drew)); exact Kd.N_mono HO281.out (fun _ hk => ⟨hk.2.2.2.1, hk.2.2.2.2⟩)⟩, ⟨by (with_reducible repeat (first | apply Kd.R_alloc | apply Kd.R_drewN | apply Kd.R_drew)); exact Kd.R_mono HO275.out (fun _ hk => trivial)⟩, ⟨by (with_reducible repeat (first | refine blk_drewN ?_ _ | refine blk_drew ?_ | refine blk_alloc ?_ _)); exact BK245.out⟩, ⟨by repeat (first | (with_reducible first | exact HB.out | apply below_alloc | apply pw_below_drewN | apply below_drew1 | refine below_set ?_ GE245.out) | exact HB.out)⟩⟩
                      · replace c56 := Bool.eq_false_iff.mpr c56
                        subst c56
                        have H1 : (marlinelaw05_AsyncWraps.j1 kj6 a2 l4 l5 y279 (t255.length : Int) true (Go.bits .and .u32 a0 a1) a2 t273 t276 t277 t278) = some r := by rw [if_neg (show ¬ (false = true) by decide)] at H; exact H
                        clear H
                        have H := H1
                        clear H1
                        have H' := Aside0.mk H
                        clear H
                        obtain ⟨Ao60, co60, eo60⟩ := Kd.N_slice HO281.out
                        subst eo60
                        have q61 : ((t255.length : Int) : Int) ≤ ((y279.length : Int) : Int) := of_decide_eq_true (by first | (with_reducible assumption) | assumption)
                        obtain ⟨i061, hi061, _, hsz61, _⟩ := info_parts info34
                        have hroom61 : y279.length ≤ co60 := (Kd.N_reads' HO281.out).2.1
                        have hC61 : Kd.F k34 _ _ Ao60 y279.length y279 := (Kd.V_at (base := w.heap.size) (Kd.N_V HO281.out)).2.2
                        have hcut61 := cut_to (P := Try.prog) 29 34 .i64 Try.underlying29 hi061 Ao60 y279.length co60 (t255.length : Int) (of_decide_eq_true (by first | (with_reducible assumption) | assumption)) q61 hroom61
                        have hr61 := Kd.F_take (m := ((t255.length : Int) : Int).toNat) hC61 (by omega)
                        have hy61 : y282.length = ((t255.length : Int) : Int).toNat := (by rw [Ny282.out, List.length_take]; omega)
                        rw [← Ny282.out] at hr61
                        rw [← hy61] at hcut61
                        have HO286 := Aside0.mk (show Kd.V k34 34 _ w.heap.size _ (.slice Ao60 y282.length co60) y282 from Kd.V_mk (by omega) hr61)
                        have HC286 := Aside0.mk (show y282.length ≤ co60 from by omega)
                        clear hr61 hC61 hroom61 hi061 hsz61
                        have KY61 := Aside0.mk hy61
                        clear hy61
                        replace q61 := eq_true q61
                        go_wp2_with (first | (go_at_call 20; (with_reducible refine (marlinelaw05_Same.calls kj6 _ _ y282 _ _ t255 false _ ?side1 ?side2 ?side3 ?side4 A55.out).mono ?_); (case side1 => repeat (first | exact (Kd.V_reads' HO286.out).2.2 | (with_reducible refine Kd.C_alloc ?_ _) | (with_reducible refine Kd.C_drewN ?_ _) | (with_reducible refine Kd.C_drew ?_))); (case side2 => exact (Kd.V_reads' HO286.out).2.1); (case side3 => repeat (first | exact (Kd.N_reads' HO257.out).2.2 | (with_reducible refine Kd.C_alloc ?_ _) | (with_reducible refine Kd.C_drewN ?_ _) | (with_reducible refine Kd.C_drew ?_))); (case side4 => exact (Kd.N_reads' HO257.out).2.1); rintro e w' ⟨rfl, ⟨nd, rfl⟩⟩))
                        go_meet
                        case rel => exact ⟨_, (true), (by first | rfl | (simp; done) | (simp [*]; done)), H', ⟨by have := HJ6.out; first | omega | exact Nat.le_refl _⟩, ⟨by (with_reducible repeat (first | apply Kd.N_alloc | apply Kd.N_drewN | apply Kd.N_drew)); exact Kd.N_mono HO281.out (fun _ hk => ⟨hk.2.2.2.1, hk.2.2.2.2⟩)⟩, ⟨by (with_reducible repeat (first | apply Kd.R_alloc | apply Kd.R_drewN | apply Kd.R_drew)); exact Kd.R_mono HO275.out (fun _ hk => trivial)⟩, ⟨by (with_reducible repeat (first | refine blk_drewN ?_ _ | refine blk_drew ?_ | refine blk_alloc ?_ _)); exact BK245.out⟩, ⟨by repeat (first | (with_reducible first | exact HB.out | apply below_alloc | apply pw_below_drewN | apply below_drew1 | refine below_set ?_ GE245.out) | exact HB.out)⟩⟩
                    · rw [if_neg c54] at H
                      exact absurd H (by simp)
                  · rw [if_neg c53] at H
                    exact absurd H (by simp)
              case rest =>
                clear HC30
                try clear c1
                try clear c2
                try clear p2
                try clear c3
                try clear c4
                try clear c5
                try clear q5
                try clear c6
                try clear q6
                try clear c9
                try clear c10
                try clear c10b0
                try clear c11
                try clear c12
                try clear c12b0
                try clear c14
                try clear c14b0
                try clear c14b1
                try clear c16
                try clear c16b0
                try clear c16b1
                try clear c18
                try clear c19
                try clear c20
                try clear c23
                try clear c24
                try clear c29
                try clear c51
                try clear c51b0
                try clear c51b1
                try clear c53
                try clear c53b0
                try clear c53b1
                try clear c54
                try clear c54b0
                try clear c54b1
                try clear c56
                try clear q58
                try clear q61
                try clear hcz38_0
                try clear hcz38_1
                try clear hcz38_2
                try clear hcz38_3
                try clear hcz38_4
                try clear hcz38_5
                try clear hcz41_0
                try clear hcz41_1
                try clear hcz41_2
                try clear hcz41_3
                try clear hcz41_4
                try clear hcz41_5
                try clear hcz43_0
                try clear hcz43_1
                try clear hcz43_2
                try clear hcz43_3
                try clear hcz43_4
                try clear hcz43_5
                try clear hcz47_0
                try clear hcz47_1
                try clear hcz47_2
                try clear hcz47_3
                try clear hcz47_4
                try clear hcz47_5
                try clear hcz59_0
                try clear hcz59_1
                try clear hcz59_2
                try clear hcz59_3
                try clear hcz59_4
                try clear hcz59_5
                try clear hfz38_0
                try clear hfz38_1
                try clear hfz38_2
                try clear hfz38_3
                try clear hfz38_4
                try clear hfz38_5
                try clear hfz41_0
                try clear hfz41_1
                try clear hfz41_2
                try clear hfz41_3
                try clear hfz41_4
                try clear hfz41_5
                try clear hfz43_0
                try clear hfz43_1
                try clear hfz43_2
                try clear hfz43_3
                try clear hfz43_4
                try clear hfz43_5
                try clear hfz47_0
                try clear hfz47_1
                try clear hfz47_2
                try clear hfz47_3
                try clear hfz47_4
                try clear hfz47_5
                try clear hfz59_0
                try clear hfz59_1
                try clear hfz59_2
                try clear hfz59_3
                try clear hfz59_4
                try clear hfz59_5
                try clear p2
                try clear q58
                try clear q61
                obtain ⟨kq, x89_29, rfl, HA, HJ29, HO_16, HO_246002, BK245, HB⟩ := hcut
                cases kq with
                | zero => exact absurd HA.out (by simp [marlinelaw05_AsyncWraps.j1])
                | succ kj29 =>
                  have H := HA.out
                  clear HA
                  simp only [marlinelaw05_AsyncWraps.j1] at H
                  by_cases c62 : x89_29 = true
                  · subst c62
                    have H1 : (none) = some r := by rw [if_pos rfl] at H; exact H
                    clear H
                    have H := H1
                    clear H1
                    exact absurd H (by simp)
                  · replace c62 := Bool.eq_false_iff.mpr c62
                    subst c62
                    have H1 : (if (l4.length : Int) = 0 then (some ((y279.length : Int) == (t255.length : Int))) else (if (y279.length : Int) = (wrap64 ((t255.length : Int) + 1)) then (if 0 ≤ (t255.length : Int) then (if (t255.length : Int) < (y279.length : Int) then (if (l4.length : Int) > a2 then (if ((rd_T34 y279 (t255.length : Int)).f0) = 4 then (some ((((rd_T34 y279 (t255.length : Int)).f1).length : Int) == 0)) else (none)) else ((async_Deframer_Feed.f (Go.bits .and .u32 a0 a1) a2 t273 t276 t277 t278 l5).bind fun bt290 => (if ((rd_T34 y279 (t255.length : Int)).f0) = 0 then ((marlineref01_Equal.f kj29 ((rd_T34 y279 (t255.length : Int)).f1) l4).bind fun t299 => (some t299)) else (none)))) else (none)) else (none)) else (none))) = some r := by rw [if_neg (show ¬ (false = true) by decide)] at H; exact H
                    clear H
                    have H := H1
                    clear H1
                    by_cases c63 : (l4.length : Int) = 0
                    · rw [if_pos c63] at H
                      have c63b0 : ((l4.length : Int) == 0) = true := beq_iff_eq.mpr c63
                      have c63b1 : ((l4.length : Int) != 0) = false := bne_eq_false_iff_eq.mpr c63
                      clear c63
                      obtain rfl := Option.some.inj H
                      obtain ⟨Ao64, co64, eo64⟩ := Kd.N_slice HO_16.out
                      subst eo64
                      go_wp2
                      go_ret
                      exact ⟨by first | rfl | (simp [errW_none, errW_some] <;> rfl) | (simp [*, errW_none, errW_some] <;> rfl), by repeat (first | (with_reducible first | exact HB.out | apply below_alloc | apply pw_below_drewN | apply below_drew1 | refine below_set ?_ GE245.out) | exact HB.out)⟩
                    · rw [if_neg c63] at H
                      have c63b0 : ((l4.length : Int) == 0) = false := beq_eq_false_iff_ne.mpr c63
                      have c63b1 : ((l4.length : Int) != 0) = true := bne_iff_ne.mpr c63
                      have c63b2 : ¬ (l4 = []) := fun h_ => c63 (by rw [h_]; rfl)
                      by_cases c65 : (y279.length : Int) = (wrap64 ((t255.length : Int) + 1))
                      · rw [if_pos c65] at H
                        have c65b0 : ((y279.length : Int) == (wrap64 ((t255.length : Int) + 1))) = true := beq_iff_eq.mpr c65
                        have c65b1 : ((y279.length : Int) != (wrap64 ((t255.length : Int) + 1))) = false := bne_eq_false_iff_eq.mpr c65
                        clear c65
                        by_cases c66 : 0 ≤ (t255.length : Int)
                        · rw [if_pos c66] at H
                          have c66b0 : decide (0 ≤ (t255.length : Int)) = true := decide_eq_true c66
                          have c66b1 : decide (0 ≤ t255.length) = true := decide_eq_true (by omega)
                          clear c66
                          by_cases c67 : (t255.length : Int) < (y279.length : Int)
                          · rw [if_pos c67] at H
                            have c67b0 : decide ((t255.length : Int) < (y279.length : Int)) = true := decide_eq_true c67
                            have c67b1 : decide (t255.length < y279.length) = true := decide_eq_true (Int.ofNat_lt.mp c67)
                            clear c67
                            by_cases c68 : (l4.length : Int) > a2
                            · rw [if_pos c68] at H
                              have c68b0 : decide (a2 < (l4.length : Int)) = true := decide_eq_true c68
                              clear c68
                              by_cases c69 : ((rd_T34 y279 (t255.length : Int)).f0) = 4
                              · rw [if_pos c69] at H
                                have c69b0 : (((rd_T34 y279 (t255.length : Int)).f0) == 4) = true := beq_iff_eq.mpr c69
                                have c69b1 : (((rd_T34 y279 (t255.length : Int)).f0) != 4) = false := bne_eq_false_iff_eq.mpr c69
                                clear c69
                                obtain rfl := Option.some.inj H
                                obtain ⟨Ao70, co70, eo70⟩ := Kd.N_slice HO_16.out
                                subst eo70
                                have p288 : 0 ≤ ((t255.length : Int) : Int) := of_decide_eq_true (by first | (with_reducible assumption) | assumption)
                                have q288 : (t255.length : Int) < (y279.length : Int) := of_decide_eq_true (by first | (with_reducible assumption) | assumption)
                                (try clear hHeld)
                                obtain ⟨ad288, A288_1, c288_1, e288, hx288_0, hx288_1, hl288_1, hi288_1⟩ := at_T34 (Kd.N_reads' HO_16.out).2.2 (t255.length : Int) p288 q288
                                cases e288
                                obtain ⟨ce288, hce288, hMe288, hcc288⟩ := Kd.N_get HO_16.out z34 (t255.length : Int) p288 (by first | exact q288 | exact of_decide_eq_true (by first | (with_reducible assumption) | assumption) | (have e_ := (Kd.N_reads' HO_16.out).1; omega))
                                obtain ⟨ua288_1, uc288_1, rfl, ul288_1, ge288_1⟩ := k34_openF hMe288
                                have hv288_1 := hcc288 1 _ rfl
                                rw [add_field _ _ 1 (by omega)] at hv288_1
                                replace hv288_1 := Option.some.inj (hv288_1.symm.trans hx288_1)
                                injection hv288_1 with hva_ hvn_ hvc_
                                rw [hva_] at ge288_1
                                rw [hvc_] at ul288_1
                                have HL288_1 := Aside0.mk (show Kd.V (Kd.int .u8) 5 _ w.heap.size _ _ ((rd_T34 y279 (t255.length : Int)).f1) from Kd.V_mk ul288_1 ge288_1)
                                clear hva_ hvn_ hvc_ ge288_1 ul288_1
                                clear hcc288 hce288
                                have HR288_1 := Aside0.mk hi288_1
                                have HC288_1 := Aside0.mk hl288_1
                                clear hi288_1 hl288_1
                                (try simp only [Go.IntWalk.toNatUp] at hx288_0)
                                (try simp only [Go.IntWalk.toNatUp] at hx288_1)
                                replace p288 := eq_true p288
                                replace q288 := eq_true q288
                                go_wp2_with (first | ((with_reducible refine gate_dst (N := 18) rfl ?_); (try (refine gate_guard (by rfl) ?_; dsimp only)); refine box_event ?hg (N := 18) ?hd (cs := #[.int .i64 0, .slice none 0 0]) (t := 34) ?hr ?_; (case hd => rfl); (case hg => rfl); (case hr => first | (go_simp; done) | (go_simp; simp only [IntKind.wrap_u8, IntKind.wrap_u16, IntKind.wrap_u32, IntKind.wrap_u64]; done) | (go_simp; simp only [IntKind.wrap_u8, IntKind.wrap_u16, IntKind.wrap_u32, IntKind.wrap_u64, Int.tmod_eq_emod_of_nonneg (Int.natCast_nonneg _), Int.emod_emod]; done) | (go_simp; rfl)); intro gb289 hg w71 hbox hb; have n0_ := Aside0.mk (Kd.N_below (Kd.N_elderB (by (with_reducible repeat (first | apply Kd.N_alloc | apply Kd.N_drewN | apply Kd.N_drew)); exact HO_16.out) gb289 (Nat.le_of_eq hg.symm)) hb); have n1_ := Aside0.mk (Kd.R_below (by (with_reducible repeat (first | apply Kd.R_alloc | apply Kd.R_drewN | apply Kd.R_drew)); exact HO_246002.out) hb); have n2_ := Aside0.mk (Kd.V_below (Kd.V_elderB (by (with_reducible repeat (first | apply Kd.V_alloc | apply Kd.V_drewN | apply Kd.V_drew)); exact HL288_1.out) gb289 (Nat.le_of_eq hg.symm)) hb); have n3_ := Aside0.mk (blk_below (g := gb245) (o := .cells #[.int .u32 (Go.bits .and .u32 a0 a1), .int .i64 a2, .slice Ao46 t273.length co46, .bool t276, .bool t277, .bool t278] 58 (0, 0)) (by (with_reducible repeat (first | refine blk_drewN ?_ _ | refine blk_drew ?_ | refine blk_alloc ?_ _)); exact BK245.out) hb); have n4_ := Aside0.mk (Kd.C_below (by repeat (first | (with_reducible exact HR288_1.out) | (with_reducible refine Kd.C_alloc ?_ _) | (with_reducible refine Kd.C_drewN ?_ _) | (with_reducible refine Kd.C_drew ?_) | exact HR288_1.out)) hb); have n5_ := Aside0.mk (below_step (by repeat (first | (with_reducible first | exact HB.out | apply below_alloc | apply pw_below_drewN | apply below_drew1 | refine below_set ?_ GE245.out) | exact HB.out)) hb); have n6_ := Aside0.mk (hbox); have n7_ := Aside0.mk ((by rw [hg]; exact (below_size (by repeat (first | (with_reducible first | exact HB.out | apply below_alloc | apply pw_below_drewN | apply below_drew1 | refine below_set ?_ GE245.out) | exact HB.out))) : w.heap.size ≤ gb289)); have n8_ := Aside0.mk ((by rw [hg]; exact (below_size (by repeat (first | (with_reducible first | exact HB.out | apply below_alloc | apply pw_below_drewN | apply below_drew1 | refine below_set ?_ GE245.out) | exact HB.out))) : w.heap.size ≤ gb289)); have n9_ := Aside0.mk ((by rw [hg]; exact Nat.ne_of_lt (blk_lt (g := gb245) (o := .cells #[.int .u32 (Go.bits .and .u32 a0 a1), .int .i64 a2, .slice Ao46 t273.length co46, .bool t276, .bool t277, .bool t278] 58 (0, 0)) (by (with_reducible repeat (first | refine blk_drewN ?_ _ | refine blk_drew ?_ | refine blk_alloc ?_ _)); exact BK245.out)) : gb245 ≠ gb289)); have n10_ := Aside0.mk ((by rw [hg]; exact Nat.ne_of_gt (blk_lt (g := gb245) (o := .cells #[.int .u32 (Go.bits .and .u32 a0 a1), .int .i64 a2, .slice Ao46 t273.length co46, .bool t276, .bool t277, .bool t278] 58 (0, 0)) (by (with_reducible repeat (first | refine blk_drewN ?_ _ | refine blk_drew ?_ | refine blk_alloc ?_ _)); exact BK245.out)) : gb289 ≠ gb245)); clear HO_16; clear HO_246002; clear HL288_1; clear BK245; clear HR288_1; clear HB; have HO_16 := n0_; have HO_246002 := n1_; have HL288_1 := n2_; have BK245 := n3_; have HR288_1 := n4_; have HB := n5_; have BK289 := n6_; have GW289 := n7_; have GE289 := n8_; have NB245_289 := n9_; have NB289_245 := n10_; clear n0_ n1_ n2_ n3_ n4_ n5_ n6_ n7_ n8_ n9_ n10_; clear hb hbox hg; have hnb72 := NB289_245.out; have hnc72 := NB245_289.out; have hcz73_0 : w71.cell? ⟨gb289, 0, none⟩ = some (.int .i64 0) := (blk_cell BK289.out 0).trans rfl; have hcz73_1 : w71.cell? ⟨gb289, 1, none⟩ = some (.slice none 0 0) := (blk_cell BK289.out 1).trans rfl; have hfz73_0 := blk_frozen BK289.out 0; have hfz73_1 := blk_frozen BK289.out 1))
                                go_ret
                                exact ⟨by first | rfl | (simp [errW_none, errW_some] <;> rfl) | (simp [*, errW_none, errW_some] <;> rfl), by repeat (first | (with_reducible first | exact HB.out | apply below_alloc | apply pw_below_drewN | apply below_drew1 | refine below_set ?_ GE245.out | refine below_set ?_ GE289.out) | exact HB.out)⟩
                              · rw [if_neg c69] at H
                                exact absurd H (by simp)
                            · rw [if_neg c68] at H
                              have c68b0 : decide (a2 < (l4.length : Int)) = false := decide_eq_false c68
                              clear c68
                              replace H := Option.bind_eq_some_iff.mp H
                              obtain ⟨⟨t290, t293, t296, t297, t298⟩, A740, H⟩ := H
                              replace H : (if ((rd_T34 y279 (t255.length : Int)).f0) = 0 then ((marlineref01_Equal.f kj29 ((rd_T34 y279 (t255.length : Int)).f1) l4).bind fun t299 => (some t299)) else (none)) = some r := H
                              have A74 := Aside0.mk A740
                              clear A740
                              by_cases c75 : ((rd_T34 y279 (t255.length : Int)).f0) = 0
                              · rw [if_pos c75] at H
                                have c75b0 : (((rd_T34 y279 (t255.length : Int)).f0) == 0) = true := beq_iff_eq.mpr c75
                                have c75b1 : (((rd_T34 y279 (t255.length : Int)).f0) != 0) = false := bne_eq_false_iff_eq.mpr c75
                                clear c75
                                replace H := Option.bind_eq_some_iff.mp H
                                obtain ⟨t299, A760, H⟩ := H
                                replace H : (some t299) = some r := H
                                have A76 := Aside0.mk A760
                                clear A760
                                obtain rfl := Option.some.inj H
                                obtain ⟨Ao77, co77, eo77⟩ := Kd.N_slice HO_16.out
                                subst eo77
                                have p288 : 0 ≤ ((t255.length : Int) : Int) := of_decide_eq_true (by first | (with_reducible assumption) | assumption)
                                have q288 : (t255.length : Int) < (y279.length : Int) := of_decide_eq_true (by first | (with_reducible assumption) | assumption)
                                (try clear hHeld)
                                obtain ⟨ad288, A288_1, c288_1, e288, hx288_0, hx288_1, hl288_1, hi288_1⟩ := at_T34 (Kd.N_reads' HO_16.out).2.2 (t255.length : Int) p288 q288
                                cases e288
                                obtain ⟨ce288, hce288, hMe288, hcc288⟩ := Kd.N_get HO_16.out z34 (t255.length : Int) p288 (by first | exact q288 | exact of_decide_eq_true (by first | (with_reducible assumption) | assumption) | (have e_ := (Kd.N_reads' HO_16.out).1; omega))
                                obtain ⟨ua288_1, uc288_1, rfl, ul288_1, ge288_1⟩ := k34_openF hMe288
                                have hv288_1 := hcc288 1 _ rfl
                                rw [add_field _ _ 1 (by omega)] at hv288_1
                                replace hv288_1 := Option.some.inj (hv288_1.symm.trans hx288_1)
                                injection hv288_1 with hva_ hvn_ hvc_
                                rw [hva_] at ge288_1
                                rw [hvc_] at ul288_1
                                have HL288_1 := Aside0.mk (show Kd.V (Kd.int .u8) 5 _ w.heap.size _ _ ((rd_T34 y279 (t255.length : Int)).f1) from Kd.V_mk ul288_1 ge288_1)
                                clear hva_ hvn_ hvc_ ge288_1 ul288_1
                                clear hcc288 hce288
                                have HR288_1 := Aside0.mk hi288_1
                                have HC288_1 := Aside0.mk hl288_1
                                clear hi288_1 hl288_1
                                (try simp only [Go.IntWalk.toNatUp] at hx288_0)
                                (try simp only [Go.IntWalk.toNatUp] at hx288_1)
                                replace p288 := eq_true p288
                                replace q288 := eq_true q288
                                go_wp2_with (first | ((with_reducible refine gate_dst (N := 18) rfl ?_); (try (refine gate_guard (by rfl) ?_; dsimp only)); refine box_event ?hg (N := 18) ?hd (cs := #[.int .i64 0, .slice none 0 0]) (t := 34) ?hr ?_; (case hd => rfl); (case hg => rfl); (case hr => first | (go_simp; done) | (go_simp; simp only [IntKind.wrap_u8, IntKind.wrap_u16, IntKind.wrap_u32, IntKind.wrap_u64]; done) | (go_simp; simp only [IntKind.wrap_u8, IntKind.wrap_u16, IntKind.wrap_u32, IntKind.wrap_u64, Int.tmod_eq_emod_of_nonneg (Int.natCast_nonneg _), Int.emod_emod]; done) | (go_simp; rfl)); intro gb289 hg w78 hbox hb; have n0_ := Aside0.mk (Kd.N_below (Kd.N_elderB (by (with_reducible repeat (first | apply Kd.N_alloc | apply Kd.N_drewN | apply Kd.N_drew)); exact HO_16.out) gb289 (Nat.le_of_eq hg.symm)) hb); have n1_ := Aside0.mk (Kd.R_below (by (with_reducible repeat (first | apply Kd.R_alloc | apply Kd.R_drewN | apply Kd.R_drew)); exact HO_246002.out) hb); have n2_ := Aside0.mk (Kd.V_below (Kd.V_elderB (by (with_reducible repeat (first | apply Kd.V_alloc | apply Kd.V_drewN | apply Kd.V_drew)); exact HL288_1.out) gb289 (Nat.le_of_eq hg.symm)) hb); have n3_ := Aside0.mk (blk_below (g := gb245) (o := .cells #[.int .u32 (Go.bits .and .u32 a0 a1), .int .i64 a2, .slice Ao46 t273.length co46, .bool t276, .bool t277, .bool t278] 58 (0, 0)) (by (with_reducible repeat (first | refine blk_drewN ?_ _ | refine blk_drew ?_ | refine blk_alloc ?_ _)); exact BK245.out) hb); have n4_ := Aside0.mk (Kd.C_below (by repeat (first | (with_reducible exact HR288_1.out) | (with_reducible refine Kd.C_alloc ?_ _) | (with_reducible refine Kd.C_drewN ?_ _) | (with_reducible refine Kd.C_drew ?_) | exact HR288_1.out)) hb); have n5_ := Aside0.mk (below_step (by repeat (first | (with_reducible first | exact HB.out | apply below_alloc | apply pw_below_drewN | apply below_drew1 | refine below_set ?_ GE245.out) | exact HB.out)) hb); have n6_ := Aside0.mk (hbox); have n7_ := Aside0.mk ((by rw [hg]; exact (below_size (by repeat (first | (with_reducible first | exact HB.out | apply below_alloc | apply pw_below_drewN | apply below_drew1 | refine below_set ?_ GE245.out) | exact HB.out))) : w.heap.size ≤ gb289)); have n8_ := Aside0.mk ((by rw [hg]; exact (below_size (by repeat (first | (with_reducible first | exact HB.out | apply below_alloc | apply pw_below_drewN | apply below_drew1 | refine below_set ?_ GE245.out) | exact HB.out))) : w.heap.size ≤ gb289)); have n9_ := Aside0.mk ((by rw [hg]; exact Nat.ne_of_lt (blk_lt (g := gb245) (o := .cells #[.int .u32 (Go.bits .and .u32 a0 a1), .int .i64 a2, .slice Ao46 t273.length co46, .bool t276, .bool t277, .bool t278] 58 (0, 0)) (by (with_reducible repeat (first | refine blk_drewN ?_ _ | refine blk_drew ?_ | refine blk_alloc ?_ _)); exact BK245.out)) : gb245 ≠ gb289)); have n10_ := Aside0.mk ((by rw [hg]; exact Nat.ne_of_gt (blk_lt (g := gb245) (o := .cells #[.int .u32 (Go.bits .and .u32 a0 a1), .int .i64 a2, .slice Ao46 t273.length co46, .bool t276, .bool t277, .bool t278] 58 (0, 0)) (by (with_reducible repeat (first | refine blk_drewN ?_ _ | refine blk_drew ?_ | refine blk_alloc ?_ _)); exact BK245.out)) : gb289 ≠ gb245)); clear HO_16; clear HO_246002; clear HL288_1; clear BK245; clear HR288_1; clear HB; have HO_16 := n0_; have HO_246002 := n1_; have HL288_1 := n2_; have BK245 := n3_; have HR288_1 := n4_; have HB := n5_; have BK289 := n6_; have GW289 := n7_; have GE289 := n8_; have NB245_289 := n9_; have NB289_245 := n10_; clear n0_ n1_ n2_ n3_ n4_ n5_ n6_ n7_ n8_ n9_ n10_; clear hb hbox hg; have hnb79 := NB289_245.out; have hnc79 := NB245_289.out; have hcz80_0 : w78.cell? ⟨gb289, 0, none⟩ = some (.int .i64 0) := (blk_cell BK289.out 0).trans rfl; have hcz80_1 : w78.cell? ⟨gb289, 1, none⟩ = some (.slice none 0 0) := (blk_cell BK289.out 1).trans rfl; have hfz80_0 := blk_frozen BK289.out 0; have hfz80_1 := blk_frozen BK289.out 1) | ((with_reducible refine gate_store (t := 34) (p := 18) rfl ?_); refine store_event (t := 34) (p := 18) (v := ?vo_w81) (w1 := ((w78.setCell ⟨gb289, 0, none⟩ (.int .i64 ((rd_T34 y279 (t255.length : Int)).f0))).setCell ⟨gb289, 1, none⟩ (.slice A288_1 ((rd_T34 y279 (t255.length : Int)).f1).length c288_1))) ?hg ?ho ?hn ?hr ?_; (case ho => rfl); (case hg => rfl); (case hn => rfl); (case hr => first | (go_simp; done) | (go_simp; simp only [IntKind.wrap_u8, IntKind.wrap_u16, IntKind.wrap_u32, IntKind.wrap_u64]; done) | (go_simp; simp only [IntKind.wrap_u8, IntKind.wrap_u16, IntKind.wrap_u32, IntKind.wrap_u64, Int.tmod_eq_emod_of_nonneg (Int.natCast_nonneg _), Int.emod_emod]; done) | (go_simp; rfl)); intro w81 hw; have n0_ : Aside0 (Kd.N k34 34 w81 w.heap.size (fun k_ => some k_ ≠ (.slice Ao46 t273.length co46 : Value).ownBlock ∧ k_ ≠ gb245 ∧ k_ ≠ gb289) (.slice (some ad288) y279.length co77) y279) := ⟨(by rw [hw]; exact (by (with_reducible repeat (first | apply Kd.N_alloc | apply Kd.N_drewN | apply Kd.N_drew)); exact Kd.N_mono (Kd.N_far (p := ⟨gb289, 1, none⟩) (Kd.N_far (p := ⟨gb289, 0, none⟩) (Kd.N_mono HO_16.out (fun k_ hk => (⟨hk, hk.2⟩ : _ ∧ k_ ≠ gb289))) (fun _ hk => hk.2) (.int .i64 ((rd_T34 y279 (t255.length : Int)).f0))) (fun _ hk => hk.2) (.slice A288_1 ((rd_T34 y279 (t255.length : Int)).f1).length c288_1)) (fun _ hk => ⟨hk.1.1.1, ⟨hk.1.1.2, hk.1.2⟩⟩)))⟩; have n1_ : Aside0 (Kd.R (Kd.int .u8) 5 w81 w.heap.size (fun _ => True) (.slice Ao46 t273.length co46) t273) := ⟨(by rw [hw]; exact (by (with_reducible repeat (first | apply Kd.R_alloc | apply Kd.R_drewN | apply Kd.R_drew)); exact Kd.R_mono (Kd.R_far (p := ⟨gb289, 1, none⟩) (Kd.R_far (p := ⟨gb289, 0, none⟩) (Kd.R_types HO_246002.out BK289.out (by decide)) (fun _ hk => hk.2) (.int .i64 ((rd_T34 y279 (t255.length : Int)).f0))) (fun _ hk => hk.2) (.slice A288_1 ((rd_T34 y279 (t255.length : Int)).f1).length c288_1)) (fun _ hk => trivial)))⟩; have n2_ : Aside0 (Kd.V (Kd.int .u8) 5 w81 w.heap.size (fun k_ => some k_ ≠ (.slice (some ad288) y279.length co77 : Value).ownBlock ∧ some k_ ≠ (.slice Ao46 t273.length co46 : Value).ownBlock ∧ k_ ≠ gb245 ∧ k_ ≠ gb289) (.slice A288_1 ((rd_T34 y279 (t255.length : Int)).f1).length c288_1) ((rd_T34 y279 (t255.length : Int)).f1)) := ⟨(by rw [hw]; exact (by (with_reducible repeat (first | apply Kd.V_alloc | apply Kd.V_drewN | apply Kd.V_drew)); exact Kd.V_mono (Kd.V_far (p := ⟨gb289, 1, none⟩) (Kd.V_far (p := ⟨gb289, 0, none⟩) (Kd.V_mono HL288_1.out (fun k_ hk => (⟨hk, hk.2⟩ : _ ∧ k_ ≠ gb289))) (fun _ hk => hk.2) (.int .i64 ((rd_T34 y279 (t255.length : Int)).f0))) (fun _ hk => hk.2) (.slice A288_1 ((rd_T34 y279 (t255.length : Int)).f1).length c288_1)) (fun _ hk => ⟨hk.1.1.2, ⟨hk.1.1.1.1, ⟨hk.1.1.1.2, hk.1.2⟩⟩⟩)))⟩; have n3_ : Aside0 (w81.heap[gb245]? = some (.cells #[.int .u32 (Go.bits .and .u32 a0 a1), .int .i64 a2, .slice Ao46 t273.length co46, .bool t276, .bool t277, .bool t278] 58 (0, 0))) := ⟨(by rw [hw]; exact (by (with_reducible repeat (first | refine blk_drewN ?_ _ | refine blk_drew ?_ | refine blk_alloc ?_ _)); refine blk_far ?_ NB245_289.out _; (with_reducible repeat (first | refine blk_drewN ?_ _ | refine blk_drew ?_ | refine blk_alloc ?_ _)); refine blk_far ?_ NB245_289.out _; (with_reducible repeat (first | refine blk_drewN ?_ _ | refine blk_drew ?_ | refine blk_alloc ?_ _)); exact BK245.out))⟩; have n4_ : Aside0 (w81.heap[gb289]? = some (.cells #[.int .i64 ((rd_T34 y279 (t255.length : Int)).f0), .slice A288_1 ((rd_T34 y279 (t255.length : Int)).f1).length c288_1] 34 (0, 0))) := ⟨(by rw [hw]; exact (by (with_reducible repeat (first | refine blk_drewN ?_ _ | refine blk_drew ?_ | refine blk_alloc ?_ _)); refine blk_put (cs := #[.int .i64 ((rd_T34 y279 (t255.length : Int)).f0), .slice none 0 0]) ?_ 1 _ rfl; (with_reducible repeat (first | refine blk_drewN ?_ _ | refine blk_drew ?_ | refine blk_alloc ?_ _)); refine blk_put (cs := #[.int .i64 0, .slice none 0 0]) ?_ 0 _ rfl; (with_reducible repeat (first | refine blk_drewN ?_ _ | refine blk_drew ?_ | refine blk_alloc ?_ _)); exact BK289.out))⟩; have n5_ : Aside0 (Below w.heap.size w w81) := ⟨(by rw [hw]; exact (by repeat (first | (with_reducible first | exact HB.out | apply below_alloc | apply pw_below_drewN | apply below_drew1 | refine below_set ?_ GE245.out | refine below_set ?_ GE289.out) | exact HB.out)))⟩; clear hw; clear HO_16; clear HO_246002; clear HL288_1; clear BK245; clear BK289; clear HB; have HO_16 := n0_; have HO_246002 := n1_; have HL288_1 := n2_; have BK245 := n3_; have BK289 := n4_; have HB := n5_; clear n0_ n1_ n2_ n3_ n4_ n5_; have hcz82_0 : w81.cell? ⟨gb245, 0, none⟩ = some (.int .u32 (Go.bits .and .u32 a0 a1)) := (blk_cell BK245.out 0).trans rfl; have hcz82_1 : w81.cell? ⟨gb245, 1, none⟩ = some (.int .i64 a2) := (blk_cell BK245.out 1).trans rfl; have hcz82_2 : w81.cell? ⟨gb245, 2, none⟩ = some (.slice Ao46 t273.length co46) := (blk_cell BK245.out 2).trans rfl; have hcz82_3 : w81.cell? ⟨gb245, 3, none⟩ = some (.bool t276) := (blk_cell BK245.out 3).trans rfl; have hcz82_4 : w81.cell? ⟨gb245, 4, none⟩ = some (.bool t277) := (blk_cell BK245.out 4).trans rfl; have hcz82_5 : w81.cell? ⟨gb245, 5, none⟩ = some (.bool t278) := (blk_cell BK245.out 5).trans rfl; have hfz82_0 := blk_frozen BK245.out 0; have hfz82_1 := blk_frozen BK245.out 1; have hfz82_2 := blk_frozen BK245.out 2; have hfz82_3 := blk_frozen BK245.out 3; have hfz82_4 := blk_frozen BK245.out 4; have hfz82_5 := blk_frozen BK245.out 5) | (go_at_call 14; refine (dfx gb245 (Go.bits .and .u32 a0 a1) a2 (fun k_ => some k_ = (.slice Ao46 t273.length co46 : Value).ownBlock) (.slice Ao46 t273.length co46) t273 t276 t277 t278 _ _ l5 t290 t293 t296 t297 t298 w _ ?side1 ?side2 ?side3 ?side4 A74.out ?side5 ?side6 ?side7).mono ?_; (case side1 => repeat (first | (with_reducible first | exact HB.out | apply below_alloc | apply pw_below_drewN | apply below_drew1 | refine below_set ?_ GE245.out | refine below_set ?_ GE289.out) | exact HB.out)); (case side2 => exact Kd.R_tight rfl HO_246002.out); (case side3 => exact Kd.C_kept_came (Kd.heap_int .u8) HR5.out (by repeat (first | (with_reducible first | exact HB.out | apply below_alloc | apply pw_below_drewN | apply below_drew1 | refine below_set ?_ GE245.out | refine below_set ?_ GE289.out) | exact HB.out)) (fun k_ hs_ => (fun e_ => Kd.R_base HO_246002.out k_ e_.symm) hs_)); (case side4 => exact HC5.out); (case side5 => exact (by (with_reducible repeat (first | refine blk_drewN ?_ _ | refine blk_drew ?_ | refine blk_alloc ?_ _)); exact BK245.out)); (case side6 => exact GE245.out); (case side7 => exact (fun hs_ => (fun e_ => (Kd.R_ne HO_246002.out BK245.out (by decide)) e_) hs_)); rintro e wq_ ⟨w83, v291, v294, rfl, rfl, ho0, ho1, hb, hkp⟩; have n0_ := Aside0.mk (Kd.N_mono (ok' := fun k_ => k_ ≠ gb245 ∧ k_ ≠ gb289 ∧ some k_ ≠ (v291 : Value).ownBlock ∧ some k_ ≠ (v294 : Value).ownBlock) (Kd.N_keptB (HO_16.out) hkp (fun k_ hk_ hs_ => (hk_.1) hs_)) (fun k_ hk_ => ⟨hk_.1.2.1, hk_.1.2.2, fun e_ => Or.elim ((Kd.S_R ho0).1 k_ e_.symm).1 (fun hs_ => hk_.2.1 hs_) (fun hn_ => Nat.not_le.2 hk_.2.2 hn_), fun e_ => Or.elim (ho1.1 k_ e_.symm) (fun hs_ => hk_.2.1 hs_) (fun hn_ => Nat.not_le.2 hk_.2.2 hn_)⟩)); have n1_ := Aside0.mk (blk_kept (by (with_reducible repeat (first | refine blk_drewN ?_ _ | refine blk_drew ?_ | refine blk_alloc ?_ _)); exact BK245.out) hkp (fun hs_ => (fun e_ => (Kd.R_ne HO_246002.out BK245.out (by decide)) e_) hs_)); have n2_ := Aside0.mk (Kd.V_mono (ok' := fun k_ => some k_ ≠ (.slice (some ad288) y279.length co77 : Value).ownBlock ∧ k_ ≠ gb245 ∧ k_ ≠ gb289 ∧ some k_ ≠ (v291 : Value).ownBlock ∧ some k_ ≠ (v294 : Value).ownBlock) (Kd.V_keptB (HL288_1.out) hkp (fun k_ hk_ hs_ => (hk_.2.1) hs_)) (fun k_ hk_ => ⟨hk_.1.1, hk_.1.2.2.1, hk_.1.2.2.2, fun e_ => Or.elim ((Kd.S_R ho0).1 k_ e_.symm).1 (fun hs_ => hk_.2.1 hs_) (fun hn_ => Nat.not_le.2 hk_.2.2 hn_), fun e_ => Or.elim (ho1.1 k_ e_.symm) (fun hs_ => hk_.2.1 hs_) (fun hn_ => Nat.not_le.2 hk_.2.2 hn_)⟩)); have n3_ := Aside0.mk (blk_kept (by (with_reducible repeat (first | refine blk_drewN ?_ _ | refine blk_drew ?_ | refine blk_alloc ?_ _)); exact BK289.out) hkp (fun hs_ => (fun e_ => (Kd.R_ne HO_246002.out BK289.out (by decide)) e_) hs_)); have n4_ := Aside0.mk (Kd.N_lower (Kd.N_mono (ok' := fun k_ => some k_ ≠ (v294 : Value).ownBlock ∧ some k_ ≠ (.slice (some ad288) y279.length co77 : Value).ownBlock ∧ k_ ≠ gb245 ∧ k_ ≠ gb289) (Kd.S_N ho0) (fun k_ hk_ => ⟨hk_.2, Or.elim hk_.1 (fun hs_ => fun e_ => (((HO_16.out).1 k_ e_.symm).1) hs_) (fun hn_ => (Kd.fresh' (Kd.N_lt (by (with_reducible repeat (first | apply Kd.N_alloc | apply Kd.N_drewN | apply Kd.N_drew)); exact HO_16.out)) k_ hn_)), Or.elim hk_.1 (fun hs_ => fun e_ => (Kd.R_ne HO_246002.out BK245.out (by decide)) (by rw [← e_]; exact hs_)) (fun hn_ => (Kd.freshB (g := gb245) (o := .cells #[.int .u32 (Go.bits .and .u32 a0 a1), .int .i64 a2, .slice Ao46 t273.length co46, .bool t276, .bool t277, .bool t278] 58 (0, 0)) (by (with_reducible repeat (first | refine blk_drewN ?_ _ | refine blk_drew ?_ | refine blk_alloc ?_ _)); exact BK245.out) k_ hn_)), Or.elim hk_.1 (fun hs_ => fun e_ => (Kd.R_ne HO_246002.out BK289.out (by decide)) (by rw [← e_]; exact hs_)) (fun hn_ => (Kd.freshB (g := gb289) (o := .cells #[.int .i64 ((rd_T34 y279 (t255.length : Int)).f0), .slice A288_1 ((rd_T34 y279 (t255.length : Int)).f1).length c288_1] 34 (0, 0)) (by (with_reducible repeat (first | refine blk_drewN ?_ _ | refine blk_drew ?_ | refine blk_alloc ?_ _)); exact BK289.out) k_ hn_))⟩)) (Nat.le_refl _)); have n5_ := Aside0.mk (Kd.R_mono (ok' := fun k_ => True) ho1 (fun k_ hk_ => trivial)); have n6_ := Aside0.mk (hb); clear HO_16; clear BK245; clear HL288_1; clear BK289; clear HB; clear HO_246002; have HO_16 := n0_; have BK245 := n1_; have HL288_1 := n2_; have BK289 := n3_; have HO292 := n4_; have HO295 := n5_; have HB := n6_; clear n0_ n1_ n2_ n3_ n4_ n5_ n6_; (try clear hb); (try clear hkp); (try clear ho0); (try clear ho1); obtain ⟨Ao84, co84, eo84⟩ := Kd.R_slice HO295.out; subst eo84; have hcz85_0 : w83.cell? ⟨gb245, 0, none⟩ = some (.int .u32 (Go.bits .and .u32 a0 a1)) := (blk_cell BK245.out 0).trans rfl; have hcz85_1 : w83.cell? ⟨gb245, 1, none⟩ = some (.int .i64 a2) := (blk_cell BK245.out 1).trans rfl; have hcz85_2 : w83.cell? ⟨gb245, 2, none⟩ = some (.slice Ao46 t273.length co46) := (blk_cell BK245.out 2).trans rfl; have hcz85_3 : w83.cell? ⟨gb245, 3, none⟩ = some (.bool t276) := (blk_cell BK245.out 3).trans rfl; have hcz85_4 : w83.cell? ⟨gb245, 4, none⟩ = some (.bool t277) := (blk_cell BK245.out 4).trans rfl; have hcz85_5 : w83.cell? ⟨gb245, 5, none⟩ = some (.bool t278) := (blk_cell BK245.out 5).trans rfl; have hfz85_0 := blk_frozen BK245.out 0; have hfz85_1 := blk_frozen BK245.out 1; have hfz85_2 := blk_frozen BK245.out 2; have hfz85_3 := blk_frozen BK245.out 3; have hfz85_4 := blk_frozen BK245.out 4; have hfz85_5 := blk_frozen BK245.out 5; have hcz86_0 : w83.cell? ⟨gb289, 0, none⟩ = some (.int .i64 ((rd_T34 y279 (t255.length : Int)).f0)) := (blk_cell BK289.out 0).trans rfl; have hcz86_1 : w83.cell? ⟨gb289, 1, none⟩ = some (.slice A288_1 ((rd_T34 y279 (t255.length : Int)).f1).length c288_1) := (blk_cell BK289.out 1).trans rfl; have hfz86_0 := blk_frozen BK289.out 0; have hfz86_1 := blk_frozen BK289.out 1) | (go_at_call 17; (with_reducible refine (marlineref01_Equal.calls kj29 _ _ ((rd_T34 y279 (t255.length : Int)).f1) _ _ l4 t299 _ ?side1 ?side2 ?side3 ?side4 A76.out).mono ?_); (case side1 => repeat (first | exact ((Kd.V_reads' (by (with_reducible repeat (first | apply Kd.V_alloc | apply Kd.V_drewN | apply Kd.V_drew)); exact (Kd.V_mono (Kd.V_far (p := ⟨gb245, 5, none⟩) (Kd.V_far (p := ⟨gb245, 4, none⟩) (Kd.V_far (p := ⟨gb245, 3, none⟩) (Kd.V_far (p := ⟨gb245, 2, none⟩) (Kd.V_mono HL288_1.out (fun k_ hk => (⟨hk, hk.2.1⟩ : _ ∧ k_ ≠ gb245))) (fun _ hk => hk.2) (.slice Ao84 t293.length co84)) (fun _ hk => hk.2) (.bool t296)) (fun _ hk => hk.2) (.bool t297)) (fun _ hk => hk.2) (.bool t298)) (fun _ h_ => h_.1)))).2.2) | (with_reducible refine Kd.C_alloc ?_ _) | (with_reducible refine Kd.C_drewN ?_ _) | (with_reducible refine Kd.C_drew ?_))); (case side2 => exact HC288_1.out); (case side3 => exact Kd.C_below HR4.out (by repeat (first | (with_reducible first | exact HB.out | apply below_alloc | apply pw_below_drewN | apply below_drew1 | refine below_set ?_ GE245.out | refine below_set ?_ GE289.out) | exact HB.out))); (case side4 => exact HC4.out); rintro e w' ⟨rfl, ⟨nd, rfl⟩⟩))
                                go_ret
                                exact ⟨by first | rfl | (simp [errW_none, errW_some] <;> rfl) | (simp [*, errW_none, errW_some] <;> rfl), by repeat (first | (with_reducible first | exact HB.out | apply below_alloc | apply pw_below_drewN | apply below_drew1 | refine below_set ?_ GE245.out | refine below_set ?_ GE289.out) | exact HB.out)⟩
                              · rw [if_neg c75] at H
                                exact absurd H (by simp)
                          · rw [if_neg c67] at H
                            exact absurd H (by simp)
                        · rw [if_neg c66] at H
                          exact absurd H (by simp)
                      · rw [if_neg c65] at H
                        exact absurd H (by simp)
            · rw [if_neg c29] at H
              exact absurd H (by simp)
          · rw [if_neg c24] at H
            exact absurd H (by simp)
        · rw [if_neg c23] at H
          exact absurd H (by simp)

/-- THE ONE PURE STATEMENT of marlinelaw05_AsyncWraps: yours. -/
def marlinelaw05_AsyncWraps.Pure : Prop := ∀ (a0 : Int) (a1 : Int) (a2 : Int) (l3 : List Int) (l4 : List Int) (l5 : List Int), (Lit.int .u32 a0).wf = true → (Lit.int .u32 a1).wf = true → (Lit.int .i64 a2).wf = true → l3.length ≤ maxLen → l3.length * 1 ≤ 140737488351232 → (∀ x ∈ l3, (Lit.int .u8 x).wf = true) → l4.length ≤ maxLen → l4.length * 1 ≤ 140737488351232 → (∀ x ∈ l4, (Lit.int .u8 x).wf = true) → l5.length ≤ maxLen → l5.length * 1 ≤ 140737488351232 → (∀ x ∈ l5, (Lit.int .u8 x).wf = true) → ∃ k, marlinelaw05_AsyncWraps.f k a0 a1 a2 l3 l4 l5 = some true
theorem marlinelaw05_AsyncWraps.walk (P : marlinelaw05_AsyncWraps.Pure) (a0 : Int) (a1 : Int) (a2 : Int) (a3 : Option Addr) (len3 cap3 : Nat) (z3 : List Int) (a4 : Option Addr) (len4 cap4 : Nat) (z4 : List Int) (a5 : Option Addr) (len5 cap5 : Nat) (z5 : List Int) (w : World) (w0 : (Lit.int .u32 a0).wf = true) (w1 : (Lit.int .u32 a1).wf = true) (w2 : (Lit.int .i64 a2).wf = true) (w3 : (a3 = none ∧ len3 = 0 ∧ cap3 = 0 ∧ z3 = []) ∨ ∃ x, a3 = some x ∧ len3 ≤ cap3 ∧ cap3 ≤ maxLen ∧ z3.length = cap3 ∧ (∀ i, i < z3.length → w.cell? (x.add i) = some (.int .u8 (z3.getD i 0))) ∧ ∀ n ∈ z3, (Lit.int .u8 n).wf = true) (y3 : len3 * 1 ≤ 140737488351232) (w4 : (a4 = none ∧ len4 = 0 ∧ cap4 = 0 ∧ z4 = []) ∨ ∃ x, a4 = some x ∧ len4 ≤ cap4 ∧ cap4 ≤ maxLen ∧ z4.length = cap4 ∧ (∀ i, i < z4.length → w.cell? (x.add i) = some (.int .u8 (z4.getD i 0))) ∧ ∀ n ∈ z4, (Lit.int .u8 n).wf = true) (y4 : len4 * 1 ≤ 140737488351232) (w5 : (a5 = none ∧ len5 = 0 ∧ cap5 = 0 ∧ z5 = []) ∨ ∃ x, a5 = some x ∧ len5 ≤ cap5 ∧ cap5 ≤ maxLen ∧ z5.length = cap5 ∧ (∀ i, i < z5.length → w.cell? (x.add i) = some (.int .u8 (z5.getD i 0))) ∧ ∀ n ∈ z5, (Lit.int .u8 n).wf = true) (y5 : len5 * 1 ≤ 140737488351232) :
    Calls Try.prog 6 #[.int .u32 a0, .int .u32 a1, .int .i64 a2, .slice a3 len3 cap3, .slice a4 len4 cap4, .slice a5 len5 cap5] w fun e w' => e = .returned (.bool true) ∧ Below w.heap.size w w' := by
  obtain ⟨l3, rfl, hr3, hm3, hw3, hc3⟩ := ReadsInt.ofRowC w3
  obtain ⟨l4, rfl, hr4, hm4, hw4, hc4⟩ := ReadsInt.ofRowC w4
  obtain ⟨l5, rfl, hr5, hm5, hw5, hc5⟩ := ReadsInt.ofRowC w5
  obtain ⟨k, h⟩ := P a0 a1 a2 l3 l4 l5 w0 w1 w2 hm3 y3 hw3 hm4 y4 hw4 hm5 y5 hw5
  refine (marlinelaw05_AsyncWraps.calls k a0 a1 a2 _ _ l3 _ _ l4 _ _ l5 true w (Kd.C_of_reads (d := (0 : Int)) (h1 := fun _ => rfl) hr3) hc3 (Kd.C_of_reads (d := (0 : Int)) (h1 := fun _ => rfl) hr4) hc4 (Kd.C_of_reads (d := (0 : Int)) (h1 := fun _ => rfl) hr5) hc5 h).mono ?_
  rintro e w' ⟨rfl, hd⟩
  exact ⟨rfl, hd⟩

end Go.Proofs.Ytjmclghjhnbafaa.Print

/- Plain words on lists of whole numbers: octets, bits, rows of 1s. No condition; no program in sight. -/
namespace Go.Proofs.Ytjmclghjhnbafaa.Pl
open Go.RowKit Go.Proofs.YtjmclghjhnbafaaW.PrintWords
set_option linter.unusedVariables false

/-! ### numbers -/
theorem u8_of_wf {x : Int} (h : (Lit.int .u8 x).wf = true) : 0 ≤ x ∧ x < 256 := by
  simp [Lit.wf, IntKind.min, IntKind.max, IntKind.bits, IntKind.signed] at h
  omega
theorem u16_of_wf {x : Int} (h : (Lit.int .u16 x).wf = true) : 0 ≤ x ∧ x < 65536 := by
  simp [Lit.wf, IntKind.min, IntKind.max, IntKind.bits, IntKind.signed] at h
  omega
theorem u32_of_wf {x : Int} (h : (Lit.int .u32 x).wf = true) : 0 ≤ x ∧ x < 4294967296 := by
  simp [Lit.wf, IntKind.min, IntKind.max, IntKind.bits, IntKind.signed] at h
  omega
theorem w64 {x : Int} (h0 : -9223372036854775808 ≤ x) (h1 : x ≤ 9223372036854775807) : wrap64 x = x := by unfold wrap64; omega
theorem wu64 {x : Int} (h0 : 0 ≤ x) (h1 : x < 18446744073709551616) : IntKind.u64.wrap x = x := by rw [IntKind.wrap_u64]; omega
def Byte (x : Int) : Prop := 0 ≤ x ∧ x < 256
def Bytes (l : List Int) : Prop := ∀ x ∈ l, Byte x
theorem bytes_of_wf {l : List Int} (h : ∀ x ∈ l, (Lit.int .u8 x).wf = true) : Bytes l := fun x hx => u8_of_wf (h x hx)
theorem Bytes.take {l : List Int} (h : Bytes l) (n : Nat) : Bytes (l.take n) := fun x hx => h x (List.mem_of_mem_take hx)
theorem Bytes.drop {l : List Int} (h : Bytes l) (n : Nat) : Bytes (l.drop n) := fun x hx => h x (List.mem_of_mem_drop hx)
theorem Bytes.append {l m : List Int} (h : Bytes l) (k : Bytes m) : Bytes (l ++ m) := fun x hx => by rcases List.mem_append.1 hx with hx | hx; exact h x hx; exact k x hx
theorem Bytes.cons {x : Int} {l : List Int} (h : Byte x) (k : Bytes l) : Bytes (x :: l) := fun y hy => by rcases List.mem_cons.1 hy with rfl | hy; exact h; exact k y hy
theorem Bytes.nil : Bytes [] := fun x hx => by simp at hx
theorem Bytes.head {x : Int} {l : List Int} (h : Bytes (x :: l)) : Byte x := h x (by simp)
theorem Bytes.tail {x : Int} {l : List Int} (h : Bytes (x :: l)) : Bytes l := fun y hy => h y (by simp [hy])
theorem bytes_lit {l : List Int} (h : (l.all fun x => decide (0 ≤ x ∧ x < 256)) = true) : Bytes l := by
  intro x hx
  have := List.all_eq_true.1 h x hx
  simpa [Byte] using this
theorem and1 {x : Int} (h : Byte x) : Go.bits .and .u8 x 1 = x % 2 := by
  obtain ⟨n, rfl⟩ := Int.eq_ofNat_of_zero_le h.1
  have h2 := h.2
  have h3 := u8_and_nat n 1 (by omega) (by omega)
  rw [Nat.and_one_is_mod] at h3
  rw [show ((1 : Nat) : Int) = 1 from rfl] at h3
  rw [h3]
  omega
theorem shr_lt {x : Int} (h : Byte x) (j : Nat) (hj : j ≤ 8) : shr .u8 x j = x / 2 ^ j := by
  unfold shr
  rw [Int.toNat_natCast, Nat.min_eq_left (by simpa [IntKind.bits] using hj)]
theorem byte_div {x : Int} (h : Byte x) (j : Nat) : Byte (x / 2 ^ j) := by
  have hp : (0 : Int) < 2 ^ j := Int.pow_pos (by omega)
  refine ⟨Int.ediv_nonneg h.1 (by omega), ?_⟩
  have := Int.ediv_le_self (2 ^ j) h.1
  have := h.2
  omega
theorem bit_at {x : Int} (h : Byte x) (j : Nat) (hj : j ≤ 8) : Go.bits .and .u8 (shr .u8 x j) 1 = x / 2 ^ j % 2 := by
  rw [shr_lt h j hj, and1 (byte_div h j)]

/-! ### reading a list by places -/
theorem rd_drop {xs : List Int} {i : Nat} {b : Int} {t : List Int} (h : xs.drop i = b :: t) : rd xs (i : Int) = b ∧ xs.drop (i + 1) = t ∧ i < xs.length := by
  have hlt : i < xs.length := by
    rcases Nat.lt_or_ge i xs.length with h1 | h1
    · exact h1
    · rw [List.drop_eq_nil_of_le h1] at h; cases h
  rw [List.drop_eq_getElem_cons hlt] at h
  injection h with h1 h2
  refine ⟨?_, h2, hlt⟩
  unfold rd
  rw [Int.toNat_natCast, List.getD_eq_getElem?_getD, List.getElem?_eq_getElem hlt]
  exact h1
theorem drop_nil_len {xs : List Int} {i : Nat} (h : xs.drop i = []) : xs.length ≤ i := by
  rcases Nat.lt_or_ge i xs.length with h1 | h1
  · rw [List.drop_eq_getElem_cons h1] at h; cases h
  · exact h1
theorem drop_len {xs t : List Int} {i : Nat} (h : xs.drop i = t) : t.length = xs.length - i := by rw [← h, List.length_drop]

/-! ### octets as bits -/
def eight (c : Int) : List Int := [c % 2, c / 2 % 2, c / 4 % 2, c / 8 % 2, c / 16 % 2, c / 32 % 2, c / 64 % 2, c / 128 % 2]
def ofOct : List Int → List Int
  | [] => []
  | c :: t => eight c ++ ofOct t
theorem ofOct_append (a b : List Int) : ofOct (a ++ b) = ofOct a ++ ofOct b := by
  induction a with
  | nil => rfl
  | cons c t ih => simp [ofOct, ih]
theorem ofOct_length (a : List Int) : (ofOct a).length = 8 * a.length := by
  induction a with
  | nil => rfl
  | cons c t ih => simp [ofOct, eight, ih]; omega
def clean (l : List Int) : List Int := l.map (· % 2)
theorem clean_length (l : List Int) : (clean l).length = l.length := by simp [clean]
theorem clean_append (a b : List Int) : clean (a ++ b) = clean a ++ clean b := by simp [clean]
def oct8 (a0 a1 a2 a3 a4 a5 a6 a7 : Int) : Int := a0 % 2 + 2 * (a1 % 2) + 4 * (a2 % 2) + 8 * (a3 % 2) + 16 * (a4 % 2) + 32 * (a5 % 2) + 64 * (a6 % 2) + 128 * (a7 % 2)
def octs : List Int → List Int
  | a0 :: a1 :: a2 :: a3 :: a4 :: a5 :: a6 :: a7 :: t => oct8 a0 a1 a2 a3 a4 a5 a6 a7 :: octs t
  | _ => []
theorem octs_length : ∀ l : List Int, (octs l).length = l.length / 8
  | a0 :: a1 :: a2 :: a3 :: a4 :: a5 :: a6 :: a7 :: t => by
    have := octs_length t
    simp only [octs, List.length_cons, this]
    omega
  | [] | [_] | [_, _] | [_, _, _] | [_, _, _, _] | [_, _, _, _, _] | [_, _, _, _, _, _] | [_, _, _, _, _, _, _] => by simp [octs]
theorem bytes_octs : ∀ l : List Int, Bytes (octs l)
  | a0 :: a1 :: a2 :: a3 :: a4 :: a5 :: a6 :: a7 :: t => by
    simp only [octs]
    exact Bytes.cons (by unfold oct8; constructor <;> omega) (bytes_octs t)
  | [] | [_] | [_, _] | [_, _, _] | [_, _, _, _] | [_, _, _, _, _] | [_, _, _, _, _, _] | [_, _, _, _, _, _, _] => by simp [octs, Bytes]
theorem octs_of : ∀ b : List Int, Bytes b → octs (ofOct b) = b
  | [], _ => rfl
  | c :: t, h => by
    have ih := octs_of t h.tail
    have hc := h.head
    simp only [ofOct, eight, List.cons_append, List.nil_append, octs, ih]
    congr 1
    unfold oct8
    have := hc.1; have := hc.2
    omega
theorem of_octs : ∀ l : List Int, l.length % 8 = 0 → ofOct (octs l) = clean l
  | a0 :: a1 :: a2 :: a3 :: a4 :: a5 :: a6 :: a7 :: t, h => by
    have ih := of_octs t (by simp at h; omega)
    simp only [octs, ofOct, ih, eight, clean, List.map_cons, List.cons_append, List.nil_append, List.cons.injEq, and_true]
    unfold oct8
    refine ⟨?_, ?_, ?_, ?_, ?_, ?_, ?_, ?_⟩ <;> omega
  | [], _ => rfl
  | [_], h | [_, _], h | [_, _, _], h | [_, _, _, _], h | [_, _, _, _, _], h | [_, _, _, _, _, _], h | [_, _, _, _, _, _, _], h => by simp at h
theorem bytes_clean (l : List Int) : Bytes (clean l) := by
  intro x hx
  simp only [clean, List.mem_map] at hx
  obtain ⟨y, _, rfl⟩ := hx
  constructor <;> omega
theorem bit_clean {l : List Int} {x : Int} (hx : x ∈ clean l) : x = 0 ∨ x = 1 := by
  simp only [clean, List.mem_map] at hx
  obtain ⟨y, _, rfl⟩ := hx
  omega
theorem clean_clean (l : List Int) : clean (clean l) = clean l := by simp [clean]
theorem clean_ofOct (l : List Int) : clean (ofOct l) = ofOct l := by
  induction l with
  | nil => rfl
  | cons c t ih => rw [ofOct, clean_append, ih]; simp [clean, eight]

/-! ### 1s in a row -/
/-- The most 1s in a row, n of them standing ahead. -/
def peak : Int → List Int → Int
  | _, [] => 0
  | n, b :: t => max ((n + 1) * (b % 2)) (peak ((n + 1) * (b % 2)) t)
/-- How many 1s the list ends with, n of them standing ahead. -/
def last : Int → List Int → Int
  | n, [] => n
  | n, b :: t => last ((n + 1) * (b % 2)) t
def run (l : List Int) : Int := peak 0 l
theorem bitmul (n b : Int) (h0 : 0 ≤ n) : b % 2 = 0 ∧ (n + 1) * (b % 2) = 0 ∨ b % 2 = 1 ∧ (n + 1) * (b % 2) = n + 1 := by
  rcases Int.emod_two_eq b with h | h
  · left; rw [h]; simp
  · right; rw [h]; simp
theorem peak_nonneg (n : Int) (l : List Int) (h0 : 0 ≤ n) : 0 ≤ peak n l := by
  induction l generalizing n with
  | nil => simp [peak]
  | cons b t ih =>
    rcases bitmul n b h0 with ⟨_, h⟩ | ⟨_, h⟩ <;> rw [peak, h]
    · omega
    · omega
theorem peak_le (n : Int) (l : List Int) (h0 : 0 ≤ n) : peak n l ≤ n + l.length := by
  induction l generalizing n with
  | nil => simp [peak]; omega
  | cons b t ih =>
    simp only [List.length_cons]
    rcases bitmul n b h0 with ⟨_, h⟩ | ⟨_, h⟩ <;> rw [peak, h]
    · have := ih 0 (by omega); omega
    · have := ih (n + 1) (by omega); omega
theorem last_nonneg (n : Int) (l : List Int) (h0 : 0 ≤ n) : 0 ≤ last n l := by
  induction l generalizing n with
  | nil => simpa [last]
  | cons b t ih =>
    rcases bitmul n b h0 with ⟨_, h⟩ | ⟨_, h⟩ <;> rw [last, h]
    · exact ih 0 (by omega)
    · exact ih _ (by omega)
theorem last_le_peak (n : Int) (l : List Int) (h0 : 0 ≤ n) : last n l ≤ max n (peak n l) := by
  induction l generalizing n with
  | nil => simp [last]; omega
  | cons b t ih =>
    rcases bitmul n b h0 with ⟨_, h⟩ | ⟨_, h⟩ <;> rw [last, peak, h]
    · have := ih 0 (by omega); omega
    · have := ih (n + 1) (by omega); omega
theorem peak_append (n : Int) (a b : List Int) (h0 : 0 ≤ n) : peak n (a ++ b) = max (peak n a) (peak (last n a) b) := by
  induction a generalizing n with
  | nil => simp only [List.nil_append, peak, last]; have := peak_nonneg n b h0; omega
  | cons c t ih =>
    rcases bitmul n c h0 with ⟨_, h⟩ | ⟨_, h⟩ <;> simp only [List.cons_append, peak, last, h]
    · rw [ih 0 (by omega)]; omega
    · rw [ih (n + 1) (by omega)]; omega
theorem peak_mono (n m : Int) (l : List Int) (h0 : 0 ≤ n) (h : n ≤ m) : peak n l ≤ peak m l ∧ peak m l ≤ peak n l + (m - n) := by
  induction l generalizing n m with
  | nil => simp [peak]; omega
  | cons b t ih =>
    rcases bitmul n b h0 with ⟨e, h1⟩ | ⟨e, h1⟩ <;> rcases bitmul m b (by omega) with ⟨e', h2⟩ | ⟨e', h2⟩ <;> first | omega | skip
    · simp only [peak, h1, h2]; omega
    · simp only [peak, h1, h2]
      have := ih (n + 1) (m + 1) (by omega) (by omega)
      omega
theorem run_nonneg (l : List Int) : 0 ≤ run l := peak_nonneg 0 l (by omega)
theorem run_le (l : List Int) : run l ≤ l.length := by have := peak_le 0 l (by omega); unfold run; omega
theorem run_parts (a b : List Int) : run a ≤ run (a ++ b) ∧ run b ≤ run (a ++ b) ∧ run (a ++ b) ≤ run a + run b := by
  unfold run
  have h0 := last_nonneg 0 a (by omega)
  have h1 := last_le_peak 0 a (by omega)
  have h2 := peak_mono 0 (last 0 a) b (by omega) h0
  have h3 := peak_nonneg 0 a (by omega)
  have h4 := peak_nonneg 0 b (by omega)
  rw [peak_append 0 a b (by omega)]
  omega
theorem peak_clean (n : Int) (l : List Int) : peak n (clean l) = peak n l := by
  induction l generalizing n with
  | nil => rfl
  | cons b t ih =>
    show peak n (b % 2 :: clean t) = _
    simp only [peak, Int.emod_emod_of_dvd b (Int.dvd_refl 2), ih]
theorem run_clean (l : List Int) : run (clean l) = run l := peak_clean 0 l
/-- How many 1s the list begins with. -/
def lead : List Int → Int
  | [] => 0
  | b :: t => if b % 2 = 1 then 1 + lead t else 0
/-- The most that any end of the list begins with. -/
def best : List Int → Int
  | [] => 0
  | b :: t => max (lead (b :: t)) (best t)
theorem lead_nonneg (l : List Int) : 0 ≤ lead l := by
  induction l with
  | nil => simp [lead]
  | cons b t ih => unfold lead; split <;> omega
theorem lead_le (l : List Int) : lead l ≤ l.length := by
  induction l with
  | nil => simp [lead]
  | cons b t ih => unfold lead; simp only [List.length_cons]; split <;> omega
theorem lead_le_best (l : List Int) : lead l ≤ best l := by
  cases l with
  | nil => simp [lead, best]
  | cons b t => unfold best; omega
theorem peak_best (n : Int) (l : List Int) (h0 : 0 ≤ n) : peak n l = max (if 0 < lead l then n + lead l else 0) (best l) := by
  induction l generalizing n with
  | nil => simp [peak, lead, best]
  | cons b t ih =>
    have hn := lead_nonneg t
    have hb := lead_le_best t
    rcases bitmul n b h0 with ⟨e, h1⟩ | ⟨e, h1⟩
    · have hl : lead (b :: t) = 0 := by rw [lead, if_neg (by omega)]
      rw [peak, h1, ih 0 (by omega), best, hl]
      split <;> omega
    · have hl : lead (b :: t) = 1 + lead t := by rw [lead, if_pos e]
      rw [peak, h1, ih (n + 1) (by omega), best, hl, if_pos (by omega : (0 : Int) < 1 + lead t)]
      split <;> omega
theorem run_best (l : List Int) : run l = best l := by
  unfold run
  rw [peak_best 0 l (by omega)]
  have := lead_le_best l
  have := lead_nonneg l
  split <;> omega
end Go.Proofs.Ytjmclghjhnbafaa.Pl

/- Words for plain texts over printed functions: a list that a loop may go through, a test that is decided, and what the reference's comparing comes to. No condition. -/
namespace Go.Proofs.Ytjmclghjhnbafaa.Sp
open Go.RowKit Go.Proofs.Ytjmclghjhnbafaa.Print Go.Proofs.YtjmclghjhnbafaaW.PrintWords Go.Proofs.YtjmclghjhnbafaaW.PrintLast Go.Proofs.Ytjmclghjhnbafaa.Pl
set_option linter.unusedVariables false
theorem Ev.pos {α : Type} {c : Prop} [Decidable c] {g h : Nat → Option α} {r : α} (hc : c) (k : Ev g r) : Ev (fun n => if c then g n else h n) r :=
  Ev.congr (fun n => if_pos hc) k
theorem Ev.neg {α : Type} {c : Prop} [Decidable c] {g h : Nat → Option α} {r : α} (hc : ¬ c) (k : Ev h r) : Ev (fun n => if c then g n else h n) r :=
  Ev.congr (fun n => if_neg hc) k
theorem Ev.end_ {α : Type} {x r : α} (h : x = r) : Ev (fun _ => some x) r := h ▸ Ev.now _
theorem Ev.name {α β : Type} {x : β} {g : Nat → β → Option α} {r : α} (h : Ev (fun n => g n x) r) : Ev (fun n => (some x).bind (g n)) r := Ev.congr (fun n => Option.bind_some _ _) h
/-- A list that a loop may go through. -/
def Lim (l : List Int) : Prop := l.length ≤ 1000000
theorem suc (i : Nat) (h : i ≤ 2000000) : wrap64 ((i : Int) + 1) = ((i + 1 : Nat) : Int) := by rw [w64 (by omega) (by omega)]; omega

theorem Equal_l0 (a b : List Int) (hl : a.length = b.length) (ha : Lim a) : ∀ (t u : List Int) (i : Nat), a.drop i = t → b.drop i = u → Ev (fun k => marlineref01_Equal.l0 k a b i) (decide (t = u))
  | [], u, i, h1, h2 => by
    have h3 := drop_nil_len h1
    have h4 := drop_len h2
    obtain rfl : u = [] := List.eq_nil_of_length_eq_zero (by omega)
    exact Ev.step (fun k => by simp only [marlineref01_Equal.l0]; rw [if_neg (by omega)]; rfl) (Ev.now _)
  | x :: t, u, i, h1, h2 => by
    obtain ⟨e1, e2, e3⟩ := rd_drop h1
    cases u with
    | nil => have := drop_nil_len h2; omega
    | cons y u =>
      obtain ⟨f1, f2, f3⟩ := rd_drop h2
      unfold Lim at ha
      by_cases hxy : x = y
      · subst hxy
        have ih := Equal_l0 a b hl ha t u (i + 1) e2 f2
        rw [show decide (x :: t = x :: u) = decide (t = u) by simp]
        exact Ev.step (fun k => by simp only [marlineref01_Equal.l0]; rw [if_pos (by omega), if_pos (by omega), if_pos (by omega), e1, f1, if_pos rfl, suc i (by omega)]) ih
      · rw [show decide (x :: t = y :: u) = false by simp [hxy]]
        exact Ev.step (fun k => by simp only [marlineref01_Equal.l0]; rw [if_pos (by omega), if_pos (by omega), if_pos (by omega), e1, f1, if_neg hxy]) (Ev.now _)
theorem Equal (a b : List Int) (ha : Lim a) : Ev (fun k => marlineref01_Equal.f k a b) (decide (a = b)) := by
  by_cases hl : a.length = b.length
  · exact Ev.congr (fun k => by unfold marlineref01_Equal.f; rw [if_pos (by omega)]; rfl) (Equal_l0 a b hl ha a b 0 rfl rfl)
  · rw [show decide (a = b) = false by simp; rintro rfl; exact hl rfl]
    exact Ev.congr (fun k => by unfold marlineref01_Equal.f; rw [if_neg (by omega)]) (Ev.now _)

end Go.Proofs.Ytjmclghjhnbafaa.Sp

/- What the printed functions of layer 4 (octets, escaped), of its reference and of maps come to, in plain words. -/
namespace Go.Proofs.Ytjmclghjhnbafaa.Sp
open Go.RowKit Go.Proofs.Ytjmclghjhnbafaa.Print Go.Proofs.YtjmclghjhnbafaaW.PrintWords Go.Proofs.YtjmclghjhnbafaaW.PrintLast Go.Proofs.Ytjmclghjhnbafaa.Pl
set_option linter.unusedVariables false
/-! ### maps -/
def U32 (m : Int) : Prop := 0 ≤ m ∧ m < 4294967296
/-- Is an octet in a map? -/
def has (m c : Int) : Bool := decide (m / 2 ^ c.toNat % 2 = 1)
theorem and1u {x : Int} (h : U32 x) : Go.bits .and .u32 x 1 = x % 2 := by
  obtain ⟨n, rfl⟩ := Int.eq_ofNat_of_zero_le h.1
  have h2 := h.2
  have h3 := u32_and_nat n 1 (by omega) (by omega)
  rw [Nat.and_one_is_mod] at h3
  rw [show ((1 : Nat) : Int) = 1 from rfl] at h3
  rw [h3]
  omega
theorem pow32 {j : Nat} (h : 32 ≤ j) : (4294967296 : Int) ≤ 2 ^ j := by
  have h9 : (2 : Nat) ^ 32 ≤ 2 ^ j := Nat.pow_le_pow_right (by omega) h
  have h8 := Int.ofNat_le.2 h9
  rw [Int.natCast_pow] at h8
  simpa using h8
theorem div_u32 {m : Int} (h : U32 m) (j : Nat) : U32 (m / 2 ^ j) := by
  have hp : (0 : Int) < 2 ^ j := Int.pow_pos (by omega)
  refine ⟨Int.ediv_nonneg h.1 (by omega), ?_⟩
  have := Int.ediv_le_self (2 ^ j) h.1
  have := h.2
  omega
theorem has_big {m c : Int} (h : U32 m) (hc : 32 ≤ c) : has m c = false := by
  unfold has
  rw [decide_eq_false_iff_not]
  have h1 := pow32 (j := c.toNat) (by omega)
  have h2 : m / 2 ^ c.toNat = 0 := Int.ediv_eq_zero_of_lt h.1 (by have := h.2; omega)
  rw [h2]
  decide
theorem bitsHas {m c : Int} (h : U32 m) (hc : Byte c) : ((Go.bits .and .u32 (shr .u32 m c) 1) == 1) = has m c := by
  have hc0 := hc.1
  by_cases h32 : c < 32
  · have e : shr .u32 m c = m / 2 ^ c.toNat := by
      unfold shr
      rw [Nat.min_eq_left (by simp [IntKind.bits]; omega)]
    rw [e, and1u (div_u32 h _)]
    unfold has
    rw [Bool.eq_iff_iff]
    simp
  · have e : shr .u32 m c = m / 2 ^ 32 := by
      unfold shr
      rw [Nat.min_eq_right (by simp [IntKind.bits]; omega)]
      rfl
    rw [e, and1u (div_u32 h _), has_big h (by omega)]
    have h2 : m / 2 ^ 32 = 0 := Int.ediv_eq_zero_of_lt h.1 (by have := h.2; omega)
    rw [h2]
    rfl
theorem HasA {m c : Int} (h : U32 m) (hc : Byte c) : accm_Has.f m c = some (has m c) := by
  unfold accm_Has.f
  rw [if_pos hc.1, bitsHas h hc]
def must (m c : Int) : Bool := decide (c = 126 ∨ c = 125) || has m c
theorem MustA {m c : Int} (h : U32 m) (hc : Byte c) : Ev (fun k => accm_Must.f k m c) (must m c) := by
  have j0 : ∀ b : Bool, Ev (fun k => accm_Must.j0 k m c b) (b || has m c) := by
    intro b
    cases b with
    | true => exact Ev.step (fun k => by simp only [accm_Must.j0]; rw [if_pos trivial]) (Ev.end_ (by simp))
    | false =>
      refine Ev.step (fun k => by simp only [accm_Must.j0]; rw [if_neg (by decide), HasA h hc, Option.bind_some]) (Ev.end_ (by simp))
  unfold accm_Must.f
  by_cases h1 : c = 126
  · refine Ev.pos h1 ?_
    have := j0 (c == 126)
    rw [show must m c = ((c == 126) || has m c) by unfold must; simp [h1]]
    exact this
  · refine Ev.neg h1 ?_
    have := j0 (c == 125)
    rw [show must m c = ((c == 125) || has m c) by unfold must; rw [Bool.eq_iff_iff]; simp [h1]]
    exact this
/-! ### an octet, turned -/
def tn (c : Int) : Int := Go.bits .xor .u8 c 32
theorem tn_all : ((List.range 256).all fun n => decide (tn (n : Int) = if n / 32 % 2 = 1 then (n : Int) - 32 else (n : Int) + 32)) = true := by decide +kernel
theorem tn_eq {c : Int} (h : Byte c) : tn c = if c / 32 % 2 = 1 then c - 32 else c + 32 := by
  obtain ⟨n, rfl⟩ := Int.eq_ofNat_of_zero_le h.1
  have h2 := h.2
  have h3 := List.all_eq_true.1 tn_all n (List.mem_range.2 (by omega))
  rw [decide_eq_true_iff] at h3
  rw [h3]
  by_cases h4 : n / 32 % 2 = 1
  · rw [if_pos h4, if_pos (by omega)]
  · rw [if_neg h4, if_neg (by omega)]
theorem tn_byte {c : Int} (h : Byte c) : Byte (tn c) := by
  rw [tn_eq h]
  have := h.1; have := h.2
  split <;> constructor <;> omega
theorem tn_tn {c : Int} (h : Byte c) : tn (tn c) = c := by
  have h1 := tn_byte h
  rw [tn_eq h1, tn_eq h]
  have := h.1; have := h.2
  split <;> split <;> omega
/-! ### octets, escaped -/
def stf (m : Int) : List Int → List Int
  | [] => []
  | c :: t => if must m c = true then 125 :: tn c :: stf m t else c :: stf m t
theorem stf_append (m : Int) (a b : List Int) : stf m (a ++ b) = stf m a ++ stf m b := by
  induction a with
  | nil => rfl
  | cons c t ih => simp only [List.cons_append, stf, ih]; split <;> rfl
theorem stf_len (m : Int) (l : List Int) : l.length ≤ (stf m l).length ∧ (stf m l).length ≤ 2 * l.length := by
  induction l with
  | nil => simp [stf]
  | cons c t ih => simp only [stf]; split <;> simp only [List.length_cons] <;> omega
theorem stf_bytes {m : Int} {l : List Int} (h : Bytes l) : Bytes (stf m l) := by
  induction l with
  | nil => exact Bytes.nil
  | cons c t ih =>
    simp only [stf]
    split
    · exact Bytes.cons (by constructor <;> omega) (Bytes.cons (tn_byte h.head) (ih h.tail))
    · exact Bytes.cons h.head (ih h.tail)
theorem bytesAt {l : List Int} (h : Bytes l) {i : Nat} {c : Int} {t : List Int} (e : l.drop i = c :: t) : Byte c := by
  have h4 := h.drop i
  rw [e] at h4
  exact h4.head
theorem SizeS_l0 (m : Int) (hm : U32 m) (l : List Int) (hl : Lim l) (hb : Bytes l) : ∀ (t : List Int) (i : Nat) (n : Int), l.drop i = t → 0 ≤ n → n + t.length ≤ 4000000 →
    Ev (fun k => stuff_Size.l0 k m n l (l.length : Int) i) (n + ((stf m t).length : Int) - t.length)
  | [], i, n, h, h0, h2 => by
    have h3 := drop_nil_len h
    exact Ev.step (fun k => by simp only [stuff_Size.l0]; rw [if_neg (by omega)]) (Ev.end_ (by simp [stf]))
  | c :: t, i, n, h, h0, h2 => by
    obtain ⟨e1, e2, e3⟩ := rd_drop h
    have hc := bytesAt hb h
    simp only [List.length_cons] at h2
    unfold Lim at hl
    refine Ev.step (fun k => by simp only [stuff_Size.l0]; rw [if_pos (by omega), if_pos (by omega), if_pos (by omega), e1, suc i (by omega)]) ?_
    refine Ev.bind (MustA hm hc) ?_
    by_cases hq : must m c = true
    · refine Ev.pos hq ?_
      rw [w64 (x := n + 1) (by omega) (by omega)]
      have ih := SizeS_l0 m hm l hl hb t (i + 1) (n + 1) e2 (by omega) (by omega)
      have e : n + ((stf m (c :: t)).length : Int) - ((c :: t).length : Int) = n + 1 + ((stf m t).length : Int) - t.length := by
        simp only [stf, if_pos hq, List.length_cons]; omega
      rw [e]
      exact ih
    · refine Ev.neg hq ?_
      have ih := SizeS_l0 m hm l hl hb t (i + 1) n e2 h0 (by omega)
      have e : n + ((stf m (c :: t)).length : Int) - ((c :: t).length : Int) = n + ((stf m t).length : Int) - t.length := by
        simp only [stf, if_neg hq, List.length_cons]; omega
      rw [e]
      exact ih
theorem SizeS (m : Int) (hm : U32 m) (l : List Int) (hl : Lim l) (hb : Bytes l) : Ev (fun k => stuff_Size.f k m l) ((stf m l).length : Int) := by
  unfold stuff_Size.f
  have h := SizeS_l0 m hm l hl hb l 0 (l.length : Int) rfl (by omega) (by unfold Lim at hl; omega)
  rw [show (l.length : Int) + ((stf m l).length : Int) - l.length = (stf m l).length by omega] at h
  exact h
theorem StuffS_l0 (m : Int) (hm : U32 m) (l : List Int) (hl : Lim l) (hb : Bytes l) : ∀ (t : List Int) (i : Nat) (x : List Int), l.drop i = t → x.length + 2 * t.length ≤ 4000000 →
    Ev (fun k => stuff_Stuff.l0 k m x l (l.length : Int) i) (x ++ stf m t)
  | [], i, x, h, h2 => by
    have h3 := drop_nil_len h
    exact Ev.step (fun k => by simp only [stuff_Stuff.l0]; rw [if_neg (by omega)]) (Ev.end_ (by simp [stf]))
  | c :: t, i, x, h, h2 => by
    obtain ⟨e1, e2, e3⟩ := rd_drop h
    have hc := bytesAt hb h
    simp only [List.length_cons] at h2
    unfold Lim at hl
    refine Ev.step (fun k => by simp only [stuff_Stuff.l0]; rw [if_pos (by omega), if_pos (by omega), if_pos (by omega), e1, suc i (by omega)]) ?_
    refine Ev.bind (MustA hm hc) ?_
    by_cases hq : must m c = true
    · refine Ev.pos hq (Ev.pos (by omega) (Ev.name (Ev.pos (by simp; omega) ?_)))
      have ih := StuffS_l0 m hm l hl hb t (i + 1) ((x ++ [125]) ++ [tn c]) e2 (by simp; omega)
      rw [show x ++ stf m (c :: t) = ((x ++ [125]) ++ [tn c]) ++ stf m t by simp only [stf, if_pos hq]; simp]
      exact ih
    · refine Ev.neg hq (Ev.pos (by omega) ?_)
      have ih := StuffS_l0 m hm l hl hb t (i + 1) (x ++ [c]) e2 (by simp; omega)
      rw [show x ++ stf m (c :: t) = (x ++ [c]) ++ stf m t by simp only [stf, if_neg hq]; simp]
      exact ih
theorem StuffS (m : Int) (hm : U32 m) (l : List Int) (hl : Lim l) (hb : Bytes l) : Ev (fun k => stuff_Stuff.f k m l) (stf m l) := by
  unfold stuff_Stuff.f
  have h1 := (stf_len m l).2
  refine Ev.bind (SizeS m hm l hl hb) (Ev.pos (by omega) (Ev.pos (by unfold Lim at hl; omega) ?_))
  exact StuffS_l0 m hm l hl hb l 0 [] rfl (by unfold Lim at hl; simp; omega)
/-! ### octets, read -/
/-! ### wrapped -/
theorem Concat3 (a b c : List Int) (ha : Lim a) (hb : Lim b) (hc : Lim c) : Ev (fun k => slices_Concat_byte_byte.f k [a, b, c]) (a ++ b ++ c) := by
  unfold Lim at ha hb hc
  unfold slices_Concat_byte_byte.f
  have r0 : rd_L1 [a, b, c] 0 = a := rfl
  have r1 : rd_L1 [a, b, c] 1 = b := rfl
  have r2 : rd_L1 [a, b, c] 2 = c := rfl
  have w0 : wrap64 (0 + (a.length : Int)) = a.length := w64 (by omega) (by omega) |>.trans (by omega)
  have w1 : wrap64 ((a.length : Int) + b.length) = a.length + b.length := w64 (by omega) (by omega)
  have w2 : wrap64 ((a.length : Int) + b.length + c.length) = a.length + b.length + c.length := w64 (by omega) (by omega)
  have v0 : wrap64 (0 + 1 : Int) = 1 := w64 (by omega) (by omega)
  have v1 : wrap64 (1 + 1 : Int) = 2 := w64 (by omega) (by omega)
  have v2 : wrap64 (2 + 1 : Int) = 3 := w64 (by omega) (by omega)
  refine Ev.step (fun k => by simp only [slices_Concat_byte_byte.l0]; rw [if_pos (by simp), if_pos (by omega), if_pos (by simp), r0, w0, if_neg (by omega), v0]) ?_
  refine Ev.step (fun k => by simp only [slices_Concat_byte_byte.l0]; rw [if_pos (by simp), if_pos (by omega), if_pos (by simp), r1, w1, if_neg (by omega), v1]) ?_
  refine Ev.step (fun k => by simp only [slices_Concat_byte_byte.l0]; rw [if_pos (by simp), if_pos (by omega), if_pos (by simp), r2, w2, if_neg (by omega), v2]) ?_
  refine Ev.step (fun k => by simp only [slices_Concat_byte_byte.l0]; rw [if_neg (by simp)]) ?_
  have hg : slices_Grow_byte_byte.f ([] : List Int) ((a.length : Int) + b.length + c.length) = some [] := by
    unfold slices_Grow_byte_byte.f
    rw [if_pos (by omega), if_pos (by omega)]
  rw [hg]
  refine Ev.name ?_
  refine Ev.step (fun k => by simp only [slices_Concat_byte_byte.l1]; rw [if_pos (by simp), if_pos (by omega), if_pos (by simp), r0, if_pos (by simp only [List.length_nil]; omega), v0, List.nil_append]) ?_
  refine Ev.step (fun k => by simp only [slices_Concat_byte_byte.l1]; rw [if_pos (by simp), if_pos (by omega), if_pos (by simp), r1, if_pos (by omega), v1]) ?_
  refine Ev.step (fun k => by simp only [slices_Concat_byte_byte.l1]; rw [if_pos (by simp), if_pos (by omega), if_pos (by simp), r2, if_pos (by rw [List.length_append]; omega), v2]) ?_
  exact Ev.step (fun k => by simp only [slices_Concat_byte_byte.l1]; rw [if_neg (by simp)]) (Ev.now _)
theorem WrapS (m : Int) (hm : U32 m) (l : List Int) (hl : l.length ≤ 400000) (hb : Bytes l) : Ev (fun k => async_Wrap.f k m l) ([126] ++ stf m l ++ [126]) := by
  unfold async_Wrap.f
  have h := stf_len m l
  exact Ev.bind (StuffS m hm l (by unfold Lim; omega) hb) (Ev.bind (Concat3 [126] (stf m l) [126] (by unfold Lim; simp) (by unfold Lim; omega) (by unfold Lim; simp)) (Ev.now _))
end Go.Proofs.Ytjmclghjhnbafaa.Sp

/- A text that a program of this claim (wip/x) laid out of the translation: what Go functions come to, and that they come to it. Lean checks it. -/
namespace Go.Proofs.Ytjmclghjhnbafaa.Print
open Go.RowKit Go.Proofs.YtjmclghjhnbafaaW.PrintWords Go.Proofs.YtjmclghjhnbafaaW.PrintLast Go.Proofs.YtjmclghjhnbafaaW.PrintMore
attribute [local go_sem] max2_int min2_int max_two min_two max_three min_three max_four min_four   -- for this text's walks alone
set_option linter.unusedVariables false
set_option linter.unusedSimpArgs false

/-! ### marlinelaw05_same: function 15 -/
def marlinelaw05_same.l0 : Nat → List (S34) → List (S34) → Int → Int → Option (Bool)
  | 0, _, _, _, _ => none
  | k + 1, x0, x1, x12, x13 => if x13 < x12 then (if 0 ≤ x13 then (if x13 < (x0.length : Int) then (if x13 < (x1.length : Int) then (if ((rd_T34 x0 x13).f0) = ((rd_T34 x1 x13).f0) then ((marlineref01_Equal.f k ((rd_T34 x0 x13).f1) ((rd_T34 x1 x13).f1)).bind fun t162 => (if t162 = true then (marlinelaw05_same.l0 k x0 x1 x12 (wrap64 (x13 + 1))) else (some false))) else (some false)) else (none)) else (none)) else (none)) else (some true)
def marlinelaw05_same.f (k : Nat) (l0 : List (S34)) (l1 : List (S34)) : Option (Bool) := if (l0.length : Int) = (l1.length : Int) then (marlinelaw05_same.l0 k l0 l1 (l0.length : Int) 0) else (some false)
theorem marlinelaw05_same.mono_l : ∀ k, (∀ y0 y1 y2 y3, LeO (marlinelaw05_same.l0 k y0 y1 y2 y3) (marlinelaw05_same.l0 (k + 1) y0 y1 y2 y3))
  | 0 => fun _ _ _ _ r h => by simp [marlinelaw05_same.l0] at h
  | k + 1 => by
    have ih0 := marlinelaw05_same.mono_l k
    · intro y0 y1 y2 y3
      unfold marlinelaw05_same.l0
      repeat' first
      | (with_reducible exact ih0 _ _ _ _)
      | (with_reducible exact marlineref01_Equal.mono _ _ _)
      | (with_reducible exact LeO.refl _)
      | (with_reducible exact LeO.none _)
      | (with_reducible refine LeO.ite ?_ ?_)
      | (with_reducible refine LeO.bind ?_ (fun _ => ?_))
      | exact ih0 _ _ _ _
      | exact marlineref01_Equal.mono _ _ _
      | exact LeO.none _
      | refine LeO.ite ?_ ?_
      | refine LeO.bind ?_ (fun _ => ?_)
theorem marlinelaw05_same.mono : ∀ a0 a1 k, LeO (marlinelaw05_same.f k a0 a1) (marlinelaw05_same.f (k + 1) a0 a1) := by
  intro a0 a1 k
  have ih0 := marlinelaw05_same.mono_l k
  unfold marlinelaw05_same.f
  repeat' first
      | (with_reducible exact ih0 _ _ _ _)
      | (with_reducible exact marlineref01_Equal.mono _ _ _)
      | (with_reducible exact LeO.refl _)
      | (with_reducible exact LeO.none _)
      | (with_reducible refine LeO.ite ?_ ?_)
      | (with_reducible refine LeO.bind ?_ (fun _ => ?_))
      | exact ih0 _ _ _ _
      | exact marlineref01_Equal.mono _ _ _
      | exact LeO.none _
      | refine LeO.ite ?_ ?_
      | refine LeO.bind ?_ (fun _ => ?_)
set_option maxHeartbeats 8000000 in
set_option maxRecDepth 100000 in
theorem marlinelaw05_same.calls (k : Nat) (A0 : Option Addr) (c0 : Nat) (l0 : List (S34)) (A1 : Option Addr) (c1 : Nat) (l1 : List (S34)) (r : Bool) (w : World) (hr0 : Kd.C k34 w A0 l0.length l0) (hc0 : l0.length ≤ c0) (hr1 : Kd.C k34 w A1 l1.length l1) (hc1 : l1.length ≤ c1) (h : marlinelaw05_same.f k l0 l1 = some r) :
    Calls Try.prog 15 #[.slice A0 l0.length c0, .slice A1 l1.length c1] w fun e w' => e = .returned (.bool r) ∧ Drawn0 w w' := by
  have HR0 := Aside0.mk hr0
  have HC0 := Aside0.mk hc0
  clear hr0 hc0
  have HR1 := Aside0.mk hr1
  have HC1 := Aside0.mk hc1
  clear hr1 hc1
  have H : (if (l0.length : Int) = (l1.length : Int) then (marlinelaw05_same.l0 k l0 l1 (l0.length : Int) 0) else (some false)) = some r := h
  clear h
  by_cases c3 : (l0.length : Int) = (l1.length : Int)
  · rw [if_pos c3] at H
    have c3b0 : ((l0.length : Int) == (l1.length : Int)) = true := beq_iff_eq.mpr c3
    have c3b1 : ((l0.length : Int) != (l1.length : Int)) = false := bne_eq_false_iff_eq.mpr c3
    have c3b2 : (l0.length == l1.length) = true := by first | simpa using c3 | (simp at c3 ⊢; omega)
    clear c3
    have H' := Aside0.mk H
    clear H
    go_enter Try.func15, Try.ntmps15
    go_wp2
    repeat (go_quiet (fail); try go_wp2)
    go_loopg [13] k (fun kq v13 w' => ∃ (x13_1 : Int), v13 = .int .i64 x13_1 ∧ Aside0 (marlinelaw05_same.l0 kq l0 l1 (l0.length : Int) x13_1 = some r) ∧ Aside0 (kq ≤ k) ∧ Drawn0 w w')
    case atStart => exact ⟨(0), (by first | rfl | (simp; done) | (simp [*]; done)), H', ⟨Nat.le_refl _⟩, by repeat (first | exact Drawn0.refl _ | apply Drawn0.step)⟩
    case round =>
      clear H'
      try clear c1
      try clear p2
      try clear c3
      try clear c3b0
      try clear c3b1
      try clear c3b2
      obtain ⟨x13_1, rfl, HA, HK1, ⟨m1, rfl⟩⟩ := hrel
      cases gk with
      | zero => exact absurd HA.out (by simp [marlinelaw05_same.l0])
      | succ k1 =>
        have H := HA.out
        clear HA
        simp only [marlinelaw05_same.l0] at H
        by_cases c4 : x13_1 < (l0.length : Int)
        · rw [if_pos c4] at H
          have c4b0 : decide (x13_1 < (l0.length : Int)) = true := decide_eq_true c4
          clear c4
          by_cases c5 : 0 ≤ x13_1
          · rw [if_pos c5] at H
            have c5b0 : decide (0 ≤ x13_1) = true := decide_eq_true c5
            clear c5
            by_cases c6 : x13_1 < (l0.length : Int)
            · rw [if_pos c6] at H
              have c6b0 : decide (x13_1 < (l0.length : Int)) = true := decide_eq_true c6
              clear c6
              by_cases c7 : x13_1 < (l1.length : Int)
              · rw [if_pos c7] at H
                have c7b0 : decide (x13_1 < (l1.length : Int)) = true := decide_eq_true c7
                clear c7
                by_cases c8 : ((rd_T34 l0 x13_1).f0) = ((rd_T34 l1 x13_1).f0)
                · rw [if_pos c8] at H
                  have c8b0 : (((rd_T34 l0 x13_1).f0) == ((rd_T34 l1 x13_1).f0)) = true := beq_iff_eq.mpr c8
                  have c8b1 : (((rd_T34 l0 x13_1).f0) != ((rd_T34 l1 x13_1).f0)) = false := bne_eq_false_iff_eq.mpr c8
                  clear c8
                  replace H := Option.bind_eq_some_iff.mp H
                  obtain ⟨t162, A90, H⟩ := H
                  replace H : (if t162 = true then (marlinelaw05_same.l0 k1 l0 l1 (l0.length : Int) (wrap64 (x13_1 + 1))) else (some false)) = some r := H
                  have A9 := Aside0.mk A90
                  clear A90
                  by_cases c10 : t162 = true
                  · subst c10
                    have H1 : (marlinelaw05_same.l0 k1 l0 l1 (l0.length : Int) (wrap64 (x13_1 + 1))) = some r := by rw [if_pos rfl] at H; exact H
                    clear H
                    have H := H1
                    clear H1
                    have H' := Aside0.mk H
                    clear H
                    have p158 : 0 ≤ (x13_1 : Int) := of_decide_eq_true (by first | (with_reducible assumption) | assumption)
                    have q158 : x13_1 < (l0.length : Int) := of_decide_eq_true (by first | (with_reducible assumption) | assumption)
                    (try clear hHeld)
                    obtain ⟨ad158, A158_1, c158_1, e158, hx158_0, hx158_1, hl158_1, hi158_1⟩ := at_T34 HR0.out x13_1 p158 q158
                    cases e158
                    have HR158_1 := Aside0.mk hi158_1
                    have HC158_1 := Aside0.mk hl158_1
                    clear hi158_1 hl158_1
                    replace p158 := eq_true p158
                    replace q158 := eq_true q158
                    have p159 : 0 ≤ (x13_1 : Int) := of_decide_eq_true (by first | (with_reducible assumption) | assumption)
                    have q159 : x13_1 < (l1.length : Int) := of_decide_eq_true (by first | (with_reducible assumption) | assumption)
                    (try clear hHeld)
                    obtain ⟨ad159, A159_1, c159_1, e159, hx159_0, hx159_1, hl159_1, hi159_1⟩ := at_T34 HR1.out x13_1 p159 q159
                    cases e159
                    have HR159_1 := Aside0.mk hi159_1
                    have HC159_1 := Aside0.mk hl159_1
                    clear hi159_1 hl159_1
                    replace p159 := eq_true p159
                    replace q159 := eq_true q159
                    have p160 : 0 ≤ (x13_1 : Int) := of_decide_eq_true (by first | (with_reducible assumption) | assumption)
                    have q160 : x13_1 < (l0.length : Int) := of_decide_eq_true (by first | (with_reducible assumption) | assumption)
                    (try clear hHeld)
                    obtain ⟨ad160, A160_1, c160_1, e160, hx160_0, hx160_1, hl160_1, hi160_1⟩ := at_T34 HR0.out x13_1 p160 q160
                    obtain rfl : ad158 = ad160 := (by injection e160)
                    have HR160_1 := Aside0.mk hi160_1
                    have HC160_1 := Aside0.mk hl160_1
                    clear hi160_1 hl160_1
                    replace p160 := eq_true p160
                    replace q160 := eq_true q160
                    have ea_ := Option.some.inj (hx158_1.symm.trans hx160_1)
                    injection ea_ with ea_ en_ ec_
                    subst ea_
                    subst ec_
                    clear en_
                    have p161 : 0 ≤ (x13_1 : Int) := of_decide_eq_true (by first | (with_reducible assumption) | assumption)
                    have q161 : x13_1 < (l1.length : Int) := of_decide_eq_true (by first | (with_reducible assumption) | assumption)
                    (try clear hHeld)
                    obtain ⟨ad161, A161_1, c161_1, e161, hx161_0, hx161_1, hl161_1, hi161_1⟩ := at_T34 HR1.out x13_1 p161 q161
                    obtain rfl : ad159 = ad161 := (by injection e161)
                    have HR161_1 := Aside0.mk hi161_1
                    have HC161_1 := Aside0.mk hl161_1
                    clear hi161_1 hl161_1
                    replace p161 := eq_true p161
                    replace q161 := eq_true q161
                    have ea_ := Option.some.inj (hx159_1.symm.trans hx161_1)
                    injection ea_ with ea_ en_ ec_
                    subst ea_
                    subst ec_
                    clear en_
                    go_wp2_with (first | (go_at_call 17; (with_reducible refine (marlineref01_Equal.calls k1 _ _ ((rd_T34 l0 x13_1).f1) _ _ ((rd_T34 l1 x13_1).f1) true _ ?side1 ?side2 ?side3 ?side4 A9.out).mono ?_); (case side1 => repeat (first | exact HR160_1.out | (with_reducible refine Kd.C_alloc ?_ _) | (with_reducible refine Kd.C_drewN ?_ _) | (with_reducible refine Kd.C_drew ?_))); (case side2 => exact HC160_1.out); (case side3 => repeat (first | exact HR161_1.out | (with_reducible refine Kd.C_alloc ?_ _) | (with_reducible refine Kd.C_drewN ?_ _) | (with_reducible refine Kd.C_drew ?_))); (case side4 => exact HC161_1.out); rintro e w' ⟨rfl, ⟨nd, rfl⟩⟩; (try first | exact ⟨rfl, _, World.drewN_drewN _ _ _⟩ | exact ⟨rfl, _, Eq.trans (World.drewN_drewN _ _ _) (congrArg (World.drewN _) (Nat.add_assoc _ _ _))⟩)))
                    repeat (go_quiet (first | (go_at_call 17; (with_reducible refine (marlineref01_Equal.calls k1 _ _ ((rd_T34 l0 x13_1).f1) _ _ ((rd_T34 l1 x13_1).f1) true _ ?side1 ?side2 ?side3 ?side4 A9.out).mono ?_); (case side1 => repeat (first | exact HR160_1.out | (with_reducible refine Kd.C_alloc ?_ _) | (with_reducible refine Kd.C_drewN ?_ _) | (with_reducible refine Kd.C_drew ?_))); (case side2 => exact HC160_1.out); (case side3 => repeat (first | exact HR161_1.out | (with_reducible refine Kd.C_alloc ?_ _) | (with_reducible refine Kd.C_drewN ?_ _) | (with_reducible refine Kd.C_drew ?_))); (case side4 => exact HC161_1.out); rintro e w' ⟨rfl, ⟨nd, rfl⟩⟩; (try first | exact ⟨rfl, _, World.drewN_drewN _ _ _⟩ | exact ⟨rfl, _, Eq.trans (World.drewN_drewN _ _ _) (congrArg (World.drewN _) (Nat.add_assoc _ _ _))⟩))); try go_wp2_with (first | (go_at_call 17; (with_reducible refine (marlineref01_Equal.calls k1 _ _ ((rd_T34 l0 x13_1).f1) _ _ ((rd_T34 l1 x13_1).f1) true _ ?side1 ?side2 ?side3 ?side4 A9.out).mono ?_); (case side1 => repeat (first | exact HR160_1.out | (with_reducible refine Kd.C_alloc ?_ _) | (with_reducible refine Kd.C_drewN ?_ _) | (with_reducible refine Kd.C_drew ?_))); (case side2 => exact HC160_1.out); (case side3 => repeat (first | exact HR161_1.out | (with_reducible refine Kd.C_alloc ?_ _) | (with_reducible refine Kd.C_drewN ?_ _) | (with_reducible refine Kd.C_drew ?_))); (case side4 => exact HC161_1.out); rintro e w' ⟨rfl, ⟨nd, rfl⟩⟩; (try first | exact ⟨rfl, _, World.drewN_drewN _ _ _⟩ | exact ⟨rfl, _, Eq.trans (World.drewN_drewN _ _ _) (congrArg (World.drewN _) (Nat.add_assoc _ _ _))⟩))))
                    go_roundg k1
                    case measure => have := HK1.out; omega
                    case rel => exact ⟨(wrap64 (x13_1 + 1)), (by first | rfl | (simp; done) | (simp [*]; done)), H', ⟨by have := HK1.out; omega⟩, by repeat (first | exact Drawn0.refl _ | apply Drawn0.step)⟩
                  · replace c10 := Bool.eq_false_iff.mpr c10
                    subst c10
                    have H1 : (some false) = some r := by rw [if_neg (show ¬ (false = true) by decide)] at H; exact H
                    clear H
                    have H := H1
                    clear H1
                    obtain rfl := Option.some.inj H
                    have p158 : 0 ≤ (x13_1 : Int) := of_decide_eq_true (by first | (with_reducible assumption) | assumption)
                    have q158 : x13_1 < (l0.length : Int) := of_decide_eq_true (by first | (with_reducible assumption) | assumption)
                    (try clear hHeld)
                    obtain ⟨ad158, A158_1, c158_1, e158, hx158_0, hx158_1, hl158_1, hi158_1⟩ := at_T34 HR0.out x13_1 p158 q158
                    cases e158
                    have HR158_1 := Aside0.mk hi158_1
                    have HC158_1 := Aside0.mk hl158_1
                    clear hi158_1 hl158_1
                    replace p158 := eq_true p158
                    replace q158 := eq_true q158
                    have p159 : 0 ≤ (x13_1 : Int) := of_decide_eq_true (by first | (with_reducible assumption) | assumption)
                    have q159 : x13_1 < (l1.length : Int) := of_decide_eq_true (by first | (with_reducible assumption) | assumption)
                    (try clear hHeld)
                    obtain ⟨ad159, A159_1, c159_1, e159, hx159_0, hx159_1, hl159_1, hi159_1⟩ := at_T34 HR1.out x13_1 p159 q159
                    cases e159
                    have HR159_1 := Aside0.mk hi159_1
                    have HC159_1 := Aside0.mk hl159_1
                    clear hi159_1 hl159_1
                    replace p159 := eq_true p159
                    replace q159 := eq_true q159
                    have p160 : 0 ≤ (x13_1 : Int) := of_decide_eq_true (by first | (with_reducible assumption) | assumption)
                    have q160 : x13_1 < (l0.length : Int) := of_decide_eq_true (by first | (with_reducible assumption) | assumption)
                    (try clear hHeld)
                    obtain ⟨ad160, A160_1, c160_1, e160, hx160_0, hx160_1, hl160_1, hi160_1⟩ := at_T34 HR0.out x13_1 p160 q160
                    obtain rfl : ad158 = ad160 := (by injection e160)
                    have HR160_1 := Aside0.mk hi160_1
                    have HC160_1 := Aside0.mk hl160_1
                    clear hi160_1 hl160_1
                    replace p160 := eq_true p160
                    replace q160 := eq_true q160
                    have ea_ := Option.some.inj (hx158_1.symm.trans hx160_1)
                    injection ea_ with ea_ en_ ec_
                    subst ea_
                    subst ec_
                    clear en_
                    have p161 : 0 ≤ (x13_1 : Int) := of_decide_eq_true (by first | (with_reducible assumption) | assumption)
                    have q161 : x13_1 < (l1.length : Int) := of_decide_eq_true (by first | (with_reducible assumption) | assumption)
                    (try clear hHeld)
                    obtain ⟨ad161, A161_1, c161_1, e161, hx161_0, hx161_1, hl161_1, hi161_1⟩ := at_T34 HR1.out x13_1 p161 q161
                    obtain rfl : ad159 = ad161 := (by injection e161)
                    have HR161_1 := Aside0.mk hi161_1
                    have HC161_1 := Aside0.mk hl161_1
                    clear hi161_1 hl161_1
                    replace p161 := eq_true p161
                    replace q161 := eq_true q161
                    have ea_ := Option.some.inj (hx159_1.symm.trans hx161_1)
                    injection ea_ with ea_ en_ ec_
                    subst ea_
                    subst ec_
                    clear en_
                    go_wp2_with (first | (go_at_call 17; (with_reducible refine (marlineref01_Equal.calls k1 _ _ ((rd_T34 l0 x13_1).f1) _ _ ((rd_T34 l1 x13_1).f1) false _ ?side1 ?side2 ?side3 ?side4 A9.out).mono ?_); (case side1 => repeat (first | exact HR160_1.out | (with_reducible refine Kd.C_alloc ?_ _) | (with_reducible refine Kd.C_drewN ?_ _) | (with_reducible refine Kd.C_drew ?_))); (case side2 => exact HC160_1.out); (case side3 => repeat (first | exact HR161_1.out | (with_reducible refine Kd.C_alloc ?_ _) | (with_reducible refine Kd.C_drewN ?_ _) | (with_reducible refine Kd.C_drew ?_))); (case side4 => exact HC161_1.out); rintro e w' ⟨rfl, ⟨nd, rfl⟩⟩; (try first | exact ⟨rfl, _, World.drewN_drewN _ _ _⟩ | exact ⟨rfl, _, Eq.trans (World.drewN_drewN _ _ _) (congrArg (World.drewN _) (Nat.add_assoc _ _ _))⟩)))
                    repeat (go_quiet (first | (go_at_call 17; (with_reducible refine (marlineref01_Equal.calls k1 _ _ ((rd_T34 l0 x13_1).f1) _ _ ((rd_T34 l1 x13_1).f1) false _ ?side1 ?side2 ?side3 ?side4 A9.out).mono ?_); (case side1 => repeat (first | exact HR160_1.out | (with_reducible refine Kd.C_alloc ?_ _) | (with_reducible refine Kd.C_drewN ?_ _) | (with_reducible refine Kd.C_drew ?_))); (case side2 => exact HC160_1.out); (case side3 => repeat (first | exact HR161_1.out | (with_reducible refine Kd.C_alloc ?_ _) | (with_reducible refine Kd.C_drewN ?_ _) | (with_reducible refine Kd.C_drew ?_))); (case side4 => exact HC161_1.out); rintro e w' ⟨rfl, ⟨nd, rfl⟩⟩; (try first | exact ⟨rfl, _, World.drewN_drewN _ _ _⟩ | exact ⟨rfl, _, Eq.trans (World.drewN_drewN _ _ _) (congrArg (World.drewN _) (Nat.add_assoc _ _ _))⟩))); try go_wp2_with (first | (go_at_call 17; (with_reducible refine (marlineref01_Equal.calls k1 _ _ ((rd_T34 l0 x13_1).f1) _ _ ((rd_T34 l1 x13_1).f1) false _ ?side1 ?side2 ?side3 ?side4 A9.out).mono ?_); (case side1 => repeat (first | exact HR160_1.out | (with_reducible refine Kd.C_alloc ?_ _) | (with_reducible refine Kd.C_drewN ?_ _) | (with_reducible refine Kd.C_drew ?_))); (case side2 => exact HC160_1.out); (case side3 => repeat (first | exact HR161_1.out | (with_reducible refine Kd.C_alloc ?_ _) | (with_reducible refine Kd.C_drewN ?_ _) | (with_reducible refine Kd.C_drew ?_))); (case side4 => exact HC161_1.out); rintro e w' ⟨rfl, ⟨nd, rfl⟩⟩; (try first | exact ⟨rfl, _, World.drewN_drewN _ _ _⟩ | exact ⟨rfl, _, Eq.trans (World.drewN_drewN _ _ _) (congrArg (World.drewN _) (Nat.add_assoc _ _ _))⟩))))
                    go_ret
                    exact ⟨by first | rfl | (simp; done) | (simp [*]; done), by repeat (first | exact Drawn0.refl _ | apply Drawn0.step)⟩
                · rw [if_neg c8] at H
                  have c8b0 : (((rd_T34 l0 x13_1).f0) == ((rd_T34 l1 x13_1).f0)) = false := beq_eq_false_iff_ne.mpr c8
                  have c8b1 : (((rd_T34 l0 x13_1).f0) != ((rd_T34 l1 x13_1).f0)) = true := bne_iff_ne.mpr c8
                  obtain rfl := Option.some.inj H
                  have p158 : 0 ≤ (x13_1 : Int) := of_decide_eq_true (by first | (with_reducible assumption) | assumption)
                  have q158 : x13_1 < (l0.length : Int) := of_decide_eq_true (by first | (with_reducible assumption) | assumption)
                  (try clear hHeld)
                  obtain ⟨ad158, A158_1, c158_1, e158, hx158_0, hx158_1, hl158_1, hi158_1⟩ := at_T34 HR0.out x13_1 p158 q158
                  cases e158
                  have HR158_1 := Aside0.mk hi158_1
                  have HC158_1 := Aside0.mk hl158_1
                  clear hi158_1 hl158_1
                  replace p158 := eq_true p158
                  replace q158 := eq_true q158
                  have p159 : 0 ≤ (x13_1 : Int) := of_decide_eq_true (by first | (with_reducible assumption) | assumption)
                  have q159 : x13_1 < (l1.length : Int) := of_decide_eq_true (by first | (with_reducible assumption) | assumption)
                  (try clear hHeld)
                  obtain ⟨ad159, A159_1, c159_1, e159, hx159_0, hx159_1, hl159_1, hi159_1⟩ := at_T34 HR1.out x13_1 p159 q159
                  cases e159
                  have HR159_1 := Aside0.mk hi159_1
                  have HC159_1 := Aside0.mk hl159_1
                  clear hi159_1 hl159_1
                  replace p159 := eq_true p159
                  replace q159 := eq_true q159
                  go_wp2
                  repeat (go_quiet (fail); try go_wp2)
                  go_ret
                  exact ⟨by first | rfl | (simp; done) | (simp [*]; done), by repeat (first | exact Drawn0.refl _ | apply Drawn0.step)⟩
              · rw [if_neg c7] at H
                exact absurd H (by simp)
            · rw [if_neg c6] at H
              exact absurd H (by simp)
          · rw [if_neg c5] at H
            exact absurd H (by simp)
        · rw [if_neg c4] at H
          have c4b0 : decide (x13_1 < (l0.length : Int)) = false := decide_eq_false c4
          clear c4
          obtain rfl := Option.some.inj H
          go_wp2
          repeat (go_quiet (fail); try go_wp2)
          go_ret
          exact ⟨by first | rfl | (simp; done) | (simp [*]; done), by repeat (first | exact Drawn0.refl _ | apply Drawn0.step)⟩
  · rw [if_neg c3] at H
    have c3b0 : ((l0.length : Int) == (l1.length : Int)) = false := beq_eq_false_iff_ne.mpr c3
    have c3b1 : ((l0.length : Int) != (l1.length : Int)) = true := bne_iff_ne.mpr c3
    have c3b2 : (l0.length == l1.length) = false := by first | simpa using c3 | (simp at c3 ⊢; omega)
    obtain rfl := Option.some.inj H
    go_enter Try.func15, Try.ntmps15
    go_wp2
    repeat (go_quiet (fail); try go_wp2)
    go_ret
    exact ⟨by first | rfl | (simp; done) | (simp [*]; done), by repeat (first | exact Drawn0.refl _ | apply Drawn0.step)⟩

end Go.Proofs.Ytjmclghjhnbafaa.Print

/- A text that a program of this claim (wip/x) laid out of the translation: what Go functions come to, and that they come to it. Lean checks it. -/
namespace Go.Proofs.Ytjmclghjhnbafaa.Print
open Go.RowKit Go.Proofs.YtjmclghjhnbafaaW.PrintWords Go.Proofs.YtjmclghjhnbafaaW.PrintLast Go.Proofs.YtjmclghjhnbafaaW.PrintMore
attribute [local go_sem] max2_int min2_int max_two min_two max_three min_three max_four min_four   -- for this text's walks alone
set_option linter.unusedVariables false
set_option linter.unusedSimpArgs false

/-! ### marlinelaw05_right: function 12 -/
def marlinelaw05_right.l0 : Nat → Int → List (List Int) → Int → List (List Int) → Int → Int → Option (Bool)
  | 0, _, _, _, _, _, _ => none
  | k + 1, x0, x1, x5, x8, x9, x10 => if x10 < x9 then (if 0 ≤ x10 then (if x10 < (x8.length : Int) then (marlinelaw05_right.l0 k x0 x1 (wrap64 (x5 + ((rd_L1 x8 x10).length : Int))) x8 x9 (wrap64 (x10 + 1))) else (none)) else (none)) else (if x0 ≥ 1 then (if x0 ≤ 1048576 then (if (x1.length : Int) ≤ 60 then (some (decide (x5 ≤ 600))) else (some false)) else (some false)) else (some false))
def marlinelaw05_right.f (k : Nat) (a0 : Int) (l1 : List (List Int)) : Option (Bool) := marlinelaw05_right.l0 k a0 l1 0 l1 (l1.length : Int) 0
theorem marlinelaw05_right.mono_l : ∀ k, (∀ y0 y1 y2 y3 y4 y5, LeO (marlinelaw05_right.l0 k y0 y1 y2 y3 y4 y5) (marlinelaw05_right.l0 (k + 1) y0 y1 y2 y3 y4 y5))
  | 0 => fun _ _ _ _ _ _ r h => by simp [marlinelaw05_right.l0] at h
  | k + 1 => by
    have ih0 := marlinelaw05_right.mono_l k
    · intro y0 y1 y2 y3 y4 y5
      unfold marlinelaw05_right.l0
      repeat' first
      | (with_reducible exact ih0 _ _ _ _ _ _)
      | (with_reducible exact LeO.refl _)
      | (with_reducible exact LeO.none _)
      | (with_reducible refine LeO.ite ?_ ?_)
      | (with_reducible refine LeO.bind ?_ (fun _ => ?_))
      | exact ih0 _ _ _ _ _ _
      | exact LeO.none _
      | refine LeO.ite ?_ ?_
      | refine LeO.bind ?_ (fun _ => ?_)
theorem marlinelaw05_right.mono : ∀ a0 a1 k, LeO (marlinelaw05_right.f k a0 a1) (marlinelaw05_right.f (k + 1) a0 a1) := by
  intro a0 a1 k
  have ih0 := marlinelaw05_right.mono_l k
  unfold marlinelaw05_right.f
  repeat' first
      | (with_reducible exact ih0 _ _ _ _ _ _)
      | (with_reducible exact LeO.refl _)
      | (with_reducible exact LeO.none _)
      | (with_reducible refine LeO.ite ?_ ?_)
      | (with_reducible refine LeO.bind ?_ (fun _ => ?_))
      | exact ih0 _ _ _ _ _ _
      | exact LeO.none _
      | refine LeO.ite ?_ ?_
      | refine LeO.bind ?_ (fun _ => ?_)
set_option maxHeartbeats 8000000 in
set_option maxRecDepth 100000 in
theorem marlinelaw05_right.calls (k : Nat) (a0 : Int) (A1 : Option Addr) (c1 : Nat) (l1 : List (List Int)) (r : Bool) (w : World) (hr1 : Kd.C (Kd.slice 5 (Kd.int .u8)) w A1 l1.length l1) (hc1 : l1.length ≤ c1) (h : marlinelaw05_right.f k a0 l1 = some r) :
    Calls Try.prog 12 #[.int .i64 a0, .slice A1 l1.length c1] w fun e w' => e = .returned (.bool r) ∧ Drawn0 w w' := by
  have HR1 := Aside0.mk hr1
  have HC1 := Aside0.mk hc1
  clear hr1 hc1
  have H : (marlinelaw05_right.l0 k a0 l1 0 l1 (l1.length : Int) 0) = some r := h
  clear h
  have H' := Aside0.mk H
  clear H
  go_enter Try.func12, Try.ntmps12
  go_wp2
  go_loopg [5, 10] k (fun kq v5 v10 w' => ∃ (x5_1 : Int) (x10_1 : Int), v5 = .int .i64 x5_1 ∧ v10 = .int .i64 x10_1 ∧ Aside0 (marlinelaw05_right.l0 kq a0 l1 x5_1 l1 (l1.length : Int) x10_1 = some r) ∧ Aside0 (kq ≤ k) ∧ Drawn0 w w')
  case atStart => exact ⟨(0), (0), (by first | rfl | (simp; done) | (simp [*]; done)), (by first | rfl | (simp; done) | (simp [*]; done)), H', ⟨Nat.le_refl _⟩, by repeat (first | exact Drawn0.refl _ | apply Drawn0.step)⟩
  case round =>
    clear H'
    try clear c1
    try clear p2
    obtain ⟨x5_1, x10_1, rfl, rfl, HA, HK1, ⟨m1, rfl⟩⟩ := hrel
    cases gk with
    | zero => exact absurd HA.out (by simp [marlinelaw05_right.l0])
    | succ k1 =>
      have H := HA.out
      clear HA
      simp only [marlinelaw05_right.l0] at H
      by_cases c3 : x10_1 < (l1.length : Int)
      · rw [if_pos c3] at H
        have c3b0 : decide (x10_1 < (l1.length : Int)) = true := decide_eq_true c3
        clear c3
        by_cases c4 : 0 ≤ x10_1
        · rw [if_pos c4] at H
          have c4b0 : decide (0 ≤ x10_1) = true := decide_eq_true c4
          clear c4
          by_cases c5 : x10_1 < (l1.length : Int)
          · rw [if_pos c5] at H
            have c5b0 : decide (x10_1 < (l1.length : Int)) = true := decide_eq_true c5
            clear c5
            have H' := Aside0.mk H
            clear H
            have p157 : 0 ≤ (x10_1 : Int) := of_decide_eq_true (by first | (with_reducible assumption) | assumption)
            have q157 : x10_1 < (l1.length : Int) := of_decide_eq_true (by first | (with_reducible assumption) | assumption)
            (try clear hHeld)
            obtain ⟨ad157, A157_0, c157_0, e157, hx157_0, hl157_0, hi157_0⟩ := at_L1 HR1.out x10_1 p157 q157
            cases e157
            have HR157_0 := Aside0.mk hi157_0
            have HC157_0 := Aside0.mk hl157_0
            clear hi157_0 hl157_0
            replace p157 := eq_true p157
            replace q157 := eq_true q157
            go_wp2
            go_roundg k1
            case measure => have := HK1.out; omega
            case rel => exact ⟨(wrap64 (x5_1 + ((rd_L1 l1 x10_1).length : Int))), (wrap64 (x10_1 + 1)), (by first | rfl | (simp; done) | (simp [*]; done)), (by first | rfl | (simp; done) | (simp [*]; done)), H', ⟨by have := HK1.out; omega⟩, by repeat (first | exact Drawn0.refl _ | apply Drawn0.step)⟩
          · rw [if_neg c5] at H
            exact absurd H (by simp)
        · rw [if_neg c4] at H
          exact absurd H (by simp)
      · rw [if_neg c3] at H
        have c3b0 : decide (x10_1 < (l1.length : Int)) = false := decide_eq_false c3
        clear c3
        by_cases c6 : a0 ≥ 1
        · rw [if_pos c6] at H
          have c6b0 : decide (1 ≤ a0) = true := decide_eq_true c6
          clear c6
          by_cases c7 : a0 ≤ 1048576
          · rw [if_pos c7] at H
            have c7b0 : decide (a0 ≤ 1048576) = true := decide_eq_true c7
            clear c7
            by_cases c8 : (l1.length : Int) ≤ 60
            · rw [if_pos c8] at H
              have c8b0 : decide ((l1.length : Int) ≤ 60) = true := decide_eq_true c8
              have c8b1 : decide (l1.length ≤ 60) = true := decide_eq_true (by omega)
              clear c8
              obtain rfl := Option.some.inj H
              go_wp2
              go_ret
              exact ⟨by first | rfl | (simp; done) | (simp [*]; done), by repeat (first | exact Drawn0.refl _ | apply Drawn0.step)⟩
            · rw [if_neg c8] at H
              have c8b0 : decide ((l1.length : Int) ≤ 60) = false := decide_eq_false c8
              have c8b1 : decide (l1.length ≤ 60) = false := decide_eq_false (by omega)
              clear c8
              obtain rfl := Option.some.inj H
              go_wp2
              go_ret
              exact ⟨by first | rfl | (simp; done) | (simp [*]; done), by repeat (first | exact Drawn0.refl _ | apply Drawn0.step)⟩
          · rw [if_neg c7] at H
            have c7b0 : decide (a0 ≤ 1048576) = false := decide_eq_false c7
            clear c7
            obtain rfl := Option.some.inj H
            go_wp2
            go_ret
            exact ⟨by first | rfl | (simp; done) | (simp [*]; done), by repeat (first | exact Drawn0.refl _ | apply Drawn0.step)⟩
        · rw [if_neg c6] at H
          have c6b0 : decide (1 ≤ a0) = false := decide_eq_false c6
          clear c6
          obtain rfl := Option.some.inj H
          go_wp2
          go_ret
          exact ⟨by first | rfl | (simp; done) | (simp [*]; done), by repeat (first | exact Drawn0.refl _ | apply Drawn0.step)⟩

end Go.Proofs.Ytjmclghjhnbafaa.Print

/- The asynchronous deframer as a fold, in plain words: chunks joined, how much is told and kept; speaks, same and right of its laws. -/
namespace Go.Proofs.Ytjmclghjhnbafaa.Sp
open Go.RowKit Go.Proofs.Ytjmclghjhnbafaa.Print Go.Proofs.YtjmclghjhnbafaaW.PrintWords Go.Proofs.YtjmclghjhnbafaaW.PrintLast Go.Proofs.Ytjmclghjhnbafaa.Pl
set_option linter.unusedVariables false
theorem dstep_out (r m : Int) (o : List S34) (s : Dst) (c : Int) : dstep r m (o, s) c = (o ++ (dstep r m ([], s) c).1, (dstep r m ([], s) c).2) := by
  unfold dstep
  by_cases h1 : c = 126
  · simp only [if_pos h1]
    by_cases h2 : s.any = true <;> simp [h2]
  · simp only [if_neg h1]
    by_cases h2 : hasb r c = true
    · simp [h2]
    · simp only [if_neg h2]
      by_cases h3 : s.esc = true
      · simp [h3]
      · simp only [if_neg h3]
        by_cases h4 : c = 125 <;> simp [h4]
theorem dfold_out (r m : Int) : ∀ (l : List Int) (o : List S34) (s : Dst), l.foldl (dstep r m) (o, s) = (o ++ (dfeed r m s l).1, (dfeed r m s l).2)
  | [], o, s => by simp [dfeed]
  | c :: t, o, s => by
    unfold dfeed
    rw [List.foldl_cons, List.foldl_cons, dstep_out r m o s c]
    rw [dfold_out r m t (o ++ (dstep r m ([], s) c).1) (dstep r m ([], s) c).2]
    have h := dfold_out r m t (dstep r m ([], s) c).1 (dstep r m ([], s) c).2
    rw [show ((dstep r m ([], s) c).1, (dstep r m ([], s) c).2) = dstep r m ([], s) c from rfl] at h
    rw [h, List.append_assoc]
theorem dfeed_append (r m : Int) (s : Dst) (a b : List Int) : dfeed r m s (a ++ b) = ((dfeed r m s a).1 ++ (dfeed r m (dfeed r m s a).2 b).1, (dfeed r m (dfeed r m s a).2 b).2) := by
  have h := dfold_out r m b (dfeed r m s a).1 (dfeed r m s a).2
  rw [show ((dfeed r m s a).1, (dfeed r m s a).2) = dfeed r m s a from rfl] at h
  rw [← h]
  unfold dfeed
  rw [List.foldl_append]
theorem dput_len (m : Int) (xs : List Int) (l : Bool) (c : Int) : (dput m xs l c).1.length ≤ xs.length + 1 := by
  unfold dput
  split <;> simp
theorem dseg_len (xs : List Int) (e l : Bool) : (dseg xs e l).length ≤ xs.length := by
  unfold dseg
  split
  · simp
  · split <;> simp
theorem dstep_len (r m : Int) (s : Dst) (c : Int) : (dstep r m ([], s) c).1.length ≤ 1 ∧ (∀ x ∈ (dstep r m ([], s) c).1, x.f1.length ≤ s.data.length) ∧ (dstep r m ([], s) c).2.data.length ≤ s.data.length + 1 := by
  unfold dstep
  by_cases h1 : c = 126
  · simp only [if_pos h1]
    by_cases h2 : s.any = true
    · have := dseg_len s.data s.esc s.long
      simp [h2]; exact this
    · simp [h2]
  · simp only [if_neg h1]
    by_cases h2 : hasb r c = true
    · simp [h2]
    · simp only [if_neg h2]
      by_cases h3 : s.esc = true
      · have := dput_len m s.data s.long (Go.bits .xor .u8 c 32)
        simp [h3]; exact this
      · simp only [if_neg h3]
        by_cases h4 : c = 125
        · simp [h4]
        · have := dput_len m s.data s.long c
          simp [h4]; exact this
theorem dfeed_len (r m : Int) : ∀ (l : List Int) (s : Dst), (dfeed r m s l).1.length ≤ l.length ∧ (∀ x ∈ (dfeed r m s l).1, x.f1.length ≤ s.data.length + l.length) ∧ (dfeed r m s l).2.data.length ≤ s.data.length + l.length
  | [], s => by simp [dfeed]
  | c :: t, s => by
    have e : dfeed r m s (c :: t) = ((dstep r m ([], s) c).1 ++ (dfeed r m (dstep r m ([], s) c).2 t).1, (dfeed r m (dstep r m ([], s) c).2 t).2) := by
      have h := dfold_out r m t (dstep r m ([], s) c).1 (dstep r m ([], s) c).2
      rw [show ((dstep r m ([], s) c).1, (dstep r m ([], s) c).2) = dstep r m ([], s) c from rfl] at h
      rw [← h]
      rfl
    obtain ⟨a1, a2, a3⟩ := dstep_len r m s c
    obtain ⟨b1, b2, b3⟩ := dfeed_len r m t (dstep r m ([], s) c).2
    rw [e]
    simp only [List.length_append, List.length_cons]
    refine ⟨by omega, ?_, by omega⟩
    intro x hx
    rcases List.mem_append.1 hx with hx | hx
    · have := a2 x hx; omega
    · have := b2 x hx; omega
/-- Feed's function is the fold, where the chunk is short and its octets are octets. -/
theorem FeedD (r m : Int) (s : Dst) (l : List Int) (hl : l.length ≤ 100000) (hd : s.data.length ≤ 1000000) (hb : Bytes l) :
    async_Deframer_Feed.f r m s.data s.any s.esc s.long l = some ((dfeed r m s l).1, (dfeed r m s l).2.data, (dfeed r m s l).2.any, (dfeed r m s l).2.esc, (dfeed r m s l).2.long) := by
  unfold async_Deframer_Feed.f
  rw [if_pos ⟨hl, by omega, List.all_eq_true.2 (fun x hx => decide_eq_true (hb x hx).1)⟩]
def d0 : Dst := ⟨[], false, false, false⟩
theorem dfeed_speaks : (dfeed 0 9 d0 [126, 1, 125, 94, 126]).1 = [⟨0, [1, 126]⟩] := by kernel_rfl
theorem Speaks05 : Ev (fun k => marlinelaw05_speaks.f k) true := by
  unfold marlinelaw05_speaks.f
  have h := FeedD 0 9 d0 [126, 1, 125, 94, 126] (by simp) (by simp [d0]) (bytes_lit (by decide))
  rw [show d0.data = [] from rfl, show d0.any = false from rfl, show d0.esc = false from rfl, show d0.long = false from rfl] at h
  rw [h]
  refine Ev.name ?_
  simp only [dfeed_speaks]
  refine Ev.pos (by simp) (Ev.pos (by simp) (Ev.pos rfl ?_))
  refine Ev.bind (Equal [1, 126] [1, 126] (by unfold Lim; simp)) ?_
  refine Ev.pos (by simp) ?_
  exact Ev.bind (WrapS 0 (by constructor <;> omega) [] (by simp) Bytes.nil) (Ev.end_ (by simp [stf]))
/-! ### same -/
def SegsOk (l : List S34) : Prop := l.length ≤ 1000000 ∧ ∀ s ∈ l, Lim s.f1
theorem rdT_drop {xs : List S34} {i : Nat} {b : S34} {t : List S34} (h : xs.drop i = b :: t) : rd_T34 xs (i : Int) = b ∧ xs.drop (i + 1) = t ∧ i < xs.length := by
  have h1 : i < xs.length := by
    apply Decidable.byContradiction
    intro hn
    rw [List.drop_of_length_le (by omega)] at h
    cases h
  have h2 := List.drop_eq_getElem_cons h1
  rw [h] at h2
  injection h2 with h3 h4
  refine ⟨?_, h4.symm, h1⟩
  unfold rd_T34
  rw [Int.toNat_natCast, List.getD_eq_getElem?_getD, List.getElem?_eq_getElem h1]
  exact h3.symm
theorem Same_l0 (l : List S34) (ok : SegsOk l) : ∀ (t : List S34) (i : Nat), l.drop i = t → Ev (fun k => marlinelaw05_same.l0 k l l (l.length : Int) i) true
  | [], i, h => by
    have h3 : l.length ≤ i := by
      have := congrArg List.length h
      simp at this; omega
    exact Ev.step (fun k => by simp only [marlinelaw05_same.l0]; rw [if_neg (by omega)]) (Ev.end_ rfl)
  | c :: t, i, h => by
    obtain ⟨e1, e2, e3⟩ := rdT_drop h
    have h0 := ok.1
    have hc : Lim c.f1 := ok.2 c (by
      have : c ∈ l.drop i := by rw [h]; simp
      exact List.mem_of_mem_drop this)
    refine Ev.step (fun k => by simp only [marlinelaw05_same.l0]; rw [if_pos (by omega), if_pos (by omega), if_pos (by omega), if_pos (by omega), if_pos trivial, e1, suc i (by omega)]) ?_
    refine Ev.bind (Equal c.f1 c.f1 hc) (Ev.pos (by simp) ?_)
    exact Same_l0 l ok t (i + 1) e2
theorem SameD (l : List S34) (ok : SegsOk l) : Ev (fun k => marlinelaw05_same.f k l l) true := by
  unfold marlinelaw05_same.f
  exact Ev.pos rfl (Same_l0 l ok l 0 rfl)
/-! ### right -/
def tot : List (List Int) → Int
  | [] => 0
  | c :: t => c.length + tot t
theorem tot_nn (l : List (List Int)) : 0 ≤ tot l := by
  induction l with
  | nil => simp [tot]
  | cons c t ih => simp only [tot]; omega
def SegsLim (l : List (List Int)) : Prop := ∀ c ∈ l, (c.length : Int) ≤ 140737488351232
theorem rdL_drop {xs : List (List Int)} {i : Nat} {b : List Int} {t : List (List Int)} (h : xs.drop i = b :: t) : rd_L1 xs (i : Int) = b ∧ xs.drop (i + 1) = t ∧ i < xs.length := by
  have h1 : i < xs.length := by
    apply Decidable.byContradiction
    intro hn
    rw [List.drop_of_length_le (by omega)] at h
    cases h
  have h2 := List.drop_eq_getElem_cons h1
  rw [h] at h2
  injection h2 with h3 h4
  refine ⟨?_, h4.symm, h1⟩
  unfold rd_L1
  rw [Int.toNat_natCast, List.getD_eq_getElem?_getD, List.getElem?_eq_getElem h1]
  exact h3.symm
theorem dropL_nil {xs : List (List Int)} {i : Nat} (h : xs.drop i = []) : xs.length ≤ i := by
  have := congrArg List.length h
  simp at this; omega
/-- What right answers: whether few octets, where the chunks are no more than 60; no matter what where there are more. -/
theorem Right_l0 (m : Int) (l : List (List Int)) (hs : SegsLim l) (hl : l.length ≤ 5864062014634) : ∀ (t : List (List Int)) (i : Nat) (n : Int), l.drop i = t →
    ∃ n' : Int, (l.length ≤ 60 → 0 ≤ n → n + 140737488351232 * t.length ≤ 140737488351232 * 60 → n' = n + tot t) ∧ Ev (fun k => marlinelaw05_right.l0 k m l n l (l.length : Int) i) (if m ≥ 1 ∧ m ≤ 1048576 ∧ (l.length : Int) ≤ 60 then decide (n' ≤ 600) else false)
  | [], i, n, h => by
    have h3 := dropL_nil h
    refine ⟨n, fun _ _ _ => by simp [tot], Ev.step (fun k => by simp only [marlinelaw05_right.l0]; rw [if_neg (by omega)]) ?_⟩
    by_cases h1 : m ≥ 1
    · refine Ev.pos h1 ?_
      by_cases h2 : m ≤ 1048576
      · refine Ev.pos h2 ?_
        by_cases h4 : (l.length : Int) ≤ 60
        · exact Ev.pos h4 (Ev.end_ (by rw [if_pos ⟨h1, h2, h4⟩]))
        · exact Ev.neg h4 (Ev.end_ (by rw [if_neg (fun h => h4 h.2.2)]))
      · exact Ev.neg h2 (Ev.end_ (by rw [if_neg (fun h => h2 h.2.1)]))
    · exact Ev.neg h1 (Ev.end_ (by rw [if_neg (fun h => h1 h.1)]))
  | c :: t, i, n, h => by
    obtain ⟨e1, e2, e3⟩ := rdL_drop h
    have hc := hs c (List.mem_of_mem_drop (by rw [h]; simp : c ∈ l.drop i))
    obtain ⟨n', k1, k2⟩ := Right_l0 m l hs hl t (i + 1) (wrap64 (n + c.length)) e2
    refine ⟨n', ?_, Ev.step (fun k => by simp only [marlinelaw05_right.l0]; rw [if_pos (by omega), if_pos (by omega), if_pos (by omega), e1, show wrap64 ((i : Int) + 1) = ((i + 1 : Nat) : Int) by rw [w64 (by omega) (by omega)]; omega]) k2⟩
    intro a b d
    simp only [List.length_cons] at d
    have w : wrap64 (n + c.length) = n + c.length := w64 (by omega) (by omega)
    rw [w] at k1
    rw [k1 a (by omega) (by omega)]
    simp only [tot]
    omega
theorem RightD (m : Int) (l : List (List Int)) (hs : SegsLim l) (hl : l.length ≤ 5864062014634) : ∃ b : Bool, (b = true → 1 ≤ m ∧ m ≤ 1048576 ∧ l.length ≤ 60 ∧ tot l ≤ 600) ∧ Ev (fun k => marlinelaw05_right.f k m l) b := by
  obtain ⟨n', k1, k2⟩ := Right_l0 m l hs hl l 0 0 rfl
  refine ⟨_, ?_, k2⟩
  intro h
  by_cases h1 : m ≥ 1 ∧ m ≤ 1048576 ∧ (l.length : Int) ≤ 60
  · rw [if_pos h1, decide_eq_true_iff] at h
    have := k1 (by omega) (by omega) (by omega)
    exact ⟨by omega, by omega, by omega, by omega⟩
  · rw [if_neg h1] at h; cases h
end Go.Proofs.Ytjmclghjhnbafaa.Sp

/- What AsyncBounds needs, in plain words: how much is told; a segment of the map's octets alone tells nothing. -/
namespace Go.Proofs.Ytjmclghjhnbafaa.Sp
open Go.RowKit Go.Proofs.Ytjmclghjhnbafaa.Print Go.Proofs.YtjmclghjhnbafaaW.PrintWords Go.Proofs.YtjmclghjhnbafaaW.PrintLast Go.Proofs.Ytjmclghjhnbafaa.Pl
set_option linter.unusedVariables false
/-! ### the reference's map -/
theorem hasb_has {m c : Int} (h : U32 m) (hc : Byte c) : hasb m c = has m c := bitsHas h hc
theorem Has3_l0 (m c : Int) (hm : U32 m) (hc : Byte c) (h31 : c ≤ 31) : ∀ (n i : Nat), c = (i : Int) + n → Ev (fun k => marlineref03_Has.l0 k (m / 2 ^ i) c i) (has m c)
  | 0, i, h => by
    refine Ev.step (fun k => by simp only [marlineref03_Has.l0]; rw [if_neg (by omega)]) (Ev.end_ ?_)
    have e : c.toNat = i := by omega
    unfold has
    rw [e]
    have h1 := (div_u32 hm i).1
    rw [Int.tmod_eq_emod_of_nonneg h1, Bool.eq_iff_iff]
    simp
  | n + 1, i, h => by
    have h1 := (div_u32 hm i).1
    have h2 := div_u32 hm (i + 1)
    have e : (Int.tdiv (m / 2 ^ i) 2) % 4294967296 = m / 2 ^ (i + 1) := by
      rw [Int.tdiv_eq_ediv_of_nonneg h1, Int.ediv_ediv_of_nonneg (Int.le_of_lt (Int.pow_pos (by omega))), ← Int.pow_succ]
      exact Int.emod_eq_of_lt h2.1 h2.2
    have e2 : ((i : Int) + 1) % 256 = ((i + 1 : Nat) : Int) := by omega
    refine Ev.step (fun k => by simp only [marlineref03_Has.l0]; rw [if_pos (by omega), e, e2]) ?_
    exact Has3_l0 m c hm hc h31 n (i + 1) (by omega)
theorem Has3 {m c : Int} (hm : U32 m) (hc : Byte c) : Ev (fun k => marlineref03_Has.f k m c) (has m c) := by
  unfold marlineref03_Has.f
  by_cases h : c > 31
  · rw [has_big hm (by omega)]
    exact Ev.pos h (Ev.now _)
  · refine Ev.neg h ?_
    have h0 := hc.1
    have hq := Has3_l0 m c hm hc (by omega) c.toNat 0 (by omega)
    rw [show m / 2 ^ 0 = m by simp] at hq
    exact hq
/-! ### what is left -/
def lft (m : Int) (l : List Int) : List Int := l.filter fun c => !has m c
theorem Left_l0 (m : Int) (hm : U32 m) (l : List Int) (hl : l.length ≤ 1000) (hb : Bytes l) : ∀ (t : List Int) (i : Nat) (x : List Int), l.drop i = t → x.length ≤ i → i ≤ l.length →
    Ev (fun k => marlineref04_Left.l0 k m l x i) (x ++ lft m t)
  | [], i, x, h, hx, hi => by
    have h3 := drop_nil_len h
    exact Ev.step (fun k => by simp only [marlineref04_Left.l0]; rw [if_neg (by omega)]) (Ev.end_ (by simp [lft]))
  | c :: t, i, x, h, hx, hi => by
    obtain ⟨e1, e2, e3⟩ := rd_drop h
    have hc := bytesAt hb h
    refine Ev.step (fun k => by simp only [marlineref04_Left.l0]; rw [if_pos (by omega), if_pos (by omega), e1, suc i (by omega)]) ?_
    refine Ev.bind (Has3 hm hc) ?_
    by_cases hq : has m c = true
    · have ih := Left_l0 m hm l hl hb t (i + 1) x e2 (by omega) (by omega)
      rw [show lft m (c :: t) = lft m t by simp [lft, hq]]
      exact Ev.pos hq ih
    · have ih := Left_l0 m hm l hl hb t (i + 1) (x ++ [c]) e2 (by rw [List.length_append]; simp; omega) (by omega)
      rw [show x ++ lft m (c :: t) = (x ++ [c]) ++ lft m t by simp [lft, hq]]
      exact Ev.neg hq (Ev.pos (by omega) ih)
theorem LeftD (m : Int) (hm : U32 m) (l : List Int) (hl : l.length ≤ 1000) (hb : Bytes l) : Ev (fun k => marlineref04_Left.f k m l) (lft m l) := by
  unfold marlineref04_Left.f
  exact Left_l0 m hm l hl hb l 0 [] rfl (by simp) (by omega)
theorem lft_len (m : Int) (l : List Int) : (lft m l).length ≤ l.length := List.length_filter_le _ _
theorem lft_bytes {m : Int} {l : List Int} (h : Bytes l) : Bytes (lft m l) := fun x hx => h x ((List.mem_filter.1 hx).1)
/-- What the map has plays no part. -/
theorem dstep_has (r m : Int) (p : List S34 × Dst) (c : Int) (h1 : c ≠ 126) (h : hasb r c = true) : dstep r m p c = p := by
  unfold dstep
  rw [if_neg h1, if_pos h]
theorem dfold_lft (r m : Int) (hr : U32 r) : ∀ (l : List Int) (p : List S34 × Dst), Bytes l → (lft r l).foldl (dstep r m) p = l.foldl (dstep r m) p
  | [], p, hb => rfl
  | c :: t, p, hb => by
    by_cases hq : has r c = true
    · rw [show lft r (c :: t) = lft r t by simp [lft, hq], dfold_lft r m hr t p hb.tail, List.foldl_cons]
      rw [dstep_has r m p c (fun h => by rw [h, has_big hr (by omega)] at hq; cases hq) (by rw [hasb_has hr hb.head]; exact hq)]
    · rw [show lft r (c :: t) = c :: lft r t by simp [lft, hq], List.foldl_cons, List.foldl_cons]
      exact dfold_lft r m hr t _ hb.tail
/-! ### how much is told -/
def cnt : List Int → Nat
  | [] => 0
  | c :: t => (if c = 126 then 1 else 0) + cnt t
theorem cnt_len (l : List Int) : cnt l ≤ l.length := by
  induction l with
  | nil => simp [cnt]
  | cons c t ih => simp only [cnt, List.length_cons]; split <;> omega
def sum : List S34 → Nat
  | [] => 0
  | s :: t => s.f1.length + sum t
theorem sum_append (a b : List S34) : sum (a ++ b) = sum a + sum b := by
  induction a with
  | nil => simp [sum]
  | cons s t ih => simp only [List.cons_append, sum, ih]; omega
/-- A segment as the layer may tell it. -/
def Good (m : Int) (s : S34) : Prop := (s.f0 = 0 → 0 < s.f1.length) ∧ (s.f0 ≠ 0 → s.f1.length = 0) ∧ (s.f1.length : Int) ≤ m
/-- What is kept: no more than fits; and where it is neither escaped nor too long, and something came, there is an octet. -/
def Kept5 (m : Int) (s : Dst) : Prop := (s.data.length : Int) ≤ m ∧ (s.any = true → s.esc = false → s.long = false → 0 < s.data.length)
theorem dput_kept {m : Int} (h1 : 1 ≤ m) {xs : List Int} (l : Bool) (c : Int) (h : (xs.length : Int) ≤ m) : ((dput m xs l c).1.length : Int) ≤ m ∧ 0 < (dput m xs l c).1.length := by
  unfold dput
  by_cases e : (xs.length : Int) = m
  · rw [if_pos e]; simp only; omega
  · rw [if_neg e]; simp only [List.length_append, List.length_cons, List.length_nil]; omega
theorem dstep_good (r m : Int) (h1 : 1 ≤ m) (s : Dst) (c : Int) (hk : Kept5 m s) : (∀ x ∈ (dstep r m ([], s) c).1, Good m x) ∧ Kept5 m (dstep r m ([], s) c).2 ∧
    sum (dstep r m ([], s) c).1 + (dstep r m ([], s) c).2.data.length + (if c = 126 then 1 else 0) ≤ s.data.length + 1 ∧ (dstep r m ([], s) c).1.length ≤ (if c = 126 then 1 else 0) := by
  unfold dstep
  by_cases e1 : c = 126
  · simp only [if_pos e1]
    by_cases e2 : s.any = true
    · simp only [if_pos e2, List.nil_append]
      have hl := dseg_len s.data s.esc s.long
      refine ⟨?_, ⟨by simp only [List.length_nil]; omega, fun h => by cases h⟩, by simp only [sum, List.length_nil]; omega, by simp⟩
      intro x hx
      rw [List.mem_singleton.1 hx]
      have hk2 := hk.2 e2
      have hk1 := hk.1
      refine ⟨?_, ?_, by simp only; omega⟩
      · intro h0
        simp only at h0 ⊢
        unfold dkind at h0
        cases he : s.esc with
        | true => rw [he] at h0; simp at h0
        | false =>
          cases hl2 : s.long with
          | true => rw [he, hl2] at h0; simp at h0
          | false => unfold dseg; simp; exact hk2 he hl2
      · intro h0
        simp only at h0 ⊢
        unfold dkind at h0
        unfold dseg
        cases he : s.esc with
        | true => simp
        | false =>
          cases hl2 : s.long with
          | true => simp
          | false => rw [he, hl2] at h0; simp at h0
    · simp only [if_neg e2]
      exact ⟨fun x hx => by simp at hx, ⟨by simp only [List.length_nil]; omega, fun h => by cases h⟩, by simp only [sum, List.length_nil]; omega, by simp⟩
  · simp only [if_neg e1]
    by_cases e2 : hasb r c = true
    · simp only [if_pos e2]
      exact ⟨fun x hx => by simp at hx, hk, by simp only [sum]; omega, by simp⟩
    · simp only [if_neg e2]
      by_cases e3 : s.esc = true
      · simp only [if_pos e3]
        have h := dput_kept h1 s.long (Go.bits .xor .u8 c 32) hk.1
        have h2 := dput_len m s.data s.long (Go.bits .xor .u8 c 32)
        exact ⟨fun x hx => by simp at hx, ⟨h.1, fun _ _ _ => h.2⟩, by simp only [sum]; omega, by simp⟩
      · simp only [if_neg e3]
        by_cases e4 : c = 125
        · simp only [if_pos e4]
          exact ⟨fun x hx => by simp at hx, ⟨hk.1, fun _ h => by cases h⟩, by simp only [sum]; omega, by simp⟩
        · simp only [if_neg e4]
          have h := dput_kept h1 s.long c hk.1
          have h2 := dput_len m s.data s.long c
          exact ⟨fun x hx => by simp at hx, ⟨h.1, fun _ _ _ => h.2⟩, by simp only [sum]; omega, by simp⟩
theorem dfeed_good (r m : Int) (h1 : 1 ≤ m) : ∀ (l : List Int) (s : Dst), Kept5 m s → (∀ x ∈ (dfeed r m s l).1, Good m x) ∧ sum (dfeed r m s l).1 + cnt l ≤ s.data.length + l.length ∧ (dfeed r m s l).1.length ≤ cnt l
  | [], s, hk => by simp [dfeed, sum, cnt]
  | c :: t, s, hk => by
    have e : dfeed r m s (c :: t) = ((dstep r m ([], s) c).1 ++ (dfeed r m (dstep r m ([], s) c).2 t).1, (dfeed r m (dstep r m ([], s) c).2 t).2) := by
      have h := dfold_out r m t (dstep r m ([], s) c).1 (dstep r m ([], s) c).2
      rw [show ((dstep r m ([], s) c).1, (dstep r m ([], s) c).2) = dstep r m ([], s) c from rfl] at h
      rw [← h]
      rfl
    obtain ⟨a1, a2, a3, a4⟩ := dstep_good r m h1 s c hk
    obtain ⟨b1, b2, b3⟩ := dfeed_good r m h1 t (dstep r m ([], s) c).2 a2
    rw [e]
    simp only [cnt, List.length_append, List.length_cons, sum_append]
    refine ⟨?_, by omega, by omega⟩
    intro x hx
    rcases List.mem_append.1 hx with hx | hx
    · exact a1 x hx
    · exact b1 x hx
end Go.Proofs.Ytjmclghjhnbafaa.Sp

/- The reference of layer 5, in plain words: octets read, a segment told. -/
namespace Go.Proofs.Ytjmclghjhnbafaa.Sp
open Go.RowKit Go.Proofs.Ytjmclghjhnbafaa.Print Go.Proofs.YtjmclghjhnbafaaW.PrintWords Go.Proofs.YtjmclghjhnbafaaW.PrintLast Go.Proofs.Ytjmclghjhnbafaa.Pl
set_option linter.unusedVariables false
def rdR : List Int → List Int → Bool → List Int × Bool
  | [], x, e => (x, !e)
  | c :: t, x, e => if e = true then rdR t (x ++ [tn c]) false else if c = 125 then rdR t x true else rdR t (x ++ [c]) e
theorem rdR_len : ∀ (l x : List Int) (e : Bool), (rdR l x e).1.length ≤ x.length + l.length
  | [], x, e => by simp [rdR]
  | c :: t, x, e => by
    simp only [rdR, List.length_cons]
    split
    · have := rdR_len t (x ++ [tn c]) false; simp only [List.length_append, List.length_cons, List.length_nil] at this; omega
    · split
      · have := rdR_len t x true; omega
      · have := rdR_len t (x ++ [c]) e; simp only [List.length_append, List.length_cons, List.length_nil] at this; omega
theorem ReadR_l0 (l : List Int) (hl : l.length ≤ 1000) : ∀ (t : List Int) (i : Nat) (x : List Int) (e : Bool), l.drop i = t → x.length ≤ i → i ≤ l.length → Ev (fun k => marlineref04_Read.l0 k l x e i) (rdR t x e)
  | [], i, x, e, h, hx, hi => by
    have h3 := drop_nil_len h
    exact Ev.step (fun k => by simp only [marlineref04_Read.l0]; rw [if_neg (by omega)]) (Ev.end_ (by simp [rdR]))
  | c :: t, i, x, e, h, hx, hi => by
    obtain ⟨e1, e2, e3⟩ := rd_drop h
    cases e with
    | true =>
      have ih := ReadR_l0 l hl t (i + 1) (x ++ [tn c]) false e2 (by simp only [List.length_append, List.length_cons, List.length_nil]; omega) (by omega)
      refine Ev.step (fun k => by simp only [marlineref04_Read.l0]; rw [if_pos (by omega), if_pos trivial, if_pos (by omega), e1, suc i (by omega)]) ?_
      rw [show rdR (c :: t) x true = rdR t (x ++ [tn c]) false by simp [rdR]]
      exact Ev.name (Ev.pos (by omega) ih)
    | false =>
      refine Ev.step (fun k => by simp only [marlineref04_Read.l0]; rw [if_pos (by omega), if_neg (by decide), if_pos (by omega), e1, suc i (by omega)]) ?_
      by_cases h5 : c = 125
      · have ih := ReadR_l0 l hl t (i + 1) x true e2 (by omega) (by omega)
        rw [show rdR (c :: t) x false = rdR t x true by simp [rdR, h5]]
        exact Ev.pos h5 ih
      · have ih := ReadR_l0 l hl t (i + 1) (x ++ [c]) false e2 (by simp only [List.length_append, List.length_cons, List.length_nil]; omega) (by omega)
        rw [show rdR (c :: t) x false = rdR t (x ++ [c]) false by simp [rdR, h5]]
        exact Ev.neg h5 (Ev.pos (by omega) ih)
theorem ReadR (l : List Int) (hl : l.length ≤ 1000) : Ev (fun k => marlineref04_Read.f k l) (rdR l [] false) := by
  unfold marlineref04_Read.f
  exact ReadR_l0 l hl l 0 [] false rfl (by simp) (by omega)
/-- What the reference tells of a segment. -/
def tellR (r m : Int) (l : List Int) : Int × List Int × Bool :=
  if (lft r l).length = 0 then (0, [], false) else if (rdR (lft r l) [] false).2 = true then (if ((rdR (lft r l) [] false).1.length : Int) > m then (4, [], true) else (0, (rdR (lft r l) [] false).1, true)) else (2, [], true)
theorem TellR (r m : Int) (hr : U32 r) (l : List Int) (hl : l.length ≤ 1000) (hb : Bytes l) : Ev (fun k => marlineref05_Tell.f k r m l) (tellR r m l) := by
  unfold marlineref05_Tell.f
  refine Ev.bind (LeftD r hr l hl hb) ?_
  have hll := lft_len r l
  by_cases h0 : (lft r l).length = 0
  · rw [show tellR r m l = (0, [], false) by unfold tellR; rw [if_pos h0]]
    exact Ev.pos (by omega) (Ev.now _)
  · refine Ev.neg (by omega) (Ev.bind (ReadR (lft r l) (by omega)) ?_)
    by_cases h1 : (rdR (lft r l) [] false).2 = true
    · by_cases h2 : ((rdR (lft r l) [] false).1.length : Int) > m
      · rw [show tellR r m l = (4, [], true) by unfold tellR; rw [if_neg h0, if_pos h1, if_pos h2]]
        exact Ev.pos h1 (Ev.pos h2 (Ev.now _))
      · rw [show tellR r m l = (0, (rdR (lft r l) [] false).1, true) by unfold tellR; rw [if_neg h0, if_pos h1, if_neg h2]]
        exact Ev.pos h1 (Ev.neg h2 (Ev.now _))
    · rw [show tellR r m l = (2, [], true) by unfold tellR; rw [if_neg h0, if_neg h1]]
      exact Ev.neg h1 (Ev.now _)
end Go.Proofs.Ytjmclghjhnbafaa.Sp

/- The reference of layer 5, in plain words: a stream, parted, and all that it tells. -/
namespace Go.Proofs.Ytjmclghjhnbafaa.Sp
open Go.RowKit Go.Proofs.Ytjmclghjhnbafaa.Print Go.Proofs.YtjmclghjhnbafaaW.PrintWords Go.Proofs.YtjmclghjhnbafaaW.PrintLast Go.Proofs.Ytjmclghjhnbafaa.Pl
set_option linter.unusedVariables false
def splitR : List Int → List Int → List (List Int)
  | cur, [] => []
  | cur, c :: t => if c = 126 then cur :: splitR [] t else splitR (cur ++ [c]) t
def restR : List Int → List Int → List Int
  | cur, [] => cur
  | cur, c :: t => if c = 126 then restR [] t else restR (cur ++ [c]) t
theorem splitR_len : ∀ (t cur : List Int), (splitR cur t).length ≤ t.length
  | [], cur => by simp [splitR]
  | c :: t, cur => by
    simp only [splitR, List.length_cons]
    split
    · have := splitR_len t []; simp only [List.length_cons]; omega
    · have := splitR_len t (cur ++ [c]); omega
theorem PartsR_l0 (l : List Int) (hl : l.length ≤ 1000) : ∀ (t : List Int) (i j : Nat) (x : List (List Int)), l.drop i = t → j ≤ i → i ≤ l.length → x.length ≤ i →
    Ev (fun k => marlineref05_Parts.l0 k l x j i) (x ++ splitR ((l.take i).drop j) t, restR ((l.take i).drop j) t)
  | [], i, j, x, h, hj, hi, hx => by
    have h3 := drop_nil_len h
    have e : l.take i = l := List.take_of_length_le h3
    refine Ev.step (fun k => by simp only [marlineref05_Parts.l0]; rw [if_neg (by omega), if_pos (by omega), if_pos (by omega)]) (Ev.end_ ?_)
    rw [e, Int.toNat_natCast]
    simp [splitR, restR]
  | c :: t, i, j, x, h, hj, hi, hx => by
    obtain ⟨e1, e2, e3⟩ := rd_drop h
    have ht : l.take (i + 1) = l.take i ++ [c] := by
      rw [List.take_add_one]
      have h5 := congrArg (·[0]?) h
      simp only [List.getElem?_drop, Nat.add_zero, List.getElem?_cons_zero] at h5
      rw [h5]
      rfl
    refine Ev.step (fun k => by simp only [marlineref05_Parts.l0]; rw [if_pos (by omega), if_pos (by omega), e1, suc i (by omega), Int.toNat_natCast, Int.toNat_natCast]) ?_
    by_cases h0 : c = 126
    · have ih := PartsR_l0 l hl t (i + 1) (i + 1) (x ++ [(l.take i).drop j]) e2 (by omega) (by omega) (by simp only [List.length_append, List.length_cons, List.length_nil]; omega)
      rw [show (l.take (i + 1)).drop (i + 1) = [] from List.drop_of_length_le (by rw [List.length_take]; omega), List.append_assoc] at ih
      refine Ev.pos h0 (Ev.pos (by omega) (Ev.pos (by omega) (Ev.pos (by omega) (Ev.pos (by omega) ?_))))
      simp only [splitR, restR, if_pos h0]
      exact ih
    · have ih := PartsR_l0 l hl t (i + 1) j x e2 (by omega) (by omega) (by omega)
      rw [ht, List.drop_append_of_le_length (by rw [List.length_take]; omega)] at ih
      refine Ev.neg h0 ?_
      simp only [splitR, restR, if_neg h0]
      exact ih
theorem PartsR (l : List Int) (hl : l.length ≤ 1000) : Ev (fun k => marlineref05_Parts.f k l) (splitR [] l, restR [] l) := by
  unfold marlineref05_Parts.f
  exact PartsR_l0 l hl l 0 0 [] rfl (by omega) (by omega) (by simp)
end Go.Proofs.Ytjmclghjhnbafaa.Sp

/- The fold of layer 5 over what holds no flag: it keeps what the reference reads. -/
namespace Go.Proofs.Ytjmclghjhnbafaa.Sp
open Go.RowKit Go.Proofs.Ytjmclghjhnbafaa.Print Go.Proofs.YtjmclghjhnbafaaW.PrintWords Go.Proofs.YtjmclghjhnbafaaW.PrintLast Go.Proofs.Ytjmclghjhnbafaa.Pl
set_option linter.unusedVariables false
theorem rdR_snoc (c : Int) : ∀ (l x : List Int) (e : Bool), rdR (l ++ [c]) x e = if (rdR l x e).2 = false then ((rdR l x e).1 ++ [tn c], true) else if c = 125 then ((rdR l x e).1, false) else ((rdR l x e).1 ++ [c], true)
  | [], x, e => by
    cases e with
    | true => simp [rdR]
    | false => by_cases h : c = 125 <;> simp [rdR, h]
  | d :: t, x, e => by
    simp only [List.cons_append, rdR]
    split
    · exact rdR_snoc c t _ _
    · split
      · exact rdR_snoc c t _ _
      · exact rdR_snoc c t _ _
/-- What is kept behind octets without a flag. -/
def stO (r m : Int) (cur : List Int) : Dst := ⟨(rdR (lft r cur) [] false).1.take m.toNat, !(lft r cur).isEmpty, !(rdR (lft r cur) [] false).2, decide (m < ((rdR (lft r cur) [] false).1.length : Int))⟩
theorem dput_take (m : Int) (h1 : 1 ≤ m) (p : List Int) (c : Int) : dput m (p.take m.toNat) (decide (m < (p.length : Int))) c = ((p ++ [c]).take m.toNat, decide (m < ((p ++ [c]).length : Int))) := by
  unfold dput
  by_cases h : (p.length : Int) < m
  · have e : p.take m.toNat = p := List.take_of_length_le (by omega)
    rw [e, if_neg (by omega), List.take_of_length_le (by rw [List.length_append]; simp; omega)]
    rw [decide_eq_false (by omega), decide_eq_false (by rw [List.length_append]; simp; omega)]
  · rw [if_pos (by rw [List.length_take]; omega), List.take_append_of_le_length (by omega), decide_eq_true (show m < ((p ++ [c]).length : Int) by rw [List.length_append]; simp; omega)]
theorem dstep_cur (r m : Int) (hr : U32 r) (h1 : 1 ≤ m) (cur : List Int) (c : Int) (hc : Byte c) (h0 : c ≠ 126) : dstep r m ([], stO r m cur) c = ([], stO r m (cur ++ [c])) := by
  by_cases hq : has r c = true
  · rw [dstep_has r m _ c h0 (by rw [hasb_has hr hc]; exact hq)]
    rw [show stO r m (cur ++ [c]) = stO r m cur by unfold stO; rw [show lft r (cur ++ [c]) = lft r cur by simp [lft, hq]]]
  · have e : lft r (cur ++ [c]) = lft r cur ++ [c] := by simp [lft, hq]
    have en : (!(lft r cur ++ [c]).isEmpty) = true := by simp
    unfold dstep
    rw [if_neg h0, if_neg (by rw [hasb_has hr hc]; exact hq)]
    unfold stO
    rw [e, rdR_snoc, en]
    simp only
    cases hp : (rdR (lft r cur) [] false).2 with
    | false =>
      have hd := dput_take m h1 (rdR (lft r cur) [] false).1 (Go.bits .xor .u8 c 32)
      simp only [Bool.not_false, if_true, hd]
      rfl
    | true =>
      by_cases h5 : c = 125
      · simp [h5]
      · have hd := dput_take m h1 (rdR (lft r cur) [] false).1 c
        simp only [Bool.not_true, if_neg h5, hd]
        simp
theorem dfeed_cur (r m : Int) (hr : U32 r) (h1 : 1 ≤ m) : ∀ (t cur : List Int), Bytes t → (∀ c ∈ t, c ≠ 126) → dfeed r m (stO r m cur) t = ([], stO r m (cur ++ t))
  | [], cur, hb, h0 => by simp [dfeed]
  | c :: t, cur, hb, h0 => by
    have ih := dfeed_cur r m hr h1 t (cur ++ [c]) hb.tail (fun x hx => h0 x (by simp [hx]))
    have e := dstep_cur r m hr h1 cur c hb.head (h0 c (by simp))
    unfold dfeed at ih ⊢
    rw [List.foldl_cons, e, ih, List.append_assoc]
    rfl
end Go.Proofs.Ytjmclghjhnbafaa.Sp

/- The reference of layer 5 tells of a stream what the fold tells. -/
namespace Go.Proofs.Ytjmclghjhnbafaa.Sp
open Go.RowKit Go.Proofs.Ytjmclghjhnbafaa.Print Go.Proofs.YtjmclghjhnbafaaW.PrintWords Go.Proofs.YtjmclghjhnbafaaW.PrintLast Go.Proofs.Ytjmclghjhnbafaa.Pl
set_option linter.unusedVariables false
def allR (r m : Int) : List (List Int) → List S65
  | [] => []
  | s :: t => if (tellR r m s).2.2 = true then ⟨(tellR r m s).1, (tellR r m s).2.1⟩ :: allR r m t else allR r m t
def s65 (s : S34) : S65 := ⟨s.f0, s.f1⟩
theorem stO_nil (r m : Int) (h1 : 1 ≤ m) : stO r m [] = d0 := by
  unfold stO d0
  simp [lft, rdR]
  omega
theorem dstep_flag (r m : Int) (cur : List Int) (t : List (List Int)) : allR r m (cur :: t) = (dstep r m ([], stO r m cur) 126).1.map s65 ++ allR r m t ∧ (dstep r m ([], stO r m cur) 126).2 = d0 := by
  refine ⟨?_, by unfold dstep; rw [if_pos rfl]; rfl⟩
  unfold dstep
  rw [if_pos rfl]
  simp only [allR]
  unfold tellR stO
  by_cases h0 : (lft r cur).length = 0
  · have e := List.length_eq_zero_iff.1 h0
    simp [e]
  · have e : (lft r cur).isEmpty = false := by
      cases hh : lft r cur with
      | nil => rw [hh] at h0; simp at h0
      | cons a b => rfl
    rw [if_neg h0, e]
    cases hp : (rdR (lft r cur) [] false).2 with
    | false => simp [dkind, dseg, s65]
    | true =>
      by_cases h2 : ((rdR (lft r cur) [] false).1.length : Int) > m
      · simp [dkind, dseg, s65, h2]
      · have e3 : (rdR (lft r cur) [] false).1.take m.toNat = (rdR (lft r cur) [] false).1 := List.take_of_length_le (by omega)
        simp [dkind, dseg, s65, h2, e3]
theorem dfeed_all (r m : Int) (hr : U32 r) (h1 : 1 ≤ m) : ∀ (t cur : List Int), Bytes t → allR r m (splitR cur t) = (dfeed r m (stO r m cur) t).1.map s65 ∧ (dfeed r m (stO r m cur) t).2 = stO r m (restR cur t)
  | [], cur, hb => by simp [dfeed, splitR, restR, allR]
  | c :: t, cur, hb => by
    have e : dfeed r m (stO r m cur) (c :: t) = ((dstep r m ([], stO r m cur) c).1 ++ (dfeed r m (dstep r m ([], stO r m cur) c).2 t).1, (dfeed r m (dstep r m ([], stO r m cur) c).2 t).2) := by
      have h := dfold_out r m t (dstep r m ([], stO r m cur) c).1 (dstep r m ([], stO r m cur) c).2
      rw [show ((dstep r m ([], stO r m cur) c).1, (dstep r m ([], stO r m cur) c).2) = dstep r m ([], stO r m cur) c from rfl] at h
      rw [← h]
      rfl
    rw [e]
    by_cases h0 : c = 126
    · subst h0
      obtain ⟨a1, a2⟩ := dstep_flag r m cur (splitR [] t)
      obtain ⟨b1, b2⟩ := dfeed_all r m hr h1 t [] hb.tail
      simp only [splitR, restR, if_pos trivial]
      rw [a1, a2, ← stO_nil r m h1, b1, List.map_append]
      exact ⟨rfl, b2⟩
    · have d := dstep_cur r m hr h1 cur c hb.head h0
      obtain ⟨b1, b2⟩ := dfeed_all r m hr h1 t (cur ++ [c]) hb.tail
      simp only [splitR, restR, if_neg h0]
      rw [d, List.nil_append]
      exact ⟨b1, b2⟩
end Go.Proofs.Ytjmclghjhnbafaa.Sp

/- The reference of layer 5: all that it tells; its list and the layer's compared. -/
namespace Go.Proofs.Ytjmclghjhnbafaa.Sp
open Go.RowKit Go.Proofs.Ytjmclghjhnbafaa.Print Go.Proofs.YtjmclghjhnbafaaW.PrintWords Go.Proofs.YtjmclghjhnbafaaW.PrintLast Go.Proofs.Ytjmclghjhnbafaa.Pl
set_option linter.unusedVariables false
theorem AllR_l0 (r m : Int) (hr : U32 r) (segs : List (List Int)) (hn : segs.length ≤ 1000) (hs : ∀ s ∈ segs, s.length ≤ 1000 ∧ Bytes s) : ∀ (t : List (List Int)) (i : Nat) (x : List S65), segs.drop i = t → x.length ≤ i →
    Ev (fun k => marlineref05_All.l0 k r m x segs i) (x ++ allR r m t)
  | [], i, x, h, hx => by
    have h3 := dropL_nil h
    exact Ev.step (fun k => by simp only [marlineref05_All.l0]; rw [if_neg (by omega)]) (Ev.end_ (by simp [allR]))
  | c :: t, i, x, h, hx => by
    obtain ⟨e1, e2, e3⟩ := rdL_drop h
    have hc := hs c (List.mem_of_mem_drop (by rw [h]; simp : c ∈ segs.drop i))
    refine Ev.step (fun k => by simp only [marlineref05_All.l0]; rw [if_pos (by omega), if_pos (by omega), e1, suc i (by omega)]) ?_
    refine Ev.bind (TellR r m hr c hc.1 hc.2) ?_
    by_cases h0 : (tellR r m c).2.2 = true
    · have ih := AllR_l0 r m hr segs hn hs t (i + 1) (x ++ [⟨(tellR r m c).1, (tellR r m c).2.1⟩]) e2 (by simp only [List.length_append, List.length_cons, List.length_nil]; omega)
      rw [show x ++ allR r m (c :: t) = (x ++ [⟨(tellR r m c).1, (tellR r m c).2.1⟩]) ++ allR r m t by simp [allR, h0]]
      exact Ev.pos h0 (Ev.pos (by omega) ih)
    · have ih := AllR_l0 r m hr segs hn hs t (i + 1) x e2 (by omega)
      rw [show x ++ allR r m (c :: t) = x ++ allR r m t by simp [allR, h0]]
      exact Ev.neg h0 ih
theorem splitR_ok : ∀ (t cur : List Int), Bytes t → Bytes cur → ∀ s ∈ splitR cur t, s.length ≤ cur.length + t.length ∧ Bytes s
  | [], cur, hb, hc => by simp [splitR]
  | c :: t, cur, hb, hc => by
    intro s hs
    simp only [splitR] at hs
    simp only [List.length_cons]
    split at hs
    · rcases List.mem_cons.1 hs with rfl | hs
      · exact ⟨by omega, hc⟩
      · have := splitR_ok t [] hb.tail Bytes.nil s hs
        exact ⟨by have := this.1; simp only [List.length_nil] at this; omega, this.2⟩
    · have := splitR_ok t (cur ++ [c]) hb.tail (hc.append (Bytes.cons hb.head Bytes.nil)) s hs
      exact ⟨by have := this.1; simp only [List.length_append, List.length_cons, List.length_nil] at this; omega, this.2⟩
theorem AllR (r m : Int) (hr : U32 r) (h1 : 1 ≤ m) (l : List Int) (hl : l.length ≤ 1000) (hb : Bytes l) : Ev (fun k => marlineref05_All.f k r m l) ((dfeed r m d0 l).1.map s65) := by
  unfold marlineref05_All.f
  refine Ev.bind (PartsR l hl) ?_
  have h := dfeed_all r m hr h1 l [] hb
  rw [stO_nil r m h1] at h
  rw [← h.1]
  have hn := splitR_len l []
  exact AllR_l0 r m hr (splitR [] l) (by omega) (fun s hs => by have := splitR_ok l [] hb Bytes.nil s hs; exact ⟨by have := this.1; simp only [List.length_nil] at this; omega, this.2⟩) _ 0 [] rfl (by simp)
end Go.Proofs.Ytjmclghjhnbafaa.Sp

/- The layer's list and the reference's of it compared; what is wrapped, fed behind whatever came ahead. -/
namespace Go.Proofs.Ytjmclghjhnbafaa.Sp
open Go.RowKit Go.Proofs.Ytjmclghjhnbafaa.Print Go.Proofs.YtjmclghjhnbafaaW.PrintWords Go.Proofs.YtjmclghjhnbafaaW.PrintLast Go.Proofs.Ytjmclghjhnbafaa.Pl
set_option linter.unusedVariables false
theorem rd65 {l : List S34} {i : Nat} (h : i < l.length) : rd_T65 (l.map s65) (i : Int) = s65 (rd_T34 l (i : Int)) := by
  unfold rd_T65 rd_T34
  rw [Int.toNat_natCast, List.getD_eq_getElem?_getD, List.getD_eq_getElem?_getD, List.getElem?_map, List.getElem?_eq_getElem h]
  rfl
theorem SameR_l0 (l : List S34) (ok : SegsOk l) : ∀ (t : List S34) (i : Nat), l.drop i = t → Ev (fun k => marlinelaw05_Same.l0 k l (l.map s65) (l.length : Int) i) true
  | [], i, h => by
    have h3 : l.length ≤ i := by
      have := congrArg List.length h
      simp at this; omega
    exact Ev.step (fun k => by simp only [marlinelaw05_Same.l0]; rw [if_neg (by omega)]) (Ev.end_ rfl)
  | c :: t, i, h => by
    obtain ⟨e1, e2, e3⟩ := rdT_drop h
    have h0 := ok.1
    have hc : Lim c.f1 := ok.2 c (List.mem_of_mem_drop (by rw [h]; simp : c ∈ l.drop i))
    refine Ev.step (fun k => by simp only [marlinelaw05_Same.l0]; rw [if_pos (by omega), if_pos (by omega), if_pos (by omega), if_pos (by rw [List.length_map]; omega), rd65 e3, e1, suc i (by omega)]) ?_
    refine Ev.pos rfl (Ev.bind (Equal c.f1 c.f1 hc) (Ev.pos (by simp) ?_))
    exact SameR_l0 l ok t (i + 1) e2
theorem SameR (l : List S34) (ok : SegsOk l) : Ev (fun k => marlinelaw05_Same.f k l (l.map s65)) true := by
  unfold marlinelaw05_Same.f
  exact Ev.pos (by rw [List.length_map]) (SameR_l0 l ok l 0 rfl)
end Go.Proofs.Ytjmclghjhnbafaa.Sp

/- What is wrapped, read again. -/
namespace Go.Proofs.Ytjmclghjhnbafaa.Sp
open Go.RowKit Go.Proofs.Ytjmclghjhnbafaa.Print Go.Proofs.YtjmclghjhnbafaaW.PrintWords Go.Proofs.YtjmclghjhnbafaaW.PrintLast Go.Proofs.Ytjmclghjhnbafaa.Pl
set_option linter.unusedVariables false
theorem must_125 (m : Int) : must m 125 = true := by unfold must; simp
theorem must_126 (m : Int) : must m 126 = true := by unfold must; simp
theorem rd_stf (s : Int) : ∀ (l x : List Int), Bytes l → rdR (stf s l) x false = (x ++ l, true)
  | [], x, hb => by simp [stf, rdR]
  | c :: t, x, hb => by
    by_cases h : must s c = true
    · have ih := rd_stf s t (x ++ [c]) hb.tail
      simp only [stf, if_pos h]
      rw [show rdR (125 :: tn c :: stf s t) x false = rdR (stf s t) (x ++ [tn (tn c)]) false by simp [rdR], tn_tn hb.head, ih, List.append_assoc]
      rfl
    · have ih := rd_stf s t (x ++ [c]) hb.tail
      have h5 : c ≠ 125 := fun e => h (by rw [e]; exact must_125 s)
      simp only [stf, if_neg h]
      rw [show rdR (c :: stf s t) x false = rdR (stf s t) (x ++ [c]) false by simp [rdR, h5], ih, List.append_assoc]
      rfl
theorem stf_no126 (s : Int) : ∀ (l : List Int), Bytes l → (∀ c ∈ l, has s c = true → c < 32) → ∀ c ∈ stf s l, c ≠ 126
  | [], hb, hs => by simp [stf]
  | c :: t, hb, hs => by
    intro d hd
    simp only [stf] at hd
    have hc := hb.head
    split at hd
    · rename_i h
      rcases List.mem_cons.1 hd with rfl | hd
      · decide
      · rcases List.mem_cons.1 hd with rfl | hd
        · rw [tn_eq hc]
          have h0 := hc.1; have h2 := hc.2
          have hk : c = 126 ∨ c = 125 ∨ c < 32 := by
            unfold must at h
            simp only [Bool.or_eq_true, decide_eq_true_eq] at h
            rcases h with (h | h) | h
            · exact .inl h
            · exact .inr (.inl h)
            · exact .inr (.inr (hs c (by simp) h))
          split <;> omega
        · exact stf_no126 s t hb.tail (fun x hx => hs x (by simp [hx])) d hd
    · rename_i h
      rcases List.mem_cons.1 hd with rfl | hd
      · exact fun e => h (by rw [e]; exact must_126 s)
      · exact stf_no126 s t hb.tail (fun x hx => hs x (by simp [hx])) d hd
end Go.Proofs.Ytjmclghjhnbafaa.Sp

/- A map's octets, and what two maps have in common. -/
namespace Go.Proofs.Ytjmclghjhnbafaa.Sp
open Go.RowKit Go.Proofs.Ytjmclghjhnbafaa.Print Go.Proofs.YtjmclghjhnbafaaW.PrintWords Go.Proofs.YtjmclghjhnbafaaW.PrintLast Go.Proofs.Ytjmclghjhnbafaa.Pl
set_option linter.unusedVariables false
theorem has_nat (n j : Nat) : has (n : Int) (j : Int) = n.testBit j := by
  unfold has
  rw [Nat.testBit_eq_decide_div_mod_eq, Int.toNat_natCast]
  apply decide_eq_decide.2
  have e : ((n : Int) / 2 ^ j % 2) = ((n / 2 ^ j % 2 : Nat) : Int) := by simp
  rw [e]
  omega
theorem has_sub {s p c : Int} (hs : U32 s) (hp : U32 p) (hc : Byte c) (h : has (Go.bits .and .u32 s p) c = true) : has s c = true := by
  obtain ⟨a, rfl⟩ := Int.eq_ofNat_of_zero_le hs.1
  obtain ⟨b, rfl⟩ := Int.eq_ofNat_of_zero_le hp.1
  obtain ⟨j, rfl⟩ := Int.eq_ofNat_of_zero_le hc.1
  rw [u32_and_nat a b (by have := hs.2; omega) (by have := hp.2; omega), has_nat, Nat.testBit_and] at h
  rw [has_nat]
  exact (Bool.and_eq_true_iff.1 h).1
end Go.Proofs.Ytjmclghjhnbafaa.Sp

/- What is wrapped, fed behind whatever came ahead: the fold tells what was ahead ended, then the octets whole, or that they are too long, or nothing. -/
namespace Go.Proofs.Ytjmclghjhnbafaa.Sp
open Go.RowKit Go.Proofs.Ytjmclghjhnbafaa.Print Go.Proofs.YtjmclghjhnbafaaW.PrintWords Go.Proofs.YtjmclghjhnbafaaW.PrintLast Go.Proofs.Ytjmclghjhnbafaa.Pl
set_option linter.unusedVariables false
theorem has_lt {s c : Int} (hs : U32 s) (h : has s c = true) : c < 32 := by
  apply Decidable.byContradiction
  intro hn
  rw [has_big hs (by omega)] at h
  cases h
theorem stf_has {s p : Int} (hs : U32 s) (hp : U32 p) (hr : U32 (Go.bits .and .u32 s p)) : ∀ (l : List Int), Bytes l → ∀ c ∈ stf s l, has (Go.bits .and .u32 s p) c = false
  | [], hb => by simp [stf]
  | c :: t, hb => by
    intro d hd
    simp only [stf] at hd
    have hc := hb.head
    split at hd
    · rename_i h
      rcases List.mem_cons.1 hd with rfl | hd
      · exact has_big hr (by omega)
      · rcases List.mem_cons.1 hd with rfl | hd
        · refine has_big hr ?_
          rw [tn_eq hc]
          have h0 := hc.1; have h2 := hc.2
          have hk : c = 126 ∨ c = 125 ∨ c < 32 := by
            unfold must at h
            simp only [Bool.or_eq_true, decide_eq_true_eq] at h
            rcases h with (h | h) | h
            · exact .inl h
            · exact .inr (.inl h)
            · exact .inr (.inr (has_lt hs h))
          split <;> omega
        · exact stf_has hs hp hr t hb.tail d hd
    · rename_i h
      rcases List.mem_cons.1 hd with rfl | hd
      · cases e : has (Go.bits .and .u32 s p) d with
        | false => rfl
        | true =>
          exfalso
          apply h
          unfold must
          rw [has_sub hs hp hc e]
          simp
      · exact stf_has hs hp hr t hb.tail d hd
theorem lft_stf {s p : Int} (hs : U32 s) (hp : U32 p) (hr : U32 (Go.bits .and .u32 s p)) (l : List Int) (hb : Bytes l) : lft (Go.bits .and .u32 s p) (stf s l) = stf s l := by
  unfold lft
  refine List.filter_eq_self.2 (fun c hc => ?_)
  rw [stf_has hs hp hr l hb c hc]
  rfl
/-- What a segment of wrapped octets tells. -/
def wtold (m : Int) (l : List Int) : List S34 := if l.length = 0 then [] else if (l.length : Int) > m then [⟨4, []⟩] else [⟨0, l⟩]
theorem stf_empty (s : Int) (l : List Int) : (stf s l).isEmpty = decide (l.length = 0) := by
  cases l with
  | nil => rfl
  | cons c t => simp only [stf]; split <;> simp
theorem dfeed_wrapped {s p m : Int} (hs : U32 s) (hp : U32 p) (hr : U32 (Go.bits .and .u32 s p)) (h1 : 1 ≤ m) (l : List Int) (hb : Bytes l) :
    dfeed (Go.bits .and .u32 s p) m d0 (stf s l ++ [126]) = (wtold m l, d0) := by
  have h2 := dfeed_cur (Go.bits .and .u32 s p) m hr h1 (stf s l) [] (stf_bytes hb) (stf_no126 s l hb (fun c _ h => has_lt hs h))
  rw [stO_nil _ m h1, List.nil_append] at h2
  rw [dfeed_append, h2]
  simp only [List.nil_append]
  have e : dfeed (Go.bits .and .u32 s p) m (stO (Go.bits .and .u32 s p) m (stf s l)) [126] = dstep (Go.bits .and .u32 s p) m ([], stO (Go.bits .and .u32 s p) m (stf s l)) 126 := rfl
  rw [e]
  unfold dstep stO
  rw [if_pos rfl, lft_stf hs hp hr l hb, rd_stf s l [] hb, stf_empty]
  simp only [List.nil_append]
  unfold wtold d0
  by_cases h0 : l.length = 0
  · simp [h0]
  · by_cases h3 : (l.length : Int) > m
    · simp [h0, h3, dkind, dseg]
    · have e3 : l.take m.toNat = l := List.take_of_length_le (by omega)
      simp [h0, h3, dkind, dseg, e3]
theorem dfeed_flag (r m : Int) (s : Dst) : (dfeed r m s [126]).2 = d0 := by
  unfold dfeed dstep
  rfl
theorem wraps {s p m : Int} (hs : U32 s) (hp : U32 p) (hr : U32 (Go.bits .and .u32 s p)) (h1 : 1 ≤ m) (st : Dst) (l : List Int) (hb : Bytes l) :
    dfeed (Go.bits .and .u32 s p) m st ([126] ++ stf s l ++ [126]) = ((dfeed (Go.bits .and .u32 s p) m st [126]).1 ++ wtold m l, d0) := by
  rw [List.append_assoc, dfeed_append, dfeed_flag, dfeed_wrapped hs hp hr h1 l hb]
theorem andU {s p : Int} (hs : U32 s) (hp : U32 p) : U32 (Go.bits .and .u32 s p) := by
  obtain ⟨a, rfl⟩ := Int.eq_ofNat_of_zero_le hs.1
  obtain ⟨b, rfl⟩ := Int.eq_ofNat_of_zero_le hp.1
  rw [u32_and_nat a b (by have := hs.2; omega) (by have := hp.2; omega)]
  have h1 : a &&& b ≤ a := Nat.and_le_left
  have := hs.2
  constructor <;> omega
end Go.Proofs.Ytjmclghjhnbafaa.Sp
