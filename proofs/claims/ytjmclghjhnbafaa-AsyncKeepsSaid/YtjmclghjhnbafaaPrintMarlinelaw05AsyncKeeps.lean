/- A text that a program of this claim (wip/x) laid out of the translation: what Go functions come to, and that they come to it. Lean checks it. -/
import Derived.Test.YtjmclghjhnbafaaPrint0
import Derived.Test.YtjmclghjhnbafaaDf05h
import Derived.Test.YtjmclghjhnbafaaPrintMarlinelaw05Same
import Derived.Test.YtjmclghjhnbafaaPrintMarlinelaw05Speaks
import Derived.Test.YtjmclghjhnbafaaPrintMarlineref01Equal
namespace Go.Proofs.Ytjmclghjhnbafaa.Print
open Go.RowKit Go.Proofs.YtjmclghjhnbafaaW.PrintWords Go.Proofs.YtjmclghjhnbafaaW.PrintLast Go.Proofs.YtjmclghjhnbafaaW.PrintMore
attribute [local go_sem] max2_int min2_int max_two min_two max_three min_three max_four min_four   -- for this text's walks alone
set_option linter.unusedVariables false
set_option linter.unusedSimpArgs false

/-! ### marlinelaw05_AsyncKeeps: function 5 -/
mutual
def marlinelaw05_AsyncKeeps.j0 : Nat → Int → Int → List Int → List Int → Bool → Option (Bool)
  | 0, _, _, _, _, _ => none
  | k + 1, x0, x1, x2, x3, x34 => if x34 = true then ((marlinelaw05_speaks.f k).bind fun t178 => (some t178)) else ((some (([] : List Int) : List Int)).bind fun y180 => (if y180.length + x2.length < 140737488355328 then ((some (y180 ++ x2 : List Int)).bind fun y183 => ((async_Deframer_Feed.f x0 x1 ([] : List Int) false false false y183).bind fun bt186 => (marlinelaw05_AsyncKeeps.l0 k x2 x3 y183 bt186.1 ([] : List (S34)) bt186.1 (bt186.1.length : Int) 0 x0 x1 bt186.2.1 bt186.2.2.1 bt186.2.2.2.1 bt186.2.2.2.2))) else (none)))
def marlinelaw05_AsyncKeeps.l0 : Nat → List Int → List Int → List Int → List (S34) → List (S34) → List (S34) → Int → Int → Int → Int → List Int → Bool → Bool → Bool → Option (Bool)
  | 0, _, _, _, _, _, _, _, _, _, _, _, _, _, _ => none
  | k + 1, x2, x3, x10, x11, x12, x47, x48, x49, x180000, x180001, x180002, x180003, x180004, x180005 => if x49 < x48 then (if 0 ≤ x49 then (if x49 < (x47.length : Int) then ((some (([] : List Int) : List Int)).bind fun y197 => (if y197.length + ((rd_T34 x47 x49).f1).length < 140737488355328 then (if x12.length < 4398046511104 then (marlinelaw05_AsyncKeeps.l0 k x2 x3 x10 x11 (x12 ++ [(⟨(rd_T34 x47 x49).f0, (y197 ++ ((rd_T34 x47 x49).f1))⟩ : S34)]) x47 x48 (wrap64 (x49 + 1)) x180000 x180001 x180002 x180003 x180004 x180005) else (none)) else (none))) else (none)) else (none)) else ((async_Deframer_Feed.f x180000 x180001 x180002 x180003 x180004 x180005 x3).bind fun bt206 => ((marlinelaw05_same.f k x11 x12).bind fun t215 => (if t215 = true then ((marlineref01_Equal.f k x10 x2).bind fun t216 => (some t216)) else (none))))
end
def marlinelaw05_AsyncKeeps.f (k : Nat) (a0 : Int) (a1 : Int) (l2 : List Int) (l3 : List Int) : Option (Bool) := (marlinelaw05_speaks.f k).bind fun t177 => (if t177 = true then (if a1 < 1 then (marlinelaw05_AsyncKeeps.j0 k a0 a1 l2 l3 true) else (if a1 > 1048576 then (marlinelaw05_AsyncKeeps.j0 k a0 a1 l2 l3 true) else (if (l2.length : Int) > 300 then (marlinelaw05_AsyncKeeps.j0 k a0 a1 l2 l3 true) else (marlinelaw05_AsyncKeeps.j0 k a0 a1 l2 l3 (decide ((l3.length : Int) > 300)))))) else (marlinelaw05_AsyncKeeps.j0 k a0 a1 l2 l3 true))
theorem marlinelaw05_AsyncKeeps.mono_l : ∀ k, (∀ y0 y1 y2 y3 y4, LeO (marlinelaw05_AsyncKeeps.j0 k y0 y1 y2 y3 y4) (marlinelaw05_AsyncKeeps.j0 (k + 1) y0 y1 y2 y3 y4)) ∧ (∀ y0 y1 y2 y3 y4 y5 y6 y7 y8 y9 y10 y11 y12 y13, LeO (marlinelaw05_AsyncKeeps.l0 k y0 y1 y2 y3 y4 y5 y6 y7 y8 y9 y10 y11 y12 y13) (marlinelaw05_AsyncKeeps.l0 (k + 1) y0 y1 y2 y3 y4 y5 y6 y7 y8 y9 y10 y11 y12 y13))
  | 0 => ⟨fun _ _ _ _ _ r h => by simp [marlinelaw05_AsyncKeeps.j0] at h, fun _ _ _ _ _ _ _ _ _ _ _ _ _ _ r h => by simp [marlinelaw05_AsyncKeeps.l0] at h⟩
  | k + 1 => by
    obtain ⟨ih0, ih1⟩ := marlinelaw05_AsyncKeeps.mono_l k
    refine ⟨?_, ?_⟩
    · intro y0 y1 y2 y3 y4
      unfold marlinelaw05_AsyncKeeps.j0
      repeat' first
      | (with_reducible exact ih0 _ _ _ _ _)
      | (with_reducible exact ih1 _ _ _ _ _ _ _ _ _ _ _ _ _ _)
      | (with_reducible exact marlinelaw05_same.mono _ _ _)
      | (with_reducible exact marlinelaw05_speaks.mono _)
      | (with_reducible exact marlineref01_Equal.mono _ _ _)
      | (with_reducible exact LeO.refl _)
      | (with_reducible exact LeO.none _)
      | (with_reducible refine LeO.ite ?_ ?_)
      | (with_reducible refine LeO.bind ?_ (fun _ => ?_))
      | exact ih0 _ _ _ _ _
      | exact ih1 _ _ _ _ _ _ _ _ _ _ _ _ _ _
      | exact marlinelaw05_same.mono _ _ _
      | exact marlinelaw05_speaks.mono _
      | exact marlineref01_Equal.mono _ _ _
      | exact LeO.none _
      | refine LeO.ite ?_ ?_
      | refine LeO.bind ?_ (fun _ => ?_)
    · intro y0 y1 y2 y3 y4 y5 y6 y7 y8 y9 y10 y11 y12 y13
      unfold marlinelaw05_AsyncKeeps.l0
      repeat' first
      | (with_reducible exact ih0 _ _ _ _ _)
      | (with_reducible exact ih1 _ _ _ _ _ _ _ _ _ _ _ _ _ _)
      | (with_reducible exact marlinelaw05_same.mono _ _ _)
      | (with_reducible exact marlinelaw05_speaks.mono _)
      | (with_reducible exact marlineref01_Equal.mono _ _ _)
      | (with_reducible exact LeO.refl _)
      | (with_reducible exact LeO.none _)
      | (with_reducible refine LeO.ite ?_ ?_)
      | (with_reducible refine LeO.bind ?_ (fun _ => ?_))
      | exact ih0 _ _ _ _ _
      | exact ih1 _ _ _ _ _ _ _ _ _ _ _ _ _ _
      | exact marlinelaw05_same.mono _ _ _
      | exact marlinelaw05_speaks.mono _
      | exact marlineref01_Equal.mono _ _ _
      | exact LeO.none _
      | refine LeO.ite ?_ ?_
      | refine LeO.bind ?_ (fun _ => ?_)
theorem marlinelaw05_AsyncKeeps.mono : ∀ a0 a1 a2 a3 k, LeO (marlinelaw05_AsyncKeeps.f k a0 a1 a2 a3) (marlinelaw05_AsyncKeeps.f (k + 1) a0 a1 a2 a3) := by
  intro a0 a1 a2 a3 k
  obtain ⟨ih0, ih1⟩ := marlinelaw05_AsyncKeeps.mono_l k
  unfold marlinelaw05_AsyncKeeps.f
  repeat' first
      | (with_reducible exact ih0 _ _ _ _ _)
      | (with_reducible exact ih1 _ _ _ _ _ _ _ _ _ _ _ _ _ _)
      | (with_reducible exact marlinelaw05_same.mono _ _ _)
      | (with_reducible exact marlinelaw05_speaks.mono _)
      | (with_reducible exact marlineref01_Equal.mono _ _ _)
      | (with_reducible exact LeO.refl _)
      | (with_reducible exact LeO.none _)
      | (with_reducible refine LeO.ite ?_ ?_)
      | (with_reducible refine LeO.bind ?_ (fun _ => ?_))
      | exact ih0 _ _ _ _ _
      | exact ih1 _ _ _ _ _ _ _ _ _ _ _ _ _ _
      | exact marlinelaw05_same.mono _ _ _
      | exact marlinelaw05_speaks.mono _
      | exact marlineref01_Equal.mono _ _ _
      | exact LeO.none _
      | refine LeO.ite ?_ ?_
      | refine LeO.bind ?_ (fun _ => ?_)
def marlinelaw05_AsyncKeeps.T12 : Bool × List (List Nat × List Nat) := (true, [([], []), ([], []), ([1], [1]), ([], []), ([], []), ([4], [4]), ([3, 5], [3, 5]), ([2, 6], [2, 6]), ([7], [7]), ([0, 8, 6], [0, 8]), ([9, 9, 0, 1, 2, 3, 4, 5, 6, 7, 8, 9], [0, 9])])
def marlinelaw05_AsyncKeeps.B12 : List Nat := [0, 0, 2, 0, 0, 16, 56, 126, 254, 511, 1023]
theorem marlinelaw05_AsyncKeeps.tab12 : rtab .any (opsOf Try.f5 12) = marlinelaw05_AsyncKeeps.T12 := by kernel_rfl
theorem marlinelaw05_AsyncKeeps.bits12 : waitsOk marlinelaw05_AsyncKeeps.T12.2 marlinelaw05_AsyncKeeps.B12 = true := by kernel_rfl
set_option maxHeartbeats 8000000 in
set_option maxRecDepth 100000 in
theorem marlinelaw05_AsyncKeeps.calls (k : Nat) (a0 : Int) (a1 : Int) (A2 : Option Addr) (c2 : Nat) (l2 : List Int) (A3 : Option Addr) (c3 : Nat) (l3 : List Int) (r : Bool) (w : World) (hr2 : Kd.C (Kd.int .u8) w A2 l2.length l2) (hc2 : l2.length ≤ c2) (hr3 : Kd.C (Kd.int .u8) w A3 l3.length l3) (hc3 : l3.length ≤ c3) (h : marlinelaw05_AsyncKeeps.f k a0 a1 l2 l3 = some r) :
    Calls Try.prog 5 #[.int .u32 a0, .int .i64 a1, .slice A2 l2.length c2, .slice A3 l3.length c3] w fun e w' => e = .returned (.bool r) ∧ Below w.heap.size w w' := by
  have hu58 := Try.underlying58
  have hu34 := Try.underlying34
  have HR2 := Aside0.mk hr2
  have HC2 := Aside0.mk hc2
  clear hr2 hc2
  have HR3 := Aside0.mk hr3
  have HC3 := Aside0.mk hc3
  clear hr3 hc3
  have HB := Aside0.mk (Below.refl w.heap.size w)
  have H : ((marlinelaw05_speaks.f k).bind fun t177 => (if t177 = true then (if a1 < 1 then (marlinelaw05_AsyncKeeps.j0 k a0 a1 l2 l3 true) else (if a1 > 1048576 then (marlinelaw05_AsyncKeeps.j0 k a0 a1 l2 l3 true) else (if (l2.length : Int) > 300 then (marlinelaw05_AsyncKeeps.j0 k a0 a1 l2 l3 true) else (marlinelaw05_AsyncKeeps.j0 k a0 a1 l2 l3 (decide ((l3.length : Int) > 300)))))) else (marlinelaw05_AsyncKeeps.j0 k a0 a1 l2 l3 true))) = some r := h
  clear h
  have HC5 := Aside0.mk H
  clear H
  go_enter Try.func5, Try.ntmps5
  go_upto_region 1 with (fail)
  go_cut [34] (fun v34 wc => ∃ (kq : Nat) (x34_4 : Bool), v34 = .bool x34_4 ∧ Aside0 (marlinelaw05_AsyncKeeps.j0 kq a0 a1 l2 l3 x34_4 = some r) ∧ Aside0 (kq ≤ k) ∧ Aside0 (Below w.heap.size w wc))
  case first =>
    have H := HC5.out
    clear HC5
    replace H := Option.bind_eq_some_iff.mp H
    obtain ⟨t177, A60, H⟩ := H
    replace H : (if t177 = true then (if a1 < 1 then (marlinelaw05_AsyncKeeps.j0 k a0 a1 l2 l3 true) else (if a1 > 1048576 then (marlinelaw05_AsyncKeeps.j0 k a0 a1 l2 l3 true) else (if (l2.length : Int) > 300 then (marlinelaw05_AsyncKeeps.j0 k a0 a1 l2 l3 true) else (marlinelaw05_AsyncKeeps.j0 k a0 a1 l2 l3 (decide ((l3.length : Int) > 300)))))) else (marlinelaw05_AsyncKeeps.j0 k a0 a1 l2 l3 true)) = some r := H
    have A6 := Aside0.mk A60
    clear A60
    by_cases c7 : t177 = true
    · subst c7
      have H1 : (if a1 < 1 then (marlinelaw05_AsyncKeeps.j0 k a0 a1 l2 l3 true) else (if a1 > 1048576 then (marlinelaw05_AsyncKeeps.j0 k a0 a1 l2 l3 true) else (if (l2.length : Int) > 300 then (marlinelaw05_AsyncKeeps.j0 k a0 a1 l2 l3 true) else (marlinelaw05_AsyncKeeps.j0 k a0 a1 l2 l3 (decide ((l3.length : Int) > 300)))))) = some r := by rw [if_pos rfl] at H; exact H
      clear H
      have H := H1
      clear H1
      by_cases c8 : a1 < 1
      · rw [if_pos c8] at H
        have c8b0 : decide (a1 < 1) = true := decide_eq_true c8
        clear c8
        (first | rw [c8b0] | (simp only [i64_w, i32_w]; rw [c8b0]) | skip)
        have H' := Aside0.mk H
        clear H
        go_wp2_with (first | ((with_reducible refine gate_callee (f := 11) rfl ?_); refine goesL_ (some 15) rfl rfl Try.func11 (by kernel_rfl) rfl #[] rfl (by (try simp only [List.map_toArray, List.map_cons, List.map_nil]); first | done | rfl | (simp only [List.length_drop, List.length_take]; rfl)) ?_; (with_reducible refine (marlinelaw05_speaks.calls k  true _ A6.out).mono ?_); rintro e w9 ⟨rfl, hb⟩; refine ⟨_, rfl, ?_⟩; have n0_ := Aside0.mk (below_step (by repeat (first | (with_reducible first | exact HB.out | apply below_alloc | apply pw_below_drewN | apply below_drew1) | exact HB.out)) hb); clear HB; have HB := n0_; clear n0_; (try clear hb); (try clear hb2); (try clear hk); (try clear hi)))
        go_meet
        case rel => exact ⟨_, (true), (by first | rfl | (simp; done) | (simp [*]; done)), H', ⟨by first | omega | exact Nat.le_refl _⟩, ⟨by repeat (first | (with_reducible first | exact HB.out | apply below_alloc | apply pw_below_drewN | apply below_drew1) | exact HB.out)⟩⟩
      · rw [if_neg c8] at H
        have c8b0 : decide (a1 < 1) = false := decide_eq_false c8
        clear c8
        (first | rw [c8b0] | (simp only [i64_w, i32_w]; rw [c8b0]) | skip)
        by_cases c10 : a1 > 1048576
        · rw [if_pos c10] at H
          have c10b0 : decide (1048576 < a1) = true := decide_eq_true c10
          clear c10
          have H' := Aside0.mk H
          clear H
          go_wp2_with (first | ((with_reducible refine gate_callee (f := 11) rfl ?_); refine goesL_ (some 15) rfl rfl Try.func11 (by kernel_rfl) rfl #[] rfl (by (try simp only [List.map_toArray, List.map_cons, List.map_nil]); first | done | rfl | (simp only [List.length_drop, List.length_take]; rfl)) ?_; (with_reducible refine (marlinelaw05_speaks.calls k  true _ A6.out).mono ?_); rintro e w11 ⟨rfl, hb⟩; refine ⟨_, rfl, ?_⟩; have n0_ := Aside0.mk (below_step (by repeat (first | (with_reducible first | exact HB.out | apply below_alloc | apply pw_below_drewN | apply below_drew1) | exact HB.out)) hb); clear HB; have HB := n0_; clear n0_; (try clear hb); (try clear hb2); (try clear hk); (try clear hi)))
          go_meet
          case rel => exact ⟨_, (true), (by first | rfl | (simp; done) | (simp [*]; done)), H', ⟨by first | omega | exact Nat.le_refl _⟩, ⟨by repeat (first | (with_reducible first | exact HB.out | apply below_alloc | apply pw_below_drewN | apply below_drew1) | exact HB.out)⟩⟩
        · rw [if_neg c10] at H
          have c10b0 : decide (1048576 < a1) = false := decide_eq_false c10
          clear c10
          by_cases c12 : (l2.length : Int) > 300
          · rw [if_pos c12] at H
            have c12b0 : decide (300 < (l2.length : Int)) = true := decide_eq_true c12
            have c12b1 : decide (300 < l2.length) = true := decide_eq_true (by omega)
            clear c12
            have H' := Aside0.mk H
            clear H
            go_wp2_with (first | ((with_reducible refine gate_callee (f := 11) rfl ?_); refine goesL_ (some 15) rfl rfl Try.func11 (by kernel_rfl) rfl #[] rfl (by (try simp only [List.map_toArray, List.map_cons, List.map_nil]); first | done | rfl | (simp only [List.length_drop, List.length_take]; rfl)) ?_; (with_reducible refine (marlinelaw05_speaks.calls k  true _ A6.out).mono ?_); rintro e w13 ⟨rfl, hb⟩; refine ⟨_, rfl, ?_⟩; have n0_ := Aside0.mk (below_step (by repeat (first | (with_reducible first | exact HB.out | apply below_alloc | apply pw_below_drewN | apply below_drew1) | exact HB.out)) hb); clear HB; have HB := n0_; clear n0_; (try clear hb); (try clear hb2); (try clear hk); (try clear hi)))
            go_meet
            case rel => exact ⟨_, (true), (by first | rfl | (simp; done) | (simp [*]; done)), H', ⟨by first | omega | exact Nat.le_refl _⟩, ⟨by repeat (first | (with_reducible first | exact HB.out | apply below_alloc | apply pw_below_drewN | apply below_drew1) | exact HB.out)⟩⟩
          · rw [if_neg c12] at H
            have c12b0 : decide (300 < (l2.length : Int)) = false := decide_eq_false c12
            have c12b1 : decide (300 < l2.length) = false := decide_eq_false (by omega)
            clear c12
            have H' := Aside0.mk H
            clear H
            go_wp2_with (first | ((with_reducible refine gate_callee (f := 11) rfl ?_); refine goesL_ (some 15) rfl rfl Try.func11 (by kernel_rfl) rfl #[] rfl (by (try simp only [List.map_toArray, List.map_cons, List.map_nil]); first | done | rfl | (simp only [List.length_drop, List.length_take]; rfl)) ?_; (with_reducible refine (marlinelaw05_speaks.calls k  true _ A6.out).mono ?_); rintro e w14 ⟨rfl, hb⟩; refine ⟨_, rfl, ?_⟩; have n0_ := Aside0.mk (below_step (by repeat (first | (with_reducible first | exact HB.out | apply below_alloc | apply pw_below_drewN | apply below_drew1) | exact HB.out)) hb); clear HB; have HB := n0_; clear n0_; (try clear hb); (try clear hb2); (try clear hk); (try clear hi)))
            go_meet
            case rel => exact ⟨_, (decide ((l3.length : Int) > 300)), (by first | rfl | (simp; done) | (simp [*]; done)), H', ⟨by first | omega | exact Nat.le_refl _⟩, ⟨by repeat (first | (with_reducible first | exact HB.out | apply below_alloc | apply pw_below_drewN | apply below_drew1) | exact HB.out)⟩⟩
    · replace c7 := Bool.eq_false_iff.mpr c7
      subst c7
      have H1 : (marlinelaw05_AsyncKeeps.j0 k a0 a1 l2 l3 true) = some r := by rw [if_neg (show ¬ (false = true) by decide)] at H; exact H
      clear H
      have H := H1
      clear H1
      have H' := Aside0.mk H
      clear H
      go_wp2_with (first | ((with_reducible refine gate_callee (f := 11) rfl ?_); refine goesL_ (some 15) rfl rfl Try.func11 (by kernel_rfl) rfl #[] rfl (by (try simp only [List.map_toArray, List.map_cons, List.map_nil]); first | done | rfl | (simp only [List.length_drop, List.length_take]; rfl)) ?_; (with_reducible refine (marlinelaw05_speaks.calls k  false _ A6.out).mono ?_); rintro e w15 ⟨rfl, hb⟩; refine ⟨_, rfl, ?_⟩; have n0_ := Aside0.mk (below_step (by repeat (first | (with_reducible first | exact HB.out | apply below_alloc | apply pw_below_drewN | apply below_drew1) | exact HB.out)) hb); clear HB; have HB := n0_; clear n0_; (try clear hb); (try clear hb2); (try clear hk); (try clear hi)))
      go_meet
      case rel => exact ⟨_, (true), (by first | rfl | (simp; done) | (simp [*]; done)), H', ⟨by first | omega | exact Nat.le_refl _⟩, ⟨by repeat (first | (with_reducible first | exact HB.out | apply below_alloc | apply pw_below_drewN | apply below_drew1) | exact HB.out)⟩⟩
  case rest =>
    clear HC5
    try clear c1
    try clear c2
    try clear p2
    try clear c3
    try clear c5
    try clear c7
    try clear c8
    try clear c8b0
    try clear c10
    try clear c10b0
    try clear c11
    try clear c12
    try clear c12b0
    try clear c12b1
    obtain ⟨kq, x34_4, rfl, HA, HJ4, HB⟩ := hcut
    cases kq with
    | zero => exact absurd HA.out (by simp [marlinelaw05_AsyncKeeps.j0])
    | succ kj4 =>
      have H := HA.out
      clear HA
      simp only [marlinelaw05_AsyncKeeps.j0] at H
      by_cases c16 : x34_4 = true
      · subst c16
        have H1 : ((marlinelaw05_speaks.f kj4).bind fun t178 => (some t178)) = some r := by rw [if_pos rfl] at H; exact H
        clear H
        have H := H1
        clear H1
        replace H := Option.bind_eq_some_iff.mp H
        obtain ⟨t178, A170, H⟩ := H
        replace H : (some t178) = some r := H
        have A17 := Aside0.mk A170
        clear A170
        obtain rfl := Option.some.inj H
        go_wp2_with (first | ((with_reducible refine gate_callee (f := 11) rfl ?_); refine goesL_ (some 35) rfl rfl Try.func11 (by kernel_rfl) rfl #[] rfl (by (try simp only [List.map_toArray, List.map_cons, List.map_nil]); first | done | rfl | (simp only [List.length_drop, List.length_take]; rfl)) ?_; (with_reducible refine (marlinelaw05_speaks.calls kj4  t178 _ A17.out).mono ?_); rintro e w18 ⟨rfl, hb⟩; refine ⟨_, rfl, ?_⟩; have n0_ := Aside0.mk (below_step (by repeat (first | (with_reducible first | exact HB.out | apply below_alloc | apply pw_below_drewN | apply below_drew1) | exact HB.out)) hb); clear HB; have HB := n0_; clear n0_; (try clear hb); (try clear hb2); (try clear hk); (try clear hi)))
        go_ret
        exact ⟨by first | rfl | (simp [errW_none, errW_some] <;> rfl) | (simp [*, errW_none, errW_some] <;> rfl), by repeat (first | (with_reducible first | exact HB.out | apply below_alloc | apply pw_below_drewN | apply below_drew1) | exact HB.out)⟩
      · replace c16 := Bool.eq_false_iff.mpr c16
        subst c16
        have H1 : ((some (([] : List Int) : List Int)).bind fun y180 => (if y180.length + l2.length < 140737488355328 then ((some (y180 ++ l2 : List Int)).bind fun y183 => ((async_Deframer_Feed.f a0 a1 ([] : List Int) false false false y183).bind fun bt186 => (marlinelaw05_AsyncKeeps.l0 kj4 l2 l3 y183 bt186.1 ([] : List (S34)) bt186.1 (bt186.1.length : Int) 0 a0 a1 bt186.2.1 bt186.2.2.1 bt186.2.2.2.1 bt186.2.2.2.2))) else (none))) = some r := by rw [if_neg (show ¬ (false = true) by decide)] at H; exact H
        clear H
        have H := H1
        clear H1
        obtain ⟨y180, hy180⟩ : ∃ y_ : List Int, y_ = (([] : List Int)) := ⟨_, rfl⟩
        replace H : (if y180.length + l2.length < 140737488355328 then ((some (y180 ++ l2 : List Int)).bind fun y183 => ((async_Deframer_Feed.f a0 a1 ([] : List Int) false false false y183).bind fun bt186 => (marlinelaw05_AsyncKeeps.l0 kj4 l2 l3 y183 bt186.1 ([] : List (S34)) bt186.1 (bt186.1.length : Int) 0 a0 a1 bt186.2.1 bt186.2.2.1 bt186.2.2.2.1 bt186.2.2.2.2))) else (none)) = some r := by first | (rw [hy180]; with_reducible exact H) | (have H2_ := (Option.bind_some _ _).symm.trans H; rw [hy180]; with_reducible exact H2_) | (have H2_ := (Option.bind_some _ _).symm.trans H; with_reducible exact H2_) | with_reducible exact H | (rw [hy180]; exact H) | exact H
        have Ny180 := Aside0.mk hy180
        clear hy180
        by_cases c19 : y180.length + l2.length < 140737488355328
        · rw [if_pos c19] at H
          have LMc19 := Aside0.mk c19
          clear c19
          obtain ⟨y183, hy183⟩ : ∃ y_ : List Int, y_ = (y180 ++ l2) := ⟨_, rfl⟩
          replace H : ((async_Deframer_Feed.f a0 a1 ([] : List Int) false false false y183).bind fun bt186 => (marlinelaw05_AsyncKeeps.l0 kj4 l2 l3 y183 bt186.1 ([] : List (S34)) bt186.1 (bt186.1.length : Int) 0 a0 a1 bt186.2.1 bt186.2.2.1 bt186.2.2.2.1 bt186.2.2.2.2)) = some r := by first | (rw [hy183]; with_reducible exact H) | (have H2_ := (Option.bind_some _ _).symm.trans H; rw [hy183]; with_reducible exact H2_) | (have H2_ := (Option.bind_some _ _).symm.trans H; with_reducible exact H2_) | with_reducible exact H | (rw [hy183]; exact H) | exact H
          have Ny183 := Aside0.mk hy183
          clear hy183
          replace H := Option.bind_eq_some_iff.mp H
          obtain ⟨⟨t186, t189, t192, t193, t194⟩, A200, H⟩ := H
          replace H : (marlinelaw05_AsyncKeeps.l0 kj4 l2 l3 y183 t186 ([] : List (S34)) t186 (t186.length : Int) 0 a0 a1 t189 t192 t193 t194) = some r := H
          have A20 := Aside0.mk A200
          clear A200
          have H' := Aside0.mk H
          clear H
          go_wp2_with (first | (go_at_call 13; refine (async_New.box (a0) (a1) _).mono ?_; rintro e_ w21 ⟨gb179, rfl, hg, hbox, hb⟩; have n0_ := Aside0.mk (below_step (by repeat (first | (with_reducible first | exact HB.out | apply below_alloc | apply pw_below_drewN | apply below_drew1) | exact HB.out)) hb); have n1_ := Aside0.mk (hbox); have n2_ := Aside0.mk ((by rw [hg]; exact (below_size (by repeat (first | (with_reducible first | exact HB.out | apply below_alloc | apply pw_below_drewN | apply below_drew1) | exact HB.out))) : w.heap.size ≤ gb179)); have n3_ := Aside0.mk ((by rw [hg]; exact (below_size (by repeat (first | (with_reducible first | exact HB.out | apply below_alloc | apply pw_below_drewN | apply below_drew1) | exact HB.out))) : w.heap.size ≤ gb179)); clear HB; have HB := n0_; have BK179 := n1_; have GW179 := n2_; have GE179 := n3_; clear n0_ n1_ n2_ n3_; clear hb hbox hg) | ((with_reducible refine gate_dst (N := 41) rfl ?_); (try (refine gate_guard (by rfl) ?_; dsimp only)); refine Kd.R_lit (Kd.int .u8) _ 5 ?hg (N := 41) ?hd (xs := ([] : List Int)) (inner := []) (ok := fun _ => True) (okp := fun _ => True) ?hr ?hp (fun _ hk => hk) trivial (Below.refl _ _) (Nat.le_refl _) (by simp) ?_; (case hd => rfl); (case hg => rfl); (case hr => first | (go_simp; done) | (go_simp; simp only [IntKind.wrap_u8, IntKind.wrap_u16, IntKind.wrap_u32, IntKind.wrap_u64]; done) | (go_simp; simp only [IntKind.wrap_u8, IntKind.wrap_u16, IntKind.wrap_u32, IntKind.wrap_u64, Int.tmod_eq_emod_of_nonneg (Int.natCast_nonneg _), Int.emod_emod]; done) | (go_simp; rfl)); (case hp => exact (Reps.none _ _)); intro v181 w22 ho23 hb hg_ hnew_; clear hg_ hnew_; (first | rw [← Ny180.out] at ho23 | (simp only [Int.reduceToNat] at ho23; rw [← Ny180.out] at ho23)); have n0_ := Aside0.mk (Kd.R_lower ho23 (below_size (by repeat (first | (with_reducible first | exact HB.out | apply below_alloc | apply pw_below_drewN | apply below_drew1 | refine below_set ?_ GE179.out) | exact HB.out)))); have n1_ := Aside0.mk (blk_below (g := gb179) (o := .cells #[.int .u32 a0, .int .i64 a1, .slice none 0 0, .bool false, .bool false, .bool false] 58 (0, 0)) (by (with_reducible repeat (first | refine blk_drewN ?_ _ | refine blk_drew ?_ | refine blk_alloc ?_ _)); exact BK179.out) hb); have n2_ := Aside0.mk (below_step (by repeat (first | (with_reducible first | exact HB.out | apply below_alloc | apply pw_below_drewN | apply below_drew1 | refine below_set ?_ GE179.out) | exact HB.out)) hb); clear BK179; clear HB; have HO182 := n0_; have BK179 := n1_; have HB := n2_; clear n0_ n1_ n2_; clear hb ho23) | ((with_reducible refine gate_builtin (b := .append) (xs := #[.tmp 41, .tmp 42]) rfl ?_); (try (refine gate_guard (by rfl) ?_; dsimp only)); at_builtin; refine Kd.R_append_rows (Kd.int .u8) (w0 := w) w.heap.size rfl (.tmp 41) (.tmp 42) 28 5 (.int .u8 0) 1 rfl Try.underlying28 info5 rfl (by decide) (by omega) v181 y180 l2 _ _ _ (fun _ => True) (fun _ => False) rfl rfl ?aO ?aR (fun _ _ h => h) (fun _ h => h.elim) ?aF ?aB ?aS ?aL ?_; (case aR => repeat (first | exact (Kd.C_below HR2.out HB.out) | (with_reducible refine Kd.C_alloc ?_ _) | (with_reducible refine Kd.C_drewN ?_ _) | (with_reducible refine Kd.C_drew ?_))); (case aB => exact (by repeat (first | (with_reducible first | exact HB.out | apply below_alloc | apply pw_below_drewN | apply below_drew1 | refine below_set ?_ GE179.out) | exact HB.out))); (case aF => exact (fun _ _ => trivial)); (case aO => exact (by (with_reducible repeat (first | apply Kd.R_alloc | apply Kd.R_drewN | apply Kd.R_drew)); exact HO182.out)); (case aS => exact (below_size (by repeat (first | (with_reducible first | exact HB.out | apply below_alloc | apply pw_below_drewN | apply below_drew1 | refine below_set ?_ GE179.out) | exact HB.out)))); (case aL => have := LMc19.out; omega); intro v184 w24 ho hb hg hat; rw [← Ny183.out] at ho; have n0_ := Aside0.mk (blk_grown (g := gb179) (o := .cells #[.int .u32 a0, .int .i64 a1, .slice none 0 0, .bool false, .bool false, .bool false] 58 (0, 0)) (by (with_reducible repeat (first | refine blk_drewN ?_ _ | refine blk_drew ?_ | refine blk_alloc ?_ _)); exact BK179.out) hg (Kd.R_ne HO182.out BK179.out (by decide))); have n1_ := Aside0.mk (hb); have n2_ := Aside0.mk (ho); clear BK179; clear HB; clear HO182; have BK179 := n0_; have HB := n1_; have HO185 := n2_; clear n0_ n1_ n2_; clear ho hb hg hat; have hcz25_0 : w24.cell? ⟨gb179, 0, none⟩ = some (.int .u32 a0) := (blk_cell BK179.out 0).trans rfl; have hcz25_1 : w24.cell? ⟨gb179, 1, none⟩ = some (.int .i64 a1) := (blk_cell BK179.out 1).trans rfl; have hcz25_2 : w24.cell? ⟨gb179, 2, none⟩ = some (.slice none 0 0) := (blk_cell BK179.out 2).trans rfl; have hcz25_3 : w24.cell? ⟨gb179, 3, none⟩ = some (.bool false) := (blk_cell BK179.out 3).trans rfl; have hcz25_4 : w24.cell? ⟨gb179, 4, none⟩ = some (.bool false) := (blk_cell BK179.out 4).trans rfl; have hcz25_5 : w24.cell? ⟨gb179, 5, none⟩ = some (.bool false) := (blk_cell BK179.out 5).trans rfl; have hfz25_0 := blk_frozen BK179.out 0; have hfz25_1 := blk_frozen BK179.out 1; have hfz25_2 := blk_frozen BK179.out 2; have hfz25_3 := blk_frozen BK179.out 3; have hfz25_4 := blk_frozen BK179.out 4; have hfz25_5 := blk_frozen BK179.out 5; obtain ⟨Ao26, co26, eo26⟩ := Kd.R_slice HO185.out; subst eo26) | (go_at_call 14; refine (dfx gb179 a0 a1 (fun k_ => some k_ = (.slice none 0 0 : Value).ownBlock) (.slice none 0 0) ([] : List Int) false false false _ _ y183 t186 t189 t192 t193 t194 w _ ?side1 ?side2 ?side3 ?side4 A20.out ?side5 ?side6 ?side7).mono ?_; (case side1 => repeat (first | (with_reducible first | exact HB.out | apply below_alloc | apply pw_below_drewN | apply below_drew1 | refine below_set ?_ GE179.out) | exact HB.out)); (case side2 => exact Kd.R_nil _ _ _ _ _); (case side3 => exact Kd.C_kept_own (HO185.out) (fun k_ hk_ hs_ => (fun e_ => by simp [Value.ownBlock] at e_) hs_)); (case side4 => exact (Kd.R_reads' HO185.out).2.1); (case side5 => exact (by (with_reducible repeat (first | refine blk_drewN ?_ _ | refine blk_drew ?_ | refine blk_alloc ?_ _)); exact BK179.out)); (case side6 => exact GE179.out); (case side7 => exact (fun hs_ => (fun e_ => by simp [Value.ownBlock] at e_) hs_)); rintro e wq_ ⟨w27, v187, v190, rfl, rfl, ho0, ho1, hb, hkp⟩; have n0_ := Aside0.mk (blk_kept (by (with_reducible repeat (first | refine blk_drewN ?_ _ | refine blk_drew ?_ | refine blk_alloc ?_ _)); exact BK179.out) hkp (fun hs_ => (fun e_ => by simp [Value.ownBlock] at e_) hs_)); have n1_ := Aside0.mk (Kd.R_mono (ok' := fun k_ => some k_ ≠ (v190 : Value).ownBlock) (Kd.R_keptB (HO185.out) hkp (fun k_ hk_ hs_ => (fun e_ => by simp [Value.ownBlock] at e_) hs_)) (fun k_ hk_ => fun e_ => Or.elim (ho1.1 k_ e_.symm) (fun hs_ => hk_.2.1 hs_) (fun hn_ => Nat.not_le.2 hk_.2.2 hn_))); have n2_ := Aside0.mk (Kd.S_mono (ok' := fun k_ => some k_ ≠ (v190 : Value).ownBlock ∧ some k_ ≠ (.slice Ao26 y183.length co26 : Value).ownBlock) ho0 (fun k_ hk_ => ⟨hk_.2, Or.elim hk_.1 (fun hs_ => absurd hs_ (by simp [Value.ownBlock])) (fun hn_ => (Kd.fresh' (Kd.R_lt (by (with_reducible repeat (first | apply Kd.R_alloc | apply Kd.R_drewN | apply Kd.R_drew)); exact HO185.out)) k_ hn_))⟩)); have n3_ := Aside0.mk (Kd.R_mono (ok' := fun k_ => some k_ ≠ (.slice Ao26 y183.length co26 : Value).ownBlock) ho1 (fun k_ hk_ => Or.elim hk_ (fun hs_ => absurd hs_ (by simp [Value.ownBlock])) (fun hn_ => (Kd.fresh' (Kd.R_lt (by (with_reducible repeat (first | apply Kd.R_alloc | apply Kd.R_drewN | apply Kd.R_drew)); exact HO185.out)) k_ hn_)))); have n4_ := Aside0.mk (hb); clear BK179; clear HO185; clear HB; have BK179 := n0_; have HO185 := n1_; have HO188 := n2_; have HO191 := n3_; have HB := n4_; clear n0_ n1_ n2_ n3_ n4_; (try clear hb); (try clear hkp); (try clear ho0); (try clear ho1); obtain ⟨Ao28, co28, eo28⟩ := Kd.R_slice HO191.out; subst eo28; have hcz29_0 : w27.cell? ⟨gb179, 0, none⟩ = some (.int .u32 a0) := (blk_cell BK179.out 0).trans rfl; have hcz29_1 : w27.cell? ⟨gb179, 1, none⟩ = some (.int .i64 a1) := (blk_cell BK179.out 1).trans rfl; have hcz29_2 : w27.cell? ⟨gb179, 2, none⟩ = some (.slice none 0 0) := (blk_cell BK179.out 2).trans rfl; have hcz29_3 : w27.cell? ⟨gb179, 3, none⟩ = some (.bool false) := (blk_cell BK179.out 3).trans rfl; have hcz29_4 : w27.cell? ⟨gb179, 4, none⟩ = some (.bool false) := (blk_cell BK179.out 4).trans rfl; have hcz29_5 : w27.cell? ⟨gb179, 5, none⟩ = some (.bool false) := (blk_cell BK179.out 5).trans rfl; have hfz29_0 := blk_frozen BK179.out 0; have hfz29_1 := blk_frozen BK179.out 1; have hfz29_2 := blk_frozen BK179.out 2; have hfz29_3 := blk_frozen BK179.out 3; have hfz29_4 := blk_frozen BK179.out 4; have hfz29_5 := blk_frozen BK179.out 5; obtain ⟨Ao30, co30, eo30⟩ := Kd.S_slice HO188.out; subst eo30))
          go_loopg [12, 49] kj4 (fun kq v12 v49 w' => ∃ (x12_2 : List (S34)) (x49_2 : Int), v49 = .int .i64 x49_2 ∧ Aside0 (marlinelaw05_AsyncKeeps.l0 kq l2 l3 y183 t186 x12_2 t186 (t186.length : Int) x49_2 a0 a1 t189 t192 t193 t194 = some r) ∧ Aside0 (kq ≤ kj4) ∧ Aside0 (Kd.R (Kd.int .u8) 5 w' w.heap.size (fun k_ => some k_ ≠ ((.slice Ao28 t189.length co28) : Value).ownBlock) (.slice Ao26 y183.length co26) y183) ∧ Aside0 (Kd.S k34 34 w' w.heap.size (fun k_ => some k_ ≠ ((.slice Ao26 y183.length co26) : Value).ownBlock ∧ some k_ ≠ (v12 : Value).ownBlock ∧ some k_ ≠ ((.slice Ao28 t189.length co28) : Value).ownBlock) (.slice Ao30 t186.length co30) t186) ∧ Aside0 (Kd.S k34 34 w' w.heap.size (fun k_ => some k_ ≠ ((.slice Ao26 y183.length co26) : Value).ownBlock ∧ some k_ ≠ ((.slice Ao30 t186.length co30) : Value).ownBlock ∧ some k_ ≠ ((.slice Ao30 t186.length co30) : Value).ownBlock ∧ some k_ ≠ ((.slice Ao28 t189.length co28) : Value).ownBlock) v12 x12_2) ∧ Aside0 (Kd.S k34 34 w' w.heap.size (fun k_ => some k_ ≠ ((.slice Ao26 y183.length co26) : Value).ownBlock ∧ some k_ ≠ (v12 : Value).ownBlock ∧ some k_ ≠ ((.slice Ao28 t189.length co28) : Value).ownBlock) (.slice Ao30 t186.length co30) t186) ∧ Aside0 (Kd.R (Kd.int .u8) 5 w' w.heap.size (fun k_ => some k_ ≠ ((.slice Ao26 y183.length co26) : Value).ownBlock) (.slice Ao28 t189.length co28) t189) ∧ Aside0 (w'.heap[gb179]? = some (.cells #[.int .u32 a0, .int .i64 a1, (.slice Ao28 t189.length co28), .bool t192, .bool t193, .bool t194] 58 (0, 0))) ∧ Aside0 (Below w.heap.size w w'))
          case atStart => exact ⟨(([] : List (S34))), (0), (by first | rfl | (simp; done) | (simp [*]; done)), H', ⟨Nat.le_refl _⟩, ⟨by (with_reducible repeat (first | apply Kd.R_alloc | apply Kd.R_drewN | apply Kd.R_drew)); exact Kd.R_mono (Kd.R_far (p := ⟨gb179, 5, none⟩) (Kd.R_far (p := ⟨gb179, 4, none⟩) (Kd.R_far (p := ⟨gb179, 3, none⟩) (Kd.R_far (p := ⟨gb179, 2, none⟩) (Kd.R_types HO185.out BK179.out (by decide)) (fun _ hk => hk.2) (.slice Ao28 t189.length co28)) (fun _ hk => hk.2) (.bool t192)) (fun _ hk => hk.2) (.bool t193)) (fun _ hk => hk.2) (.bool t194)) (fun _ hk => hk.1)⟩, ⟨by (with_reducible repeat (first | apply Kd.S_alloc | apply Kd.S_drewN | apply Kd.S_drew)); exact Kd.S_mono (Kd.S_far (p := ⟨gb179, 5, none⟩) (Kd.S_far (p := ⟨gb179, 4, none⟩) (Kd.S_far (p := ⟨gb179, 3, none⟩) (Kd.S_far (p := ⟨gb179, 2, none⟩) (Kd.S_types HO188.out BK179.out (by decide)) (fun _ hk => hk.2) (.slice Ao28 t189.length co28)) (fun _ hk => hk.2) (.bool t192)) (fun _ hk => hk.2) (.bool t193)) (fun _ hk => hk.2) (.bool t194)) (fun _ hk => ⟨hk.1.2, ⟨(by simp [Value.ownBlock]), hk.1.1⟩⟩)⟩, ⟨by first | exact Kd.S_nil _ _ _ _ _ | exact Kd.N_nil _ _ _ _ _ | exact Kd.V_nil _ _ _ _ _ | exact Kd.Q_nil _ _ _ _ _ | exact Kd.R_nil _ _ _ _ _⟩, ⟨by (with_reducible repeat (first | apply Kd.S_alloc | apply Kd.S_drewN | apply Kd.S_drew)); exact Kd.S_mono (Kd.S_far (p := ⟨gb179, 5, none⟩) (Kd.S_far (p := ⟨gb179, 4, none⟩) (Kd.S_far (p := ⟨gb179, 3, none⟩) (Kd.S_far (p := ⟨gb179, 2, none⟩) (Kd.S_types HO188.out BK179.out (by decide)) (fun _ hk => hk.2) (.slice Ao28 t189.length co28)) (fun _ hk => hk.2) (.bool t192)) (fun _ hk => hk.2) (.bool t193)) (fun _ hk => hk.2) (.bool t194)) (fun _ hk => ⟨hk.1.2, ⟨(by simp [Value.ownBlock]), hk.1.1⟩⟩)⟩, ⟨by (with_reducible repeat (first | apply Kd.R_alloc | apply Kd.R_drewN | apply Kd.R_drew)); exact Kd.R_mono (Kd.R_far (p := ⟨gb179, 5, none⟩) (Kd.R_far (p := ⟨gb179, 4, none⟩) (Kd.R_far (p := ⟨gb179, 3, none⟩) (Kd.R_far (p := ⟨gb179, 2, none⟩) (Kd.R_types HO191.out BK179.out (by decide)) (fun _ hk => hk.2) (.slice Ao28 t189.length co28)) (fun _ hk => hk.2) (.bool t192)) (fun _ hk => hk.2) (.bool t193)) (fun _ hk => hk.2) (.bool t194)) (fun _ hk => hk.1)⟩, ⟨by (with_reducible repeat (first | refine blk_drewN ?_ _ | refine blk_drew ?_ | refine blk_alloc ?_ _)); refine blk_put (cs := #[.int .u32 a0, .int .i64 a1, .slice Ao28 t189.length co28, .bool t192, .bool t193, .bool false]) ?_ 5 _ rfl; (with_reducible repeat (first | refine blk_drewN ?_ _ | refine blk_drew ?_ | refine blk_alloc ?_ _)); refine blk_put (cs := #[.int .u32 a0, .int .i64 a1, .slice Ao28 t189.length co28, .bool t192, .bool false, .bool false]) ?_ 4 _ rfl; (with_reducible repeat (first | refine blk_drewN ?_ _ | refine blk_drew ?_ | refine blk_alloc ?_ _)); refine blk_put (cs := #[.int .u32 a0, .int .i64 a1, .slice Ao28 t189.length co28, .bool false, .bool false, .bool false]) ?_ 3 _ rfl; (with_reducible repeat (first | refine blk_drewN ?_ _ | refine blk_drew ?_ | refine blk_alloc ?_ _)); refine blk_put (cs := #[.int .u32 a0, .int .i64 a1, .slice none 0 0, .bool false, .bool false, .bool false]) ?_ 2 _ rfl; (with_reducible repeat (first | refine blk_drewN ?_ _ | refine blk_drew ?_ | refine blk_alloc ?_ _)); exact BK179.out⟩, ⟨by repeat (first | (with_reducible first | exact HB.out | apply below_alloc | apply pw_below_drewN | apply below_drew1 | refine below_set ?_ GE179.out) | exact HB.out)⟩⟩
          case round =>
            clear H'
            try clear c1
            try clear c2
            try clear p2
            try clear c3
            try clear c5
            try clear c7
            try clear c8
            try clear c8b0
            try clear c10
            try clear c10b0
            try clear c11
            try clear c12
            try clear c12b0
            try clear c12b1
            try clear c14
            try clear c16
            try clear c19
            try clear hcz25_0
            try clear hcz25_1
            try clear hcz25_2
            try clear hcz25_3
            try clear hcz25_4
            try clear hcz25_5
            try clear hcz29_0
            try clear hcz29_1
            try clear hcz29_2
            try clear hcz29_3
            try clear hcz29_4
            try clear hcz29_5
            try clear hfz25_0
            try clear hfz25_1
            try clear hfz25_2
            try clear hfz25_3
            try clear hfz25_4
            try clear hfz25_5
            try clear hfz29_0
            try clear hfz29_1
            try clear hfz29_2
            try clear hfz29_3
            try clear hfz29_4
            try clear hfz29_5
            try clear p2
            obtain ⟨x12_2, x49_2, rfl, HA, HK2, HO_10, HO_11, HO_12, HO_47, HO_180002, BK179, HB⟩ := hrel
            cases gk with
            | zero => exact absurd HA.out (by simp [marlinelaw05_AsyncKeeps.l0])
            | succ k2 =>
              have H := HA.out
              clear HA
              simp only [marlinelaw05_AsyncKeeps.l0] at H
              by_cases c31 : x49_2 < (t186.length : Int)
              · rw [if_pos c31] at H
                have c31b0 : decide (x49_2 < (t186.length : Int)) = true := decide_eq_true c31
                clear c31
                by_cases c32 : 0 ≤ x49_2
                · rw [if_pos c32] at H
                  have c32b0 : decide (0 ≤ x49_2) = true := decide_eq_true c32
                  clear c32
                  by_cases c33 : x49_2 < (t186.length : Int)
                  · rw [if_pos c33] at H
                    have c33b0 : decide (x49_2 < (t186.length : Int)) = true := decide_eq_true c33
                    clear c33
                    obtain ⟨y197, hy197⟩ : ∃ y_ : List Int, y_ = (([] : List Int)) := ⟨_, rfl⟩
                    replace H : (if y197.length + ((rd_T34 t186 x49_2).f1).length < 140737488355328 then (if x12_2.length < 4398046511104 then (marlinelaw05_AsyncKeeps.l0 k2 l2 l3 y183 t186 (x12_2 ++ [(⟨(rd_T34 t186 x49_2).f0, (y197 ++ ((rd_T34 t186 x49_2).f1))⟩ : S34)]) t186 (t186.length : Int) (wrap64 (x49_2 + 1)) a0 a1 t189 t192 t193 t194) else (none)) else (none)) = some r := by first | (rw [hy197]; with_reducible exact H) | (have H2_ := (Option.bind_some _ _).symm.trans H; rw [hy197]; with_reducible exact H2_) | (have H2_ := (Option.bind_some _ _).symm.trans H; with_reducible exact H2_) | with_reducible exact H | (rw [hy197]; exact H) | exact H
                    have Ny197 := Aside0.mk hy197
                    clear hy197
                    by_cases c34 : y197.length + ((rd_T34 t186 x49_2).f1).length < 140737488355328
                    · rw [if_pos c34] at H
                      have LMc34 := Aside0.mk c34
                      clear c34
                      obtain ⟨y200, hy200⟩ : ∃ y_ : List Int, y_ = (y197 ++ ((rd_T34 t186 x49_2).f1)) := ⟨_, rfl⟩
                      replace H : (if x12_2.length < 4398046511104 then (marlinelaw05_AsyncKeeps.l0 k2 l2 l3 y183 t186 (x12_2 ++ [(⟨(rd_T34 t186 x49_2).f0, y200⟩ : S34)]) t186 (t186.length : Int) (wrap64 (x49_2 + 1)) a0 a1 t189 t192 t193 t194) else (none)) = some r := by first | (rw [hy200]; with_reducible exact H) | (have H2_ := (Option.bind_some _ _).symm.trans H; rw [hy200]; with_reducible exact H2_) | (have H2_ := (Option.bind_some _ _).symm.trans H; with_reducible exact H2_) | with_reducible exact H | (rw [hy200]; exact H) | exact H
                      have Ny200 := Aside0.mk hy200
                      clear hy200
                      by_cases c35 : x12_2.length < 4398046511104
                      · rw [if_pos c35] at H
                        have LMc35 := Aside0.mk c35
                        clear c35
                        obtain ⟨y203, hy203⟩ : ∃ y_ : List (S34), y_ = (x12_2 ++ [(⟨(rd_T34 t186 x49_2).f0, y200⟩ : S34)]) := ⟨_, rfl⟩
                        replace H : (marlinelaw05_AsyncKeeps.l0 k2 l2 l3 y183 t186 y203 t186 (t186.length : Int) (wrap64 (x49_2 + 1)) a0 a1 t189 t192 t193 t194) = some r := by first | (rw [hy203]; with_reducible exact H) | (have H2_ := (Option.bind_some _ _).symm.trans H; rw [hy203]; with_reducible exact H2_) | (have H2_ := (Option.bind_some _ _).symm.trans H; with_reducible exact H2_) | with_reducible exact H | (rw [hy203]; exact H) | exact H
                        have Ny203 := Aside0.mk hy203
                        clear hy203
                        have H' := Aside0.mk H
                        clear H
                        have p195 : 0 ≤ (x49_2 : Int) := of_decide_eq_true (by first | (with_reducible assumption) | assumption)
                        have q195 : x49_2 < (t186.length : Int) := of_decide_eq_true (by first | (with_reducible assumption) | assumption)
                        (try clear hHeld)
                        obtain ⟨ad195, A195_1, c195_1, e195, hx195_0, hx195_1, hl195_1, hi195_1⟩ := at_T34 (Kd.S_reads' HO_47.out).2.2 x49_2 p195 q195
                        cases e195
                        obtain ⟨ce195, hce195, hMe195, hcc195⟩ := Kd.S_get HO_47.out z34 x49_2 p195 (by first | exact q195 | exact of_decide_eq_true (by first | (with_reducible assumption) | assumption) | (have e_ := (Kd.S_reads' HO_47.out).1; omega))
                        obtain ⟨ve195_1, rfl, ge195_1⟩ := k34_openM hMe195
                        have hv195_1 := hcc195 1 _ rfl
                        rw [add_field _ _ 1 (by omega)] at hv195_1
                        replace hv195_1 := Option.some.inj (hv195_1.symm.trans hx195_1)
                        rw [hv195_1] at ge195_1
                        have HL195_1 := Aside0.mk (show Kd.R (Kd.int .u8) 5 _ _ _ _ ((rd_T34 t186 x49_2).f1) from ge195_1)
                        clear hv195_1 ge195_1
                        clear hcc195 hce195
                        have HR195_1 := Aside0.mk hi195_1
                        have HC195_1 := Aside0.mk hl195_1
                        clear hi195_1 hl195_1
                        replace p195 := eq_true p195
                        replace q195 := eq_true q195
                        try go_wp2_with (first | ((with_reducible refine gate_dst (N := 14) rfl ?_); (try (refine gate_guard (by rfl) ?_; dsimp only)); refine box_event ?hg (N := 14) ?hd (cs := #[.int .i64 0, .slice none 0 0]) (t := 34) ?hr ?_; (case hd => rfl); (case hg => rfl); (case hr => first | (go_simp; done) | (go_simp; simp only [IntKind.wrap_u8, IntKind.wrap_u16, IntKind.wrap_u32, IntKind.wrap_u64]; done) | (go_simp; simp only [IntKind.wrap_u8, IntKind.wrap_u16, IntKind.wrap_u32, IntKind.wrap_u64, Int.tmod_eq_emod_of_nonneg (Int.natCast_nonneg _), Int.emod_emod]; done) | (go_simp; rfl)); intro gb196 hg w36 hbox hb; have n0_ := Aside0.mk (Kd.R_below (by (with_reducible repeat (first | apply Kd.R_alloc | apply Kd.R_drewN | apply Kd.R_drew)); exact HO_10.out) hb); have n1_ := Aside0.mk (Kd.S_below (Kd.S_elderB (by (with_reducible repeat (first | apply Kd.S_alloc | apply Kd.S_drewN | apply Kd.S_drew)); exact HO_11.out) gb196 (Nat.le_of_eq hg.symm)) hb); have n2_ := Aside0.mk (Kd.S_below (Kd.S_elderB (by (with_reducible repeat (first | apply Kd.S_alloc | apply Kd.S_drewN | apply Kd.S_drew)); exact HO_12.out) gb196 (Nat.le_of_eq hg.symm)) hb); have n3_ := Aside0.mk (Kd.S_below (Kd.S_elderB (by (with_reducible repeat (first | apply Kd.S_alloc | apply Kd.S_drewN | apply Kd.S_drew)); exact HO_47.out) gb196 (Nat.le_of_eq hg.symm)) hb); have n4_ := Aside0.mk (Kd.R_below (by (with_reducible repeat (first | apply Kd.R_alloc | apply Kd.R_drewN | apply Kd.R_drew)); exact HO_180002.out) hb); have n5_ := Aside0.mk (Kd.R_below (by (with_reducible repeat (first | apply Kd.R_alloc | apply Kd.R_drewN | apply Kd.R_drew)); exact HL195_1.out) hb); have n6_ := Aside0.mk (blk_below (g := gb179) (o := .cells #[.int .u32 a0, .int .i64 a1, .slice Ao28 t189.length co28, .bool t192, .bool t193, .bool t194] 58 (0, 0)) (by (with_reducible repeat (first | refine blk_drewN ?_ _ | refine blk_drew ?_ | refine blk_alloc ?_ _)); exact BK179.out) hb); have n7_ := Aside0.mk (Kd.C_below (by repeat (first | (with_reducible exact HR195_1.out) | (with_reducible refine Kd.C_alloc ?_ _) | (with_reducible refine Kd.C_drewN ?_ _) | (with_reducible refine Kd.C_drew ?_) | exact HR195_1.out)) hb); have n8_ := Aside0.mk (below_step (by repeat (first | (with_reducible first | exact HB.out | apply below_alloc | apply pw_below_drewN | apply below_drew1 | refine below_set ?_ GE179.out) | exact HB.out)) hb); have n9_ := Aside0.mk (hbox); have n10_ := Aside0.mk ((by rw [hg]; exact (below_size (by repeat (first | (with_reducible first | exact HB.out | apply below_alloc | apply pw_below_drewN | apply below_drew1 | refine below_set ?_ GE179.out) | exact HB.out))) : w.heap.size ≤ gb196)); have n11_ := Aside0.mk ((by rw [hg]; exact (below_size (by repeat (first | (with_reducible first | exact HB.out | apply below_alloc | apply pw_below_drewN | apply below_drew1 | refine below_set ?_ GE179.out) | exact HB.out))) : w.heap.size ≤ gb196)); have n12_ := Aside0.mk ((by rw [hg]; exact Nat.ne_of_lt (blk_lt (g := gb179) (o := .cells #[.int .u32 a0, .int .i64 a1, .slice Ao28 t189.length co28, .bool t192, .bool t193, .bool t194] 58 (0, 0)) (by (with_reducible repeat (first | refine blk_drewN ?_ _ | refine blk_drew ?_ | refine blk_alloc ?_ _)); exact BK179.out)) : gb179 ≠ gb196)); have n13_ := Aside0.mk ((by rw [hg]; exact Nat.ne_of_gt (blk_lt (g := gb179) (o := .cells #[.int .u32 a0, .int .i64 a1, .slice Ao28 t189.length co28, .bool t192, .bool t193, .bool t194] 58 (0, 0)) (by (with_reducible repeat (first | refine blk_drewN ?_ _ | refine blk_drew ?_ | refine blk_alloc ?_ _)); exact BK179.out)) : gb196 ≠ gb179)); clear HO_10; clear HO_11; clear HO_12; clear HO_47; clear HO_180002; clear HL195_1; clear BK179; clear HR195_1; clear HB; have HO_10 := n0_; have HO_11 := n1_; have HO_12 := n2_; have HO_47 := n3_; have HO_180002 := n4_; have HL195_1 := n5_; have BK179 := n6_; have HR195_1 := n7_; have HB := n8_; have BK196 := n9_; have GW196 := n10_; have GE196 := n11_; have NB179_196 := n12_; have NB196_179 := n13_; clear n0_ n1_ n2_ n3_ n4_ n5_ n6_ n7_ n8_ n9_ n10_ n11_ n12_ n13_; clear hb hbox hg; have hnb37 := NB196_179.out; have hnc37 := NB179_196.out; have hcz38_0 : w36.cell? ⟨gb196, 0, none⟩ = some (.int .i64 0) := (blk_cell BK196.out 0).trans rfl; have hcz38_1 : w36.cell? ⟨gb196, 1, none⟩ = some (.slice none 0 0) := (blk_cell BK196.out 1).trans rfl; have hfz38_0 := blk_frozen BK196.out 0; have hfz38_1 := blk_frozen BK196.out 1))
                        have n0_ : Aside0 (Kd.R (Kd.int .u8) 5 ((w36.setCell ⟨gb196, 0, none⟩ (.int .i64 ((rd_T34 t186 x49_2).f0))).setCell ⟨gb196, 1, none⟩ (.slice A195_1 ((rd_T34 t186 x49_2).f1).length c195_1)) w.heap.size (fun k_ => some k_ ≠ (.slice Ao28 t189.length co28 : Value).ownBlock) (.slice Ao26 y183.length co26) y183) := ⟨by (with_reducible repeat (first | apply Kd.R_alloc | apply Kd.R_drewN | apply Kd.R_drew)); exact Kd.R_mono (Kd.R_far (p := ⟨gb196, 1, none⟩) (Kd.R_far (p := ⟨gb196, 0, none⟩) (Kd.R_types HO_10.out BK196.out (by decide)) (fun _ hk => hk.2) (.int .i64 ((rd_T34 t186 x49_2).f0))) (fun _ hk => hk.2) (.slice A195_1 ((rd_T34 t186 x49_2).f1).length c195_1)) (fun _ hk => hk.1)⟩
                        have n1_ : Aside0 (Kd.S k34 34 ((w36.setCell ⟨gb196, 0, none⟩ (.int .i64 ((rd_T34 t186 x49_2).f0))).setCell ⟨gb196, 1, none⟩ (.slice A195_1 ((rd_T34 t186 x49_2).f1).length c195_1)) w.heap.size (fun k_ => some k_ ≠ (.slice Ao26 y183.length co26 : Value).ownBlock ∧ some k_ ≠ (u12 : Value).ownBlock ∧ some k_ ≠ (.slice Ao28 t189.length co28 : Value).ownBlock ∧ k_ ≠ gb196) (.slice (some ad195) t186.length co30) t186) := ⟨by (with_reducible repeat (first | apply Kd.S_alloc | apply Kd.S_drewN | apply Kd.S_drew)); exact Kd.S_mono (Kd.S_far (p := ⟨gb196, 1, none⟩) (Kd.S_far (p := ⟨gb196, 0, none⟩) (Kd.S_mono HO_11.out (fun k_ hk => (⟨hk, hk.2⟩ : _ ∧ k_ ≠ gb196))) (fun _ hk => hk.2) (.int .i64 ((rd_T34 t186 x49_2).f0))) (fun _ hk => hk.2) (.slice A195_1 ((rd_T34 t186 x49_2).f1).length c195_1)) (fun _ hk => ⟨hk.1.1.1, ⟨hk.1.1.2.1, ⟨hk.1.1.2.2, hk.1.2⟩⟩⟩)⟩
                        have n2_ : Aside0 (Kd.S k34 34 ((w36.setCell ⟨gb196, 0, none⟩ (.int .i64 ((rd_T34 t186 x49_2).f0))).setCell ⟨gb196, 1, none⟩ (.slice A195_1 ((rd_T34 t186 x49_2).f1).length c195_1)) w.heap.size (fun k_ => some k_ ≠ (.slice Ao26 y183.length co26 : Value).ownBlock ∧ some k_ ≠ (.slice (some ad195) t186.length co30 : Value).ownBlock ∧ some k_ ≠ (.slice (some ad195) t186.length co30 : Value).ownBlock ∧ some k_ ≠ (.slice Ao28 t189.length co28 : Value).ownBlock ∧ k_ ≠ gb196) u12 x12_2) := ⟨by (with_reducible repeat (first | apply Kd.S_alloc | apply Kd.S_drewN | apply Kd.S_drew)); exact Kd.S_mono (Kd.S_far (p := ⟨gb196, 1, none⟩) (Kd.S_far (p := ⟨gb196, 0, none⟩) (Kd.S_mono HO_12.out (fun k_ hk => (⟨hk, hk.2⟩ : _ ∧ k_ ≠ gb196))) (fun _ hk => hk.2) (.int .i64 ((rd_T34 t186 x49_2).f0))) (fun _ hk => hk.2) (.slice A195_1 ((rd_T34 t186 x49_2).f1).length c195_1)) (fun _ hk => ⟨hk.1.1.1, ⟨hk.1.1.2.1, ⟨hk.1.1.2.2.1, ⟨hk.1.1.2.2.2, hk.1.2⟩⟩⟩⟩)⟩
                        have n3_ : Aside0 (Kd.S k34 34 ((w36.setCell ⟨gb196, 0, none⟩ (.int .i64 ((rd_T34 t186 x49_2).f0))).setCell ⟨gb196, 1, none⟩ (.slice A195_1 ((rd_T34 t186 x49_2).f1).length c195_1)) w.heap.size (fun k_ => some k_ ≠ (.slice Ao26 y183.length co26 : Value).ownBlock ∧ some k_ ≠ (u12 : Value).ownBlock ∧ some k_ ≠ (.slice Ao28 t189.length co28 : Value).ownBlock ∧ k_ ≠ gb196) (.slice (some ad195) t186.length co30) t186) := ⟨by (with_reducible repeat (first | apply Kd.S_alloc | apply Kd.S_drewN | apply Kd.S_drew)); exact Kd.S_mono (Kd.S_far (p := ⟨gb196, 1, none⟩) (Kd.S_far (p := ⟨gb196, 0, none⟩) (Kd.S_mono HO_47.out (fun k_ hk => (⟨hk, hk.2⟩ : _ ∧ k_ ≠ gb196))) (fun _ hk => hk.2) (.int .i64 ((rd_T34 t186 x49_2).f0))) (fun _ hk => hk.2) (.slice A195_1 ((rd_T34 t186 x49_2).f1).length c195_1)) (fun _ hk => ⟨hk.1.1.1, ⟨hk.1.1.2.1, ⟨hk.1.1.2.2, hk.1.2⟩⟩⟩)⟩
                        have n4_ : Aside0 (Kd.R (Kd.int .u8) 5 ((w36.setCell ⟨gb196, 0, none⟩ (.int .i64 ((rd_T34 t186 x49_2).f0))).setCell ⟨gb196, 1, none⟩ (.slice A195_1 ((rd_T34 t186 x49_2).f1).length c195_1)) w.heap.size (fun k_ => some k_ ≠ (.slice Ao26 y183.length co26 : Value).ownBlock) (.slice Ao28 t189.length co28) t189) := ⟨by (with_reducible repeat (first | apply Kd.R_alloc | apply Kd.R_drewN | apply Kd.R_drew)); exact Kd.R_mono (Kd.R_far (p := ⟨gb196, 1, none⟩) (Kd.R_far (p := ⟨gb196, 0, none⟩) (Kd.R_types HO_180002.out BK196.out (by decide)) (fun _ hk => hk.2) (.int .i64 ((rd_T34 t186 x49_2).f0))) (fun _ hk => hk.2) (.slice A195_1 ((rd_T34 t186 x49_2).f1).length c195_1)) (fun _ hk => hk.1)⟩
                        have n5_ : Aside0 (Kd.R (Kd.int .u8) 5 ((w36.setCell ⟨gb196, 0, none⟩ (.int .i64 ((rd_T34 t186 x49_2).f0))).setCell ⟨gb196, 1, none⟩ (.slice A195_1 ((rd_T34 t186 x49_2).f1).length c195_1)) w.heap.size (fun k_ => some k_ ≠ (.slice Ao26 y183.length co26 : Value).ownBlock ∧ some k_ ≠ (u12 : Value).ownBlock ∧ some k_ ≠ (.slice (some ad195) t186.length co30 : Value).ownBlock ∧ some k_ ≠ (.slice Ao28 t189.length co28 : Value).ownBlock) (.slice A195_1 ((rd_T34 t186 x49_2).f1).length c195_1) ((rd_T34 t186 x49_2).f1)) := ⟨by (with_reducible repeat (first | apply Kd.R_alloc | apply Kd.R_drewN | apply Kd.R_drew)); exact Kd.R_mono (Kd.R_far (p := ⟨gb196, 1, none⟩) (Kd.R_far (p := ⟨gb196, 0, none⟩) (Kd.R_types HL195_1.out BK196.out (by decide)) (fun _ hk => hk.2) (.int .i64 ((rd_T34 t186 x49_2).f0))) (fun _ hk => hk.2) (.slice A195_1 ((rd_T34 t186 x49_2).f1).length c195_1)) (fun _ hk => ⟨hk.1.1.1, ⟨hk.1.1.2.1, ⟨hk.1.2, hk.1.1.2.2⟩⟩⟩)⟩
                        have n6_ : Aside0 (((w36.setCell ⟨gb196, 0, none⟩ (.int .i64 ((rd_T34 t186 x49_2).f0))).setCell ⟨gb196, 1, none⟩ (.slice A195_1 ((rd_T34 t186 x49_2).f1).length c195_1)).heap[gb179]? = some (.cells #[.int .u32 a0, .int .i64 a1, .slice Ao28 t189.length co28, .bool t192, .bool t193, .bool t194] 58 (0, 0))) := ⟨by (with_reducible repeat (first | refine blk_drewN ?_ _ | refine blk_drew ?_ | refine blk_alloc ?_ _)); refine blk_far ?_ NB179_196.out _; (with_reducible repeat (first | refine blk_drewN ?_ _ | refine blk_drew ?_ | refine blk_alloc ?_ _)); refine blk_far ?_ NB179_196.out _; (with_reducible repeat (first | refine blk_drewN ?_ _ | refine blk_drew ?_ | refine blk_alloc ?_ _)); exact BK179.out⟩
                        have n7_ : Aside0 (((w36.setCell ⟨gb196, 0, none⟩ (.int .i64 ((rd_T34 t186 x49_2).f0))).setCell ⟨gb196, 1, none⟩ (.slice A195_1 ((rd_T34 t186 x49_2).f1).length c195_1)).heap[gb196]? = some (.cells #[.int .i64 ((rd_T34 t186 x49_2).f0), .slice A195_1 ((rd_T34 t186 x49_2).f1).length c195_1] 34 (0, 0))) := ⟨by (with_reducible repeat (first | refine blk_drewN ?_ _ | refine blk_drew ?_ | refine blk_alloc ?_ _)); refine blk_put (cs := #[.int .i64 ((rd_T34 t186 x49_2).f0), .slice none 0 0]) ?_ 1 _ rfl; (with_reducible repeat (first | refine blk_drewN ?_ _ | refine blk_drew ?_ | refine blk_alloc ?_ _)); refine blk_put (cs := #[.int .i64 0, .slice none 0 0]) ?_ 0 _ rfl; (with_reducible repeat (first | refine blk_drewN ?_ _ | refine blk_drew ?_ | refine blk_alloc ?_ _)); exact BK196.out⟩
                        have n8_ : Aside0 (Below w.heap.size w ((w36.setCell ⟨gb196, 0, none⟩ (.int .i64 ((rd_T34 t186 x49_2).f0))).setCell ⟨gb196, 1, none⟩ (.slice A195_1 ((rd_T34 t186 x49_2).f1).length c195_1))) := ⟨by repeat (first | (with_reducible first | exact HB.out | apply below_alloc | apply pw_below_drewN | apply below_drew1 | refine below_set ?_ GE179.out | refine below_set ?_ GE196.out) | exact HB.out)⟩
                        (try clear HO_10)
                        (try clear HO_11)
                        (try clear HO_12)
                        (try clear HO_47)
                        (try clear HO_180002)
                        (try clear HL195_1)
                        (try clear BK179)
                        (try clear BK196)
                        (try clear HB)
                        generalize ((w36.setCell ⟨gb196, 0, none⟩ (.int .i64 ((rd_T34 t186 x49_2).f0))).setCell ⟨gb196, 1, none⟩ (.slice A195_1 ((rd_T34 t186 x49_2).f1).length c195_1)) = w39 at n0_ n1_ n2_ n3_ n4_ n5_ n6_ n7_ n8_ ⊢
                        have HO_10 := n0_
                        have HO_11 := n1_
                        have HO_12 := n2_
                        have HO_47 := n3_
                        have HO_180002 := n4_
                        have HL195_1 := n5_
                        have BK179 := n6_
                        have BK196 := n7_
                        have HB := n8_
                        clear n0_ n1_ n2_ n3_ n4_ n5_ n6_ n7_ n8_
                        have n0_ := Aside0.mk (Kd.R_drew HO_10.out)
                        have n1_ := Aside0.mk (Kd.S_drew HO_11.out)
                        have n2_ := Aside0.mk (Kd.S_drew HO_12.out)
                        have n3_ := Aside0.mk (Kd.S_drew HO_47.out)
                        have n4_ := Aside0.mk (Kd.R_drew HO_180002.out)
                        have n5_ := Aside0.mk (Kd.R_drew HL195_1.out)
                        have n6_ := Aside0.mk (blk_drew BK179.out)
                        have n7_ := Aside0.mk (blk_drew BK196.out)
                        have n8_ := Aside0.mk (below_drew1 HB.out)
                        clear HO_10
                        clear HO_11
                        clear HO_12
                        clear HO_47
                        clear HO_180002
                        clear HL195_1
                        clear BK179
                        clear BK196
                        clear HB
                        have HO_10 := n0_
                        have HO_11 := n1_
                        have HO_12 := n2_
                        have HO_47 := n3_
                        have HO_180002 := n4_
                        have HL195_1 := n5_
                        have BK179 := n6_
                        have BK196 := n7_
                        have HB := n8_
                        clear n0_ n1_ n2_ n3_ n4_ n5_ n6_ n7_ n8_
                        refine start_ (n := 11) (S := fun w' => w'.cell? ⟨gb196, 0, none⟩ = some (.int .i64 ((rd_T34 t186 x49_2).f0)) ∧ w'.cell? ⟨gb196, 1, none⟩ = some (.slice A195_1 ((rd_T34 t186 x49_2).f1).length c195_1)) (ds := []) #[false, false, false, false, false, false, false, false, false, false, false] (by kernel_rfl) rfl rfl ⟨(blk_cell BK196.out 0).trans rfl, (blk_cell BK196.out 1).trans rfl⟩ (fun hHeld => ?_); refine with_tabW marlinelaw05_AsyncKeeps.tab12 marlinelaw05_AsyncKeeps.bits12 (fun HT_ HW_ => ?_)
                        generalize w39.drew = w40 at HO_10 HO_11 HO_12 HO_47 HO_180002 HL195_1 BK179 BK196 HB hHeld ⊢
                        refine pure_ (i := 0) (N := some 53) (v := ?_) (a' := ?_) #[true, false, false, false, false, false, false, false, false, false, false] rfl rfl (any_of HT_.out (by kernel_rfl)) (fun _ _ _ h => h) (Or.inl ⟨by rfl, ?_⟩) ?_ ?_
                        rotate_left
                        · intro w'
                          go_simp
                          with_reducible rfl
                        rotate_left
                        · simp only [Act.put, List.setIfInBounds_toArray, List.set_cons_zero, List.set_cons_succ, i64_w, i32_w]
                          rfl
                        refine pure_ (i := 1) (N := some 54) (v := ?_) (a' := ?_) #[true, true, false, false, false, false, false, false, false, false, false] rfl rfl (any_of HT_.out (by kernel_rfl)) (fun _ _ _ h => h) (Or.inl ⟨by rfl, ?_⟩) ?_ ?_
                        rotate_left
                        · intro w'
                          go_simp
                          with_reducible rfl
                        rotate_left
                        · simp only [Act.put, List.setIfInBounds_toArray, List.set_cons_zero, List.set_cons_succ, i64_w, i32_w]
                          rfl
                        refine pure_ (i := 4) (N := some 57) (v := ?_) (a' := ?_) #[true, true, false, false, true, false, false, false, false, false, false] rfl rfl (any_of HT_.out (by kernel_rfl)) (fun _ _ _ h => h) (Or.inl ⟨by rfl, ?_⟩) ?_ ?_
                        rotate_left
                        · intro w'
                          go_simp
                          with_reducible rfl
                        rotate_left
                        · simp only [Act.put, List.setIfInBounds_toArray, List.set_cons_zero, List.set_cons_succ, i64_w, i32_w]
                          rfl
                        refine take_ (i := 2) (N := some 55) (v := ?_) (a' := ?_) #[true, true, true, false, true, false, false, false, false, false, false] rfl rfl (take_ofW HT_.out HW_.out (by kernel_rfl)) (fun _ _ _ h => h) (Or.inl ⟨by rfl, ?_⟩) hHeld ?_ ?_
                        rotate_left
                        · rintro w' ⟨s0, s1⟩
                          go_simp
                          with_reducible rfl
                        rotate_left
                        · simp only [Act.put, List.setIfInBounds_toArray, List.set_cons_zero, List.set_cons_succ, i64_w, i32_w]
                          rfl
                        refine take_ (i := 5) (N := some 58) (v := ?_) (a' := ?_) #[true, true, true, false, true, true, false, false, false, false, false] rfl rfl (take_ofW HT_.out HW_.out (by kernel_rfl)) (fun _ _ _ h => h) (Or.inl ⟨by rfl, ?_⟩) hHeld ?_ ?_
                        rotate_left
                        · rintro w' ⟨s0, s1⟩
                          go_simp
                          with_reducible rfl
                        rotate_left
                        · simp only [Act.put, List.setIfInBounds_toArray, List.set_cons_zero, List.set_cons_succ, i64_w, i32_w]
                          rfl
                        refine one_ (i := 3) (N := some 56) #[true, true, true, true, true, true, false, false, false, false, false] rfl rfl (one_of HT_.out (by kernel_rfl)) (by decide) (fun K hK => ?_)
                        refine Kd.R_lit_step (Kd.int .u8) _ 5 ?hg (N := 56) ?hd (xs := ([] : List Int)) (inner := []) (ok := fun _ => True) (okp := fun _ => True) ?hr ?hp (fun _ hk => hk) trivial (Below.refl _ _) (Nat.le_refl _) (by simp) ?_; (case hd => rfl); (case hg => rfl); (case hr => first | (go_simp; done) | (go_simp; simp only [IntKind.wrap_u8, IntKind.wrap_u16, IntKind.wrap_u32, IntKind.wrap_u64]; done) | (go_simp; simp only [IntKind.wrap_u8, IntKind.wrap_u16, IntKind.wrap_u32, IntKind.wrap_u64, Int.tmod_eq_emod_of_nonneg (Int.natCast_nonneg _), Int.emod_emod]; done) | (go_simp; rfl)); (case hp => exact (Reps.none _ _))
                        intro v198 w41 ho42 hb hg_ hnew_
                        clear hg_ hnew_
                        (first | rw [← Ny197.out] at ho42 | (simp only [Int.reduceToNat] at ho42; rw [← Ny197.out] at ho42))
                        have n0_ := Aside0.mk (Kd.R_elder' (by (with_reducible repeat (first | apply Kd.R_alloc | apply Kd.R_drewN | apply Kd.R_drew)); exact HO_10.out) (Kd.R_base ho42) hb)
                        have n1_ := Aside0.mk (Kd.S_elder' (by (with_reducible repeat (first | apply Kd.S_alloc | apply Kd.S_drewN | apply Kd.S_drew)); exact HO_11.out) (Kd.R_base ho42) hb)
                        have n2_ := Aside0.mk (Kd.S_elder' (by (with_reducible repeat (first | apply Kd.S_alloc | apply Kd.S_drewN | apply Kd.S_drew)); exact HO_12.out) (Kd.R_base ho42) hb)
                        have n3_ := Aside0.mk (Kd.S_elder' (by (with_reducible repeat (first | apply Kd.S_alloc | apply Kd.S_drewN | apply Kd.S_drew)); exact HO_47.out) (Kd.R_base ho42) hb)
                        have n4_ := Aside0.mk (Kd.R_elder' (by (with_reducible repeat (first | apply Kd.R_alloc | apply Kd.R_drewN | apply Kd.R_drew)); exact HO_180002.out) (Kd.R_base ho42) hb)
                        have n5_ := Aside0.mk (Kd.R_elder' (by (with_reducible repeat (first | apply Kd.R_alloc | apply Kd.R_drewN | apply Kd.R_drew)); exact HL195_1.out) (Kd.R_base ho42) hb)
                        have n6_ := Aside0.mk (Kd.R_lower (Kd.R_new' (Kd.R_new' (Kd.R_new' ho42 (Kd.R_lt (by (with_reducible repeat (first | apply Kd.R_alloc | apply Kd.R_drewN | apply Kd.R_drew)); exact HO_10.out))) (Kd.R_lt (by (with_reducible repeat (first | apply Kd.R_alloc | apply Kd.R_drewN | apply Kd.R_drew)); exact HO_180002.out))) (Kd.R_lt (by (with_reducible repeat (first | apply Kd.R_alloc | apply Kd.R_drewN | apply Kd.R_drew)); exact HL195_1.out))) (below_size (by repeat (first | (with_reducible first | exact HB.out | apply below_alloc | apply pw_below_drewN | apply below_drew1 | refine below_set ?_ GE179.out | refine below_set ?_ GE196.out) | exact HB.out))))
                        have n7_ := Aside0.mk (blk_below (g := gb179) (o := .cells #[.int .u32 a0, .int .i64 a1, .slice Ao28 t189.length co28, .bool t192, .bool t193, .bool t194] 58 (0, 0)) (by (with_reducible repeat (first | refine blk_drewN ?_ _ | refine blk_drew ?_ | refine blk_alloc ?_ _)); exact BK179.out) hb)
                        have n8_ := Aside0.mk (blk_below (g := gb196) (o := .cells #[.int .i64 ((rd_T34 t186 x49_2).f0), .slice A195_1 ((rd_T34 t186 x49_2).f1).length c195_1] 34 (0, 0)) (by (with_reducible repeat (first | refine blk_drewN ?_ _ | refine blk_drew ?_ | refine blk_alloc ?_ _)); exact BK196.out) hb)
                        have n9_ := Aside0.mk (below_step (by repeat (first | (with_reducible first | exact HB.out | apply below_alloc | apply pw_below_drewN | apply below_drew1 | refine below_set ?_ GE179.out | refine below_set ?_ GE196.out) | exact HB.out)) hb)
                        clear HO_10
                        clear HO_11
                        clear HO_12
                        clear HO_47
                        clear HO_180002
                        clear HL195_1
                        clear BK179
                        clear BK196
                        clear HB
                        have HO_10 := n0_
                        have HO_11 := n1_
                        have HO_12 := n2_
                        have HO_47 := n3_
                        have HO_180002 := n4_
                        have HL195_1 := n5_
                        have HO199 := n6_
                        have BK179 := n7_
                        have BK196 := n8_
                        have HB := n9_
                        clear n0_ n1_ n2_ n3_ n4_ n5_ n6_ n7_ n8_ n9_
                        clear hb ho42
                        refine hK.out _ _ ⟨(blk_cell BK196.out 0).trans rfl, (blk_cell BK196.out 1).trans rfl⟩ (fun hHeld => ?_)
                        clear hK K
                        refine norm_ (a' := ?_) ?_ ?_
                        rotate_left
                        · show Act.put _ (some 56) _ = _
                          simp only [Act.put, List.setIfInBounds_toArray, List.set_cons_zero, List.set_cons_succ, i64_w, i32_w]
                          rfl
                        refine one_ (i := 6) (N := some 59) #[true, true, true, true, true, true, true, false, false, false, false] rfl rfl (one_of HT_.out (by kernel_rfl)) (by decide) (fun K hK => ?_)
                        refine Kd.R_append_rows_step (Kd.int .u8) (w0 := w) w.heap.size (by rfl) (.tmp 56) (.tmp 58) 28 5 (.int .u8 0) 1 rfl Try.underlying28 info5 rfl (by decide) (by omega) v198 y197 ((rd_T34 t186 x49_2).f1) _ _ _ (fun k_ => some k_ ≠ (.slice Ao26 y183.length co26 : Value).ownBlock ∧ some k_ ≠ (.slice Ao28 t189.length co28 : Value).ownBlock ∧ some k_ ≠ (.slice A195_1 ((rd_T34 t186 x49_2).f1).length c195_1 : Value).ownBlock) (fun _ => False) rfl rfl ?aO ?aR (fun _ _ h => h) (fun _ h => h.elim) ?aF ?aB ?aS ?aL ?_
                        (case aR => repeat (first | exact ((Kd.R_reads' (by (with_reducible repeat (first | apply Kd.R_alloc | apply Kd.R_drewN | apply Kd.R_drew)); exact HL195_1.out)).2.2) | (with_reducible refine Kd.C_alloc ?_ _) | (with_reducible refine Kd.C_drewN ?_ _) | (with_reducible refine Kd.C_drew ?_)))
                        (case aB => exact (by repeat (first | (with_reducible first | exact HB.out | apply below_alloc | apply pw_below_drewN | apply below_drew1 | refine below_set ?_ GE179.out | refine below_set ?_ GE196.out) | exact HB.out)))
                        (case aF => exact (fun k_ hk => ⟨Kd.fresh' (Kd.R_lt (by (with_reducible repeat (first | apply Kd.R_alloc | apply Kd.R_drewN | apply Kd.R_drew)); exact HO_10.out)) k_ hk, Kd.fresh' (Kd.R_lt (by (with_reducible repeat (first | apply Kd.R_alloc | apply Kd.R_drewN | apply Kd.R_drew)); exact HO_180002.out)) k_ hk, Kd.fresh' (Kd.R_lt (by (with_reducible repeat (first | apply Kd.R_alloc | apply Kd.R_drewN | apply Kd.R_drew)); exact HL195_1.out)) k_ hk⟩))
                        (case aO => exact (by (with_reducible repeat (first | apply Kd.R_alloc | apply Kd.R_drewN | apply Kd.R_drew)); exact Kd.R_mono HO199.out (fun _ hk => ⟨hk.1.1.2, ⟨hk.1.2, hk.2⟩⟩)))
                        (case aS => exact (below_size (by repeat (first | (with_reducible first | exact HB.out | apply below_alloc | apply pw_below_drewN | apply below_drew1 | refine below_set ?_ GE179.out | refine below_set ?_ GE196.out) | exact HB.out))))
                        (case aL => have := LMc34.out; omega)
                        intro v201 w43 ho hb hg hat
                        rw [← Ny200.out] at ho
                        have n0_ := Aside0.mk (Kd.R_after (ok := (fun k_ => some k_ ≠ (.slice Ao28 t189.length co28 : Value).ownBlock)) (by (with_reducible repeat (first | apply Kd.R_alloc | apply Kd.R_drewN | apply Kd.R_drew)); exact HO_10.out) hg hat)
                        have n1_ := Aside0.mk (Kd.S_after (ok := (fun k_ => some k_ ≠ (.slice Ao26 y183.length co26 : Value).ownBlock ∧ some k_ ≠ (u12 : Value).ownBlock ∧ some k_ ≠ (.slice Ao28 t189.length co28 : Value).ownBlock ∧ k_ ≠ gb196)) (by (with_reducible repeat (first | apply Kd.S_alloc | apply Kd.S_drewN | apply Kd.S_drew)); exact HO_11.out) hg hat)
                        have n2_ := Aside0.mk (Kd.S_after (ok := (fun k_ => some k_ ≠ (.slice Ao26 y183.length co26 : Value).ownBlock ∧ some k_ ≠ (.slice (some ad195) t186.length co30 : Value).ownBlock ∧ some k_ ≠ (.slice (some ad195) t186.length co30 : Value).ownBlock ∧ some k_ ≠ (.slice Ao28 t189.length co28 : Value).ownBlock ∧ k_ ≠ gb196)) (by (with_reducible repeat (first | apply Kd.S_alloc | apply Kd.S_drewN | apply Kd.S_drew)); exact HO_12.out) hg hat)
                        have n3_ := Aside0.mk (Kd.S_after (ok := (fun k_ => some k_ ≠ (.slice Ao26 y183.length co26 : Value).ownBlock ∧ some k_ ≠ (u12 : Value).ownBlock ∧ some k_ ≠ (.slice Ao28 t189.length co28 : Value).ownBlock ∧ k_ ≠ gb196)) (by (with_reducible repeat (first | apply Kd.S_alloc | apply Kd.S_drewN | apply Kd.S_drew)); exact HO_47.out) hg hat)
                        have n4_ := Aside0.mk (Kd.R_after (ok := (fun k_ => some k_ ≠ (.slice Ao26 y183.length co26 : Value).ownBlock)) (by (with_reducible repeat (first | apply Kd.R_alloc | apply Kd.R_drewN | apply Kd.R_drew)); exact HO_180002.out) hg hat)
                        have n5_ := Aside0.mk (blk_grown (g := gb179) (o := .cells #[.int .u32 a0, .int .i64 a1, .slice Ao28 t189.length co28, .bool t192, .bool t193, .bool t194] 58 (0, 0)) (by (with_reducible repeat (first | refine blk_drewN ?_ _ | refine blk_drew ?_ | refine blk_alloc ?_ _)); exact BK179.out) hg (Kd.R_ne HO199.out BK179.out (by decide)))
                        have n6_ := Aside0.mk (Kd.R_after (ok := (fun k_ => some k_ ≠ (.slice Ao26 y183.length co26 : Value).ownBlock ∧ some k_ ≠ (u12 : Value).ownBlock ∧ some k_ ≠ (.slice (some ad195) t186.length co30 : Value).ownBlock ∧ some k_ ≠ (.slice Ao28 t189.length co28 : Value).ownBlock)) (by (with_reducible repeat (first | apply Kd.R_alloc | apply Kd.R_drewN | apply Kd.R_drew)); exact HL195_1.out) hg hat)
                        have n7_ := Aside0.mk (blk_grown (g := gb196) (o := .cells #[.int .i64 ((rd_T34 t186 x49_2).f0), .slice A195_1 ((rd_T34 t186 x49_2).f1).length c195_1] 34 (0, 0)) (by (with_reducible repeat (first | refine blk_drewN ?_ _ | refine blk_drew ?_ | refine blk_alloc ?_ _)); exact BK196.out) hg (Kd.R_ne HO199.out BK196.out (by decide)))
                        have n8_ := Aside0.mk (hb)
                        have n9_ := Aside0.mk (ho)
                        clear HO_10
                        clear HO_11
                        clear HO_12
                        clear HO_47
                        clear HO_180002
                        clear BK179
                        clear HL195_1
                        clear BK196
                        clear HB
                        clear HO199
                        have HO_10 := n0_
                        have HO_11 := n1_
                        have HO_12 := n2_
                        have HO_47 := n3_
                        have HO_180002 := n4_
                        have BK179 := n5_
                        have HL195_1 := n6_
                        have BK196 := n7_
                        have HB := n8_
                        have HO202 := n9_
                        clear n0_ n1_ n2_ n3_ n4_ n5_ n6_ n7_ n8_ n9_
                        clear ho hb hg hat
                        obtain ⟨Ao44, co44, eo44⟩ := Kd.R_slice HO202.out
                        (first | subst eo44 | (injection eo44 with f1_ f2_ f3_; have f4_ := f1_.symm; have f5_ := f3_.symm; clear f1_ f2_ f3_; subst f4_; subst f5_))
                        refine hK.out _ _ ⟨(blk_cell BK196.out 0).trans rfl, (blk_cell BK196.out 1).trans rfl⟩ (fun hHeld => ?_)
                        clear hK K
                        refine norm_ (a' := ?_) ?_ ?_
                        rotate_left
                        · show Act.put _ (some 59) _ = _
                          simp only [Act.put, List.setIfInBounds_toArray, List.set_cons_zero, List.set_cons_succ, i64_w, i32_w]
                          rfl
                        refine pure_ (i := 7) (N := some 60) (v := ?_) (a' := ?_) #[true, true, true, true, true, true, true, true, false, false, false] rfl rfl (any_of HT_.out (by kernel_rfl)) (fun _ _ _ h => h) (Or.inl ⟨by rfl, ?_⟩) ?_ ?_
                        rotate_left
                        · intro w'
                          go_simp
                          with_reducible rfl
                        rotate_left
                        · simp only [Act.put, List.setIfInBounds_toArray, List.set_cons_zero, List.set_cons_succ, i64_w, i32_w]
                          rfl
                        refine one_ (i := 8) (N := some 61) #[true, true, true, true, true, true, true, true, true, false, false] rfl rfl (one_of HT_.out (by kernel_rfl)) (by decide) (fun K hK => ?_)
                        refine value_ (w1 := ?_) (v := ?_) (by rfl) rfl ?_ ?_
                        rotate_left 2
                        · go_simp
                          constructor
                          · rfl
                          · rfl
                        refine hK.out _ _ ⟨(blk_cell (blk_alloc BK196.out _) 0).trans rfl, (blk_cell (blk_alloc BK196.out _) 1).trans rfl⟩ (fun hHeld => ?_)
                        clear hK K
                        refine norm_ (a' := ?_) ?_ ?_
                        rotate_left
                        · show Act.put _ (some 61) _ = _
                          simp only [Act.put, List.setIfInBounds_toArray, List.set_cons_zero, List.set_cons_succ, i64_w, i32_w]
                          rfl
                        refine one_ (i := 9) (N := some 62) #[true, true, true, true, true, true, true, true, true, true, false] rfl rfl (one_of HT_.out (by kernel_rfl)) (by decide) (fun K hK => ?_)
                        refine Kd.S_append_step k34 (w0 := w) w.heap.size (by rfl) (.tmp 53) (.tmp 61) 29 34 (.agg #[(.int .i64 0), (.slice none 0 0)]) 32 rfl Try.underlying29 info34 rfl (by decide) (by omega) u12 x12_2 (⟨(rd_T34 t186 x49_2).f0, y200⟩ : S34) [.int .i64 ((rd_T34 t186 x49_2).f0), .slice Ao44 y200.length co44] (fun k_ => some k_ ≠ (.slice Ao26 y183.length co26 : Value).ownBlock ∧ some k_ ≠ (.slice (some ad195) t186.length co30 : Value).ownBlock ∧ some k_ ≠ (.slice (some ad195) t186.length co30 : Value).ownBlock ∧ some k_ ≠ (.slice Ao28 t189.length co28 : Value).ownBlock ∧ k_ ≠ gb196) (fun k_ => some k_ = (.slice Ao44 y200.length co44 : Value).ownBlock) rfl rfl ?aP (fun k_ hk_ => ((Kd.R_mono (ok' := fun k_ => ((fun k_ => some k_ ≠ (.slice Ao26 y183.length co26 : Value).ownBlock ∧ some k_ ≠ (.slice (some ad195) t186.length co30 : Value).ownBlock ∧ some k_ ≠ (.slice (some ad195) t186.length co30 : Value).ownBlock ∧ some k_ ≠ (.slice Ao28 t189.length co28 : Value).ownBlock ∧ k_ ≠ gb196)) k_ ∧ some k_ ≠ (u12 : Value).ownBlock) (Kd.R_types (Kd.R_apart' (Kd.R_apart' (Kd.R_apart' (HO202.out) (Kd.S_typed HO_11.out) (by decide)) (Kd.S_typed HO_47.out) (by decide)) (Kd.S_typed HO_12.out) (by decide)) BK196.out (by decide)) (fun k_ hk => ⟨⟨hk.1.1.1.1.1, ⟨hk.1.1.1.2, ⟨hk.1.1.2, ⟨hk.1.1.1.1.2.1, hk.2⟩⟩⟩⟩, hk.1.2⟩))).1 k_ hk_.symm) ?aF ?aO ?aB ?aS ?aL ?_
                        (case aP => exact k34_mkM _ _ _ (⟨(rd_T34 t186 x49_2).f0, y200⟩ : S34) (Kd.R_mono (Kd.R_tight rfl (Kd.R_mono (ok' := fun k_ => ((fun k_ => some k_ ≠ (.slice Ao26 y183.length co26 : Value).ownBlock ∧ some k_ ≠ (.slice (some ad195) t186.length co30 : Value).ownBlock ∧ some k_ ≠ (.slice (some ad195) t186.length co30 : Value).ownBlock ∧ some k_ ≠ (.slice Ao28 t189.length co28 : Value).ownBlock ∧ k_ ≠ gb196)) k_ ∧ some k_ ≠ (u12 : Value).ownBlock) (Kd.R_types (Kd.R_apart' (Kd.R_apart' (Kd.R_apart' (HO202.out) (Kd.S_typed HO_11.out) (by decide)) (Kd.S_typed HO_47.out) (by decide)) (Kd.S_typed HO_12.out) (by decide)) BK196.out (by decide)) (fun k_ hk => ⟨⟨hk.1.1.1.1.1, ⟨hk.1.1.1.2, ⟨hk.1.1.2, ⟨hk.1.1.1.1.2.1, hk.2⟩⟩⟩⟩, hk.1.2⟩))) (fun _ h_ => h_)))
                        (case aB => exact (by repeat (first | (with_reducible first | exact HB.out | apply below_alloc | apply pw_below_drewN | apply below_drew1 | refine below_set ?_ GE179.out | refine below_set ?_ GE196.out) | exact HB.out)))
                        (case aF => exact (fun k_ hk => ⟨Kd.fresh' (Kd.R_lt (by (with_reducible repeat (first | apply Kd.R_alloc | apply Kd.R_drewN | apply Kd.R_drew)); exact HO_10.out)) k_ hk, Kd.fresh' (Kd.S_lt (by (with_reducible repeat (first | apply Kd.S_alloc | apply Kd.S_drewN | apply Kd.S_drew)); exact HO_11.out)) k_ hk, Kd.fresh' (Kd.S_lt (by (with_reducible repeat (first | apply Kd.S_alloc | apply Kd.S_drewN | apply Kd.S_drew)); exact HO_47.out)) k_ hk, Kd.fresh' (Kd.R_lt (by (with_reducible repeat (first | apply Kd.R_alloc | apply Kd.R_drewN | apply Kd.R_drew)); exact HO_180002.out)) k_ hk, Kd.freshB (g := gb196) (o := .cells #[.int .i64 ((rd_T34 t186 x49_2).f0), .slice A195_1 ((rd_T34 t186 x49_2).f1).length c195_1] 34 (0, 0)) (by (with_reducible repeat (first | refine blk_drewN ?_ _ | refine blk_drew ?_ | refine blk_alloc ?_ _)); exact BK196.out) k_ hk⟩))
                        (case aO => exact (by (with_reducible repeat (first | apply Kd.S_alloc | apply Kd.S_drewN | apply Kd.S_drew)); exact Kd.S_mono HO_12.out (fun k_ hk => ⟨⟨hk.1.1, ⟨hk.1.2.1, ⟨hk.1.2.2.1, ⟨hk.1.2.2.2.1, hk.1.2.2.2.2⟩⟩⟩⟩, fun e_ => hk.2 e_⟩)))
                        (case aS => exact (below_size (by repeat (first | (with_reducible first | exact HB.out | apply below_alloc | apply pw_below_drewN | apply below_drew1 | refine below_set ?_ GE179.out | refine below_set ?_ GE196.out) | exact HB.out))))
                        (case aL => have := LMc35.out; omega)
                        intro v204 w45 ho hb hg hat
                        rw [← Ny203.out] at ho
                        have n0_ := Aside0.mk (Kd.R_over' (by (with_reducible repeat (first | apply Kd.R_alloc | apply Kd.R_drewN | apply Kd.R_drew)); exact HO_10.out) (Kd.S_typed (by (with_reducible repeat (first | apply Kd.S_alloc | apply Kd.S_drewN | apply Kd.S_drew)); exact HO_12.out)) (by decide) hg)
                        have n1_ := Aside0.mk (Kd.S_after (ok := (fun k_ => some k_ ≠ (.slice Ao26 y183.length co26 : Value).ownBlock ∧ some k_ ≠ (.slice Ao28 t189.length co28 : Value).ownBlock ∧ some k_ ≠ (.slice Ao44 y200.length co44 : Value).ownBlock ∧ k_ ≠ gb196)) (by (with_reducible repeat (first | apply Kd.S_alloc | apply Kd.S_drewN | apply Kd.S_drew)); exact Kd.S_mono HO_11.out (fun _ hk => ⟨⟨hk.1.1, ⟨hk.1.2.2.1, ⟨hk.2, hk.1.2.2.2⟩⟩⟩, hk.1.2.1⟩)) hg hat)
                        have n2_ := Aside0.mk (Kd.S_after (ok := (fun k_ => some k_ ≠ (.slice Ao26 y183.length co26 : Value).ownBlock ∧ some k_ ≠ (.slice Ao28 t189.length co28 : Value).ownBlock ∧ some k_ ≠ (.slice Ao44 y200.length co44 : Value).ownBlock ∧ k_ ≠ gb196)) (by (with_reducible repeat (first | apply Kd.S_alloc | apply Kd.S_drewN | apply Kd.S_drew)); exact Kd.S_mono HO_47.out (fun _ hk => ⟨⟨hk.1.1, ⟨hk.1.2.2.1, ⟨hk.2, hk.1.2.2.2⟩⟩⟩, hk.1.2.1⟩)) hg hat)
                        have n3_ := Aside0.mk (Kd.R_over' (by (with_reducible repeat (first | apply Kd.R_alloc | apply Kd.R_drewN | apply Kd.R_drew)); exact HO_180002.out) (Kd.S_typed (by (with_reducible repeat (first | apply Kd.S_alloc | apply Kd.S_drewN | apply Kd.S_drew)); exact HO_12.out)) (by decide) hg)
                        have n4_ := Aside0.mk (blk_grown (g := gb179) (o := .cells #[.int .u32 a0, .int .i64 a1, .slice Ao28 t189.length co28, .bool t192, .bool t193, .bool t194] 58 (0, 0)) (by (with_reducible repeat (first | refine blk_drewN ?_ _ | refine blk_drew ?_ | refine blk_alloc ?_ _)); exact BK179.out) hg (Kd.S_ne HO_12.out BK179.out (by decide)))
                        have n5_ := Aside0.mk (Kd.R_after (ok := (fun k_ => some k_ ≠ (.slice Ao26 y183.length co26 : Value).ownBlock ∧ some k_ ≠ (.slice (some ad195) t186.length co30 : Value).ownBlock ∧ some k_ ≠ (.slice Ao28 t189.length co28 : Value).ownBlock ∧ some k_ ≠ (.slice Ao44 y200.length co44 : Value).ownBlock)) (by (with_reducible repeat (first | apply Kd.R_alloc | apply Kd.R_drewN | apply Kd.R_drew)); exact Kd.R_mono HL195_1.out (fun _ hk => ⟨⟨hk.1.1, ⟨hk.1.2.2.1, ⟨hk.1.2.2.2, hk.2⟩⟩⟩, hk.1.2.1⟩)) hg hat)
                        have n6_ := Aside0.mk (blk_grown (g := gb196) (o := .cells #[.int .i64 ((rd_T34 t186 x49_2).f0), .slice A195_1 ((rd_T34 t186 x49_2).f1).length c195_1] 34 (0, 0)) (by (with_reducible repeat (first | refine blk_drewN ?_ _ | refine blk_drew ?_ | refine blk_alloc ?_ _)); exact BK196.out) hg (Kd.S_away HO_12.out (fun _ hk => hk.1.2.2.2.2)))
                        have n7_ := Aside0.mk (hb)
                        have n8_ := Aside0.mk (ho)
                        clear HO_10
                        clear HO_11
                        clear HO_47
                        clear HO_180002
                        clear BK179
                        clear HL195_1
                        clear BK196
                        clear HB
                        clear HO_12
                        clear HO202
                        have HO_10 := n0_
                        have HO_11 := n1_
                        have HO_47 := n2_
                        have HO_180002 := n3_
                        have BK179 := n4_
                        have HL195_1 := n5_
                        have BK196 := n6_
                        have HB := n7_
                        have HO205 := n8_
                        clear n0_ n1_ n2_ n3_ n4_ n5_ n6_ n7_ n8_
                        clear ho hb hg hat
                        refine hK.out _ _ ⟨(blk_cell BK196.out 0).trans rfl, (blk_cell BK196.out 1).trans rfl⟩ (fun hHeld => ?_)
                        clear hK K
                        refine norm_ (a' := ?_) ?_ ?_
                        rotate_left
                        · show Act.put _ (some 62) _ = _
                          simp only [Act.put, List.setIfInBounds_toArray, List.set_cons_zero, List.set_cons_succ, i64_w, i32_w]
                          rfl
                        refine pure_ (i := 10) (N := some 12) (v := ?_) (a' := ?_) #[true, true, true, true, true, true, true, true, true, true, true] rfl rfl (any_of HT_.out (by kernel_rfl)) (fun _ _ _ h => h) (Or.inl ⟨by rfl, ?_⟩) ?_ ?_
                        rotate_left
                        · intro w'
                          go_simp
                          with_reducible rfl
                        rotate_left
                        · simp only [Act.put, List.setIfInBounds_toArray, List.set_cons_zero, List.set_cons_succ, i64_w, i32_w]
                          rfl
                        refine done_ (done_of HT_.out (by kernel_rfl)) ?_
                        try go_wp2
                        go_roundg k2
                        case measure => have := HJ4.out; have := HK2.out; omega
                        case rel => exact ⟨(y203), (wrap64 (x49_2 + 1)), (by first | rfl | (simp; done) | (simp [*]; done)), H', ⟨by have := HJ4.out; have := HK2.out; omega⟩, ⟨by (with_reducible repeat (first | apply Kd.R_alloc | apply Kd.R_drewN | apply Kd.R_drew)); exact Kd.R_mono HO_10.out (fun _ hk => hk.1)⟩, ⟨by (with_reducible repeat (first | apply Kd.S_alloc | apply Kd.S_drewN | apply Kd.S_drew)); exact Kd.S_mono HO_11.out (fun _ hk => ⟨hk.1.1, ⟨hk.2, hk.1.2.1⟩⟩)⟩, ⟨by (with_reducible repeat (first | apply Kd.S_alloc | apply Kd.S_drewN | apply Kd.S_drew)); exact Kd.S_mono HO205.out (fun _ hk => ⟨hk.1, ⟨hk.2.1, ⟨hk.2.2.1, hk.2.2.2.1⟩⟩⟩)⟩, ⟨by (with_reducible repeat (first | apply Kd.S_alloc | apply Kd.S_drewN | apply Kd.S_drew)); exact Kd.S_mono HO_47.out (fun _ hk => ⟨hk.1.1, ⟨hk.2, hk.1.2.1⟩⟩)⟩, ⟨by (with_reducible repeat (first | apply Kd.R_alloc | apply Kd.R_drewN | apply Kd.R_drew)); exact Kd.R_mono HO_180002.out (fun _ hk => hk.1)⟩, ⟨by (with_reducible repeat (first | refine blk_drewN ?_ _ | refine blk_drew ?_ | refine blk_alloc ?_ _)); exact BK179.out⟩, ⟨by repeat (first | (with_reducible first | exact HB.out | apply below_alloc | apply pw_below_drewN | apply below_drew1 | refine below_set ?_ GE179.out | refine below_set ?_ GE196.out) | exact HB.out)⟩⟩
                      · rw [if_neg c35] at H
                        exact absurd H (by simp)
                    · rw [if_neg c34] at H
                      exact absurd H (by simp)
                  · rw [if_neg c33] at H
                    exact absurd H (by simp)
                · rw [if_neg c32] at H
                  exact absurd H (by simp)
              · rw [if_neg c31] at H
                have c31b0 : decide (x49_2 < (t186.length : Int)) = false := decide_eq_false c31
                clear c31
                replace H := Option.bind_eq_some_iff.mp H
                obtain ⟨⟨t206, t209, t212, t213, t214⟩, A460, H⟩ := H
                replace H : ((marlinelaw05_same.f k2 t186 x12_2).bind fun t215 => (if t215 = true then ((marlineref01_Equal.f k2 y183 l2).bind fun t216 => (some t216)) else (none))) = some r := H
                have A46 := Aside0.mk A460
                clear A460
                replace H := Option.bind_eq_some_iff.mp H
                obtain ⟨t215, A470, H⟩ := H
                replace H : (if t215 = true then ((marlineref01_Equal.f k2 y183 l2).bind fun t216 => (some t216)) else (none)) = some r := H
                have A47 := Aside0.mk A470
                clear A470
                by_cases c48 : t215 = true
                · subst c48
                  have H1 : ((marlineref01_Equal.f k2 y183 l2).bind fun t216 => (some t216)) = some r := by rw [if_pos rfl] at H; exact H
                  clear H
                  have H := H1
                  clear H1
                  replace H := Option.bind_eq_some_iff.mp H
                  obtain ⟨t216, A490, H⟩ := H
                  replace H : (some t216) = some r := H
                  have A49 := Aside0.mk A490
                  clear A490
                  obtain rfl := Option.some.inj H
                  have hcz50_0 : wr.cell? ⟨gb179, 0, none⟩ = some (.int .u32 a0) := (blk_cell BK179.out 0).trans rfl
                  have hcz50_1 : wr.cell? ⟨gb179, 1, none⟩ = some (.int .i64 a1) := (blk_cell BK179.out 1).trans rfl
                  have hcz50_2 : wr.cell? ⟨gb179, 2, none⟩ = some (.slice Ao28 t189.length co28) := (blk_cell BK179.out 2).trans rfl
                  have hcz50_3 : wr.cell? ⟨gb179, 3, none⟩ = some (.bool t192) := (blk_cell BK179.out 3).trans rfl
                  have hcz50_4 : wr.cell? ⟨gb179, 4, none⟩ = some (.bool t193) := (blk_cell BK179.out 4).trans rfl
                  have hcz50_5 : wr.cell? ⟨gb179, 5, none⟩ = some (.bool t194) := (blk_cell BK179.out 5).trans rfl
                  have hfz50_0 := blk_frozen BK179.out 0
                  have hfz50_1 := blk_frozen BK179.out 1
                  have hfz50_2 := blk_frozen BK179.out 2
                  have hfz50_3 := blk_frozen BK179.out 3
                  have hfz50_4 := blk_frozen BK179.out 4
                  have hfz50_5 := blk_frozen BK179.out 5
                  go_wp2_with (first | (go_at_call 14; refine (dfx gb179 a0 a1 (fun k_ => some k_ = (.slice Ao28 t189.length co28 : Value).ownBlock) (.slice Ao28 t189.length co28) t189 t192 t193 t194 _ _ l3 t206 t209 t212 t213 t214 w _ ?side1 ?side2 ?side3 ?side4 A46.out ?side5 ?side6 ?side7).mono ?_; (case side1 => repeat (first | (with_reducible first | exact HB.out | apply below_alloc | apply pw_below_drewN | apply below_drew1 | refine below_set ?_ GE179.out) | exact HB.out)); (case side2 => exact Kd.R_tight rfl HO_180002.out); (case side3 => exact Kd.C_kept_came (Kd.heap_int .u8) HR3.out (by repeat (first | (with_reducible first | exact HB.out | apply below_alloc | apply pw_below_drewN | apply below_drew1 | refine below_set ?_ GE179.out) | exact HB.out)) (fun k_ hs_ => (fun e_ => Kd.R_base HO_180002.out k_ e_.symm) hs_)); (case side4 => exact HC3.out); (case side5 => exact (by (with_reducible repeat (first | refine blk_drewN ?_ _ | refine blk_drew ?_ | refine blk_alloc ?_ _)); exact BK179.out)); (case side6 => exact GE179.out); (case side7 => exact (fun hs_ => (fun e_ => (Kd.R_ne HO_180002.out BK179.out (by decide)) e_) hs_)); rintro e wq_ ⟨w51, v207, v210, rfl, rfl, ho0, ho1, hb, hkp⟩; have n0_ := Aside0.mk (Kd.R_mono (ok' := fun k_ => some k_ ≠ (v210 : Value).ownBlock) (Kd.R_keptB (HO_10.out) hkp (fun k_ hk_ hs_ => (hk_) hs_)) (fun k_ hk_ => fun e_ => Or.elim (ho1.1 k_ e_.symm) (fun hs_ => hk_.2.1 hs_) (fun hn_ => Nat.not_le.2 hk_.2.2 hn_))); have n1_ := Aside0.mk (Kd.S_mono (ok' := fun k_ => some k_ ≠ (.slice Ao26 y183.length co26 : Value).ownBlock ∧ some k_ ≠ (u12 : Value).ownBlock ∧ some k_ ≠ (v207 : Value).ownBlock ∧ some k_ ≠ (v210 : Value).ownBlock) (Kd.S_keptB (HO_11.out) hkp (fun k_ hk_ hs_ => (hk_.2.2) hs_)) (fun k_ hk_ => ⟨hk_.1.1, hk_.1.2.1, fun e_ => Or.elim ((Kd.S_R ho0).1 k_ e_.symm).1 (fun hs_ => hk_.2.1 hs_) (fun hn_ => Nat.not_le.2 hk_.2.2 hn_), fun e_ => Or.elim (ho1.1 k_ e_.symm) (fun hs_ => hk_.2.1 hs_) (fun hn_ => Nat.not_le.2 hk_.2.2 hn_)⟩)); have n2_ := Aside0.mk (Kd.S_mono (ok' := fun k_ => some k_ ≠ (.slice Ao26 y183.length co26 : Value).ownBlock ∧ some k_ ≠ (.slice Ao30 t186.length co30 : Value).ownBlock ∧ some k_ ≠ (.slice Ao30 t186.length co30 : Value).ownBlock ∧ some k_ ≠ (v207 : Value).ownBlock ∧ some k_ ≠ (v210 : Value).ownBlock) (Kd.S_keptB (HO_12.out) hkp (fun k_ hk_ hs_ => (hk_.2.2.2) hs_)) (fun k_ hk_ => ⟨hk_.1.1, hk_.1.2.1, hk_.1.2.2.1, fun e_ => Or.elim ((Kd.S_R ho0).1 k_ e_.symm).1 (fun hs_ => hk_.2.1 hs_) (fun hn_ => Nat.not_le.2 hk_.2.2 hn_), fun e_ => Or.elim (ho1.1 k_ e_.symm) (fun hs_ => hk_.2.1 hs_) (fun hn_ => Nat.not_le.2 hk_.2.2 hn_)⟩)); have n3_ := Aside0.mk (Kd.S_mono (ok' := fun k_ => some k_ ≠ (.slice Ao26 y183.length co26 : Value).ownBlock ∧ some k_ ≠ (u12 : Value).ownBlock ∧ some k_ ≠ (v207 : Value).ownBlock ∧ some k_ ≠ (v210 : Value).ownBlock) (Kd.S_keptB (HO_47.out) hkp (fun k_ hk_ hs_ => (hk_.2.2) hs_)) (fun k_ hk_ => ⟨hk_.1.1, hk_.1.2.1, fun e_ => Or.elim ((Kd.S_R ho0).1 k_ e_.symm).1 (fun hs_ => hk_.2.1 hs_) (fun hn_ => Nat.not_le.2 hk_.2.2 hn_), fun e_ => Or.elim (ho1.1 k_ e_.symm) (fun hs_ => hk_.2.1 hs_) (fun hn_ => Nat.not_le.2 hk_.2.2 hn_)⟩)); have n4_ := Aside0.mk (blk_kept (by (with_reducible repeat (first | refine blk_drewN ?_ _ | refine blk_drew ?_ | refine blk_alloc ?_ _)); exact BK179.out) hkp (fun hs_ => (fun e_ => (Kd.R_ne HO_180002.out BK179.out (by decide)) e_) hs_)); have n5_ := Aside0.mk (Kd.S_mono (ok' := fun k_ => some k_ ≠ (v210 : Value).ownBlock ∧ some k_ ≠ (.slice Ao26 y183.length co26 : Value).ownBlock ∧ some k_ ≠ (.slice Ao30 t186.length co30 : Value).ownBlock ∧ some k_ ≠ (u12 : Value).ownBlock ∧ some k_ ≠ (.slice Ao30 t186.length co30 : Value).ownBlock) ho0 (fun k_ hk_ => ⟨hk_.2, Or.elim hk_.1 (fun hs_ => fun e_ => (((HO_10.out).1 k_ e_.symm)) hs_) (fun hn_ => (Kd.fresh' (Kd.R_lt (by (with_reducible repeat (first | apply Kd.R_alloc | apply Kd.R_drewN | apply Kd.R_drew)); exact HO_10.out)) k_ hn_)), Or.elim hk_.1 (fun hs_ => fun e_ => (((Kd.S_R HO_11.out).1 k_ e_.symm).2.2) hs_) (fun hn_ => (Kd.fresh' (Kd.S_lt (by (with_reducible repeat (first | apply Kd.S_alloc | apply Kd.S_drewN | apply Kd.S_drew)); exact HO_11.out)) k_ hn_)), Or.elim hk_.1 (fun hs_ => fun e_ => (((Kd.S_R HO_12.out).1 k_ e_.symm).2.2.2) hs_) (fun hn_ => (Kd.fresh' (Kd.S_lt (by (with_reducible repeat (first | apply Kd.S_alloc | apply Kd.S_drewN | apply Kd.S_drew)); exact HO_12.out)) k_ hn_)), Or.elim hk_.1 (fun hs_ => fun e_ => (((Kd.S_R HO_47.out).1 k_ e_.symm).2.2) hs_) (fun hn_ => (Kd.fresh' (Kd.S_lt (by (with_reducible repeat (first | apply Kd.S_alloc | apply Kd.S_drewN | apply Kd.S_drew)); exact HO_47.out)) k_ hn_))⟩)); have n6_ := Aside0.mk (Kd.R_mono (ok' := fun k_ => some k_ ≠ (.slice Ao26 y183.length co26 : Value).ownBlock) ho1 (fun k_ hk_ => Or.elim hk_ (fun hs_ => fun e_ => (((HO_10.out).1 k_ e_.symm)) hs_) (fun hn_ => (Kd.fresh' (Kd.R_lt (by (with_reducible repeat (first | apply Kd.R_alloc | apply Kd.R_drewN | apply Kd.R_drew)); exact HO_10.out)) k_ hn_)))); have n7_ := Aside0.mk (hb); clear HO_10; clear HO_11; clear HO_12; clear HO_47; clear BK179; clear HB; clear HO_180002; have HO_10 := n0_; have HO_11 := n1_; have HO_12 := n2_; have HO_47 := n3_; have BK179 := n4_; have HO208 := n5_; have HO211 := n6_; have HB := n7_; clear n0_ n1_ n2_ n3_ n4_ n5_ n6_ n7_; (try clear hb); (try clear hkp); (try clear ho0); (try clear ho1); obtain ⟨Ao52, co52, eo52⟩ := Kd.R_slice HO211.out; subst eo52; have hcz53_0 : w51.cell? ⟨gb179, 0, none⟩ = some (.int .u32 a0) := (blk_cell BK179.out 0).trans rfl; have hcz53_1 : w51.cell? ⟨gb179, 1, none⟩ = some (.int .i64 a1) := (blk_cell BK179.out 1).trans rfl; have hcz53_2 : w51.cell? ⟨gb179, 2, none⟩ = some (.slice Ao28 t189.length co28) := (blk_cell BK179.out 2).trans rfl; have hcz53_3 : w51.cell? ⟨gb179, 3, none⟩ = some (.bool t192) := (blk_cell BK179.out 3).trans rfl; have hcz53_4 : w51.cell? ⟨gb179, 4, none⟩ = some (.bool t193) := (blk_cell BK179.out 4).trans rfl; have hcz53_5 : w51.cell? ⟨gb179, 5, none⟩ = some (.bool t194) := (blk_cell BK179.out 5).trans rfl; have hfz53_0 := blk_frozen BK179.out 0; have hfz53_1 := blk_frozen BK179.out 1; have hfz53_2 := blk_frozen BK179.out 2; have hfz53_3 := blk_frozen BK179.out 3; have hfz53_4 := blk_frozen BK179.out 4; have hfz53_5 := blk_frozen BK179.out 5; obtain ⟨Ao54, co54, eo54⟩ := Kd.S_slice HO_12.out; subst eo54) | ((with_reducible refine gate_callee (f := 15) rfl ?_); refine goesL_ (some 69) rfl rfl Try.func15 (by kernel_rfl) rfl #[.slice Ao30 t186.length co30, .slice Ao54 x12_2.length co54] rfl (by (try simp only [List.map_toArray, List.map_cons, List.map_nil]); first | done | rfl | (simp only [List.length_drop, List.length_take]; rfl)) ?_; (with_reducible refine (marlinelaw05_same.calls k2 _ _ t186 _ _ x12_2 true _ ?side1 ?side2 ?side3 ?side4 A47.out).mono ?_); (case side1 => refine (Kd.S_reads' (e := 34) (base := w.heap.size) (ok := fun k_ => (some k_ ≠ (.slice Ao26 y183.length co26 : Value).ownBlock ∧ (some k_ ≠ (.slice Ao54 x12_2.length co54 : Value).ownBlock ∧ (some k_ ≠ (v207 : Value).ownBlock ∧ some k_ ≠ (.slice Ao52 t209.length co52 : Value).ownBlock)))) (n := t186.length) (c := co30) ?_).2.2; exact (by (with_reducible repeat (first | apply Kd.S_alloc | apply Kd.S_drewN | apply Kd.S_drew)); exact (Kd.S_mono (Kd.S_far (p := ⟨gb179, 5, none⟩) (Kd.S_far (p := ⟨gb179, 4, none⟩) (Kd.S_far (p := ⟨gb179, 3, none⟩) (Kd.S_far (p := ⟨gb179, 2, none⟩) (Kd.S_types HO_11.out BK179.out (by decide)) (fun _ hk => hk.2) (.slice Ao52 t209.length co52)) (fun _ hk => hk.2) (.bool t212)) (fun _ hk => hk.2) (.bool t213)) (fun _ hk => hk.2) (.bool t214)) (fun _ h_ => h_.1)))); (case side2 => exact (Kd.S_reads' HO_11.out).2.1); (case side3 => refine (Kd.S_reads' (e := 34) (base := w.heap.size) (ok := fun k_ => (some k_ ≠ (.slice Ao26 y183.length co26 : Value).ownBlock ∧ (some k_ ≠ (.slice Ao30 t186.length co30 : Value).ownBlock ∧ (some k_ ≠ (.slice Ao30 t186.length co30 : Value).ownBlock ∧ (some k_ ≠ (v207 : Value).ownBlock ∧ some k_ ≠ (.slice Ao52 t209.length co52 : Value).ownBlock))))) (n := x12_2.length) (c := co54) ?_).2.2; exact (by (with_reducible repeat (first | apply Kd.S_alloc | apply Kd.S_drewN | apply Kd.S_drew)); exact (Kd.S_mono (Kd.S_far (p := ⟨gb179, 5, none⟩) (Kd.S_far (p := ⟨gb179, 4, none⟩) (Kd.S_far (p := ⟨gb179, 3, none⟩) (Kd.S_far (p := ⟨gb179, 2, none⟩) (Kd.S_types HO_12.out BK179.out (by decide)) (fun _ hk => hk.2) (.slice Ao52 t209.length co52)) (fun _ hk => hk.2) (.bool t212)) (fun _ hk => hk.2) (.bool t213)) (fun _ hk => hk.2) (.bool t214)) (fun _ h_ => h_.1)))); (case side4 => exact (Kd.S_reads' HO_12.out).2.1); rintro e w' ⟨rfl, ⟨nd, rfl⟩⟩; refine ⟨_, rfl, ?_⟩) | (go_at_call 17; (with_reducible refine (marlineref01_Equal.calls k2 _ _ y183 _ _ l2 t216 _ ?side1 ?side2 ?side3 ?side4 A49.out).mono ?_); (case side1 => refine (Kd.R_reads' (e := 5) (base := w.heap.size) (ok := fun k_ => some k_ ≠ (.slice Ao52 t209.length co52 : Value).ownBlock) (n := y183.length) (c := co26) ?_).2.2; exact (by (with_reducible repeat (first | apply Kd.R_alloc | apply Kd.R_drewN | apply Kd.R_drew)); exact (Kd.R_mono (Kd.R_far (p := ⟨gb179, 5, none⟩) (Kd.R_far (p := ⟨gb179, 4, none⟩) (Kd.R_far (p := ⟨gb179, 3, none⟩) (Kd.R_far (p := ⟨gb179, 2, none⟩) (Kd.R_types HO_10.out BK179.out (by decide)) (fun _ hk => hk.2) (.slice Ao52 t209.length co52)) (fun _ hk => hk.2) (.bool t212)) (fun _ hk => hk.2) (.bool t213)) (fun _ hk => hk.2) (.bool t214)) (fun _ h_ => h_.1)))); (case side2 => exact (Kd.R_reads' HO_10.out).2.1); (case side3 => exact Kd.C_below HR2.out (by repeat (first | (with_reducible first | exact HB.out | apply below_alloc | apply pw_below_drewN | apply below_drew1 | refine below_set ?_ GE179.out) | exact HB.out))); (case side4 => exact HC2.out); rintro e w' ⟨rfl, ⟨nd, rfl⟩⟩))
                  go_ret
                  exact ⟨by first | rfl | (simp [errW_none, errW_some] <;> rfl) | (simp [*, errW_none, errW_some] <;> rfl), by repeat (first | (with_reducible first | exact HB.out | apply below_alloc | apply pw_below_drewN | apply below_drew1 | refine below_set ?_ GE179.out) | exact HB.out)⟩
                · replace c48 := Bool.eq_false_iff.mpr c48
                  subst c48
                  have H1 : (none) = some r := by rw [if_neg (show ¬ (false = true) by decide)] at H; exact H
                  clear H
                  have H := H1
                  clear H1
                  exact absurd H (by simp)
        · rw [if_neg c19] at H
          exact absurd H (by simp)

/-- THE ONE PURE STATEMENT of marlinelaw05_AsyncKeeps: yours. -/
def marlinelaw05_AsyncKeeps.Pure : Prop := ∀ (a0 : Int) (a1 : Int) (l2 : List Int) (l3 : List Int), (Lit.int .u32 a0).wf = true → (Lit.int .i64 a1).wf = true → l2.length ≤ maxLen → l2.length * 1 ≤ 140737488351232 → (∀ x ∈ l2, (Lit.int .u8 x).wf = true) → l3.length ≤ maxLen → l3.length * 1 ≤ 140737488351232 → (∀ x ∈ l3, (Lit.int .u8 x).wf = true) → ∃ k, marlinelaw05_AsyncKeeps.f k a0 a1 l2 l3 = some true
theorem marlinelaw05_AsyncKeeps.walk (P : marlinelaw05_AsyncKeeps.Pure) (a0 : Int) (a1 : Int) (a2 : Option Addr) (len2 cap2 : Nat) (z2 : List Int) (a3 : Option Addr) (len3 cap3 : Nat) (z3 : List Int) (w : World) (w0 : (Lit.int .u32 a0).wf = true) (w1 : (Lit.int .i64 a1).wf = true) (w2 : (a2 = none ∧ len2 = 0 ∧ cap2 = 0 ∧ z2 = []) ∨ ∃ x, a2 = some x ∧ len2 ≤ cap2 ∧ cap2 ≤ maxLen ∧ z2.length = cap2 ∧ (∀ i, i < z2.length → w.cell? (x.add i) = some (.int .u8 (z2.getD i 0))) ∧ ∀ n ∈ z2, (Lit.int .u8 n).wf = true) (y2 : len2 * 1 ≤ 140737488351232) (w3 : (a3 = none ∧ len3 = 0 ∧ cap3 = 0 ∧ z3 = []) ∨ ∃ x, a3 = some x ∧ len3 ≤ cap3 ∧ cap3 ≤ maxLen ∧ z3.length = cap3 ∧ (∀ i, i < z3.length → w.cell? (x.add i) = some (.int .u8 (z3.getD i 0))) ∧ ∀ n ∈ z3, (Lit.int .u8 n).wf = true) (y3 : len3 * 1 ≤ 140737488351232) :
    Calls Try.prog 5 #[.int .u32 a0, .int .i64 a1, .slice a2 len2 cap2, .slice a3 len3 cap3] w fun e w' => e = .returned (.bool true) ∧ Below w.heap.size w w' := by
  obtain ⟨l2, rfl, hr2, hm2, hw2, hc2⟩ := ReadsInt.ofRowC w2
  obtain ⟨l3, rfl, hr3, hm3, hw3, hc3⟩ := ReadsInt.ofRowC w3
  obtain ⟨k, h⟩ := P a0 a1 l2 l3 w0 w1 hm2 y2 hw2 hm3 y3 hw3
  refine (marlinelaw05_AsyncKeeps.calls k a0 a1 _ _ l2 _ _ l3 true w (Kd.C_of_reads (d := (0 : Int)) (h1 := fun _ => rfl) hr2) hc2 (Kd.C_of_reads (d := (0 : Int)) (h1 := fun _ => rfl) hr3) hc3 h).mono ?_
  rintro e w' ⟨rfl, hd⟩
  exact ⟨rfl, hd⟩

end Go.Proofs.Ytjmclghjhnbafaa.Print
