/- A text that a program of this claim (wip/x) laid out of the translation: what Go functions come to, and that they come to it. Lean checks it. -/
import Derived.Test.YtofanmciehbabaaDoorPrint0
import Derived.Test.YtofanmciehbabaaDoorPrintAccmHas
import Derived.Test.YtofanmciehbabaaDoorPrintAccmList
import Derived.Test.YtofanmciehbabaaDoorPrintAccmMust
import Derived.Test.YtofanmciehbabaaDoorPrintAccmWithin
import Derived.Test.YtofanmciehbabaaDoorPrintBitsTrailingZeros32
import Derived.Test.YtofanmciehbabaaDoorPrintMarlinelaw03Speaks
import Derived.Test.YtofanmciehbabaaDoorPrintMarlineref01Equal
import Derived.Test.YtofanmciehbabaaDoorPrintMarlineref03Has
import Derived.Test.YtofanmciehbabaaDoorPrintMarlineref03List
import Derived.Test.YtofanmciehbabaaDoorPrintMarlineref03Must
namespace Go.Proofs.YtofanmciehbabaaDoor.Print
open Go.RowKit Go.Proofs.YtofanmciehbabaaDoorW.PrintWords Go.Proofs.YtofanmciehbabaaDoorW.PrintLast Go.Proofs.YtofanmciehbabaaDoorW.PrintMore
attribute [local go_sem] max2_int min2_int max_two min_two max_three min_three max_four min_four   -- for this text's walks alone
set_option linter.unusedVariables false
set_option linter.unusedSimpArgs false

/-! ### marlinelaw03_AccmTells: function 3 -/
mutual
def marlinelaw03_AccmTells.l0 : Nat → Int → Int → Bool → Int → Option (Bool)
  | 0, _, _, _, _ => none
  | k + 1, x0, x1, x5, x10 => if x10 < 256 then ((accm_Has.f x0 ((x10) % 256)).bind fun t125 => ((marlineref03_Has.f k x0 ((x10) % 256)).bind fun t126 => (if (t125 != t126) = true then (marlinelaw03_AccmTells.j1 k x0 x1 x5 ((x10) % 256) x10 true) else ((accm_Must.f k x0 ((x10) % 256)).bind fun t127 => ((marlineref03_Must.f k x0 ((x10) % 256)).bind fun t128 => (marlinelaw03_AccmTells.j1 k x0 x1 x5 ((x10) % 256) x10 (t127 != t128))))))) else ((accm_List.f k x0).bind fun t131 => ((marlineref03_List.f k x0).bind fun t134 => ((marlineref01_Equal.f k t131 t134).bind fun t137 => (if t137 = true then ((accm_Within.f x0 x1).bind fun t138 => (some (t138 == x5))) else (none)))))
def marlinelaw03_AccmTells.j1 : Nat → Int → Int → Bool → Int → Int → Bool → Option (Bool)
  | 0, _, _, _, _, _, _ => none
  | k + 1, x0, x1, x5, x7, x10, x30 => if x30 = true then (none) else (if x5 = true then ((marlineref03_Has.f k x0 x7).bind fun t129 => (if t129 = true then ((marlineref03_Has.f k x1 x7).bind fun t130 => (marlinelaw03_AccmTells.l0 k x0 x1 t130 (wrap64 (x10 + 1)))) else (marlinelaw03_AccmTells.l0 k x0 x1 true (wrap64 (x10 + 1))))) else (marlinelaw03_AccmTells.l0 k x0 x1 false (wrap64 (x10 + 1))))
end
def marlinelaw03_AccmTells.f (k : Nat) (a0 : Int) (a1 : Int) : Option (Bool) := (marlinelaw03_speaks.f k).bind fun t124 => (if t124 = true then (marlinelaw03_AccmTells.l0 k a0 a1 true 0) else (none))
theorem marlinelaw03_AccmTells.mono_l : ∀ k, (∀ y0 y1 y2 y3, LeO (marlinelaw03_AccmTells.l0 k y0 y1 y2 y3) (marlinelaw03_AccmTells.l0 (k + 1) y0 y1 y2 y3)) ∧ (∀ y0 y1 y2 y3 y4 y5, LeO (marlinelaw03_AccmTells.j1 k y0 y1 y2 y3 y4 y5) (marlinelaw03_AccmTells.j1 (k + 1) y0 y1 y2 y3 y4 y5))
  | 0 => ⟨fun _ _ _ _ r h => by simp [marlinelaw03_AccmTells.l0] at h, fun _ _ _ _ _ _ r h => by simp [marlinelaw03_AccmTells.j1] at h⟩
  | k + 1 => by
    obtain ⟨ih0, ih1⟩ := marlinelaw03_AccmTells.mono_l k
    refine ⟨?_, ?_⟩
    · intro y0 y1 y2 y3
      unfold marlinelaw03_AccmTells.l0
      repeat' first
      | (with_reducible exact ih0 _ _ _ _)
      | (with_reducible exact ih1 _ _ _ _ _ _)
      | (with_reducible exact accm_List.mono _ _)
      | (with_reducible exact accm_Must.mono _ _ _)
      | (with_reducible exact marlinelaw03_speaks.mono _)
      | (with_reducible exact marlineref01_Equal.mono _ _ _)
      | (with_reducible exact marlineref03_Has.mono _ _ _)
      | (with_reducible exact marlineref03_List.mono _ _)
      | (with_reducible exact marlineref03_Must.mono _ _ _)
      | (with_reducible exact LeO.refl _)
      | (with_reducible exact LeO.none _)
      | (with_reducible refine LeO.ite ?_ ?_)
      | (with_reducible refine LeO.bind ?_ (fun _ => ?_))
      | exact ih0 _ _ _ _
      | exact ih1 _ _ _ _ _ _
      | exact accm_List.mono _ _
      | exact accm_Must.mono _ _ _
      | exact marlinelaw03_speaks.mono _
      | exact marlineref01_Equal.mono _ _ _
      | exact marlineref03_Has.mono _ _ _
      | exact marlineref03_List.mono _ _
      | exact marlineref03_Must.mono _ _ _
      | exact LeO.none _
      | refine LeO.ite ?_ ?_
      | refine LeO.bind ?_ (fun _ => ?_)
    · intro y0 y1 y2 y3 y4 y5
      unfold marlinelaw03_AccmTells.j1
      repeat' first
      | (with_reducible exact ih0 _ _ _ _)
      | (with_reducible exact ih1 _ _ _ _ _ _)
      | (with_reducible exact accm_List.mono _ _)
      | (with_reducible exact accm_Must.mono _ _ _)
      | (with_reducible exact marlinelaw03_speaks.mono _)
      | (with_reducible exact marlineref01_Equal.mono _ _ _)
      | (with_reducible exact marlineref03_Has.mono _ _ _)
      | (with_reducible exact marlineref03_List.mono _ _)
      | (with_reducible exact marlineref03_Must.mono _ _ _)
      | (with_reducible exact LeO.refl _)
      | (with_reducible exact LeO.none _)
      | (with_reducible refine LeO.ite ?_ ?_)
      | (with_reducible refine LeO.bind ?_ (fun _ => ?_))
      | exact ih0 _ _ _ _
      | exact ih1 _ _ _ _ _ _
      | exact accm_List.mono _ _
      | exact accm_Must.mono _ _ _
      | exact marlinelaw03_speaks.mono _
      | exact marlineref01_Equal.mono _ _ _
      | exact marlineref03_Has.mono _ _ _
      | exact marlineref03_List.mono _ _
      | exact marlineref03_Must.mono _ _ _
      | exact LeO.none _
      | refine LeO.ite ?_ ?_
      | refine LeO.bind ?_ (fun _ => ?_)
theorem marlinelaw03_AccmTells.mono : ∀ a0 a1 k, LeO (marlinelaw03_AccmTells.f k a0 a1) (marlinelaw03_AccmTells.f (k + 1) a0 a1) := by
  intro a0 a1 k
  obtain ⟨ih0, ih1⟩ := marlinelaw03_AccmTells.mono_l k
  unfold marlinelaw03_AccmTells.f
  repeat' first
      | (with_reducible exact ih0 _ _ _ _)
      | (with_reducible exact ih1 _ _ _ _ _ _)
      | (with_reducible exact accm_List.mono _ _)
      | (with_reducible exact accm_Must.mono _ _ _)
      | (with_reducible exact marlinelaw03_speaks.mono _)
      | (with_reducible exact marlineref01_Equal.mono _ _ _)
      | (with_reducible exact marlineref03_Has.mono _ _ _)
      | (with_reducible exact marlineref03_List.mono _ _)
      | (with_reducible exact marlineref03_Must.mono _ _ _)
      | (with_reducible exact LeO.refl _)
      | (with_reducible exact LeO.none _)
      | (with_reducible refine LeO.ite ?_ ?_)
      | (with_reducible refine LeO.bind ?_ (fun _ => ?_))
      | exact ih0 _ _ _ _
      | exact ih1 _ _ _ _ _ _
      | exact accm_List.mono _ _
      | exact accm_Must.mono _ _ _
      | exact marlinelaw03_speaks.mono _
      | exact marlineref01_Equal.mono _ _ _
      | exact marlineref03_Has.mono _ _ _
      | exact marlineref03_List.mono _ _
      | exact marlineref03_Must.mono _ _ _
      | exact LeO.none _
      | refine LeO.ite ?_ ?_
      | refine LeO.bind ?_ (fun _ => ?_)
set_option maxHeartbeats 8000000 in
set_option maxRecDepth 100000 in
theorem marlinelaw03_AccmTells.calls (k : Nat) (a0 : Int) (a1 : Int) (r : Bool) (w : World) (h : marlinelaw03_AccmTells.f k a0 a1 = some r) (hGL : GL w := by first | exact hGL | exact hGL.below HB.out | exact hGL.below (by repeat (first | (with_reducible first | exact HB.out | apply below_alloc | apply pw_below_drewN | apply below_drew1) | exact HB.out))) :
    Calls Tryd.prog 3 #[.int .u32 a0, .int .u32 a1] w fun e w' => e = .returned (.bool r) ∧ Below w.heap.size w w' := by
  have HB := Aside0.mk (Below.refl w.heap.size w)
  have H : ((marlinelaw03_speaks.f k).bind fun t124 => (if t124 = true then (marlinelaw03_AccmTells.l0 k a0 a1 true 0) else (none))) = some r := h
  clear h
  replace H := Option.bind_eq_some_iff.mp H
  obtain ⟨t124, A30, H⟩ := H
  replace H : (if t124 = true then (marlinelaw03_AccmTells.l0 k a0 a1 true 0) else (none)) = some r := H
  have A3 := Aside0.mk A30
  clear A30
  by_cases c4 : t124 = true
  · subst c4
    have H1 : (marlinelaw03_AccmTells.l0 k a0 a1 true 0) = some r := by rw [if_pos rfl] at H; exact H
    clear H
    have H := H1
    clear H1
    have H' := Aside0.mk H
    clear H
    go_enter Tryd.func3, Tryd.ntmps3
    go_wp2_with (first | ((with_reducible refine gate_callee (f := 6) rfl ?_); refine goesL_ (some 8) rfl rfl Tryd.func6 (by kernel_rfl) rfl #[] rfl (by (try simp only [List.map_toArray, List.map_cons, List.map_nil]); first | done | rfl | (simp only [List.length_drop, List.length_take]; rfl)) ?_; (with_reducible refine (marlinelaw03_speaks.calls k  true _ A3.out).mono ?_); rintro e w5 ⟨rfl, hb⟩; refine ⟨_, rfl, ?_⟩; have n0_ := Aside0.mk (below_step (by repeat (first | (with_reducible first | exact HB.out | apply below_alloc | apply pw_below_drewN | apply below_drew1) | exact HB.out)) hb); clear HB; have HB := n0_; clear n0_; (try clear hb); (try clear hb2); (try clear hk); (try clear hi)))
    go_loopg [5, 10] k (fun kq v5 v10 w' => ∃ (x5_1 : Bool) (x10_1 : Int), v5 = .bool x5_1 ∧ v10 = .int .i64 x10_1 ∧ Aside0 (marlinelaw03_AccmTells.l0 kq a0 a1 x5_1 x10_1 = some r) ∧ Aside0 (kq ≤ k) ∧ Aside0 (Below w.heap.size w w'))
    case atStart => exact ⟨(true), (0), (by first | rfl | (simp; done) | (simp [*]; done)), (by first | rfl | (simp; done) | (simp [*]; done)), H', ⟨Nat.le_refl _⟩, ⟨by repeat (first | (with_reducible first | exact HB.out | apply below_alloc | apply pw_below_drewN | apply below_drew1) | exact HB.out)⟩⟩
    case round =>
      clear H'
      try clear p2
      try clear c3
      try clear c4
      obtain ⟨x5_1, x10_1, rfl, rfl, HA, HK1, HB⟩ := hrel
      cases gk with
      | zero => exact absurd HA.out (by simp [marlinelaw03_AccmTells.l0])
      | succ k1 =>
        have H := HA.out
        clear HA
        simp only [marlinelaw03_AccmTells.l0] at H
        by_cases c6 : x10_1 < 256
        · rw [if_pos c6] at H
          have c6b0 : decide (x10_1 < 256) = true := decide_eq_true c6
          clear c6
          have HC7 := Aside0.mk H
          clear H
          go_upto_region 8 with (fail)
          go_cut [30] (fun v30 wc => ∃ (kq : Nat) (x30_6 : Bool), v30 = .bool x30_6 ∧ Aside0 (marlinelaw03_AccmTells.j1 kq a0 a1 x5_1 ((x10_1) % 256) x10_1 x30_6 = some r) ∧ Aside0 (kq ≤ k1) ∧ Aside0 (Below w.heap.size w wc))
          case first =>
            have H := HC7.out
            clear HC7
            replace H := Option.bind_eq_some_iff.mp H
            obtain ⟨t125, A80, H⟩ := H
            replace H : ((marlineref03_Has.f k1 a0 ((x10_1) % 256)).bind fun t126 => (if (t125 != t126) = true then (marlinelaw03_AccmTells.j1 k1 a0 a1 x5_1 ((x10_1) % 256) x10_1 true) else ((accm_Must.f k1 a0 ((x10_1) % 256)).bind fun t127 => ((marlineref03_Must.f k1 a0 ((x10_1) % 256)).bind fun t128 => (marlinelaw03_AccmTells.j1 k1 a0 a1 x5_1 ((x10_1) % 256) x10_1 (t127 != t128)))))) = some r := H
            have A8 := Aside0.mk A80
            clear A80
            replace H := Option.bind_eq_some_iff.mp H
            obtain ⟨t126, A90, H⟩ := H
            replace H : (if (t125 != t126) = true then (marlinelaw03_AccmTells.j1 k1 a0 a1 x5_1 ((x10_1) % 256) x10_1 true) else ((accm_Must.f k1 a0 ((x10_1) % 256)).bind fun t127 => ((marlineref03_Must.f k1 a0 ((x10_1) % 256)).bind fun t128 => (marlinelaw03_AccmTells.j1 k1 a0 a1 x5_1 ((x10_1) % 256) x10_1 (t127 != t128))))) = some r := H
            have A9 := Aside0.mk A90
            clear A90
            by_cases c10 : (t125 != t126) = true
            · rw [if_pos c10] at H
              have c10b0 : (t125 != t126) = true := c10
              (try (have c10b1 : decide (t125 = t126) = false := by simpa using c10))
              (try (have c10b2 : (t125 == t126) = false := by simpa using c10))
              (try (have c10b3 : ¬ (t125 = t126) := by simpa using c10))
              clear c10
              (first | rw [c10b0] | (simp only [i64_w, i32_w]; rw [c10b0]) | skip)
              have H' := Aside0.mk H
              clear H
              go_wp2_with (first | ((with_reducible refine gate_callee (f := 7) rfl ?_); refine goesL_ (some 17) rfl rfl Tryd.func7 (by kernel_rfl) rfl #[.int .u32 a0, .int .u8 ((x10_1) % 256)] rfl (by (try simp only [List.map_toArray, List.map_cons, List.map_nil]); first | done | rfl | (simp only [List.length_drop, List.length_take]; rfl)) ?_; (with_reducible refine (accm_Has.calls a0 ((x10_1) % 256) t125 _ A8.out).mono ?_); rintro e w' ⟨rfl, ⟨nd, rfl⟩⟩; refine ⟨_, rfl, ?_⟩) | ((with_reducible refine gate_callee (f := 8) rfl ?_); refine goesL_ (some 20) rfl rfl Tryd.func8 (by kernel_rfl) rfl #[.int .u32 a0, .int .u8 ((x10_1) % 256)] rfl (by (try simp only [List.map_toArray, List.map_cons, List.map_nil]); first | done | rfl | (simp only [List.length_drop, List.length_take]; rfl)) ?_; (with_reducible refine (marlineref03_Has.calls k1 a0 ((x10_1) % 256) t126 _ A9.out).mono ?_); rintro e w' ⟨rfl, ⟨nd, rfl⟩⟩; refine ⟨_, rfl, ?_⟩))
              go_meet
              case rel => exact ⟨_, (true), (by first | rfl | (simp; done) | (simp [*]; done)), H', ⟨by have := HK1.out; first | omega | exact Nat.le_refl _⟩, ⟨by repeat (first | (with_reducible first | exact HB.out | apply below_alloc | apply pw_below_drewN | apply below_drew1) | exact HB.out)⟩⟩
            · rw [if_neg c10] at H
              have c10b0 : (t125 != t126) = false := by simpa using c10
              (try (have c10b1 : decide (t125 = t126) = true := by simpa using c10))
              (try (have c10b2 : (t125 == t126) = true := by simpa using c10))
              clear c10
              (first | rw [c10b0] | (simp only [i64_w, i32_w]; rw [c10b0]) | skip)
              replace H := Option.bind_eq_some_iff.mp H
              obtain ⟨t127, A110, H⟩ := H
              replace H : ((marlineref03_Must.f k1 a0 ((x10_1) % 256)).bind fun t128 => (marlinelaw03_AccmTells.j1 k1 a0 a1 x5_1 ((x10_1) % 256) x10_1 (t127 != t128))) = some r := H
              have A11 := Aside0.mk A110
              clear A110
              replace H := Option.bind_eq_some_iff.mp H
              obtain ⟨t128, A120, H⟩ := H
              replace H : (marlinelaw03_AccmTells.j1 k1 a0 a1 x5_1 ((x10_1) % 256) x10_1 (t127 != t128)) = some r := H
              have A12 := Aside0.mk A120
              clear A120
              have H' := Aside0.mk H
              clear H
              go_wp2_with (first | ((with_reducible refine gate_callee (f := 7) rfl ?_); refine goesL_ (some 17) rfl rfl Tryd.func7 (by kernel_rfl) rfl #[.int .u32 a0, .int .u8 ((x10_1) % 256)] rfl (by (try simp only [List.map_toArray, List.map_cons, List.map_nil]); first | done | rfl | (simp only [List.length_drop, List.length_take]; rfl)) ?_; (with_reducible refine (accm_Has.calls a0 ((x10_1) % 256) t125 _ A8.out).mono ?_); rintro e w' ⟨rfl, ⟨nd, rfl⟩⟩; refine ⟨_, rfl, ?_⟩) | ((with_reducible refine gate_callee (f := 8) rfl ?_); refine goesL_ (some 20) rfl rfl Tryd.func8 (by kernel_rfl) rfl #[.int .u32 a0, .int .u8 ((x10_1) % 256)] rfl (by (try simp only [List.map_toArray, List.map_cons, List.map_nil]); first | done | rfl | (simp only [List.length_drop, List.length_take]; rfl)) ?_; (with_reducible refine (marlineref03_Has.calls k1 a0 ((x10_1) % 256) t126 _ A9.out).mono ?_); rintro e w' ⟨rfl, ⟨nd, rfl⟩⟩; refine ⟨_, rfl, ?_⟩) | (go_at_call 9; (with_reducible refine (accm_Must.calls k1 a0 ((x10_1) % 256) t127 _ A11.out).mono ?_); rintro e w' ⟨rfl, ⟨nd, rfl⟩⟩) | (go_at_call 10; (with_reducible refine (marlineref03_Must.calls k1 a0 ((x10_1) % 256) t128 _ A12.out).mono ?_); rintro e w' ⟨rfl, ⟨nd, rfl⟩⟩))
              go_meet
              case rel => exact ⟨_, ((t127 != t128)), (by first | rfl | (simp; done) | (simp [*]; done)), H', ⟨by have := HK1.out; first | omega | exact Nat.le_refl _⟩, ⟨by repeat (first | (with_reducible first | exact HB.out | apply below_alloc | apply pw_below_drewN | apply below_drew1) | exact HB.out)⟩⟩
          case rest =>
            clear HC7
            try clear c1
            try clear p2
            try clear c3
            try clear c4
            try clear c6
            try clear c6b0
            try clear c7
            try clear c8
            try clear c10
            try clear c10b0
            try clear c10b1
            try clear c10b2
            try clear p2
            obtain ⟨kq, x30_6, rfl, HA, HJ6, HB⟩ := hcut
            cases kq with
            | zero => exact absurd HA.out (by simp [marlinelaw03_AccmTells.j1])
            | succ kj6 =>
              have H := HA.out
              clear HA
              simp only [marlinelaw03_AccmTells.j1] at H
              by_cases c13 : x30_6 = true
              · subst c13
                have H1 : (none) = some r := by rw [if_pos rfl] at H; exact H
                clear H
                have H := H1
                clear H1
                exact absurd H (by simp)
              · replace c13 := Bool.eq_false_iff.mpr c13
                subst c13
                have H1 : (if x5_1 = true then ((marlineref03_Has.f kj6 a0 ((x10_1) % 256)).bind fun t129 => (if t129 = true then ((marlineref03_Has.f kj6 a1 ((x10_1) % 256)).bind fun t130 => (marlinelaw03_AccmTells.l0 kj6 a0 a1 t130 (wrap64 (x10_1 + 1)))) else (marlinelaw03_AccmTells.l0 kj6 a0 a1 true (wrap64 (x10_1 + 1))))) else (marlinelaw03_AccmTells.l0 kj6 a0 a1 false (wrap64 (x10_1 + 1)))) = some r := by rw [if_neg (show ¬ (false = true) by decide)] at H; exact H
                clear H
                have H := H1
                clear H1
                by_cases c14 : x5_1 = true
                · subst c14
                  have H1 : ((marlineref03_Has.f kj6 a0 ((x10_1) % 256)).bind fun t129 => (if t129 = true then ((marlineref03_Has.f kj6 a1 ((x10_1) % 256)).bind fun t130 => (marlinelaw03_AccmTells.l0 kj6 a0 a1 t130 (wrap64 (x10_1 + 1)))) else (marlinelaw03_AccmTells.l0 kj6 a0 a1 true (wrap64 (x10_1 + 1))))) = some r := by rw [if_pos rfl] at H; exact H
                  clear H
                  have H := H1
                  clear H1
                  replace H := Option.bind_eq_some_iff.mp H
                  obtain ⟨t129, A150, H⟩ := H
                  replace H : (if t129 = true then ((marlineref03_Has.f kj6 a1 ((x10_1) % 256)).bind fun t130 => (marlinelaw03_AccmTells.l0 kj6 a0 a1 t130 (wrap64 (x10_1 + 1)))) else (marlinelaw03_AccmTells.l0 kj6 a0 a1 true (wrap64 (x10_1 + 1)))) = some r := H
                  have A15 := Aside0.mk A150
                  clear A150
                  by_cases c16 : t129 = true
                  · subst c16
                    have H1 : ((marlineref03_Has.f kj6 a1 ((x10_1) % 256)).bind fun t130 => (marlinelaw03_AccmTells.l0 kj6 a0 a1 t130 (wrap64 (x10_1 + 1)))) = some r := by rw [if_pos rfl] at H; exact H
                    clear H
                    have H := H1
                    clear H1
                    replace H := Option.bind_eq_some_iff.mp H
                    obtain ⟨t130, A170, H⟩ := H
                    replace H : (marlinelaw03_AccmTells.l0 kj6 a0 a1 t130 (wrap64 (x10_1 + 1))) = some r := H
                    have A17 := Aside0.mk A170
                    clear A170
                    have H' := Aside0.mk H
                    clear H
                    go_wp2_with (first | (go_at_call 8; (with_reducible refine (marlineref03_Has.calls kj6 a0 ((x10_1) % 256) true _ A15.out).mono ?_); rintro e w' ⟨rfl, ⟨nd, rfl⟩⟩) | (go_at_call 8; (with_reducible refine (marlineref03_Has.calls kj6 a1 ((x10_1) % 256) t130 _ A17.out).mono ?_); rintro e w' ⟨rfl, ⟨nd, rfl⟩⟩))
                    go_roundg kj6
                    case measure => have := HK1.out; have := HJ6.out; omega
                    case rel => exact ⟨(t130), (wrap64 (x10_1 + 1)), (by first | rfl | (simp; done) | (simp [*]; done)), (by first | rfl | (simp; done) | (simp [*]; done)), H', ⟨by have := HK1.out; have := HJ6.out; omega⟩, ⟨by repeat (first | (with_reducible first | exact HB.out | apply below_alloc | apply pw_below_drewN | apply below_drew1) | exact HB.out)⟩⟩
                  · replace c16 := Bool.eq_false_iff.mpr c16
                    subst c16
                    have H1 : (marlinelaw03_AccmTells.l0 kj6 a0 a1 true (wrap64 (x10_1 + 1))) = some r := by rw [if_neg (show ¬ (false = true) by decide)] at H; exact H
                    clear H
                    have H := H1
                    clear H1
                    have H' := Aside0.mk H
                    clear H
                    go_wp2_with (first | (go_at_call 8; (with_reducible refine (marlineref03_Has.calls kj6 a0 ((x10_1) % 256) false _ A15.out).mono ?_); rintro e w' ⟨rfl, ⟨nd, rfl⟩⟩))
                    go_roundg kj6
                    case measure => have := HK1.out; have := HJ6.out; omega
                    case rel => exact ⟨(true), (wrap64 (x10_1 + 1)), (by first | rfl | (simp; done) | (simp [*]; done)), (by first | rfl | (simp; done) | (simp [*]; done)), H', ⟨by have := HK1.out; have := HJ6.out; omega⟩, ⟨by repeat (first | (with_reducible first | exact HB.out | apply below_alloc | apply pw_below_drewN | apply below_drew1) | exact HB.out)⟩⟩
                · replace c14 := Bool.eq_false_iff.mpr c14
                  subst c14
                  have H1 : (marlinelaw03_AccmTells.l0 kj6 a0 a1 false (wrap64 (x10_1 + 1))) = some r := by rw [if_neg (show ¬ (false = true) by decide)] at H; exact H
                  clear H
                  have H := H1
                  clear H1
                  have H' := Aside0.mk H
                  clear H
                  go_wp2
                  go_roundg kj6
                  case measure => have := HK1.out; have := HJ6.out; omega
                  case rel => exact ⟨(false), (wrap64 (x10_1 + 1)), (by first | rfl | (simp; done) | (simp [*]; done)), (by first | rfl | (simp; done) | (simp [*]; done)), H', ⟨by have := HK1.out; have := HJ6.out; omega⟩, ⟨by repeat (first | (with_reducible first | exact HB.out | apply below_alloc | apply pw_below_drewN | apply below_drew1) | exact HB.out)⟩⟩
        · rw [if_neg c6] at H
          have c6b0 : decide (x10_1 < 256) = false := decide_eq_false c6
          clear c6
          replace H := Option.bind_eq_some_iff.mp H
          obtain ⟨t131, A180, H⟩ := H
          replace H : ((marlineref03_List.f k1 a0).bind fun t134 => ((marlineref01_Equal.f k1 t131 t134).bind fun t137 => (if t137 = true then ((accm_Within.f a0 a1).bind fun t138 => (some (t138 == x5_1))) else (none)))) = some r := H
          have A18 := Aside0.mk A180
          clear A180
          replace H := Option.bind_eq_some_iff.mp H
          obtain ⟨t134, A190, H⟩ := H
          replace H : ((marlineref01_Equal.f k1 t131 t134).bind fun t137 => (if t137 = true then ((accm_Within.f a0 a1).bind fun t138 => (some (t138 == x5_1))) else (none))) = some r := H
          have A19 := Aside0.mk A190
          clear A190
          replace H := Option.bind_eq_some_iff.mp H
          obtain ⟨t137, A200, H⟩ := H
          replace H : (if t137 = true then ((accm_Within.f a0 a1).bind fun t138 => (some (t138 == x5_1))) else (none)) = some r := H
          have A20 := Aside0.mk A200
          clear A200
          by_cases c21 : t137 = true
          · subst c21
            have H1 : ((accm_Within.f a0 a1).bind fun t138 => (some (t138 == x5_1))) = some r := by rw [if_pos rfl] at H; exact H
            clear H
            have H := H1
            clear H1
            replace H := Option.bind_eq_some_iff.mp H
            obtain ⟨t138, A220, H⟩ := H
            replace H : (some (t138 == x5_1)) = some r := H
            have A22 := Aside0.mk A220
            clear A220
            obtain rfl := Option.some.inj H
            go_wp2_with (first | ((with_reducible refine gate_callee (f := 12) rfl ?_); refine goesL_ (some 45) rfl rfl Tryd.func12 (by kernel_rfl) rfl #[.int .u32 a0] rfl (by (try simp only [List.map_toArray, List.map_cons, List.map_nil]); first | done | rfl | (simp only [List.length_drop, List.length_take]; rfl)) ?_; (with_reducible refine (accm_List.calls k1 a0 t131 _ A18.out).mono ?_); rintro e w23 ⟨v132, rfl, ho0, hb⟩; refine ⟨_, rfl, ?_⟩; have n0_ := Aside0.mk (Kd.R_lower ho0 (below_size (by repeat (first | (with_reducible first | exact HB.out | apply below_alloc | apply pw_below_drewN | apply below_drew1) | exact HB.out)))); have n1_ := Aside0.mk (below_step (by repeat (first | (with_reducible first | exact HB.out | apply below_alloc | apply pw_below_drewN | apply below_drew1) | exact HB.out)) hb); clear HB; have HO133 := n0_; have HB := n1_; clear n0_ n1_; (try clear hb); (try clear hb2); (try clear hk); (try clear hi); (try clear ho0)) | ((with_reducible refine gate_callee (f := 13) rfl ?_); refine goesL_ (some 47) rfl rfl Tryd.func13 (by kernel_rfl) rfl #[.int .u32 a0] rfl (by (try simp only [List.map_toArray, List.map_cons, List.map_nil]); first | done | rfl | (simp only [List.length_drop, List.length_take]; rfl)) ?_; (with_reducible refine (marlineref03_List.calls k1 a0 t134 _ A19.out).mono ?_); rintro e w24 ⟨v135, rfl, ho0, hb⟩; refine ⟨_, rfl, ?_⟩; have n0_ := Aside0.mk (Kd.R_below (by (with_reducible repeat (first | apply Kd.R_alloc | apply Kd.R_drewN | apply Kd.R_drew)); exact HO133.out) hb); have n1_ := Aside0.mk (Kd.R_lower ho0 (below_size (by repeat (first | (with_reducible first | exact HB.out | apply below_alloc | apply pw_below_drewN | apply below_drew1) | exact HB.out)))); have n2_ := Aside0.mk (below_step (by repeat (first | (with_reducible first | exact HB.out | apply below_alloc | apply pw_below_drewN | apply below_drew1) | exact HB.out)) hb); clear HO133; clear HB; have HO133 := n0_; have HO136 := n1_; have HB := n2_; clear n0_ n1_ n2_; (try clear hb); (try clear hb2); (try clear hk); (try clear hi); (try clear ho0); obtain ⟨Ao25, co25, eo25⟩ := Kd.R_slice HO133.out; subst eo25; obtain ⟨Ao26, co26, eo26⟩ := Kd.R_slice HO136.out; subst eo26) | ((with_reducible refine gate_callee (f := 11) rfl ?_); refine goesL_ (some 48) rfl rfl Tryd.func11 (by kernel_rfl) rfl #[.slice Ao25 t131.length co25, .slice Ao26 t134.length co26] rfl (by (try simp only [List.map_toArray, List.map_cons, List.map_nil]); first | done | rfl | (simp only [List.length_drop, List.length_take]; rfl)) ?_; (with_reducible refine (marlineref01_Equal.calls k1 _ _ t131 _ _ t134 true _ ?side1 ?side2 ?side3 ?side4 A20.out).mono ?_); (case side1 => repeat (first | exact (Kd.R_reads' HO133.out).2.2 | (with_reducible refine Kd.C_alloc ?_ _) | (with_reducible refine Kd.C_drewN ?_ _) | (with_reducible refine Kd.C_drew ?_))); (case side2 => exact (Kd.R_reads' HO133.out).2.1); (case side3 => repeat (first | exact (Kd.R_reads' HO136.out).2.2 | (with_reducible refine Kd.C_alloc ?_ _) | (with_reducible refine Kd.C_drewN ?_ _) | (with_reducible refine Kd.C_drew ?_))); (case side4 => exact (Kd.R_reads' HO136.out).2.1); rintro e w' ⟨rfl, ⟨nd, rfl⟩⟩; refine ⟨_, rfl, ?_⟩) | (go_at_call 14; (with_reducible refine (accm_Within.calls a0 a1 t138 _ A22.out).mono ?_); rintro e w' ⟨rfl, ⟨nd, rfl⟩⟩))
            go_ret
            exact ⟨by first | rfl | (simp [errW_none, errW_some] <;> rfl) | (simp [*, errW_none, errW_some] <;> rfl), by repeat (first | (with_reducible first | exact HB.out | apply below_alloc | apply pw_below_drewN | apply below_drew1) | exact HB.out)⟩
          · replace c21 := Bool.eq_false_iff.mpr c21
            subst c21
            have H1 : (none) = some r := by rw [if_neg (show ¬ (false = true) by decide)] at H; exact H
            clear H
            have H := H1
            clear H1
            exact absurd H (by simp)
  · replace c4 := Bool.eq_false_iff.mpr c4
    subst c4
    have H1 : (none) = some r := by rw [if_neg (show ¬ (false = true) by decide)] at H; exact H
    clear H
    have H := H1
    clear H1
    exact absurd H (by simp)

/-- THE ONE PURE STATEMENT of marlinelaw03_AccmTells: yours. -/
def marlinelaw03_AccmTells.Pure : Prop := ∀ (a0 : Int) (a1 : Int), (Lit.int .u32 a0).wf = true → (Lit.int .u32 a1).wf = true → ∃ k, marlinelaw03_AccmTells.f k a0 a1 = some true
theorem marlinelaw03_AccmTells.walk (P : marlinelaw03_AccmTells.Pure) (a0 : Int) (a1 : Int) (w : World) (hGL : GL w) (w0 : (Lit.int .u32 a0).wf = true) (w1 : (Lit.int .u32 a1).wf = true) :
    Calls Tryd.prog 3 #[.int .u32 a0, .int .u32 a1] w fun e w' => e = .returned (.bool true) ∧ Below w.heap.size w w' := by
  obtain ⟨k, h⟩ := P a0 a1 w0 w1
  refine (marlinelaw03_AccmTells.calls k a0 a1 true w h).mono ?_
  rintro e w' ⟨rfl, hd⟩
  exact ⟨rfl, hd⟩

end Go.Proofs.YtofanmciehbabaaDoor.Print
