/- Texts of this claim, several in one: what Go functions come to, and plain words on it; each says itself what it proves. -/
import Derived.Test.YtjmclghjhnbafaaMgSyncCuts1
import Derived.Test.YtjmclghjhnbafaaMgSyncCuts2
/- A text that a program of this claim (wip/x) laid out of the translation: what Go functions come to, and that they come to it. Lean checks it. -/
namespace Go.Proofs.Ytjmclghjhnbafaa.Print
open Go.RowKit Go.Proofs.YtjmclghjhnbafaaW.PrintWords Go.Proofs.YtjmclghjhnbafaaW.PrintLast Go.Proofs.YtjmclghjhnbafaaW.PrintMore
attribute [local go_sem] max2_int min2_int max_two min_two max_three min_three max_four min_four   -- for this text's walks alone
set_option linter.unusedVariables false
set_option linter.unusedSimpArgs false

/-! ### marlinelaw07_SyncCuts: function 7 -/
mutual
def marlinelaw07_SyncCuts.j0 : Nat → Int → List (List Int) → Bool → Option (Bool)
  | 0, _, _, _ => none
  | k + 1, x0, x1, x21 => if x21 = true then ((marlinelaw07_speaks.f k).bind fun t202 => (some t202)) else (marlinelaw07_SyncCuts.l0 k ([] : List Int) ([] : List (S54)) x1 (x1.length : Int) 0 x0 ([] : List Int) 0 false false 0 false false x0 0 false false 0 false false x0 0 false false 0 false false)
def marlinelaw07_SyncCuts.l0 : Nat → List Int → List (S54) → List (List Int) → Int → Int → Int → List Int → Int → Bool → Bool → Int → Bool → Bool → Int → Int → Bool → Bool → Int → Bool → Bool → Int → Int → Bool → Bool → Int → Bool → Bool → Option (Bool)
  | 0, _, _, _, _, _, _, _, _, _, _, _, _, _, _, _, _, _, _, _, _, _, _, _, _, _, _, _ => none
  | k + 1, x8, x9, x39, x40, x41, x204000, x204001, x204002, x204003, x204004, x204005, x204006, x204007, x205000, x205002, x205003, x205004, x205005, x205006, x205007, x206000, x206002, x206003, x206004, x206005, x206006, x206007 => if x41 < x40 then (if 0 ≤ x41 then (if x41 < (x39.length : Int) then ((sync_Deframer_Feed.f x204000 x204001 x204002 x204003 x204004 x204005 x204006 x204007 (rd_L1 x39 x41)).bind fun bt207 => (if x9.length + bt207.1.length < 4398046511104 then (if x8.length + (rd_L1 x39 x41).length < 140737488355328 then (marlinelaw07_SyncCuts.l0 k (x8 ++ (rd_L1 x39 x41)) (x9 ++ bt207.1) x39 x40 (wrap64 (x41 + 1)) x204000 bt207.2.1 bt207.2.2.1 bt207.2.2.2.1 bt207.2.2.2.2.1 bt207.2.2.2.2.2.1 bt207.2.2.2.2.2.2.1 bt207.2.2.2.2.2.2.2 x205000 x205002 x205003 x205004 x205005 x205006 x205007 x206000 x206002 x206003 x206004 x206005 x206006 x206007) else (none)) else (none))) else (none)) else (none)) else (marlinelaw07_SyncCuts.l1 k x8 x9 ([] : List (S54)) (x8.length : Int) 0 x205000 ([] : List Int) x205002 x205003 x205004 x205005 x205006 x205007 x206000 x206002 x206003 x206004 x206005 x206006 x206007)
def marlinelaw07_SyncCuts.l1 : Nat → List Int → List (S54) → List (S54) → Int → Int → Int → List Int → Int → Bool → Bool → Int → Bool → Bool → Int → Int → Bool → Bool → Int → Bool → Bool → Option (Bool)
  | 0, _, _, _, _, _, _, _, _, _, _, _, _, _, _, _, _, _, _, _, _ => none
  | k + 1, x8, x9, x10, x55, x56, x205000, x205001, x205002, x205003, x205004, x205005, x205006, x205007, x206000, x206002, x206003, x206004, x206005, x206006, x206007 => if x56 < x55 then (if 0 ≤ x56 then (if x56 ≤ (wrap64 (x56 + 1)) then (if (wrap64 (x56 + 1)) ≤ (x8.length : Int) then ((sync_Deframer_Feed.f x205000 x205001 x205002 x205003 x205004 x205005 x205006 x205007 ((x8.take ((wrap64 (x56 + 1)) : Int).toNat).drop (x56 : Int).toNat)).bind fun bt230 => (if x10.length + bt230.1.length < 4398046511104 then (marlinelaw07_SyncCuts.l1 k x8 x9 (x10 ++ bt230.1) x55 (wrap64 (x56 + 1)) x205000 bt230.2.1 bt230.2.2.1 bt230.2.2.2.1 bt230.2.2.2.2.1 bt230.2.2.2.2.2.1 bt230.2.2.2.2.2.2.1 bt230.2.2.2.2.2.2.2 x206000 x206002 x206003 x206004 x206005 x206006 x206007) else (none))) else (none)) else (none)) else (none)) else ((marlinelaw07_same.f k x9 x10).bind fun t245 => (if t245 = true then ((sync_Deframer_Feed.f x206000 ([] : List Int) x206002 x206003 x206004 x206005 x206006 x206007 x8).bind fun bt246 => ((marlinelaw07_same.f k x10 bt246.1).bind fun t258 => (some t258))) else (none)))
end
def marlinelaw07_SyncCuts.f (k : Nat) (a0 : Int) (l1 : List (List Int)) : Option (Bool) := (marlinelaw07_speaks.f k).bind fun t200 => (if t200 = true then ((marlinelaw07_right.f k a0 l1).bind fun t201 => (marlinelaw07_SyncCuts.j0 k a0 l1 (!t201))) else (marlinelaw07_SyncCuts.j0 k a0 l1 true))
theorem marlinelaw07_SyncCuts.mono_l : ∀ k, (∀ y0 y1 y2, LeO (marlinelaw07_SyncCuts.j0 k y0 y1 y2) (marlinelaw07_SyncCuts.j0 (k + 1) y0 y1 y2)) ∧ (∀ y0 y1 y2 y3 y4 y5 y6 y7 y8 y9 y10 y11 y12 y13 y14 y15 y16 y17 y18 y19 y20 y21 y22 y23 y24 y25 y26, LeO (marlinelaw07_SyncCuts.l0 k y0 y1 y2 y3 y4 y5 y6 y7 y8 y9 y10 y11 y12 y13 y14 y15 y16 y17 y18 y19 y20 y21 y22 y23 y24 y25 y26) (marlinelaw07_SyncCuts.l0 (k + 1) y0 y1 y2 y3 y4 y5 y6 y7 y8 y9 y10 y11 y12 y13 y14 y15 y16 y17 y18 y19 y20 y21 y22 y23 y24 y25 y26)) ∧ (∀ y0 y1 y2 y3 y4 y5 y6 y7 y8 y9 y10 y11 y12 y13 y14 y15 y16 y17 y18 y19, LeO (marlinelaw07_SyncCuts.l1 k y0 y1 y2 y3 y4 y5 y6 y7 y8 y9 y10 y11 y12 y13 y14 y15 y16 y17 y18 y19) (marlinelaw07_SyncCuts.l1 (k + 1) y0 y1 y2 y3 y4 y5 y6 y7 y8 y9 y10 y11 y12 y13 y14 y15 y16 y17 y18 y19))
  | 0 => ⟨fun _ _ _ r h => by simp [marlinelaw07_SyncCuts.j0] at h, fun _ _ _ _ _ _ _ _ _ _ _ _ _ _ _ _ _ _ _ _ _ _ _ _ _ _ _ r h => by simp [marlinelaw07_SyncCuts.l0] at h, fun _ _ _ _ _ _ _ _ _ _ _ _ _ _ _ _ _ _ _ _ r h => by simp [marlinelaw07_SyncCuts.l1] at h⟩
  | k + 1 => by
    obtain ⟨ih0, ih1, ih2⟩ := marlinelaw07_SyncCuts.mono_l k
    refine ⟨?_, ?_, ?_⟩
    · intro y0 y1 y2
      unfold marlinelaw07_SyncCuts.j0
      repeat' first
      | (with_reducible exact ih0 _ _ _)
      | (with_reducible exact ih1 _ _ _ _ _ _ _ _ _ _ _ _ _ _ _ _ _ _ _ _ _ _ _ _ _ _ _)
      | (with_reducible exact ih2 _ _ _ _ _ _ _ _ _ _ _ _ _ _ _ _ _ _ _ _)
      | (with_reducible exact marlinelaw07_right.mono _ _ _)
      | (with_reducible exact marlinelaw07_same.mono _ _ _)
      | (with_reducible exact marlinelaw07_speaks.mono _)
      | (with_reducible exact LeO.refl _)
      | (with_reducible exact LeO.none _)
      | (with_reducible refine LeO.ite ?_ ?_)
      | (with_reducible refine LeO.bind ?_ (fun _ => ?_))
      | exact ih0 _ _ _
      | exact ih1 _ _ _ _ _ _ _ _ _ _ _ _ _ _ _ _ _ _ _ _ _ _ _ _ _ _ _
      | exact ih2 _ _ _ _ _ _ _ _ _ _ _ _ _ _ _ _ _ _ _ _
      | exact marlinelaw07_right.mono _ _ _
      | exact marlinelaw07_same.mono _ _ _
      | exact marlinelaw07_speaks.mono _
      | exact LeO.none _
      | refine LeO.ite ?_ ?_
      | refine LeO.bind ?_ (fun _ => ?_)
    · intro y0 y1 y2 y3 y4 y5 y6 y7 y8 y9 y10 y11 y12 y13 y14 y15 y16 y17 y18 y19 y20 y21 y22 y23 y24 y25 y26
      unfold marlinelaw07_SyncCuts.l0
      repeat' first
      | (with_reducible exact ih0 _ _ _)
      | (with_reducible exact ih1 _ _ _ _ _ _ _ _ _ _ _ _ _ _ _ _ _ _ _ _ _ _ _ _ _ _ _)
      | (with_reducible exact ih2 _ _ _ _ _ _ _ _ _ _ _ _ _ _ _ _ _ _ _ _)
      | (with_reducible exact marlinelaw07_right.mono _ _ _)
      | (with_reducible exact marlinelaw07_same.mono _ _ _)
      | (with_reducible exact marlinelaw07_speaks.mono _)
      | (with_reducible exact LeO.refl _)
      | (with_reducible exact LeO.none _)
      | (with_reducible refine LeO.ite ?_ ?_)
      | (with_reducible refine LeO.bind ?_ (fun _ => ?_))
      | exact ih0 _ _ _
      | exact ih1 _ _ _ _ _ _ _ _ _ _ _ _ _ _ _ _ _ _ _ _ _ _ _ _ _ _ _
      | exact ih2 _ _ _ _ _ _ _ _ _ _ _ _ _ _ _ _ _ _ _ _
      | exact marlinelaw07_right.mono _ _ _
      | exact marlinelaw07_same.mono _ _ _
      | exact marlinelaw07_speaks.mono _
      | exact LeO.none _
      | refine LeO.ite ?_ ?_
      | refine LeO.bind ?_ (fun _ => ?_)
    · intro y0 y1 y2 y3 y4 y5 y6 y7 y8 y9 y10 y11 y12 y13 y14 y15 y16 y17 y18 y19
      unfold marlinelaw07_SyncCuts.l1
      repeat' first
      | (with_reducible exact ih0 _ _ _)
      | (with_reducible exact ih1 _ _ _ _ _ _ _ _ _ _ _ _ _ _ _ _ _ _ _ _ _ _ _ _ _ _ _)
      | (with_reducible exact ih2 _ _ _ _ _ _ _ _ _ _ _ _ _ _ _ _ _ _ _ _)
      | (with_reducible exact marlinelaw07_right.mono _ _ _)
      | (with_reducible exact marlinelaw07_same.mono _ _ _)
      | (with_reducible exact marlinelaw07_speaks.mono _)
      | (with_reducible exact LeO.refl _)
      | (with_reducible exact LeO.none _)
      | (with_reducible refine LeO.ite ?_ ?_)
      | (with_reducible refine LeO.bind ?_ (fun _ => ?_))
      | exact ih0 _ _ _
      | exact ih1 _ _ _ _ _ _ _ _ _ _ _ _ _ _ _ _ _ _ _ _ _ _ _ _ _ _ _
      | exact ih2 _ _ _ _ _ _ _ _ _ _ _ _ _ _ _ _ _ _ _ _
      | exact marlinelaw07_right.mono _ _ _
      | exact marlinelaw07_same.mono _ _ _
      | exact marlinelaw07_speaks.mono _
      | exact LeO.none _
      | refine LeO.ite ?_ ?_
      | refine LeO.bind ?_ (fun _ => ?_)
theorem marlinelaw07_SyncCuts.mono : ∀ a0 a1 k, LeO (marlinelaw07_SyncCuts.f k a0 a1) (marlinelaw07_SyncCuts.f (k + 1) a0 a1) := by
  intro a0 a1 k
  obtain ⟨ih0, ih1, ih2⟩ := marlinelaw07_SyncCuts.mono_l k
  unfold marlinelaw07_SyncCuts.f
  repeat' first
      | (with_reducible exact ih0 _ _ _)
      | (with_reducible exact ih1 _ _ _ _ _ _ _ _ _ _ _ _ _ _ _ _ _ _ _ _ _ _ _ _ _ _ _)
      | (with_reducible exact ih2 _ _ _ _ _ _ _ _ _ _ _ _ _ _ _ _ _ _ _ _)
      | (with_reducible exact marlinelaw07_right.mono _ _ _)
      | (with_reducible exact marlinelaw07_same.mono _ _ _)
      | (with_reducible exact marlinelaw07_speaks.mono _)
      | (with_reducible exact LeO.refl _)
      | (with_reducible exact LeO.none _)
      | (with_reducible refine LeO.ite ?_ ?_)
      | (with_reducible refine LeO.bind ?_ (fun _ => ?_))
      | exact ih0 _ _ _
      | exact ih1 _ _ _ _ _ _ _ _ _ _ _ _ _ _ _ _ _ _ _ _ _ _ _ _ _ _ _
      | exact ih2 _ _ _ _ _ _ _ _ _ _ _ _ _ _ _ _ _ _ _ _
      | exact marlinelaw07_right.mono _ _ _
      | exact marlinelaw07_same.mono _ _ _
      | exact marlinelaw07_speaks.mono _
      | exact LeO.none _
      | refine LeO.ite ?_ ?_
      | refine LeO.bind ?_ (fun _ => ?_)
set_option maxHeartbeats 8000000 in
set_option maxRecDepth 100000 in
theorem marlinelaw07_SyncCuts.calls (k : Nat) (a0 : Int) (A1 : Option Addr) (c1 : Nat) (l1 : List (List Int)) (r : Bool) (w : World) (hr1 : Kd.C (Kd.slice 5 (Kd.int .u8)) w A1 l1.length l1) (hc1 : l1.length ≤ c1) (h : marlinelaw07_SyncCuts.f k a0 l1 = some r) :
    Calls Try.prog 7 #[.int .i64 a0, .slice A1 l1.length c1] w fun e w' => e = .returned (.bool r) ∧ Below w.heap.size w w' := by
  have hu70 := Try.underlying70
  have HR1 := Aside0.mk hr1
  have HC1 := Aside0.mk hc1
  clear hr1 hc1
  have HB := Aside0.mk (Below.refl w.heap.size w)
  have H : ((marlinelaw07_speaks.f k).bind fun t200 => (if t200 = true then ((marlinelaw07_right.f k a0 l1).bind fun t201 => (marlinelaw07_SyncCuts.j0 k a0 l1 (!t201))) else (marlinelaw07_SyncCuts.j0 k a0 l1 true))) = some r := h
  clear h
  have HC3 := Aside0.mk H
  clear H
  go_enter Try.func7, Try.ntmps7
  go_upto_region 1 with (fail)
  go_cut [21] (fun v21 wc => ∃ (kq : Nat) (x21_2 : Bool), v21 = .bool x21_2 ∧ Aside0 (marlinelaw07_SyncCuts.j0 kq a0 l1 x21_2 = some r) ∧ Aside0 (kq ≤ k) ∧ Aside0 (Below w.heap.size w wc))
  case first =>
    have H := HC3.out
    clear HC3
    replace H := Option.bind_eq_some_iff.mp H
    obtain ⟨t200, A40, H⟩ := H
    replace H : (if t200 = true then ((marlinelaw07_right.f k a0 l1).bind fun t201 => (marlinelaw07_SyncCuts.j0 k a0 l1 (!t201))) else (marlinelaw07_SyncCuts.j0 k a0 l1 true)) = some r := H
    have A4 := Aside0.mk A40
    clear A40
    by_cases c5 : t200 = true
    · subst c5
      have H1 : ((marlinelaw07_right.f k a0 l1).bind fun t201 => (marlinelaw07_SyncCuts.j0 k a0 l1 (!t201))) = some r := by rw [if_pos rfl] at H; exact H
      clear H
      have H := H1
      clear H1
      replace H := Option.bind_eq_some_iff.mp H
      obtain ⟨t201, A60, H⟩ := H
      replace H : (marlinelaw07_SyncCuts.j0 k a0 l1 (!t201)) = some r := H
      have A6 := Aside0.mk A60
      clear A60
      have H' := Aside0.mk H
      clear H
      go_wp2_with (first | ((with_reducible refine gate_callee (f := 22) rfl ?_); refine goesL_ (some 14) rfl rfl Try.func22 (by kernel_rfl) rfl #[] rfl (by (try simp only [List.map_toArray, List.map_cons, List.map_nil]); first | done | rfl | (simp only [List.length_drop, List.length_take]; rfl)) ?_; (with_reducible refine (marlinelaw07_speaks.calls k  true _ A4.out).mono ?_); rintro e w7 ⟨rfl, hb⟩; refine ⟨_, rfl, ?_⟩; have n0_ := Aside0.mk (below_step (by repeat (first | (with_reducible first | exact HB.out | apply below_alloc | apply pw_below_drewN | apply below_drew1) | exact HB.out)) hb); clear HB; have HB := n0_; clear n0_; (try clear hb); (try clear hb2); (try clear hk); (try clear hi)) | (go_at_call 23; (with_reducible refine (marlinelaw07_right.calls k a0 _ _ l1 t201 _ ?side1 ?side2 A6.out).mono ?_); (case side1 => repeat (first | exact (Kd.C_below HR1.out HB.out) | (with_reducible refine Kd.C_alloc ?_ _) | (with_reducible refine Kd.C_drewN ?_ _) | (with_reducible refine Kd.C_drew ?_))); (case side2 => exact HC1.out); rintro e w' ⟨rfl, ⟨nd, rfl⟩⟩))
      go_meet
      case rel => exact ⟨_, (!t201), (by first | rfl | (simp; done) | (simp [*]; done)), H', ⟨by first | omega | exact Nat.le_refl _⟩, ⟨by repeat (first | (with_reducible first | exact HB.out | apply below_alloc | apply pw_below_drewN | apply below_drew1) | exact HB.out)⟩⟩
    · replace c5 := Bool.eq_false_iff.mpr c5
      subst c5
      have H1 : (marlinelaw07_SyncCuts.j0 k a0 l1 true) = some r := by rw [if_neg (show ¬ (false = true) by decide)] at H; exact H
      clear H
      have H := H1
      clear H1
      have H' := Aside0.mk H
      clear H
      go_wp2_with (first | ((with_reducible refine gate_callee (f := 22) rfl ?_); refine goesL_ (some 14) rfl rfl Try.func22 (by kernel_rfl) rfl #[] rfl (by (try simp only [List.map_toArray, List.map_cons, List.map_nil]); first | done | rfl | (simp only [List.length_drop, List.length_take]; rfl)) ?_; (with_reducible refine (marlinelaw07_speaks.calls k  false _ A4.out).mono ?_); rintro e w8 ⟨rfl, hb⟩; refine ⟨_, rfl, ?_⟩; have n0_ := Aside0.mk (below_step (by repeat (first | (with_reducible first | exact HB.out | apply below_alloc | apply pw_below_drewN | apply below_drew1) | exact HB.out)) hb); clear HB; have HB := n0_; clear n0_; (try clear hb); (try clear hb2); (try clear hk); (try clear hi)))
      go_meet
      case rel => exact ⟨_, (true), (by first | rfl | (simp; done) | (simp [*]; done)), H', ⟨by first | omega | exact Nat.le_refl _⟩, ⟨by repeat (first | (with_reducible first | exact HB.out | apply below_alloc | apply pw_below_drewN | apply below_drew1) | exact HB.out)⟩⟩
  case rest =>
    clear HC3
    try clear c1
    try clear c2
    try clear p2
    try clear c5
    try clear c7
    obtain ⟨kq, x21_2, rfl, HA, HJ2, HB⟩ := hcut
    cases kq with
    | zero => exact absurd HA.out (by simp [marlinelaw07_SyncCuts.j0])
    | succ kj2 =>
      have H := HA.out
      clear HA
      simp only [marlinelaw07_SyncCuts.j0] at H
      by_cases c9 : x21_2 = true
      · subst c9
        have H1 : ((marlinelaw07_speaks.f kj2).bind fun t202 => (some t202)) = some r := by rw [if_pos rfl] at H; exact H
        clear H
        have H := H1
        clear H1
        replace H := Option.bind_eq_some_iff.mp H
        obtain ⟨t202, A100, H⟩ := H
        replace H : (some t202) = some r := H
        have A10 := Aside0.mk A100
        clear A100
        obtain rfl := Option.some.inj H
        go_wp2_with (first | ((with_reducible refine gate_callee (f := 22) rfl ?_); refine goesL_ (some 22) rfl rfl Try.func22 (by kernel_rfl) rfl #[] rfl (by (try simp only [List.map_toArray, List.map_cons, List.map_nil]); first | done | rfl | (simp only [List.length_drop, List.length_take]; rfl)) ?_; (with_reducible refine (marlinelaw07_speaks.calls kj2  t202 _ A10.out).mono ?_); rintro e w11 ⟨rfl, hb⟩; refine ⟨_, rfl, ?_⟩; have n0_ := Aside0.mk (below_step (by repeat (first | (with_reducible first | exact HB.out | apply below_alloc | apply pw_below_drewN | apply below_drew1) | exact HB.out)) hb); clear HB; have HB := n0_; clear n0_; (try clear hb); (try clear hb2); (try clear hk); (try clear hi)))
        go_ret
        exact ⟨by first | rfl | (simp [errW_none, errW_some] <;> rfl) | (simp [*, errW_none, errW_some] <;> rfl), by repeat (first | (with_reducible first | exact HB.out | apply below_alloc | apply pw_below_drewN | apply below_drew1) | exact HB.out)⟩
      · replace c9 := Bool.eq_false_iff.mpr c9
        subst c9
        have H1 : (marlinelaw07_SyncCuts.l0 kj2 ([] : List Int) ([] : List (S54)) l1 (l1.length : Int) 0 a0 ([] : List Int) 0 false false 0 false false a0 0 false false 0 false false a0 0 false false 0 false false) = some r := by rw [if_neg (show ¬ (false = true) by decide)] at H; exact H
        clear H
        have H := H1
        clear H1
        have H' := Aside0.mk H
        clear H
        go_wp2_with (first | ((with_reducible refine gate_callee (f := 24) rfl ?_); refine goesL_ (some 24) rfl rfl Try.func24 (by kernel_rfl) rfl #[.int .i64 (a0)] rfl (by (try simp only [List.map_toArray, List.map_cons, List.map_nil]); first | done | rfl) ?_; refine (sync_New.box (a0) _).mono ?_; rintro e_ w12 ⟨gb203, rfl, hg, hbox, hb⟩; refine ⟨_, rfl, ?_⟩; have n0_ := Aside0.mk (below_step (by repeat (first | (with_reducible first | exact HB.out | apply below_alloc | apply pw_below_drewN | apply below_drew1) | exact HB.out)) hb); have n1_ := Aside0.mk (hbox); have n2_ := Aside0.mk ((by rw [hg]; exact (below_size (by repeat (first | (with_reducible first | exact HB.out | apply below_alloc | apply pw_below_drewN | apply below_drew1) | exact HB.out))) : w.heap.size ≤ gb203)); have n3_ := Aside0.mk ((by rw [hg]; exact (below_size (by repeat (first | (with_reducible first | exact HB.out | apply below_alloc | apply pw_below_drewN | apply below_drew1) | exact HB.out))) : w.heap.size ≤ gb203)); clear HB; have HB := n0_; have BK203 := n1_; have GW203 := n2_; have GE203 := n3_; clear n0_ n1_ n2_ n3_; clear hb hbox hg) | ((with_reducible refine gate_callee (f := 24) rfl ?_); refine goesL_ (some 26) rfl rfl Try.func24 (by kernel_rfl) rfl #[.int .i64 (a0)] rfl (by (try simp only [List.map_toArray, List.map_cons, List.map_nil]); first | done | rfl) ?_; refine (sync_New.box (a0) _).mono ?_; rintro e_ w13 ⟨gb204, rfl, hg, hbox, hb⟩; refine ⟨_, rfl, ?_⟩; have n0_ := Aside0.mk (blk_below (g := gb203) (o := .cells #[.int .i64 a0, .slice none 0 0, .int .i64 0, .bool false, .bool false, .int .i64 0, .bool false, .bool false] 70 (0, 0)) (by (with_reducible repeat (first | refine blk_drewN ?_ _ | refine blk_drew ?_ | refine blk_alloc ?_ _)); exact BK203.out) hb); have n1_ := Aside0.mk (below_step (by repeat (first | (with_reducible first | exact HB.out | apply below_alloc | apply pw_below_drewN | apply below_drew1 | refine below_set ?_ GE203.out) | exact HB.out)) hb); have n2_ := Aside0.mk (hbox); have n3_ := Aside0.mk ((by rw [hg]; exact (below_size (by repeat (first | (with_reducible first | exact HB.out | apply below_alloc | apply pw_below_drewN | apply below_drew1 | refine below_set ?_ GE203.out) | exact HB.out))) : w.heap.size ≤ gb204)); have n4_ := Aside0.mk ((by rw [hg]; exact (below_size (by repeat (first | (with_reducible first | exact HB.out | apply below_alloc | apply pw_below_drewN | apply below_drew1 | refine below_set ?_ GE203.out) | exact HB.out))) : w.heap.size ≤ gb204)); have n5_ := Aside0.mk ((by rw [hg]; exact Nat.ne_of_lt (blk_lt (g := gb203) (o := .cells #[.int .i64 a0, .slice none 0 0, .int .i64 0, .bool false, .bool false, .int .i64 0, .bool false, .bool false] 70 (0, 0)) (by (with_reducible repeat (first | refine blk_drewN ?_ _ | refine blk_drew ?_ | refine blk_alloc ?_ _)); exact BK203.out)) : gb203 ≠ gb204)); have n6_ := Aside0.mk ((by rw [hg]; exact Nat.ne_of_gt (blk_lt (g := gb203) (o := .cells #[.int .i64 a0, .slice none 0 0, .int .i64 0, .bool false, .bool false, .int .i64 0, .bool false, .bool false] 70 (0, 0)) (by (with_reducible repeat (first | refine blk_drewN ?_ _ | refine blk_drew ?_ | refine blk_alloc ?_ _)); exact BK203.out)) : gb204 ≠ gb203)); clear BK203; clear HB; have BK203 := n0_; have HB := n1_; have BK204 := n2_; have GW204 := n3_; have GE204 := n4_; have NB203_204 := n5_; have NB204_203 := n6_; clear n0_ n1_ n2_ n3_ n4_ n5_ n6_; clear hb hbox hg) | ((with_reducible refine gate_callee (f := 24) rfl ?_); refine goesL_ (some 28) rfl rfl Try.func24 (by kernel_rfl) rfl #[.int .i64 (a0)] rfl (by (try simp only [List.map_toArray, List.map_cons, List.map_nil]); first | done | rfl) ?_; refine (sync_New.box (a0) _).mono ?_; rintro e_ w14 ⟨gb205, rfl, hg, hbox, hb⟩; refine ⟨_, rfl, ?_⟩; have n0_ := Aside0.mk (blk_below (g := gb203) (o := .cells #[.int .i64 a0, .slice none 0 0, .int .i64 0, .bool false, .bool false, .int .i64 0, .bool false, .bool false] 70 (0, 0)) (by (with_reducible repeat (first | refine blk_drewN ?_ _ | refine blk_drew ?_ | refine blk_alloc ?_ _)); exact BK203.out) hb); have n1_ := Aside0.mk (blk_below (g := gb204) (o := .cells #[.int .i64 a0, .slice none 0 0, .int .i64 0, .bool false, .bool false, .int .i64 0, .bool false, .bool false] 70 (0, 0)) (by (with_reducible repeat (first | refine blk_drewN ?_ _ | refine blk_drew ?_ | refine blk_alloc ?_ _)); exact BK204.out) hb); have n2_ := Aside0.mk (below_step (by repeat (first | (with_reducible first | exact HB.out | apply below_alloc | apply pw_below_drewN | apply below_drew1 | refine below_set ?_ GE203.out | refine below_set ?_ GE204.out) | exact HB.out)) hb); have n3_ := Aside0.mk (hbox); have n4_ := Aside0.mk ((by rw [hg]; exact (below_size (by repeat (first | (with_reducible first | exact HB.out | apply below_alloc | apply pw_below_drewN | apply below_drew1 | refine below_set ?_ GE203.out | refine below_set ?_ GE204.out) | exact HB.out))) : w.heap.size ≤ gb205)); have n5_ := Aside0.mk ((by rw [hg]; exact (below_size (by repeat (first | (with_reducible first | exact HB.out | apply below_alloc | apply pw_below_drewN | apply below_drew1 | refine below_set ?_ GE203.out | refine below_set ?_ GE204.out) | exact HB.out))) : w.heap.size ≤ gb205)); have n6_ := Aside0.mk ((by rw [hg]; exact Nat.ne_of_lt (blk_lt (g := gb203) (o := .cells #[.int .i64 a0, .slice none 0 0, .int .i64 0, .bool false, .bool false, .int .i64 0, .bool false, .bool false] 70 (0, 0)) (by (with_reducible repeat (first | refine blk_drewN ?_ _ | refine blk_drew ?_ | refine blk_alloc ?_ _)); exact BK203.out)) : gb203 ≠ gb205)); have n7_ := Aside0.mk ((by rw [hg]; exact Nat.ne_of_gt (blk_lt (g := gb203) (o := .cells #[.int .i64 a0, .slice none 0 0, .int .i64 0, .bool false, .bool false, .int .i64 0, .bool false, .bool false] 70 (0, 0)) (by (with_reducible repeat (first | refine blk_drewN ?_ _ | refine blk_drew ?_ | refine blk_alloc ?_ _)); exact BK203.out)) : gb205 ≠ gb203)); have n8_ := Aside0.mk ((by rw [hg]; exact Nat.ne_of_lt (blk_lt (g := gb204) (o := .cells #[.int .i64 a0, .slice none 0 0, .int .i64 0, .bool false, .bool false, .int .i64 0, .bool false, .bool false] 70 (0, 0)) (by (with_reducible repeat (first | refine blk_drewN ?_ _ | refine blk_drew ?_ | refine blk_alloc ?_ _)); exact BK204.out)) : gb204 ≠ gb205)); have n9_ := Aside0.mk ((by rw [hg]; exact Nat.ne_of_gt (blk_lt (g := gb204) (o := .cells #[.int .i64 a0, .slice none 0 0, .int .i64 0, .bool false, .bool false, .int .i64 0, .bool false, .bool false] 70 (0, 0)) (by (with_reducible repeat (first | refine blk_drewN ?_ _ | refine blk_drew ?_ | refine blk_alloc ?_ _)); exact BK204.out)) : gb205 ≠ gb204)); clear BK203; clear BK204; clear HB; have BK203 := n0_; have BK204 := n1_; have HB := n2_; have BK205 := n3_; have GW205 := n4_; have GE205 := n5_; have NB203_205 := n6_; have NB205_203 := n7_; have NB204_205 := n8_; have NB205_204 := n9_; clear n0_ n1_ n2_ n3_ n4_ n5_ n6_ n7_ n8_ n9_; clear hb hbox hg))
        go_loopg [8, 9, 41] kj2 (fun kq v8 v9 v41 w' => ∃ (x8_2 : List Int) (x9_2 : List (S54)) (x41_2 : Int) (x204001_2 : List Int) (x204002_2 : Int) (x204003_2 : Bool) (x204004_2 : Bool) (x204005_2 : Int) (x204006_2 : Bool) (x204007_2 : Bool) (u204001 : Value), v41 = .int .i64 x41_2 ∧ Aside0 (marlinelaw07_SyncCuts.l0 kq x8_2 x9_2 l1 (l1.length : Int) x41_2 a0 x204001_2 x204002_2 x204003_2 x204004_2 x204005_2 x204006_2 x204007_2 a0 0 false false 0 false false a0 0 false false 0 false false = some r) ∧ Aside0 (kq ≤ kj2) ∧ Aside0 (Kd.R (Kd.int .u8) 5 w' w.heap.size (fun k_ => some k_ ≠ (u204001 : Value).ownBlock) v8 x8_2) ∧ Aside0 (Kd.N k54 54 w' w.heap.size (fun k_ => some k_ ≠ (v8 : Value).ownBlock ∧ some k_ ≠ (u204001 : Value).ownBlock ∧ k_ ≠ gb203 ∧ k_ ≠ gb204 ∧ k_ ≠ gb205) v9 x9_2) ∧ Aside0 (Kd.R (Kd.int .u8) 5 w' w.heap.size (fun k_ => some k_ ≠ (v8 : Value).ownBlock) u204001 x204001_2) ∧ Aside0 (w'.heap[gb203]? = some (.cells #[.int .i64 a0, u204001, .int .i64 x204002_2, .bool x204003_2, .bool x204004_2, .int .i64 x204005_2, .bool x204006_2, .bool x204007_2] 70 (0, 0))) ∧ Aside0 (w'.heap[gb204]? = some (.cells #[.int .i64 a0, (.slice none 0 0), .int .i64 0, .bool false, .bool false, .int .i64 0, .bool false, .bool false] 70 (0, 0))) ∧ Aside0 (w'.heap[gb205]? = some (.cells #[.int .i64 a0, (.slice none 0 0), .int .i64 0, .bool false, .bool false, .int .i64 0, .bool false, .bool false] 70 (0, 0))) ∧ Aside0 (Below w.heap.size w w'))
        case atStart => exact ⟨(([] : List Int)), (([] : List (S54))), (0), (([] : List Int)), (0), (false), (false), (0), (false), (false), (.slice none 0 0), (by first | rfl | (simp; done) | (simp [*]; done)), H', ⟨Nat.le_refl _⟩, ⟨by first | exact Kd.R_nil _ _ _ _ _ | exact Kd.N_nil _ _ _ _ _ | exact Kd.V_nil _ _ _ _ _ | exact Kd.Q_nil _ _ _ _ _ | exact Kd.S_nil _ _ _ _ _⟩, ⟨by first | exact Kd.S_nil _ _ _ _ _ | exact Kd.N_nil _ _ _ _ _ | exact Kd.V_nil _ _ _ _ _ | exact Kd.Q_nil _ _ _ _ _ | exact Kd.R_nil _ _ _ _ _⟩, ⟨by first | exact Kd.R_nil _ _ _ _ _ | exact Kd.N_nil _ _ _ _ _ | exact Kd.V_nil _ _ _ _ _ | exact Kd.Q_nil _ _ _ _ _ | exact Kd.S_nil _ _ _ _ _⟩, ⟨by (with_reducible repeat (first | refine blk_drewN ?_ _ | refine blk_drew ?_ | refine blk_alloc ?_ _)); exact BK203.out⟩, ⟨by (with_reducible repeat (first | refine blk_drewN ?_ _ | refine blk_drew ?_ | refine blk_alloc ?_ _)); exact BK204.out⟩, ⟨by (with_reducible repeat (first | refine blk_drewN ?_ _ | refine blk_drew ?_ | refine blk_alloc ?_ _)); exact BK205.out⟩, ⟨by repeat (first | (with_reducible first | exact HB.out | apply below_alloc | apply pw_below_drewN | apply below_drew1 | refine below_set ?_ GE203.out | refine below_set ?_ GE204.out | refine below_set ?_ GE205.out) | exact HB.out)⟩⟩
        case round =>
          clear H'
          try clear c1
          try clear c2
          try clear p2
          try clear c5
          try clear c7
          try clear c9
          try clear p2
          obtain ⟨x8_2, x9_2, x41_2, x204001_2, x204002_2, x204003_2, x204004_2, x204005_2, x204006_2, x204007_2, u204001, rfl, HA, HK2, HO_8, HO_9, HO_204001, BK203, BK204, BK205, HB⟩ := hrel
          cases gk with
          | zero => exact absurd HA.out (by simp [marlinelaw07_SyncCuts.l0])
          | succ k2 =>
            have H := HA.out
            clear HA
            simp only [marlinelaw07_SyncCuts.l0] at H
            by_cases c15 : x41_2 < (l1.length : Int)
            · rw [if_pos c15] at H
              have c15b0 : decide (x41_2 < (l1.length : Int)) = true := decide_eq_true c15
              clear c15
              by_cases c16 : 0 ≤ x41_2
              · rw [if_pos c16] at H
                have c16b0 : decide (0 ≤ x41_2) = true := decide_eq_true c16
                clear c16
                by_cases c17 : x41_2 < (l1.length : Int)
                · rw [if_pos c17] at H
                  have c17b0 : decide (x41_2 < (l1.length : Int)) = true := decide_eq_true c17
                  clear c17
                  replace H := Option.bind_eq_some_iff.mp H
                  obtain ⟨⟨t207, t210, t213, t214, t215, t216, t217, t218⟩, A180, H⟩ := H
                  replace H : (if x9_2.length + t207.length < 4398046511104 then (if x8_2.length + (rd_L1 l1 x41_2).length < 140737488355328 then (marlinelaw07_SyncCuts.l0 k2 (x8_2 ++ (rd_L1 l1 x41_2)) (x9_2 ++ t207) l1 (l1.length : Int) (wrap64 (x41_2 + 1)) a0 t210 t213 t214 t215 t216 t217 t218 a0 0 false false 0 false false a0 0 false false 0 false false) else (none)) else (none)) = some r := H
                  have A18 := Aside0.mk A180
                  clear A180
                  by_cases c19 : x9_2.length + t207.length < 4398046511104
                  · rw [if_pos c19] at H
                    have LMc19 := Aside0.mk c19
                    clear c19
                    obtain ⟨y219, hy219⟩ : ∃ y_ : List (S54), y_ = (x9_2 ++ t207) := ⟨_, rfl⟩
                    replace H : (if x8_2.length + (rd_L1 l1 x41_2).length < 140737488355328 then (marlinelaw07_SyncCuts.l0 k2 (x8_2 ++ (rd_L1 l1 x41_2)) y219 l1 (l1.length : Int) (wrap64 (x41_2 + 1)) a0 t210 t213 t214 t215 t216 t217 t218 a0 0 false false 0 false false a0 0 false false 0 false false) else (none)) = some r := by first | (rw [hy219]; with_reducible exact H) | (have H2_ := (Option.bind_some _ _).symm.trans H; rw [hy219]; with_reducible exact H2_) | (have H2_ := (Option.bind_some _ _).symm.trans H; with_reducible exact H2_) | with_reducible exact H | (rw [hy219]; exact H) | exact H
                    have Ny219 := Aside0.mk hy219
                    clear hy219
                    by_cases c20 : x8_2.length + (rd_L1 l1 x41_2).length < 140737488355328
                    · rw [if_pos c20] at H
                      have LMc20 := Aside0.mk c20
                      clear c20
                      obtain ⟨y222, hy222⟩ : ∃ y_ : List Int, y_ = (x8_2 ++ (rd_L1 l1 x41_2)) := ⟨_, rfl⟩
                      replace H : (marlinelaw07_SyncCuts.l0 k2 y222 y219 l1 (l1.length : Int) (wrap64 (x41_2 + 1)) a0 t210 t213 t214 t215 t216 t217 t218 a0 0 false false 0 false false a0 0 false false 0 false false) = some r := by first | (rw [hy222]; with_reducible exact H) | (have H2_ := (Option.bind_some _ _).symm.trans H; rw [hy222]; with_reducible exact H2_) | (have H2_ := (Option.bind_some _ _).symm.trans H; with_reducible exact H2_) | with_reducible exact H | (rw [hy222]; exact H) | exact H
                      have Ny222 := Aside0.mk hy222
                      clear hy222
                      have H' := Aside0.mk H
                      clear H
                      have p206 : 0 ≤ (x41_2 : Int) := of_decide_eq_true (by first | (with_reducible assumption) | assumption)
                      have q206 : x41_2 < (l1.length : Int) := of_decide_eq_true (by first | (with_reducible assumption) | assumption)
                      (try clear hHeld)
                      obtain ⟨ad206, A206_0, c206_0, e206, hx206_0, hl206_0, hi206_0⟩ := at_L1 HR1.out x41_2 p206 q206
                      cases e206
                      replace hx206_0 := (HB.out.cell (World.block_lt_of_cell? w _ hx206_0)).trans hx206_0
                      have HR206_0 := Aside0.mk hi206_0
                      have HC206_0 := Aside0.mk hl206_0
                      clear hi206_0 hl206_0
                      replace p206 := eq_true p206
                      replace q206 := eq_true q206
                      have hnb21 := NB203_204.out
                      have hnc21 := NB204_203.out
                      have hnb22 := NB203_205.out
                      have hnc22 := NB205_203.out
                      have hcz23_0 : wr.cell? ⟨gb203, 0, none⟩ = some (.int .i64 a0) := (blk_cell BK203.out 0).trans rfl
                      have hcz23_1 : wr.cell? ⟨gb203, 1, none⟩ = some (u204001) := (blk_cell BK203.out 1).trans rfl
                      have hcz23_2 : wr.cell? ⟨gb203, 2, none⟩ = some (.int .i64 x204002_2) := (blk_cell BK203.out 2).trans rfl
                      have hcz23_3 : wr.cell? ⟨gb203, 3, none⟩ = some (.bool x204003_2) := (blk_cell BK203.out 3).trans rfl
                      have hcz23_4 : wr.cell? ⟨gb203, 4, none⟩ = some (.bool x204004_2) := (blk_cell BK203.out 4).trans rfl
                      have hcz23_5 : wr.cell? ⟨gb203, 5, none⟩ = some (.int .i64 x204005_2) := (blk_cell BK203.out 5).trans rfl
                      have hcz23_6 : wr.cell? ⟨gb203, 6, none⟩ = some (.bool x204006_2) := (blk_cell BK203.out 6).trans rfl
                      have hcz23_7 : wr.cell? ⟨gb203, 7, none⟩ = some (.bool x204007_2) := (blk_cell BK203.out 7).trans rfl
                      have hfz23_0 := blk_frozen BK203.out 0
                      have hfz23_1 := blk_frozen BK203.out 1
                      have hfz23_2 := blk_frozen BK203.out 2
                      have hfz23_3 := blk_frozen BK203.out 3
                      have hfz23_4 := blk_frozen BK203.out 4
                      have hfz23_5 := blk_frozen BK203.out 5
                      have hfz23_6 := blk_frozen BK203.out 6
                      have hfz23_7 := blk_frozen BK203.out 7
                      obtain ⟨Ao24, co24, eo24⟩ := Kd.R_slice HO_204001.out
                      subst eo24
                      go_wp2_with (first | (go_at_call 25; refine (sdx gb203 a0 (fun k_ => some k_ = (.slice Ao24 x204001_2.length co24 : Value).ownBlock) (.slice Ao24 x204001_2.length co24) x204001_2 x204002_2 x204003_2 x204004_2 x204005_2 x204006_2 x204007_2 _ _ (rd_L1 l1 x41_2) t207 t210 t213 t214 t215 t216 t217 t218 w _ ?side1 ?side2 ?side3 ?side4 A18.out ?side5 ?side6 ?side7).mono ?_; (case side1 => repeat (first | (with_reducible first | exact HB.out | apply below_alloc | apply pw_below_drewN | apply below_drew1 | refine below_set ?_ GE203.out | refine below_set ?_ GE204.out | refine below_set ?_ GE205.out) | exact HB.out)); (case side2 => exact Kd.R_tight rfl HO_204001.out); (case side3 => exact Kd.C_kept_came (Kd.heap_int .u8) HR206_0.out (by repeat (first | (with_reducible first | exact HB.out | apply below_alloc | apply pw_below_drewN | apply below_drew1 | refine below_set ?_ GE203.out | refine below_set ?_ GE204.out | refine below_set ?_ GE205.out) | exact HB.out)) (fun k_ hs_ => (fun e_ => Kd.R_base HO_204001.out k_ e_.symm) hs_)); (case side4 => exact HC206_0.out); (case side5 => exact (by (with_reducible repeat (first | refine blk_drewN ?_ _ | refine blk_drew ?_ | refine blk_alloc ?_ _)); exact BK203.out)); (case side6 => exact GE203.out); (case side7 => exact (fun hs_ => (fun e_ => (Kd.R_ne HO_204001.out BK203.out (by decide)) e_) hs_)); rintro e wq_ ⟨w25, v208, v211, rfl, rfl, ho0, ho1, hb, hkp⟩; have n0_ := Aside0.mk (Kd.R_mono (ok' := fun k_ => some k_ ≠ (v211 : Value).ownBlock) (Kd.R_keptB (HO_8.out) hkp (fun k_ hk_ hs_ => (hk_) hs_)) (fun k_ hk_ => fun e_ => Or.elim (ho1.1 k_ e_.symm) (fun hs_ => hk_.2.1 hs_) (fun hn_ => Nat.not_le.2 hk_.2.2 hn_))); have n1_ := Aside0.mk (Kd.N_mono (ok' := fun k_ => some k_ ≠ (u8 : Value).ownBlock ∧ k_ ≠ gb203 ∧ k_ ≠ gb204 ∧ k_ ≠ gb205 ∧ some k_ ≠ (v208 : Value).ownBlock ∧ some k_ ≠ (v211 : Value).ownBlock) (Kd.N_keptB (HO_9.out) hkp (fun k_ hk_ hs_ => (hk_.2.1) hs_)) (fun k_ hk_ => ⟨hk_.1.1, hk_.1.2.2.1, hk_.1.2.2.2.1, hk_.1.2.2.2.2, fun e_ => Or.elim ((Kd.S_R ho0).1 k_ e_.symm).1 (fun hs_ => hk_.2.1 hs_) (fun hn_ => Nat.not_le.2 hk_.2.2 hn_), fun e_ => Or.elim (ho1.1 k_ e_.symm) (fun hs_ => hk_.2.1 hs_) (fun hn_ => Nat.not_le.2 hk_.2.2 hn_)⟩)); have n2_ := Aside0.mk (blk_kept (by (with_reducible repeat (first | refine blk_drewN ?_ _ | refine blk_drew ?_ | refine blk_alloc ?_ _)); exact BK203.out) hkp (fun hs_ => (fun e_ => (Kd.R_ne HO_204001.out BK203.out (by decide)) e_) hs_)); have n3_ := Aside0.mk (blk_kept (by (with_reducible repeat (first | refine blk_drewN ?_ _ | refine blk_drew ?_ | refine blk_alloc ?_ _)); exact BK204.out) hkp (fun hs_ => (fun e_ => (Kd.R_ne HO_204001.out BK204.out (by decide)) e_) hs_)); have n4_ := Aside0.mk (blk_kept (by (with_reducible repeat (first | refine blk_drewN ?_ _ | refine blk_drew ?_ | refine blk_alloc ?_ _)); exact BK205.out) hkp (fun hs_ => (fun e_ => (Kd.R_ne HO_204001.out BK205.out (by decide)) e_) hs_)); have n5_ := Aside0.mk (Kd.N_lower (Kd.N_mono (ok' := fun k_ => some k_ ≠ (v211 : Value).ownBlock ∧ some k_ ≠ (u8 : Value).ownBlock ∧ some k_ ≠ (u9 : Value).ownBlock ∧ k_ ≠ gb203 ∧ k_ ≠ gb204 ∧ k_ ≠ gb205) (Kd.S_N ho0) (fun k_ hk_ => ⟨hk_.2, Or.elim hk_.1 (fun hs_ => fun e_ => (((HO_8.out).1 k_ e_.symm)) hs_) (fun hn_ => (Kd.fresh' (Kd.R_lt (by (with_reducible repeat (first | apply Kd.R_alloc | apply Kd.R_drewN | apply Kd.R_drew)); exact HO_8.out)) k_ hn_)), Or.elim hk_.1 (fun hs_ => fun e_ => (((HO_9.out).1 k_ e_.symm).2.1) hs_) (fun hn_ => (Kd.fresh' (Kd.N_lt (by (with_reducible repeat (first | apply Kd.N_alloc | apply Kd.N_drewN | apply Kd.N_drew)); exact HO_9.out)) k_ hn_)), Or.elim hk_.1 (fun hs_ => fun e_ => (Kd.R_ne HO_204001.out BK203.out (by decide)) (by rw [← e_]; exact hs_)) (fun hn_ => (Kd.freshB (g := gb203) (o := .cells #[.int .i64 a0, .slice Ao24 x204001_2.length co24, .int .i64 x204002_2, .bool x204003_2, .bool x204004_2, .int .i64 x204005_2, .bool x204006_2, .bool x204007_2] 70 (0, 0)) (by (with_reducible repeat (first | refine blk_drewN ?_ _ | refine blk_drew ?_ | refine blk_alloc ?_ _)); exact BK203.out) k_ hn_)), Or.elim hk_.1 (fun hs_ => fun e_ => (Kd.R_ne HO_204001.out BK204.out (by decide)) (by rw [← e_]; exact hs_)) (fun hn_ => (Kd.freshB (g := gb204) (o := .cells #[.int .i64 a0, .slice none 0 0, .int .i64 0, .bool false, .bool false, .int .i64 0, .bool false, .bool false] 70 (0, 0)) (by (with_reducible repeat (first | refine blk_drewN ?_ _ | refine blk_drew ?_ | refine blk_alloc ?_ _)); exact BK204.out) k_ hn_)), Or.elim hk_.1 (fun hs_ => fun e_ => (Kd.R_ne HO_204001.out BK205.out (by decide)) (by rw [← e_]; exact hs_)) (fun hn_ => (Kd.freshB (g := gb205) (o := .cells #[.int .i64 a0, .slice none 0 0, .int .i64 0, .bool false, .bool false, .int .i64 0, .bool false, .bool false] 70 (0, 0)) (by (with_reducible repeat (first | refine blk_drewN ?_ _ | refine blk_drew ?_ | refine blk_alloc ?_ _)); exact BK205.out) k_ hn_))⟩)) (Nat.le_refl _)); have n6_ := Aside0.mk (Kd.R_mono (ok' := fun k_ => some k_ ≠ (u8 : Value).ownBlock) ho1 (fun k_ hk_ => Or.elim hk_ (fun hs_ => fun e_ => (((HO_8.out).1 k_ e_.symm)) hs_) (fun hn_ => (Kd.fresh' (Kd.R_lt (by (with_reducible repeat (first | apply Kd.R_alloc | apply Kd.R_drewN | apply Kd.R_drew)); exact HO_8.out)) k_ hn_)))); have n7_ := Aside0.mk (hb); clear HO_8; clear HO_9; clear BK203; clear BK204; clear BK205; clear HB; clear HO_204001; have HO_8 := n0_; have HO_9 := n1_; have BK203 := n2_; have BK204 := n3_; have BK205 := n4_; have HO209 := n5_; have HO212 := n6_; have HB := n7_; clear n0_ n1_ n2_ n3_ n4_ n5_ n6_ n7_; (try clear hb); (try clear hkp); (try clear ho0); (try clear ho1); obtain ⟨Ao26, co26, eo26⟩ := Kd.R_slice HO212.out; subst eo26; have hcz27_0 : w25.cell? ⟨gb203, 0, none⟩ = some (.int .i64 a0) := (blk_cell BK203.out 0).trans rfl; have hcz27_1 : w25.cell? ⟨gb203, 1, none⟩ = some (.slice Ao24 x204001_2.length co24) := (blk_cell BK203.out 1).trans rfl; have hcz27_2 : w25.cell? ⟨gb203, 2, none⟩ = some (.int .i64 x204002_2) := (blk_cell BK203.out 2).trans rfl; have hcz27_3 : w25.cell? ⟨gb203, 3, none⟩ = some (.bool x204003_2) := (blk_cell BK203.out 3).trans rfl; have hcz27_4 : w25.cell? ⟨gb203, 4, none⟩ = some (.bool x204004_2) := (blk_cell BK203.out 4).trans rfl; have hcz27_5 : w25.cell? ⟨gb203, 5, none⟩ = some (.int .i64 x204005_2) := (blk_cell BK203.out 5).trans rfl; have hcz27_6 : w25.cell? ⟨gb203, 6, none⟩ = some (.bool x204006_2) := (blk_cell BK203.out 6).trans rfl; have hcz27_7 : w25.cell? ⟨gb203, 7, none⟩ = some (.bool x204007_2) := (blk_cell BK203.out 7).trans rfl; have hfz27_0 := blk_frozen BK203.out 0; have hfz27_1 := blk_frozen BK203.out 1; have hfz27_2 := blk_frozen BK203.out 2; have hfz27_3 := blk_frozen BK203.out 3; have hfz27_4 := blk_frozen BK203.out 4; have hfz27_5 := blk_frozen BK203.out 5; have hfz27_6 := blk_frozen BK203.out 6; have hfz27_7 := blk_frozen BK203.out 7; obtain ⟨Ao29, co29, eo29⟩ := Kd.N_slice HO209.out; subst eo29) | ((with_reducible refine gate_builtin (b := .append) (xs := #[.tmp 45, .tmp 48]) rfl ?_); at_builtin; refine Kd.N_append_rows k54 (w0 := w) w.heap.size rfl (.tmp 45) (.tmp 48) 46 54 (.agg #[(.int .i64 0), (.slice none 0 0)]) 32 rfl Try.underlying46 info54 rfl (by decide) (by omega) u9 x9_2 t207 _ _ _ (fun k_ => some k_ ≠ (u8 : Value).ownBlock ∧ some k_ ≠ (.slice Ao26 t210.length co26 : Value).ownBlock ∧ k_ ≠ gb203 ∧ k_ ≠ gb204 ∧ k_ ≠ gb205) (fun k_ => ((fun k_ => some k_ ≠ (u8 : Value).ownBlock ∧ some k_ ≠ (.slice Ao26 t210.length co26 : Value).ownBlock ∧ k_ ≠ gb203 ∧ k_ ≠ gb204 ∧ k_ ≠ gb205)) k_ ∧ some k_ ≠ (u9 : Value).ownBlock) rfl rfl ?aO ?aR (fun _ hk => hk) ?aF ?aB ?aS ?aL ?_; (case aR => exact (by skip; exact Kd.N_F (Kd.N_mono (ok' := (fun k_ => ((fun k_ => some k_ ≠ (u8 : Value).ownBlock ∧ some k_ ≠ (.slice Ao26 t210.length co26 : Value).ownBlock ∧ k_ ≠ gb203 ∧ k_ ≠ gb204 ∧ k_ ≠ gb205)) k_ ∧ some k_ ≠ (u9 : Value).ownBlock)) ((Kd.N_far (p := ⟨gb203, 7, none⟩) (Kd.N_far (p := ⟨gb203, 6, none⟩) (Kd.N_far (p := ⟨gb203, 5, none⟩) (Kd.N_far (p := ⟨gb203, 4, none⟩) (Kd.N_far (p := ⟨gb203, 3, none⟩) (Kd.N_far (p := ⟨gb203, 2, none⟩) (Kd.N_far (p := ⟨gb203, 1, none⟩) (Kd.N_mono HO209.out (fun k_ hk => (⟨hk, hk.2.2.2.1⟩ : _ ∧ k_ ≠ gb203))) (fun _ hk => hk.2) (.slice Ao26 t210.length co26)) (fun _ hk => hk.2) (.int .i64 t213)) (fun _ hk => hk.2) (.bool t214)) (fun _ hk => hk.2) (.bool t215)) (fun _ hk => hk.2) (.int .i64 t216)) (fun _ hk => hk.2) (.bool t217)) (fun _ hk => hk.2) (.bool t218))) (fun k_ hk => ⟨⟨hk.1.2.1, ⟨hk.1.1, ⟨hk.1.2.2.2.1, ⟨hk.1.2.2.2.2.1, hk.1.2.2.2.2.2⟩⟩⟩⟩, hk.1.2.2.1⟩)))); (case aB => exact (by repeat (first | (with_reducible first | exact HB.out | apply below_alloc | apply pw_below_drewN | apply below_drew1 | refine below_set ?_ GE203.out | refine below_set ?_ GE204.out | refine below_set ?_ GE205.out) | exact HB.out))); (case aF => exact (fun k_ hk => ⟨Kd.fresh' (Kd.R_lt (by (with_reducible repeat (first | apply Kd.R_alloc | apply Kd.R_drewN | apply Kd.R_drew)); exact (Kd.R_mono (Kd.R_far (p := ⟨gb203, 7, none⟩) (Kd.R_far (p := ⟨gb203, 6, none⟩) (Kd.R_far (p := ⟨gb203, 5, none⟩) (Kd.R_far (p := ⟨gb203, 4, none⟩) (Kd.R_far (p := ⟨gb203, 3, none⟩) (Kd.R_far (p := ⟨gb203, 2, none⟩) (Kd.R_far (p := ⟨gb203, 1, none⟩) (Kd.R_types HO_8.out BK203.out (by decide)) (fun _ hk => hk.2) (.slice Ao26 t210.length co26)) (fun _ hk => hk.2) (.int .i64 t213)) (fun _ hk => hk.2) (.bool t214)) (fun _ hk => hk.2) (.bool t215)) (fun _ hk => hk.2) (.int .i64 t216)) (fun _ hk => hk.2) (.bool t217)) (fun _ hk => hk.2) (.bool t218)) (fun _ h_ => h_.1)))) k_ hk, Kd.fresh' (Kd.R_lt (by (with_reducible repeat (first | apply Kd.R_alloc | apply Kd.R_drewN | apply Kd.R_drew)); exact (Kd.R_mono (Kd.R_far (p := ⟨gb203, 7, none⟩) (Kd.R_far (p := ⟨gb203, 6, none⟩) (Kd.R_far (p := ⟨gb203, 5, none⟩) (Kd.R_far (p := ⟨gb203, 4, none⟩) (Kd.R_far (p := ⟨gb203, 3, none⟩) (Kd.R_far (p := ⟨gb203, 2, none⟩) (Kd.R_far (p := ⟨gb203, 1, none⟩) (Kd.R_types HO212.out BK203.out (by decide)) (fun _ hk => hk.2) (.slice Ao26 t210.length co26)) (fun _ hk => hk.2) (.int .i64 t213)) (fun _ hk => hk.2) (.bool t214)) (fun _ hk => hk.2) (.bool t215)) (fun _ hk => hk.2) (.int .i64 t216)) (fun _ hk => hk.2) (.bool t217)) (fun _ hk => hk.2) (.bool t218)) (fun _ h_ => h_.1)))) k_ hk, Kd.freshB (g := gb203) (o := .cells #[.int .i64 a0, .slice Ao26 t210.length co26, .int .i64 t213, .bool t214, .bool t215, .int .i64 t216, .bool t217, .bool t218] 70 (0, 0)) (by (with_reducible repeat (first | refine blk_drewN ?_ _ | refine blk_drew ?_ | refine blk_alloc ?_ _)); refine blk_put (cs := #[.int .i64 a0, .slice Ao26 t210.length co26, .int .i64 t213, .bool t214, .bool t215, .int .i64 t216, .bool t217, .bool x204007_2]) ?_ 7 _ rfl; (with_reducible repeat (first | refine blk_drewN ?_ _ | refine blk_drew ?_ | refine blk_alloc ?_ _)); refine blk_put (cs := #[.int .i64 a0, .slice Ao26 t210.length co26, .int .i64 t213, .bool t214, .bool t215, .int .i64 t216, .bool x204006_2, .bool x204007_2]) ?_ 6 _ rfl; (with_reducible repeat (first | refine blk_drewN ?_ _ | refine blk_drew ?_ | refine blk_alloc ?_ _)); refine blk_put (cs := #[.int .i64 a0, .slice Ao26 t210.length co26, .int .i64 t213, .bool t214, .bool t215, .int .i64 x204005_2, .bool x204006_2, .bool x204007_2]) ?_ 5 _ rfl; (with_reducible repeat (first | refine blk_drewN ?_ _ | refine blk_drew ?_ | refine blk_alloc ?_ _)); refine blk_put (cs := #[.int .i64 a0, .slice Ao26 t210.length co26, .int .i64 t213, .bool t214, .bool x204004_2, .int .i64 x204005_2, .bool x204006_2, .bool x204007_2]) ?_ 4 _ rfl; (with_reducible repeat (first | refine blk_drewN ?_ _ | refine blk_drew ?_ | refine blk_alloc ?_ _)); refine blk_put (cs := #[.int .i64 a0, .slice Ao26 t210.length co26, .int .i64 t213, .bool x204003_2, .bool x204004_2, .int .i64 x204005_2, .bool x204006_2, .bool x204007_2]) ?_ 3 _ rfl; (with_reducible repeat (first | refine blk_drewN ?_ _ | refine blk_drew ?_ | refine blk_alloc ?_ _)); refine blk_put (cs := #[.int .i64 a0, .slice Ao26 t210.length co26, .int .i64 x204002_2, .bool x204003_2, .bool x204004_2, .int .i64 x204005_2, .bool x204006_2, .bool x204007_2]) ?_ 2 _ rfl; (with_reducible repeat (first | refine blk_drewN ?_ _ | refine blk_drew ?_ | refine blk_alloc ?_ _)); refine blk_put (cs := #[.int .i64 a0, .slice Ao24 x204001_2.length co24, .int .i64 x204002_2, .bool x204003_2, .bool x204004_2, .int .i64 x204005_2, .bool x204006_2, .bool x204007_2]) ?_ 1 _ rfl; (with_reducible repeat (first | refine blk_drewN ?_ _ | refine blk_drew ?_ | refine blk_alloc ?_ _)); exact BK203.out) k_ hk, Kd.freshB (g := gb204) (o := .cells #[.int .i64 a0, .slice none 0 0, .int .i64 0, .bool false, .bool false, .int .i64 0, .bool false, .bool false] 70 (0, 0)) (by (with_reducible repeat (first | refine blk_drewN ?_ _ | refine blk_drew ?_ | refine blk_alloc ?_ _)); refine blk_far ?_ NB204_203.out _; (with_reducible repeat (first | refine blk_drewN ?_ _ | refine blk_drew ?_ | refine blk_alloc ?_ _)); refine blk_far ?_ NB204_203.out _; (with_reducible repeat (first | refine blk_drewN ?_ _ | refine blk_drew ?_ | refine blk_alloc ?_ _)); refine blk_far ?_ NB204_203.out _; (with_reducible repeat (first | refine blk_drewN ?_ _ | refine blk_drew ?_ | refine blk_alloc ?_ _)); refine blk_far ?_ NB204_203.out _; (with_reducible repeat (first | refine blk_drewN ?_ _ | refine blk_drew ?_ | refine blk_alloc ?_ _)); refine blk_far ?_ NB204_203.out _; (with_reducible repeat (first | refine blk_drewN ?_ _ | refine blk_drew ?_ | refine blk_alloc ?_ _)); refine blk_far ?_ NB204_203.out _; (with_reducible repeat (first | refine blk_drewN ?_ _ | refine blk_drew ?_ | refine blk_alloc ?_ _)); refine blk_far ?_ NB204_203.out _; (with_reducible repeat (first | refine blk_drewN ?_ _ | refine blk_drew ?_ | refine blk_alloc ?_ _)); exact BK204.out) k_ hk, Kd.freshB (g := gb205) (o := .cells #[.int .i64 a0, .slice none 0 0, .int .i64 0, .bool false, .bool false, .int .i64 0, .bool false, .bool false] 70 (0, 0)) (by (with_reducible repeat (first | refine blk_drewN ?_ _ | refine blk_drew ?_ | refine blk_alloc ?_ _)); refine blk_far ?_ NB205_203.out _; (with_reducible repeat (first | refine blk_drewN ?_ _ | refine blk_drew ?_ | refine blk_alloc ?_ _)); refine blk_far ?_ NB205_203.out _; (with_reducible repeat (first | refine blk_drewN ?_ _ | refine blk_drew ?_ | refine blk_alloc ?_ _)); refine blk_far ?_ NB205_203.out _; (with_reducible repeat (first | refine blk_drewN ?_ _ | refine blk_drew ?_ | refine blk_alloc ?_ _)); refine blk_far ?_ NB205_203.out _; (with_reducible repeat (first | refine blk_drewN ?_ _ | refine blk_drew ?_ | refine blk_alloc ?_ _)); refine blk_far ?_ NB205_203.out _; (with_reducible repeat (first | refine blk_drewN ?_ _ | refine blk_drew ?_ | refine blk_alloc ?_ _)); refine blk_far ?_ NB205_203.out _; (with_reducible repeat (first | refine blk_drewN ?_ _ | refine blk_drew ?_ | refine blk_alloc ?_ _)); refine blk_far ?_ NB205_203.out _; (with_reducible repeat (first | refine blk_drewN ?_ _ | refine blk_drew ?_ | refine blk_alloc ?_ _)); exact BK205.out) k_ hk⟩)); (case aO => exact (by (with_reducible repeat (first | apply Kd.N_alloc | apply Kd.N_drewN | apply Kd.N_drew)); exact Kd.N_mono (Kd.N_far (p := ⟨gb203, 7, none⟩) (Kd.N_far (p := ⟨gb203, 6, none⟩) (Kd.N_far (p := ⟨gb203, 5, none⟩) (Kd.N_far (p := ⟨gb203, 4, none⟩) (Kd.N_far (p := ⟨gb203, 3, none⟩) (Kd.N_far (p := ⟨gb203, 2, none⟩) (Kd.N_far (p := ⟨gb203, 1, none⟩) (Kd.N_mono HO_9.out (fun k_ hk => (⟨hk, hk.2.1⟩ : _ ∧ k_ ≠ gb203))) (fun _ hk => hk.2) (.slice Ao26 t210.length co26)) (fun _ hk => hk.2) (.int .i64 t213)) (fun _ hk => hk.2) (.bool t214)) (fun _ hk => hk.2) (.bool t215)) (fun _ hk => hk.2) (.int .i64 t216)) (fun _ hk => hk.2) (.bool t217)) (fun _ hk => hk.2) (.bool t218)) (fun _ hk => ⟨hk.1.1, ⟨hk.1.2.2.2.2.2, ⟨hk.1.2.1, ⟨hk.1.2.2.1, hk.1.2.2.2.1⟩⟩⟩⟩))); (case aS => exact (below_size (by repeat (first | (with_reducible first | exact HB.out | apply below_alloc | apply pw_below_drewN | apply below_drew1 | refine below_set ?_ GE203.out | refine below_set ?_ GE204.out | refine below_set ?_ GE205.out) | exact HB.out)))); (case aL => have := LMc19.out; omega); intro v220 w28 ho hb hg hat; rw [← Ny219.out] at ho; have n0_ := Aside0.mk (Kd.R_over' (by (with_reducible repeat (first | apply Kd.R_alloc | apply Kd.R_drewN | apply Kd.R_drew)); exact (Kd.R_mono (Kd.R_far (p := ⟨gb203, 7, none⟩) (Kd.R_far (p := ⟨gb203, 6, none⟩) (Kd.R_far (p := ⟨gb203, 5, none⟩) (Kd.R_far (p := ⟨gb203, 4, none⟩) (Kd.R_far (p := ⟨gb203, 3, none⟩) (Kd.R_far (p := ⟨gb203, 2, none⟩) (Kd.R_far (p := ⟨gb203, 1, none⟩) (Kd.R_types HO_8.out BK203.out (by decide)) (fun _ hk => hk.2) (.slice Ao26 t210.length co26)) (fun _ hk => hk.2) (.int .i64 t213)) (fun _ hk => hk.2) (.bool t214)) (fun _ hk => hk.2) (.bool t215)) (fun _ hk => hk.2) (.int .i64 t216)) (fun _ hk => hk.2) (.bool t217)) (fun _ hk => hk.2) (.bool t218)) (fun _ h_ => h_.1))) (Kd.N_typed (by (with_reducible repeat (first | apply Kd.N_alloc | apply Kd.N_drewN | apply Kd.N_drew)); exact (Kd.N_mono (Kd.N_far (p := ⟨gb203, 7, none⟩) (Kd.N_far (p := ⟨gb203, 6, none⟩) (Kd.N_far (p := ⟨gb203, 5, none⟩) (Kd.N_far (p := ⟨gb203, 4, none⟩) (Kd.N_far (p := ⟨gb203, 3, none⟩) (Kd.N_far (p := ⟨gb203, 2, none⟩) (Kd.N_far (p := ⟨gb203, 1, none⟩) (Kd.N_mono HO_9.out (fun k_ hk => (⟨hk, hk.2.1⟩ : _ ∧ k_ ≠ gb203))) (fun _ hk => hk.2) (.slice Ao26 t210.length co26)) (fun _ hk => hk.2) (.int .i64 t213)) (fun _ hk => hk.2) (.bool t214)) (fun _ hk => hk.2) (.bool t215)) (fun _ hk => hk.2) (.int .i64 t216)) (fun _ hk => hk.2) (.bool t217)) (fun _ hk => hk.2) (.bool t218)) (fun _ h_ => h_.1)))) (by decide) hg); have n1_ := Aside0.mk (blk_grown (g := gb203) (o := .cells #[.int .i64 a0, .slice Ao26 t210.length co26, .int .i64 t213, .bool t214, .bool t215, .int .i64 t216, .bool t217, .bool t218] 70 (0, 0)) (by (with_reducible repeat (first | refine blk_drewN ?_ _ | refine blk_drew ?_ | refine blk_alloc ?_ _)); refine blk_put (cs := #[.int .i64 a0, .slice Ao26 t210.length co26, .int .i64 t213, .bool t214, .bool t215, .int .i64 t216, .bool t217, .bool x204007_2]) ?_ 7 _ rfl; (with_reducible repeat (first | refine blk_drewN ?_ _ | refine blk_drew ?_ | refine blk_alloc ?_ _)); refine blk_put (cs := #[.int .i64 a0, .slice Ao26 t210.length co26, .int .i64 t213, .bool t214, .bool t215, .int .i64 t216, .bool x204006_2, .bool x204007_2]) ?_ 6 _ rfl; (with_reducible repeat (first | refine blk_drewN ?_ _ | refine blk_drew ?_ | refine blk_alloc ?_ _)); refine blk_put (cs := #[.int .i64 a0, .slice Ao26 t210.length co26, .int .i64 t213, .bool t214, .bool t215, .int .i64 x204005_2, .bool x204006_2, .bool x204007_2]) ?_ 5 _ rfl; (with_reducible repeat (first | refine blk_drewN ?_ _ | refine blk_drew ?_ | refine blk_alloc ?_ _)); refine blk_put (cs := #[.int .i64 a0, .slice Ao26 t210.length co26, .int .i64 t213, .bool t214, .bool x204004_2, .int .i64 x204005_2, .bool x204006_2, .bool x204007_2]) ?_ 4 _ rfl; (with_reducible repeat (first | refine blk_drewN ?_ _ | refine blk_drew ?_ | refine blk_alloc ?_ _)); refine blk_put (cs := #[.int .i64 a0, .slice Ao26 t210.length co26, .int .i64 t213, .bool x204003_2, .bool x204004_2, .int .i64 x204005_2, .bool x204006_2, .bool x204007_2]) ?_ 3 _ rfl; (with_reducible repeat (first | refine blk_drewN ?_ _ | refine blk_drew ?_ | refine blk_alloc ?_ _)); refine blk_put (cs := #[.int .i64 a0, .slice Ao26 t210.length co26, .int .i64 x204002_2, .bool x204003_2, .bool x204004_2, .int .i64 x204005_2, .bool x204006_2, .bool x204007_2]) ?_ 2 _ rfl; (with_reducible repeat (first | refine blk_drewN ?_ _ | refine blk_drew ?_ | refine blk_alloc ?_ _)); refine blk_put (cs := #[.int .i64 a0, .slice Ao24 x204001_2.length co24, .int .i64 x204002_2, .bool x204003_2, .bool x204004_2, .int .i64 x204005_2, .bool x204006_2, .bool x204007_2]) ?_ 1 _ rfl; (with_reducible repeat (first | refine blk_drewN ?_ _ | refine blk_drew ?_ | refine blk_alloc ?_ _)); exact BK203.out) hg (Kd.N_ne HO_9.out BK203.out (by decide))); have n2_ := Aside0.mk (blk_grown (g := gb204) (o := .cells #[.int .i64 a0, .slice none 0 0, .int .i64 0, .bool false, .bool false, .int .i64 0, .bool false, .bool false] 70 (0, 0)) (by (with_reducible repeat (first | refine blk_drewN ?_ _ | refine blk_drew ?_ | refine blk_alloc ?_ _)); refine blk_far ?_ NB204_203.out _; (with_reducible repeat (first | refine blk_drewN ?_ _ | refine blk_drew ?_ | refine blk_alloc ?_ _)); refine blk_far ?_ NB204_203.out _; (with_reducible repeat (first | refine blk_drewN ?_ _ | refine blk_drew ?_ | refine blk_alloc ?_ _)); refine blk_far ?_ NB204_203.out _; (with_reducible repeat (first | refine blk_drewN ?_ _ | refine blk_drew ?_ | refine blk_alloc ?_ _)); refine blk_far ?_ NB204_203.out _; (with_reducible repeat (first | refine blk_drewN ?_ _ | refine blk_drew ?_ | refine blk_alloc ?_ _)); refine blk_far ?_ NB204_203.out _; (with_reducible repeat (first | refine blk_drewN ?_ _ | refine blk_drew ?_ | refine blk_alloc ?_ _)); refine blk_far ?_ NB204_203.out _; (with_reducible repeat (first | refine blk_drewN ?_ _ | refine blk_drew ?_ | refine blk_alloc ?_ _)); refine blk_far ?_ NB204_203.out _; (with_reducible repeat (first | refine blk_drewN ?_ _ | refine blk_drew ?_ | refine blk_alloc ?_ _)); exact BK204.out) hg (Kd.N_ne HO_9.out BK204.out (by decide))); have n3_ := Aside0.mk (blk_grown (g := gb205) (o := .cells #[.int .i64 a0, .slice none 0 0, .int .i64 0, .bool false, .bool false, .int .i64 0, .bool false, .bool false] 70 (0, 0)) (by (with_reducible repeat (first | refine blk_drewN ?_ _ | refine blk_drew ?_ | refine blk_alloc ?_ _)); refine blk_far ?_ NB205_203.out _; (with_reducible repeat (first | refine blk_drewN ?_ _ | refine blk_drew ?_ | refine blk_alloc ?_ _)); refine blk_far ?_ NB205_203.out _; (with_reducible repeat (first | refine blk_drewN ?_ _ | refine blk_drew ?_ | refine blk_alloc ?_ _)); refine blk_far ?_ NB205_203.out _; (with_reducible repeat (first | refine blk_drewN ?_ _ | refine blk_drew ?_ | refine blk_alloc ?_ _)); refine blk_far ?_ NB205_203.out _; (with_reducible repeat (first | refine blk_drewN ?_ _ | refine blk_drew ?_ | refine blk_alloc ?_ _)); refine blk_far ?_ NB205_203.out _; (with_reducible repeat (first | refine blk_drewN ?_ _ | refine blk_drew ?_ | refine blk_alloc ?_ _)); refine blk_far ?_ NB205_203.out _; (with_reducible repeat (first | refine blk_drewN ?_ _ | refine blk_drew ?_ | refine blk_alloc ?_ _)); refine blk_far ?_ NB205_203.out _; (with_reducible repeat (first | refine blk_drewN ?_ _ | refine blk_drew ?_ | refine blk_alloc ?_ _)); exact BK205.out) hg (Kd.N_ne HO_9.out BK205.out (by decide))); have n4_ := Aside0.mk (Kd.N_afterv (ok := (fun k_ => some k_ ≠ (u8 : Value).ownBlock ∧ some k_ ≠ (.slice Ao26 t210.length co26 : Value).ownBlock ∧ k_ ≠ gb203 ∧ k_ ≠ gb204 ∧ k_ ≠ gb205)) (by (with_reducible repeat (first | apply Kd.N_alloc | apply Kd.N_drewN | apply Kd.N_drew)); exact Kd.N_mono (Kd.N_far (p := ⟨gb203, 7, none⟩) (Kd.N_far (p := ⟨gb203, 6, none⟩) (Kd.N_far (p := ⟨gb203, 5, none⟩) (Kd.N_far (p := ⟨gb203, 4, none⟩) (Kd.N_far (p := ⟨gb203, 3, none⟩) (Kd.N_far (p := ⟨gb203, 2, none⟩) (Kd.N_far (p := ⟨gb203, 1, none⟩) (Kd.N_mono HO209.out (fun k_ hk => (⟨hk, hk.2.2.2.1⟩ : _ ∧ k_ ≠ gb203))) (fun _ hk => hk.2) (.slice Ao26 t210.length co26)) (fun _ hk => hk.2) (.int .i64 t213)) (fun _ hk => hk.2) (.bool t214)) (fun _ hk => hk.2) (.bool t215)) (fun _ hk => hk.2) (.int .i64 t216)) (fun _ hk => hk.2) (.bool t217)) (fun _ hk => hk.2) (.bool t218)) (fun _ hk => ⟨⟨hk.1.2.1, ⟨hk.1.1, ⟨hk.1.2.2.2.1, ⟨hk.1.2.2.2.2.1, hk.1.2.2.2.2.2⟩⟩⟩⟩, hk.1.2.2.1⟩)) hg hat); have n5_ := Aside0.mk (Kd.R_over' (by (with_reducible repeat (first | apply Kd.R_alloc | apply Kd.R_drewN | apply Kd.R_drew)); exact (Kd.R_mono (Kd.R_far (p := ⟨gb203, 7, none⟩) (Kd.R_far (p := ⟨gb203, 6, none⟩) (Kd.R_far (p := ⟨gb203, 5, none⟩) (Kd.R_far (p := ⟨gb203, 4, none⟩) (Kd.R_far (p := ⟨gb203, 3, none⟩) (Kd.R_far (p := ⟨gb203, 2, none⟩) (Kd.R_far (p := ⟨gb203, 1, none⟩) (Kd.R_types HO212.out BK203.out (by decide)) (fun _ hk => hk.2) (.slice Ao26 t210.length co26)) (fun _ hk => hk.2) (.int .i64 t213)) (fun _ hk => hk.2) (.bool t214)) (fun _ hk => hk.2) (.bool t215)) (fun _ hk => hk.2) (.int .i64 t216)) (fun _ hk => hk.2) (.bool t217)) (fun _ hk => hk.2) (.bool t218)) (fun _ h_ => h_.1))) (Kd.N_typed (by (with_reducible repeat (first | apply Kd.N_alloc | apply Kd.N_drewN | apply Kd.N_drew)); exact (Kd.N_mono (Kd.N_far (p := ⟨gb203, 7, none⟩) (Kd.N_far (p := ⟨gb203, 6, none⟩) (Kd.N_far (p := ⟨gb203, 5, none⟩) (Kd.N_far (p := ⟨gb203, 4, none⟩) (Kd.N_far (p := ⟨gb203, 3, none⟩) (Kd.N_far (p := ⟨gb203, 2, none⟩) (Kd.N_far (p := ⟨gb203, 1, none⟩) (Kd.N_mono HO_9.out (fun k_ hk => (⟨hk, hk.2.1⟩ : _ ∧ k_ ≠ gb203))) (fun _ hk => hk.2) (.slice Ao26 t210.length co26)) (fun _ hk => hk.2) (.int .i64 t213)) (fun _ hk => hk.2) (.bool t214)) (fun _ hk => hk.2) (.bool t215)) (fun _ hk => hk.2) (.int .i64 t216)) (fun _ hk => hk.2) (.bool t217)) (fun _ hk => hk.2) (.bool t218)) (fun _ h_ => h_.1)))) (by decide) hg); have n6_ := Aside0.mk (hb); have n7_ := Aside0.mk (ho); clear HO_8; clear BK203; clear BK204; clear BK205; clear HO209; clear HO212; clear HB; clear HO_9; have HO_8 := n0_; have BK203 := n1_; have BK204 := n2_; have BK205 := n3_; have HO209 := n4_; have HO212 := n5_; have HB := n6_; have HO221 := n7_; clear n0_ n1_ n2_ n3_ n4_ n5_ n6_ n7_; clear ho hb hg hat) | ((with_reducible refine gate_builtin (b := .append) (xs := #[.tmp 50, .tmp 51]) rfl ?_); at_builtin; refine Kd.R_append_rows (Kd.int .u8) (w0 := w) w.heap.size rfl (.tmp 50) (.tmp 51) 28 5 (.int .u8 0) 1 rfl Try.underlying28 info5 rfl (by decide) (by omega) u8 x8_2 (rd_L1 l1 x41_2) _ _ _ (fun k_ => some k_ ≠ (.slice Ao26 t210.length co26 : Value).ownBlock) (fun _ => False) rfl rfl ?aO ?aR (fun _ _ h => h) (fun _ h => h.elim) ?aF ?aB ?aS ?aL ?_; (case aR => repeat (first | exact (Kd.C_below HR206_0.out HB.out) | (with_reducible refine Kd.C_alloc ?_ _) | (with_reducible refine Kd.C_drewN ?_ _) | (with_reducible refine Kd.C_drew ?_))); (case aB => exact (by repeat (first | (with_reducible first | exact HB.out | apply below_alloc | apply pw_below_drewN | apply below_drew1 | refine below_set ?_ GE203.out | refine below_set ?_ GE204.out | refine below_set ?_ GE205.out) | exact HB.out))); (case aF => exact (fun k_ hk => Kd.fresh' (Kd.R_lt (by (with_reducible repeat (first | apply Kd.R_alloc | apply Kd.R_drewN | apply Kd.R_drew)); exact HO212.out)) k_ hk)); (case aO => exact (by (with_reducible repeat (first | apply Kd.R_alloc | apply Kd.R_drewN | apply Kd.R_drew)); exact HO_8.out)); (case aS => exact (below_size (by repeat (first | (with_reducible first | exact HB.out | apply below_alloc | apply pw_below_drewN | apply below_drew1 | refine below_set ?_ GE203.out | refine below_set ?_ GE204.out | refine below_set ?_ GE205.out) | exact HB.out)))); (case aL => have := LMc20.out; omega); intro v223 w30 ho hb hg hat; rw [← Ny222.out] at ho; have n0_ := Aside0.mk (blk_grown (g := gb203) (o := .cells #[.int .i64 a0, .slice Ao26 t210.length co26, .int .i64 t213, .bool t214, .bool t215, .int .i64 t216, .bool t217, .bool t218] 70 (0, 0)) (by (with_reducible repeat (first | refine blk_drewN ?_ _ | refine blk_drew ?_ | refine blk_alloc ?_ _)); exact BK203.out) hg (Kd.R_ne HO_8.out BK203.out (by decide))); have n1_ := Aside0.mk (blk_grown (g := gb204) (o := .cells #[.int .i64 a0, .slice none 0 0, .int .i64 0, .bool false, .bool false, .int .i64 0, .bool false, .bool false] 70 (0, 0)) (by (with_reducible repeat (first | refine blk_drewN ?_ _ | refine blk_drew ?_ | refine blk_alloc ?_ _)); exact BK204.out) hg (Kd.R_ne HO_8.out BK204.out (by decide))); have n2_ := Aside0.mk (blk_grown (g := gb205) (o := .cells #[.int .i64 a0, .slice none 0 0, .int .i64 0, .bool false, .bool false, .int .i64 0, .bool false, .bool false] 70 (0, 0)) (by (with_reducible repeat (first | refine blk_drewN ?_ _ | refine blk_drew ?_ | refine blk_alloc ?_ _)); exact BK205.out) hg (Kd.R_ne HO_8.out BK205.out (by decide))); have n3_ := Aside0.mk (Kd.N_afterv (ok := (fun k_ => some k_ ≠ (.slice Ao26 t210.length co26 : Value).ownBlock ∧ some k_ ≠ (v220 : Value).ownBlock ∧ k_ ≠ gb203 ∧ k_ ≠ gb204 ∧ k_ ≠ gb205)) (by (with_reducible repeat (first | apply Kd.N_alloc | apply Kd.N_drewN | apply Kd.N_drew)); exact Kd.N_mono HO209.out (fun _ hk => ⟨⟨hk.1.2.1, ⟨hk.2, ⟨hk.1.2.2.1, ⟨hk.1.2.2.2.1, hk.1.2.2.2.2⟩⟩⟩⟩, hk.1.1⟩)) hg hat); have n4_ := Aside0.mk (Kd.R_after (ok := (fun _ => True)) (by (with_reducible repeat (first | apply Kd.R_alloc | apply Kd.R_drewN | apply Kd.R_drew)); exact Kd.R_mono HO212.out (fun _ hk => ⟨trivial, hk⟩)) hg hat); have n5_ := Aside0.mk (Kd.N_afterv (ok := (fun k_ => some k_ ≠ (.slice Ao26 t210.length co26 : Value).ownBlock ∧ k_ ≠ gb203 ∧ k_ ≠ gb204 ∧ k_ ≠ gb205)) (by (with_reducible repeat (first | apply Kd.N_alloc | apply Kd.N_drewN | apply Kd.N_drew)); exact Kd.N_mono HO221.out (fun _ hk => ⟨⟨hk.2.1, ⟨hk.2.2.1, ⟨hk.2.2.2.1, hk.2.2.2.2⟩⟩⟩, hk.1⟩)) hg hat); have n6_ := Aside0.mk (hb); have n7_ := Aside0.mk (ho); clear BK203; clear BK204; clear BK205; clear HO209; clear HO212; clear HO221; clear HB; clear HO_8; have BK203 := n0_; have BK204 := n1_; have BK205 := n2_; have HO209 := n3_; have HO212 := n4_; have HO221 := n5_; have HB := n6_; have HO224 := n7_; clear n0_ n1_ n2_ n3_ n4_ n5_ n6_ n7_; clear ho hb hg hat))
                      go_roundg k2
                      case measure => have := HJ2.out; have := HK2.out; omega
                      case rel => exact ⟨(y222), (y219), (wrap64 (x41_2 + 1)), (t210), (t213), (t214), (t215), (t216), (t217), (t218), (.slice Ao26 t210.length co26), (by first | rfl | (simp; done) | (simp [*]; done)), H', ⟨by have := HJ2.out; have := HK2.out; omega⟩, ⟨by (with_reducible repeat (first | apply Kd.R_alloc | apply Kd.R_drewN | apply Kd.R_drew)); exact HO224.out⟩, ⟨by (with_reducible repeat (first | apply Kd.N_alloc | apply Kd.N_drewN | apply Kd.N_drew)); exact Kd.N_mono HO221.out (fun _ hk => ⟨hk.2, ⟨hk.1.1, ⟨hk.1.2.1, ⟨hk.1.2.2.1, hk.1.2.2.2⟩⟩⟩⟩)⟩, ⟨by (with_reducible repeat (first | apply Kd.R_alloc | apply Kd.R_drewN | apply Kd.R_drew)); exact Kd.R_mono HO212.out (fun _ hk => hk.2)⟩, ⟨by (with_reducible repeat (first | refine blk_drewN ?_ _ | refine blk_drew ?_ | refine blk_alloc ?_ _)); exact BK203.out⟩, ⟨by (with_reducible repeat (first | refine blk_drewN ?_ _ | refine blk_drew ?_ | refine blk_alloc ?_ _)); exact BK204.out⟩, ⟨by (with_reducible repeat (first | refine blk_drewN ?_ _ | refine blk_drew ?_ | refine blk_alloc ?_ _)); exact BK205.out⟩, ⟨by repeat (first | (with_reducible first | exact HB.out | apply below_alloc | apply pw_below_drewN | apply below_drew1 | refine below_set ?_ GE203.out | refine below_set ?_ GE204.out | refine below_set ?_ GE205.out) | exact HB.out)⟩⟩
                    · rw [if_neg c20] at H
                      exact absurd H (by simp)
                  · rw [if_neg c19] at H
                    exact absurd H (by simp)
                · rw [if_neg c17] at H
                  exact absurd H (by simp)
              · rw [if_neg c16] at H
                exact absurd H (by simp)
            · rw [if_neg c15] at H
              have c15b0 : decide (x41_2 < (l1.length : Int)) = false := decide_eq_false c15
              clear c15
              have H' := Aside0.mk H
              clear H
              obtain ⟨Ao31, co31, eo31⟩ := Kd.R_slice HO_8.out
              subst eo31
              go_wp2
              go_loopg [10, 56] k2 (fun kq v10 v56 w' => ∃ (x10_3 : List (S54)) (x56_3 : Int) (x205001_3 : List Int) (x205002_3 : Int) (x205003_3 : Bool) (x205004_3 : Bool) (x205005_3 : Int) (x205006_3 : Bool) (x205007_3 : Bool) (u205001 : Value), v56 = .int .i64 x56_3 ∧ Aside0 (marlinelaw07_SyncCuts.l1 kq x8_2 x9_2 x10_3 (x8_2.length : Int) x56_3 a0 x205001_3 x205002_3 x205003_3 x205004_3 x205005_3 x205006_3 x205007_3 a0 0 false false 0 false false = some r) ∧ Aside0 (kq ≤ k2) ∧ Aside0 (Kd.R (Kd.int .u8) 5 w' w.heap.size (fun k_ => some k_ ≠ (u204001 : Value).ownBlock ∧ some k_ ≠ (u205001 : Value).ownBlock) (.slice Ao31 x8_2.length co31) x8_2) ∧ Aside0 (Kd.N k54 54 w' w.heap.size (fun k_ => some k_ ≠ ((.slice Ao31 x8_2.length co31) : Value).ownBlock ∧ some k_ ≠ (v10 : Value).ownBlock ∧ some k_ ≠ (u204001 : Value).ownBlock ∧ some k_ ≠ (u205001 : Value).ownBlock ∧ k_ ≠ gb203 ∧ k_ ≠ gb204 ∧ k_ ≠ gb205) u9 x9_2) ∧ Aside0 (Kd.N k54 54 w' w.heap.size (fun k_ => some k_ ≠ ((.slice Ao31 x8_2.length co31) : Value).ownBlock ∧ some k_ ≠ (u9 : Value).ownBlock ∧ some k_ ≠ (u204001 : Value).ownBlock ∧ some k_ ≠ (u205001 : Value).ownBlock ∧ k_ ≠ gb203 ∧ k_ ≠ gb204 ∧ k_ ≠ gb205) v10 x10_3) ∧ Aside0 (Kd.R (Kd.int .u8) 5 w' w.heap.size (fun k_ => some k_ ≠ ((.slice Ao31 x8_2.length co31) : Value).ownBlock ∧ some k_ ≠ (u205001 : Value).ownBlock) u204001 x204001_2) ∧ Aside0 (Kd.R (Kd.int .u8) 5 w' w.heap.size (fun k_ => some k_ ≠ ((.slice Ao31 x8_2.length co31) : Value).ownBlock ∧ some k_ ≠ (u204001 : Value).ownBlock) u205001 x205001_3) ∧ Aside0 (w'.heap[gb203]? = some (.cells #[.int .i64 a0, u204001, .int .i64 x204002_2, .bool x204003_2, .bool x204004_2, .int .i64 x204005_2, .bool x204006_2, .bool x204007_2] 70 (0, 0))) ∧ Aside0 (w'.heap[gb204]? = some (.cells #[.int .i64 a0, u205001, .int .i64 x205002_3, .bool x205003_3, .bool x205004_3, .int .i64 x205005_3, .bool x205006_3, .bool x205007_3] 70 (0, 0))) ∧ Aside0 (w'.heap[gb205]? = some (.cells #[.int .i64 a0, (.slice none 0 0), .int .i64 0, .bool false, .bool false, .int .i64 0, .bool false, .bool false] 70 (0, 0))) ∧ Aside0 (Below w.heap.size w w'))
              case atStart => exact ⟨(([] : List (S54))), (0), (([] : List Int)), (0), (false), (false), (0), (false), (false), (.slice none 0 0), (by first | rfl | (simp; done) | (simp [*]; done)), H', ⟨Nat.le_refl _⟩, ⟨by (with_reducible repeat (first | apply Kd.R_alloc | apply Kd.R_drewN | apply Kd.R_drew)); exact Kd.R_mono HO_8.out (fun _ hk => ⟨hk, (by simp [Value.ownBlock])⟩)⟩, ⟨by (with_reducible repeat (first | apply Kd.N_alloc | apply Kd.N_drewN | apply Kd.N_drew)); exact Kd.N_mono HO_9.out (fun _ hk => ⟨hk.1, ⟨(by simp [Value.ownBlock]), ⟨hk.2.1, ⟨(by simp [Value.ownBlock]), ⟨hk.2.2.1, ⟨hk.2.2.2.1, hk.2.2.2.2⟩⟩⟩⟩⟩⟩)⟩, ⟨by first | exact Kd.S_nil _ _ _ _ _ | exact Kd.N_nil _ _ _ _ _ | exact Kd.V_nil _ _ _ _ _ | exact Kd.Q_nil _ _ _ _ _ | exact Kd.R_nil _ _ _ _ _⟩, ⟨by (with_reducible repeat (first | apply Kd.R_alloc | apply Kd.R_drewN | apply Kd.R_drew)); exact Kd.R_mono HO_204001.out (fun _ hk => ⟨hk, (by simp [Value.ownBlock])⟩)⟩, ⟨by first | exact Kd.R_nil _ _ _ _ _ | exact Kd.N_nil _ _ _ _ _ | exact Kd.V_nil _ _ _ _ _ | exact Kd.Q_nil _ _ _ _ _ | exact Kd.S_nil _ _ _ _ _⟩, ⟨by (with_reducible repeat (first | refine blk_drewN ?_ _ | refine blk_drew ?_ | refine blk_alloc ?_ _)); exact BK203.out⟩, ⟨by (with_reducible repeat (first | refine blk_drewN ?_ _ | refine blk_drew ?_ | refine blk_alloc ?_ _)); exact BK204.out⟩, ⟨by (with_reducible repeat (first | refine blk_drewN ?_ _ | refine blk_drew ?_ | refine blk_alloc ?_ _)); exact BK205.out⟩, ⟨by repeat (first | (with_reducible first | exact HB.out | apply below_alloc | apply pw_below_drewN | apply below_drew1 | refine below_set ?_ GE203.out | refine below_set ?_ GE204.out | refine below_set ?_ GE205.out) | exact HB.out)⟩⟩
              case round =>
                clear H'
                try clear c1
                try clear c2
                try clear p2
                try clear q2
                try clear hx2
                try clear c5
                try clear p6
                try clear c7
                try clear c9
                try clear c15
                try clear c15b0
                try clear c16
                try clear c16b0
                try clear c17
                try clear c17b0
                try clear c19
                try clear c20
                try clear p20
                try clear q20
                try clear hx20
                try clear c21
                try clear c22
                try clear c25
                try clear hcz23_0
                try clear hcz23_1
                try clear hcz23_2
                try clear hcz23_3
                try clear hcz23_4
                try clear hcz23_5
                try clear hcz23_6
                try clear hcz23_7
                try clear hcz27_0
                try clear hcz27_1
                try clear hcz27_2
                try clear hcz27_3
                try clear hcz27_4
                try clear hcz27_5
                try clear hcz27_6
                try clear hcz27_7
                try clear hfz23_0
                try clear hfz23_1
                try clear hfz23_2
                try clear hfz23_3
                try clear hfz23_4
                try clear hfz23_5
                try clear hfz23_6
                try clear hfz23_7
                try clear hfz27_0
                try clear hfz27_1
                try clear hfz27_2
                try clear hfz27_3
                try clear hfz27_4
                try clear hfz27_5
                try clear hfz27_6
                try clear hfz27_7
                try clear hx206_0
                try clear p2
                try clear p206
                try clear q206
                obtain ⟨x10_3, x56_3, x205001_3, x205002_3, x205003_3, x205004_3, x205005_3, x205006_3, x205007_3, u205001, rfl, HA, HK3, HO_8, HO_9, HO_10, HO_204001, HO_205001, BK203, BK204, BK205, HB⟩ := hrel
                cases gk with
                | zero => exact absurd HA.out (by simp [marlinelaw07_SyncCuts.l1])
                | succ k3 =>
                  have H := HA.out
                  clear HA
                  simp only [marlinelaw07_SyncCuts.l1] at H
                  by_cases c32 : x56_3 < (x8_2.length : Int)
                  · rw [if_pos c32] at H
                    have c32b0 : decide (x56_3 < (x8_2.length : Int)) = true := decide_eq_true c32
                    clear c32
                    by_cases c33 : 0 ≤ x56_3
                    · rw [if_pos c33] at H
                      have c33b0 := eq_true c33
                      have c33b1 : decide (0 ≤ x56_3) = true := decide_eq_true c33
                      clear c33
                      by_cases c34 : x56_3 ≤ (wrap64 (x56_3 + 1))
                      · rw [if_pos c34] at H
                        have c34b0 := eq_true c34
                        have c34b1 : decide (x56_3 ≤ (wrap64 (x56_3 + 1))) = true := decide_eq_true c34
                        by_cases c35 : (wrap64 (x56_3 + 1)) ≤ (x8_2.length : Int)
                        · rw [if_pos c35] at H
                          have c35b0 := eq_true c35
                          have c35b1 : decide ((wrap64 (x56_3 + 1)) ≤ (x8_2.length : Int)) = true := decide_eq_true c35
                          obtain ⟨y225, hy225⟩ : ∃ y_ : List Int, y_ = ((x8_2.take ((wrap64 (x56_3 + 1)) : Int).toNat).drop (x56_3 : Int).toNat) := ⟨_, rfl⟩
                          replace H : ((sync_Deframer_Feed.f a0 x205001_3 x205002_3 x205003_3 x205004_3 x205005_3 x205006_3 x205007_3 y225).bind fun bt230 => (if x10_3.length + bt230.1.length < 4398046511104 then (marlinelaw07_SyncCuts.l1 k3 x8_2 x9_2 (x10_3 ++ bt230.1) (x8_2.length : Int) (wrap64 (x56_3 + 1)) a0 bt230.2.1 bt230.2.2.1 bt230.2.2.2.1 bt230.2.2.2.2.1 bt230.2.2.2.2.2.1 bt230.2.2.2.2.2.2.1 bt230.2.2.2.2.2.2.2 a0 0 false false 0 false false) else (none))) = some r := by first | (rw [hy225]; with_reducible exact H) | (have H2_ := (Option.bind_some _ _).symm.trans H; rw [hy225]; with_reducible exact H2_) | (have H2_ := (Option.bind_some _ _).symm.trans H; with_reducible exact H2_) | with_reducible exact H | (rw [hy225]; exact H) | exact H
                          have Ny225 := Aside0.mk hy225
                          clear hy225
                          replace H := Option.bind_eq_some_iff.mp H
                          obtain ⟨⟨t230, t233, t236, t237, t238, t239, t240, t241⟩, A360, H⟩ := H
                          replace H : (if x10_3.length + t230.length < 4398046511104 then (marlinelaw07_SyncCuts.l1 k3 x8_2 x9_2 (x10_3 ++ t230) (x8_2.length : Int) (wrap64 (x56_3 + 1)) a0 t233 t236 t237 t238 t239 t240 t241 a0 0 false false 0 false false) else (none)) = some r := H
                          have A36 := Aside0.mk A360
                          clear A360
                          by_cases c37 : x10_3.length + t230.length < 4398046511104
                          · rw [if_pos c37] at H
                            have LMc37 := Aside0.mk c37
                            clear c37
                            obtain ⟨y242, hy242⟩ : ∃ y_ : List (S54), y_ = (x10_3 ++ t230) := ⟨_, rfl⟩
                            replace H : (marlinelaw07_SyncCuts.l1 k3 x8_2 x9_2 y242 (x8_2.length : Int) (wrap64 (x56_3 + 1)) a0 t233 t236 t237 t238 t239 t240 t241 a0 0 false false 0 false false) = some r := by first | (rw [hy242]; with_reducible exact H) | (have H2_ := (Option.bind_some _ _).symm.trans H; rw [hy242]; with_reducible exact H2_) | (have H2_ := (Option.bind_some _ _).symm.trans H; with_reducible exact H2_) | with_reducible exact H | (rw [hy242]; exact H) | exact H
                            have Ny242 := Aside0.mk hy242
                            clear hy242
                            have H' := Aside0.mk H
                            clear H
                            have q38 : ((wrap64 (x56_3 + 1)) : Int) ≤ ((x8_2.length : Int) : Int) := of_decide_eq_true (by first | (with_reducible assumption) | assumption)
                            obtain ⟨i038, hi038, _, hsz38, _⟩ := info_parts info5
                            have hroom38 : x8_2.length ≤ co31 := (Kd.R_reads' HO_8.out).2.1
                            have hC38 : Kd.F (Kd.int .u8) _ _ Ao31 x8_2.length x8_2 := (Kd.V_at (base := w.heap.size) (Kd.R_V (Kd.R_types (Kd.R_types (Kd.R_types (Kd.R_apart' (Kd.R_apart' (HO_8.out) (Kd.N_typed HO_9.out) (by decide)) (Kd.N_typed HO_10.out) (by decide)) BK203.out (by decide)) BK204.out (by decide)) BK205.out (by decide)))).2.2
                            have ql38 : (x56_3 : Int) ≤ ((wrap64 (x56_3 + 1)) : Int) := of_decide_eq_true (by first | (with_reducible assumption) | assumption)
                            have q038 : (0 : Int) ≤ (x56_3 : Int) := of_decide_eq_true (by first | (with_reducible assumption) | assumption)
                            have hcut38 := cut_mid (P := Try.prog) 28 5 .i64 .i64 Try.underlying28 hi038 1 hsz38 Ao31 x8_2.length co31 x56_3 (wrap64 (x56_3 + 1)) q038 ql38 q38 hroom38
                            have hr38 := Kd.F_mid (lo := (x56_3 : Int).toNat) (hi := ((wrap64 (x56_3 + 1)) : Int).toNat) (c := co31) hC38 (by omega) (by omega) hroom38
                            obtain ⟨A38, hA38⟩ : ∃ A1_, A1_ = (if co31 = (x56_3 : Int).toNat then Ao31 else (Ao31 : Option Addr).map (·.add ((x56_3 : Int).toNat * 1))) := ⟨_, rfl⟩
                            obtain ⟨c38, hc38⟩ : ∃ c1_, c1_ = co31 - (x56_3 : Int).toNat := ⟨_, rfl⟩
                            have hy38 : y225.length = ((wrap64 (x56_3 + 1)) : Int).toNat - (x56_3 : Int).toNat := (by rw [Ny225.out, List.length_drop, List.length_take] <;> omega)
                            rw [show ((x8_2).take ((wrap64 (x56_3 + 1)) : Int).toNat).drop (x56_3 : Int).toNat = y225 from Ny225.out.symm] at hr38
                            replace hr38 : Kd.F (Kd.int .u8) _ _ A38 y225.length y225 := (by rw [hA38]; exact hr38)
                            rw [← hy38, ← hA38, ← hc38] at hcut38
                            have HO229 := Aside0.mk (show Kd.V (Kd.int .u8) 5 _ w.heap.size _ (.slice A38 y225.length c38) y225 from Kd.V_mk (by rw [hy38, hc38]; exact Nat.sub_le_sub_right (Nat.le_trans (by omega) hroom38) _) hr38)
                            have HC229 := Aside0.mk (show y225.length ≤ c38 from by rw [hy38, hc38]; exact Nat.sub_le_sub_right (Nat.le_trans (by omega) hroom38) _)
                            clear hr38 hC38 hroom38 hi038 hsz38 hc38
                            have KY38 := Aside0.mk hy38
                            have KA38 := Aside0.mk hA38
                            clear hy38 hA38
                            replace q38 := eq_true q38
                            have hnb39 := NB204_203.out
                            have hnc39 := NB203_204.out
                            have hnb40 := NB204_205.out
                            have hnc40 := NB205_204.out
                            have hcz41_0 : wr.cell? ⟨gb204, 0, none⟩ = some (.int .i64 a0) := (blk_cell BK204.out 0).trans rfl
                            have hcz41_1 : wr.cell? ⟨gb204, 1, none⟩ = some (u205001) := (blk_cell BK204.out 1).trans rfl
                            have hcz41_2 : wr.cell? ⟨gb204, 2, none⟩ = some (.int .i64 x205002_3) := (blk_cell BK204.out 2).trans rfl
                            have hcz41_3 : wr.cell? ⟨gb204, 3, none⟩ = some (.bool x205003_3) := (blk_cell BK204.out 3).trans rfl
                            have hcz41_4 : wr.cell? ⟨gb204, 4, none⟩ = some (.bool x205004_3) := (blk_cell BK204.out 4).trans rfl
                            have hcz41_5 : wr.cell? ⟨gb204, 5, none⟩ = some (.int .i64 x205005_3) := (blk_cell BK204.out 5).trans rfl
                            have hcz41_6 : wr.cell? ⟨gb204, 6, none⟩ = some (.bool x205006_3) := (blk_cell BK204.out 6).trans rfl
                            have hcz41_7 : wr.cell? ⟨gb204, 7, none⟩ = some (.bool x205007_3) := (blk_cell BK204.out 7).trans rfl
                            have hfz41_0 := blk_frozen BK204.out 0
                            have hfz41_1 := blk_frozen BK204.out 1
                            have hfz41_2 := blk_frozen BK204.out 2
                            have hfz41_3 := blk_frozen BK204.out 3
                            have hfz41_4 := blk_frozen BK204.out 4
                            have hfz41_5 := blk_frozen BK204.out 5
                            have hfz41_6 := blk_frozen BK204.out 6
                            have hfz41_7 := blk_frozen BK204.out 7
                            obtain ⟨Ao42, co42, eo42⟩ := Kd.R_slice HO_205001.out
                            subst eo42
                            go_wp2_with (first | (go_at_call 25; refine (sdx gb204 a0 (fun k_ => some k_ = (.slice Ao42 x205001_3.length co42 : Value).ownBlock) (.slice Ao42 x205001_3.length co42) x205001_3 x205002_3 x205003_3 x205004_3 x205005_3 x205006_3 x205007_3 _ _ y225 t230 t233 t236 t237 t238 t239 t240 t241 w _ ?side1 ?side2 ?side3 ?side4 A36.out ?side5 ?side6 ?side7).mono ?_; (case side1 => repeat (first | (with_reducible first | exact HB.out | apply below_alloc | apply pw_below_drewN | apply below_drew1 | refine below_set ?_ GE203.out | refine below_set ?_ GE204.out | refine below_set ?_ GE205.out) | exact HB.out)); (case side2 => exact Kd.R_tight rfl HO_205001.out); (case side3 => exact Kd.C_kept_ownV (HO229.out) (fun k_ hk_ hs_ => (hk_.1.1.1.1.1.2) hs_)); (case side4 => exact (Kd.V_reads' HO229.out).2.1); (case side5 => exact (by (with_reducible repeat (first | refine blk_drewN ?_ _ | refine blk_drew ?_ | refine blk_alloc ?_ _)); exact BK204.out)); (case side6 => exact GE204.out); (case side7 => exact (fun hs_ => (fun e_ => (Kd.R_ne HO_205001.out BK204.out (by decide)) e_) hs_)); rintro e wq_ ⟨w43, v231, v234, rfl, rfl, ho0, ho1, hb, hkp⟩; have n0_ := Aside0.mk (Kd.R_mono (ok' := fun k_ => some k_ ≠ (u204001 : Value).ownBlock ∧ some k_ ≠ (v234 : Value).ownBlock) (Kd.R_keptB (HO_8.out) hkp (fun k_ hk_ hs_ => (hk_.2) hs_)) (fun k_ hk_ => ⟨hk_.1.1, fun e_ => Or.elim (ho1.1 k_ e_.symm) (fun hs_ => hk_.2.1 hs_) (fun hn_ => Nat.not_le.2 hk_.2.2 hn_)⟩)); have n1_ := Aside0.mk (Kd.N_mono (ok' := fun k_ => some k_ ≠ (.slice Ao31 x8_2.length co31 : Value).ownBlock ∧ some k_ ≠ (u10 : Value).ownBlock ∧ some k_ ≠ (u204001 : Value).ownBlock ∧ k_ ≠ gb203 ∧ k_ ≠ gb204 ∧ k_ ≠ gb205 ∧ some k_ ≠ (v231 : Value).ownBlock ∧ some k_ ≠ (v234 : Value).ownBlock) (Kd.N_keptB (HO_9.out) hkp (fun k_ hk_ hs_ => (hk_.2.2.2.1) hs_)) (fun k_ hk_ => ⟨hk_.1.1, hk_.1.2.1, hk_.1.2.2.1, hk_.1.2.2.2.2.1, hk_.1.2.2.2.2.2.1, hk_.1.2.2.2.2.2.2, fun e_ => Or.elim ((Kd.S_R ho0).1 k_ e_.symm).1 (fun hs_ => hk_.2.1 hs_) (fun hn_ => Nat.not_le.2 hk_.2.2 hn_), fun e_ => Or.elim (ho1.1 k_ e_.symm) (fun hs_ => hk_.2.1 hs_) (fun hn_ => Nat.not_le.2 hk_.2.2 hn_)⟩)); have n2_ := Aside0.mk (Kd.N_mono (ok' := fun k_ => some k_ ≠ (.slice Ao31 x8_2.length co31 : Value).ownBlock ∧ some k_ ≠ (u9 : Value).ownBlock ∧ some k_ ≠ (u204001 : Value).ownBlock ∧ k_ ≠ gb203 ∧ k_ ≠ gb204 ∧ k_ ≠ gb205 ∧ some k_ ≠ (v231 : Value).ownBlock ∧ some k_ ≠ (v234 : Value).ownBlock) (Kd.N_keptB (HO_10.out) hkp (fun k_ hk_ hs_ => (hk_.2.2.2.1) hs_)) (fun k_ hk_ => ⟨hk_.1.1, hk_.1.2.1, hk_.1.2.2.1, hk_.1.2.2.2.2.1, hk_.1.2.2.2.2.2.1, hk_.1.2.2.2.2.2.2, fun e_ => Or.elim ((Kd.S_R ho0).1 k_ e_.symm).1 (fun hs_ => hk_.2.1 hs_) (fun hn_ => Nat.not_le.2 hk_.2.2 hn_), fun e_ => Or.elim (ho1.1 k_ e_.symm) (fun hs_ => hk_.2.1 hs_) (fun hn_ => Nat.not_le.2 hk_.2.2 hn_)⟩)); have n3_ := Aside0.mk (Kd.R_mono (ok' := fun k_ => some k_ ≠ (.slice Ao31 x8_2.length co31 : Value).ownBlock ∧ some k_ ≠ (v234 : Value).ownBlock) (Kd.R_keptB (HO_204001.out) hkp (fun k_ hk_ hs_ => (hk_.2) hs_)) (fun k_ hk_ => ⟨hk_.1.1, fun e_ => Or.elim (ho1.1 k_ e_.symm) (fun hs_ => hk_.2.1 hs_) (fun hn_ => Nat.not_le.2 hk_.2.2 hn_)⟩)); have n4_ := Aside0.mk (blk_kept (by (with_reducible repeat (first | refine blk_drewN ?_ _ | refine blk_drew ?_ | refine blk_alloc ?_ _)); exact BK203.out) hkp (fun hs_ => (fun e_ => (Kd.R_ne HO_205001.out BK203.out (by decide)) e_) hs_)); have n5_ := Aside0.mk (blk_kept (by (with_reducible repeat (first | refine blk_drewN ?_ _ | refine blk_drew ?_ | refine blk_alloc ?_ _)); exact BK204.out) hkp (fun hs_ => (fun e_ => (Kd.R_ne HO_205001.out BK204.out (by decide)) e_) hs_)); have n6_ := Aside0.mk (blk_kept (by (with_reducible repeat (first | refine blk_drewN ?_ _ | refine blk_drew ?_ | refine blk_alloc ?_ _)); exact BK205.out) hkp (fun hs_ => (fun e_ => (Kd.R_ne HO_205001.out BK205.out (by decide)) e_) hs_)); have n7_ := Aside0.mk (Kd.V_mono (ok' := fun k_ => some k_ ≠ (u9 : Value).ownBlock ∧ some k_ ≠ (u10 : Value).ownBlock ∧ some k_ ≠ (u204001 : Value).ownBlock ∧ k_ ≠ gb203 ∧ k_ ≠ gb204 ∧ k_ ≠ gb205 ∧ some k_ ≠ (v231 : Value).ownBlock ∧ some k_ ≠ (v234 : Value).ownBlock) (Kd.V_keptB (HO229.out) hkp (fun k_ hk_ hs_ => (hk_.1.1.1.1.1.2) hs_)) (fun k_ hk_ => ⟨hk_.1.1.1.1.1.2, hk_.1.1.1.1.2, hk_.1.1.1.1.1.1.1, hk_.1.1.1.2, hk_.1.1.2, hk_.1.2, fun e_ => Or.elim ((Kd.S_R ho0).1 k_ e_.symm).1 (fun hs_ => hk_.2.1 hs_) (fun hn_ => Nat.not_le.2 hk_.2.2 hn_), fun e_ => Or.elim (ho1.1 k_ e_.symm) (fun hs_ => hk_.2.1 hs_) (fun hn_ => Nat.not_le.2 hk_.2.2 hn_)⟩)); have n8_ := Aside0.mk (Kd.N_lower (Kd.N_mono (ok' := fun k_ => some k_ ≠ (v234 : Value).ownBlock ∧ some k_ ≠ (.slice Ao31 x8_2.length co31 : Value).ownBlock ∧ some k_ ≠ (u9 : Value).ownBlock ∧ some k_ ≠ (u10 : Value).ownBlock ∧ some k_ ≠ (u204001 : Value).ownBlock ∧ k_ ≠ gb203 ∧ k_ ≠ gb204 ∧ k_ ≠ gb205) (Kd.S_N ho0) (fun k_ hk_ => ⟨hk_.2, Or.elim hk_.1 (fun hs_ => fun e_ => (((HO_8.out).1 k_ e_.symm).2) hs_) (fun hn_ => (Kd.fresh' (Kd.R_lt (by (with_reducible repeat (first | apply Kd.R_alloc | apply Kd.R_drewN | apply Kd.R_drew)); exact HO_8.out)) k_ hn_)), Or.elim hk_.1 (fun hs_ => fun e_ => (((HO_9.out).1 k_ e_.symm).2.2.2.1) hs_) (fun hn_ => (Kd.fresh' (Kd.N_lt (by (with_reducible repeat (first | apply Kd.N_alloc | apply Kd.N_drewN | apply Kd.N_drew)); exact HO_9.out)) k_ hn_)), Or.elim hk_.1 (fun hs_ => fun e_ => (((HO_10.out).1 k_ e_.symm).2.2.2.1) hs_) (fun hn_ => (Kd.fresh' (Kd.N_lt (by (with_reducible repeat (first | apply Kd.N_alloc | apply Kd.N_drewN | apply Kd.N_drew)); exact HO_10.out)) k_ hn_)), Or.elim hk_.1 (fun hs_ => fun e_ => (((HO_204001.out).1 k_ e_.symm).2) hs_) (fun hn_ => (Kd.fresh' (Kd.R_lt (by (with_reducible repeat (first | apply Kd.R_alloc | apply Kd.R_drewN | apply Kd.R_drew)); exact HO_204001.out)) k_ hn_)), Or.elim hk_.1 (fun hs_ => fun e_ => (Kd.R_ne HO_205001.out BK203.out (by decide)) (by rw [← e_]; exact hs_)) (fun hn_ => (Kd.freshB (g := gb203) (o := .cells #[.int .i64 a0, u204001, .int .i64 x204002_2, .bool x204003_2, .bool x204004_2, .int .i64 x204005_2, .bool x204006_2, .bool x204007_2] 70 (0, 0)) (by (with_reducible repeat (first | refine blk_drewN ?_ _ | refine blk_drew ?_ | refine blk_alloc ?_ _)); exact BK203.out) k_ hn_)), Or.elim hk_.1 (fun hs_ => fun e_ => (Kd.R_ne HO_205001.out BK204.out (by decide)) (by rw [← e_]; exact hs_)) (fun hn_ => (Kd.freshB (g := gb204) (o := .cells #[.int .i64 a0, .slice Ao42 x205001_3.length co42, .int .i64 x205002_3, .bool x205003_3, .bool x205004_3, .int .i64 x205005_3, .bool x205006_3, .bool x205007_3] 70 (0, 0)) (by (with_reducible repeat (first | refine blk_drewN ?_ _ | refine blk_drew ?_ | refine blk_alloc ?_ _)); exact BK204.out) k_ hn_)), Or.elim hk_.1 (fun hs_ => fun e_ => (Kd.R_ne HO_205001.out BK205.out (by decide)) (by rw [← e_]; exact hs_)) (fun hn_ => (Kd.freshB (g := gb205) (o := .cells #[.int .i64 a0, .slice none 0 0, .int .i64 0, .bool false, .bool false, .int .i64 0, .bool false, .bool false] 70 (0, 0)) (by (with_reducible repeat (first | refine blk_drewN ?_ _ | refine blk_drew ?_ | refine blk_alloc ?_ _)); exact BK205.out) k_ hn_))⟩)) (Nat.le_refl _)); have n9_ := Aside0.mk (Kd.R_mono (ok' := fun k_ => some k_ ≠ (.slice Ao31 x8_2.length co31 : Value).ownBlock ∧ some k_ ≠ (u204001 : Value).ownBlock) ho1 (fun k_ hk_ => ⟨Or.elim hk_ (fun hs_ => fun e_ => (((HO_8.out).1 k_ e_.symm).2) hs_) (fun hn_ => (Kd.fresh' (Kd.R_lt (by (with_reducible repeat (first | apply Kd.R_alloc | apply Kd.R_drewN | apply Kd.R_drew)); exact HO_8.out)) k_ hn_)), Or.elim hk_ (fun hs_ => fun e_ => (((HO_204001.out).1 k_ e_.symm).2) hs_) (fun hn_ => (Kd.fresh' (Kd.R_lt (by (with_reducible repeat (first | apply Kd.R_alloc | apply Kd.R_drewN | apply Kd.R_drew)); exact HO_204001.out)) k_ hn_))⟩)); have n10_ := Aside0.mk (hb); clear HO_8; clear HO_9; clear HO_10; clear HO_204001; clear BK203; clear BK204; clear BK205; clear HO229; clear HB; clear HO_205001; have HO_8 := n0_; have HO_9 := n1_; have HO_10 := n2_; have HO_204001 := n3_; have BK203 := n4_; have BK204 := n5_; have BK205 := n6_; have HO229 := n7_; have HO232 := n8_; have HO235 := n9_; have HB := n10_; clear n0_ n1_ n2_ n3_ n4_ n5_ n6_ n7_ n8_ n9_ n10_; (try clear hb); (try clear hkp); (try clear ho0); (try clear ho1); obtain ⟨Ao44, co44, eo44⟩ := Kd.R_slice HO235.out; subst eo44; have hcz45_0 : w43.cell? ⟨gb204, 0, none⟩ = some (.int .i64 a0) := (blk_cell BK204.out 0).trans rfl; have hcz45_1 : w43.cell? ⟨gb204, 1, none⟩ = some (.slice Ao42 x205001_3.length co42) := (blk_cell BK204.out 1).trans rfl; have hcz45_2 : w43.cell? ⟨gb204, 2, none⟩ = some (.int .i64 x205002_3) := (blk_cell BK204.out 2).trans rfl; have hcz45_3 : w43.cell? ⟨gb204, 3, none⟩ = some (.bool x205003_3) := (blk_cell BK204.out 3).trans rfl; have hcz45_4 : w43.cell? ⟨gb204, 4, none⟩ = some (.bool x205004_3) := (blk_cell BK204.out 4).trans rfl; have hcz45_5 : w43.cell? ⟨gb204, 5, none⟩ = some (.int .i64 x205005_3) := (blk_cell BK204.out 5).trans rfl; have hcz45_6 : w43.cell? ⟨gb204, 6, none⟩ = some (.bool x205006_3) := (blk_cell BK204.out 6).trans rfl; have hcz45_7 : w43.cell? ⟨gb204, 7, none⟩ = some (.bool x205007_3) := (blk_cell BK204.out 7).trans rfl; have hfz45_0 := blk_frozen BK204.out 0; have hfz45_1 := blk_frozen BK204.out 1; have hfz45_2 := blk_frozen BK204.out 2; have hfz45_3 := blk_frozen BK204.out 3; have hfz45_4 := blk_frozen BK204.out 4; have hfz45_5 := blk_frozen BK204.out 5; have hfz45_6 := blk_frozen BK204.out 6; have hfz45_7 := blk_frozen BK204.out 7; obtain ⟨Ao47, co47, eo47⟩ := Kd.N_slice HO232.out; subst eo47) | ((with_reducible refine gate_builtin (b := .append) (xs := #[.tmp 59, .tmp 66]) rfl ?_); at_builtin; refine Kd.N_append_rows k54 (w0 := w) w.heap.size rfl (.tmp 59) (.tmp 66) 46 54 (.agg #[(.int .i64 0), (.slice none 0 0)]) 32 rfl Try.underlying46 info54 rfl (by decide) (by omega) u10 x10_3 t230 _ _ _ (fun k_ => some k_ ≠ (.slice Ao31 x8_2.length co31 : Value).ownBlock ∧ some k_ ≠ (u9 : Value).ownBlock ∧ some k_ ≠ (u204001 : Value).ownBlock ∧ some k_ ≠ (.slice Ao44 t233.length co44 : Value).ownBlock ∧ k_ ≠ gb203 ∧ k_ ≠ gb204 ∧ k_ ≠ gb205) (fun k_ => ((fun k_ => some k_ ≠ (.slice Ao31 x8_2.length co31 : Value).ownBlock ∧ some k_ ≠ (u9 : Value).ownBlock ∧ some k_ ≠ (u204001 : Value).ownBlock ∧ some k_ ≠ (.slice Ao44 t233.length co44 : Value).ownBlock ∧ k_ ≠ gb203 ∧ k_ ≠ gb204 ∧ k_ ≠ gb205)) k_ ∧ some k_ ≠ (u10 : Value).ownBlock) rfl rfl ?aO ?aR (fun _ hk => hk) ?aF ?aB ?aS ?aL ?_; (case aR => exact (by skip; exact Kd.N_F (Kd.N_mono (ok' := (fun k_ => ((fun k_ => some k_ ≠ (.slice Ao31 x8_2.length co31 : Value).ownBlock ∧ some k_ ≠ (u9 : Value).ownBlock ∧ some k_ ≠ (u204001 : Value).ownBlock ∧ some k_ ≠ (.slice Ao44 t233.length co44 : Value).ownBlock ∧ k_ ≠ gb203 ∧ k_ ≠ gb204 ∧ k_ ≠ gb205)) k_ ∧ some k_ ≠ (u10 : Value).ownBlock)) ((Kd.N_far (p := ⟨gb204, 7, none⟩) (Kd.N_far (p := ⟨gb204, 6, none⟩) (Kd.N_far (p := ⟨gb204, 5, none⟩) (Kd.N_far (p := ⟨gb204, 4, none⟩) (Kd.N_far (p := ⟨gb204, 3, none⟩) (Kd.N_far (p := ⟨gb204, 2, none⟩) (Kd.N_far (p := ⟨gb204, 1, none⟩) (Kd.N_mono HO232.out (fun k_ hk => (⟨hk, hk.2.2.2.2.2.2.1⟩ : _ ∧ k_ ≠ gb204))) (fun _ hk => hk.2) (.slice Ao44 t233.length co44)) (fun _ hk => hk.2) (.int .i64 t236)) (fun _ hk => hk.2) (.bool t237)) (fun _ hk => hk.2) (.bool t238)) (fun _ hk => hk.2) (.int .i64 t239)) (fun _ hk => hk.2) (.bool t240)) (fun _ hk => hk.2) (.bool t241))) (fun k_ hk => ⟨⟨hk.1.2.1, ⟨hk.1.2.2.1, ⟨hk.1.2.2.2.2.1, ⟨hk.1.1, ⟨hk.1.2.2.2.2.2.1, ⟨hk.1.2.2.2.2.2.2.1, hk.1.2.2.2.2.2.2.2⟩⟩⟩⟩⟩⟩, hk.1.2.2.2.1⟩)))); (case aB => exact (by repeat (first | (with_reducible first | exact HB.out | apply below_alloc | apply pw_below_drewN | apply below_drew1 | refine below_set ?_ GE203.out | refine below_set ?_ GE204.out | refine below_set ?_ GE205.out) | exact HB.out))); (case aF => exact (fun k_ hk => ⟨Kd.fresh' (Kd.R_lt (by (with_reducible repeat (first | apply Kd.R_alloc | apply Kd.R_drewN | apply Kd.R_drew)); exact (Kd.R_mono (Kd.R_far (p := ⟨gb204, 7, none⟩) (Kd.R_far (p := ⟨gb204, 6, none⟩) (Kd.R_far (p := ⟨gb204, 5, none⟩) (Kd.R_far (p := ⟨gb204, 4, none⟩) (Kd.R_far (p := ⟨gb204, 3, none⟩) (Kd.R_far (p := ⟨gb204, 2, none⟩) (Kd.R_far (p := ⟨gb204, 1, none⟩) (Kd.R_types HO_8.out BK204.out (by decide)) (fun _ hk => hk.2) (.slice Ao44 t233.length co44)) (fun _ hk => hk.2) (.int .i64 t236)) (fun _ hk => hk.2) (.bool t237)) (fun _ hk => hk.2) (.bool t238)) (fun _ hk => hk.2) (.int .i64 t239)) (fun _ hk => hk.2) (.bool t240)) (fun _ hk => hk.2) (.bool t241)) (fun _ h_ => h_.1)))) k_ hk, Kd.fresh' (Kd.N_lt (by (with_reducible repeat (first | apply Kd.N_alloc | apply Kd.N_drewN | apply Kd.N_drew)); exact (Kd.N_mono (Kd.N_far (p := ⟨gb204, 7, none⟩) (Kd.N_far (p := ⟨gb204, 6, none⟩) (Kd.N_far (p := ⟨gb204, 5, none⟩) (Kd.N_far (p := ⟨gb204, 4, none⟩) (Kd.N_far (p := ⟨gb204, 3, none⟩) (Kd.N_far (p := ⟨gb204, 2, none⟩) (Kd.N_far (p := ⟨gb204, 1, none⟩) (Kd.N_mono HO_9.out (fun k_ hk => (⟨hk, hk.2.2.2.2.1⟩ : _ ∧ k_ ≠ gb204))) (fun _ hk => hk.2) (.slice Ao44 t233.length co44)) (fun _ hk => hk.2) (.int .i64 t236)) (fun _ hk => hk.2) (.bool t237)) (fun _ hk => hk.2) (.bool t238)) (fun _ hk => hk.2) (.int .i64 t239)) (fun _ hk => hk.2) (.bool t240)) (fun _ hk => hk.2) (.bool t241)) (fun _ h_ => h_.1)))) k_ hk, Kd.fresh' (Kd.R_lt (by (with_reducible repeat (first | apply Kd.R_alloc | apply Kd.R_drewN | apply Kd.R_drew)); exact (Kd.R_mono (Kd.R_far (p := ⟨gb204, 7, none⟩) (Kd.R_far (p := ⟨gb204, 6, none⟩) (Kd.R_far (p := ⟨gb204, 5, none⟩) (Kd.R_far (p := ⟨gb204, 4, none⟩) (Kd.R_far (p := ⟨gb204, 3, none⟩) (Kd.R_far (p := ⟨gb204, 2, none⟩) (Kd.R_far (p := ⟨gb204, 1, none⟩) (Kd.R_types HO_204001.out BK204.out (by decide)) (fun _ hk => hk.2) (.slice Ao44 t233.length co44)) (fun _ hk => hk.2) (.int .i64 t236)) (fun _ hk => hk.2) (.bool t237)) (fun _ hk => hk.2) (.bool t238)) (fun _ hk => hk.2) (.int .i64 t239)) (fun _ hk => hk.2) (.bool t240)) (fun _ hk => hk.2) (.bool t241)) (fun _ h_ => h_.1)))) k_ hk, Kd.fresh' (Kd.R_lt (by (with_reducible repeat (first | apply Kd.R_alloc | apply Kd.R_drewN | apply Kd.R_drew)); exact (Kd.R_mono (Kd.R_far (p := ⟨gb204, 7, none⟩) (Kd.R_far (p := ⟨gb204, 6, none⟩) (Kd.R_far (p := ⟨gb204, 5, none⟩) (Kd.R_far (p := ⟨gb204, 4, none⟩) (Kd.R_far (p := ⟨gb204, 3, none⟩) (Kd.R_far (p := ⟨gb204, 2, none⟩) (Kd.R_far (p := ⟨gb204, 1, none⟩) (Kd.R_types HO235.out BK204.out (by decide)) (fun _ hk => hk.2) (.slice Ao44 t233.length co44)) (fun _ hk => hk.2) (.int .i64 t236)) (fun _ hk => hk.2) (.bool t237)) (fun _ hk => hk.2) (.bool t238)) (fun _ hk => hk.2) (.int .i64 t239)) (fun _ hk => hk.2) (.bool t240)) (fun _ hk => hk.2) (.bool t241)) (fun _ h_ => h_.1)))) k_ hk, Kd.freshB (g := gb203) (o := .cells #[.int .i64 a0, u204001, .int .i64 x204002_2, .bool x204003_2, .bool x204004_2, .int .i64 x204005_2, .bool x204006_2, .bool x204007_2] 70 (0, 0)) (by (with_reducible repeat (first | refine blk_drewN ?_ _ | refine blk_drew ?_ | refine blk_alloc ?_ _)); refine blk_far ?_ NB203_204.out _; (with_reducible repeat (first | refine blk_drewN ?_ _ | refine blk_drew ?_ | refine blk_alloc ?_ _)); refine blk_far ?_ NB203_204.out _; (with_reducible repeat (first | refine blk_drewN ?_ _ | refine blk_drew ?_ | refine blk_alloc ?_ _)); refine blk_far ?_ NB203_204.out _; (with_reducible repeat (first | refine blk_drewN ?_ _ | refine blk_drew ?_ | refine blk_alloc ?_ _)); refine blk_far ?_ NB203_204.out _; (with_reducible repeat (first | refine blk_drewN ?_ _ | refine blk_drew ?_ | refine blk_alloc ?_ _)); refine blk_far ?_ NB203_204.out _; (with_reducible repeat (first | refine blk_drewN ?_ _ | refine blk_drew ?_ | refine blk_alloc ?_ _)); refine blk_far ?_ NB203_204.out _; (with_reducible repeat (first | refine blk_drewN ?_ _ | refine blk_drew ?_ | refine blk_alloc ?_ _)); refine blk_far ?_ NB203_204.out _; (with_reducible repeat (first | refine blk_drewN ?_ _ | refine blk_drew ?_ | refine blk_alloc ?_ _)); exact BK203.out) k_ hk, Kd.freshB (g := gb204) (o := .cells #[.int .i64 a0, .slice Ao44 t233.length co44, .int .i64 t236, .bool t237, .bool t238, .int .i64 t239, .bool t240, .bool t241] 70 (0, 0)) (by (with_reducible repeat (first | refine blk_drewN ?_ _ | refine blk_drew ?_ | refine blk_alloc ?_ _)); refine blk_put (cs := #[.int .i64 a0, .slice Ao44 t233.length co44, .int .i64 t236, .bool t237, .bool t238, .int .i64 t239, .bool t240, .bool x205007_3]) ?_ 7 _ rfl; (with_reducible repeat (first | refine blk_drewN ?_ _ | refine blk_drew ?_ | refine blk_alloc ?_ _)); refine blk_put (cs := #[.int .i64 a0, .slice Ao44 t233.length co44, .int .i64 t236, .bool t237, .bool t238, .int .i64 t239, .bool x205006_3, .bool x205007_3]) ?_ 6 _ rfl; (with_reducible repeat (first | refine blk_drewN ?_ _ | refine blk_drew ?_ | refine blk_alloc ?_ _)); refine blk_put (cs := #[.int .i64 a0, .slice Ao44 t233.length co44, .int .i64 t236, .bool t237, .bool t238, .int .i64 x205005_3, .bool x205006_3, .bool x205007_3]) ?_ 5 _ rfl; (with_reducible repeat (first | refine blk_drewN ?_ _ | refine blk_drew ?_ | refine blk_alloc ?_ _)); refine blk_put (cs := #[.int .i64 a0, .slice Ao44 t233.length co44, .int .i64 t236, .bool t237, .bool x205004_3, .int .i64 x205005_3, .bool x205006_3, .bool x205007_3]) ?_ 4 _ rfl; (with_reducible repeat (first | refine blk_drewN ?_ _ | refine blk_drew ?_ | refine blk_alloc ?_ _)); refine blk_put (cs := #[.int .i64 a0, .slice Ao44 t233.length co44, .int .i64 t236, .bool x205003_3, .bool x205004_3, .int .i64 x205005_3, .bool x205006_3, .bool x205007_3]) ?_ 3 _ rfl; (with_reducible repeat (first | refine blk_drewN ?_ _ | refine blk_drew ?_ | refine blk_alloc ?_ _)); refine blk_put (cs := #[.int .i64 a0, .slice Ao44 t233.length co44, .int .i64 x205002_3, .bool x205003_3, .bool x205004_3, .int .i64 x205005_3, .bool x205006_3, .bool x205007_3]) ?_ 2 _ rfl; (with_reducible repeat (first | refine blk_drewN ?_ _ | refine blk_drew ?_ | refine blk_alloc ?_ _)); refine blk_put (cs := #[.int .i64 a0, .slice Ao42 x205001_3.length co42, .int .i64 x205002_3, .bool x205003_3, .bool x205004_3, .int .i64 x205005_3, .bool x205006_3, .bool x205007_3]) ?_ 1 _ rfl; (with_reducible repeat (first | refine blk_drewN ?_ _ | refine blk_drew ?_ | refine blk_alloc ?_ _)); exact BK204.out) k_ hk, Kd.freshB (g := gb205) (o := .cells #[.int .i64 a0, .slice none 0 0, .int .i64 0, .bool false, .bool false, .int .i64 0, .bool false, .bool false] 70 (0, 0)) (by (with_reducible repeat (first | refine blk_drewN ?_ _ | refine blk_drew ?_ | refine blk_alloc ?_ _)); refine blk_far ?_ NB205_204.out _; (with_reducible repeat (first | refine blk_drewN ?_ _ | refine blk_drew ?_ | refine blk_alloc ?_ _)); refine blk_far ?_ NB205_204.out _; (with_reducible repeat (first | refine blk_drewN ?_ _ | refine blk_drew ?_ | refine blk_alloc ?_ _)); refine blk_far ?_ NB205_204.out _; (with_reducible repeat (first | refine blk_drewN ?_ _ | refine blk_drew ?_ | refine blk_alloc ?_ _)); refine blk_far ?_ NB205_204.out _; (with_reducible repeat (first | refine blk_drewN ?_ _ | refine blk_drew ?_ | refine blk_alloc ?_ _)); refine blk_far ?_ NB205_204.out _; (with_reducible repeat (first | refine blk_drewN ?_ _ | refine blk_drew ?_ | refine blk_alloc ?_ _)); refine blk_far ?_ NB205_204.out _; (with_reducible repeat (first | refine blk_drewN ?_ _ | refine blk_drew ?_ | refine blk_alloc ?_ _)); refine blk_far ?_ NB205_204.out _; (with_reducible repeat (first | refine blk_drewN ?_ _ | refine blk_drew ?_ | refine blk_alloc ?_ _)); exact BK205.out) k_ hk⟩)); (case aO => exact (by (with_reducible repeat (first | apply Kd.N_alloc | apply Kd.N_drewN | apply Kd.N_drew)); exact Kd.N_mono (Kd.N_far (p := ⟨gb204, 7, none⟩) (Kd.N_far (p := ⟨gb204, 6, none⟩) (Kd.N_far (p := ⟨gb204, 5, none⟩) (Kd.N_far (p := ⟨gb204, 4, none⟩) (Kd.N_far (p := ⟨gb204, 3, none⟩) (Kd.N_far (p := ⟨gb204, 2, none⟩) (Kd.N_far (p := ⟨gb204, 1, none⟩) (Kd.N_mono HO_10.out (fun k_ hk => (⟨hk, hk.2.2.2.2.1⟩ : _ ∧ k_ ≠ gb204))) (fun _ hk => hk.2) (.slice Ao44 t233.length co44)) (fun _ hk => hk.2) (.int .i64 t236)) (fun _ hk => hk.2) (.bool t237)) (fun _ hk => hk.2) (.bool t238)) (fun _ hk => hk.2) (.int .i64 t239)) (fun _ hk => hk.2) (.bool t240)) (fun _ hk => hk.2) (.bool t241)) (fun _ hk => ⟨hk.1.1, ⟨hk.1.2.1, ⟨hk.1.2.2.1, ⟨hk.1.2.2.2.2.2.2.2, ⟨hk.1.2.2.2.1, ⟨hk.1.2.2.2.2.1, hk.1.2.2.2.2.2.1⟩⟩⟩⟩⟩⟩))); (case aS => exact (below_size (by repeat (first | (with_reducible first | exact HB.out | apply below_alloc | apply pw_below_drewN | apply below_drew1 | refine below_set ?_ GE203.out | refine below_set ?_ GE204.out | refine below_set ?_ GE205.out) | exact HB.out)))); (case aL => have := LMc37.out; omega); intro v243 w46 ho hb hg hat; rw [← Ny242.out] at ho; have n0_ := Aside0.mk (Kd.R_over' (by (with_reducible repeat (first | apply Kd.R_alloc | apply Kd.R_drewN | apply Kd.R_drew)); exact (Kd.R_mono (Kd.R_far (p := ⟨gb204, 7, none⟩) (Kd.R_far (p := ⟨gb204, 6, none⟩) (Kd.R_far (p := ⟨gb204, 5, none⟩) (Kd.R_far (p := ⟨gb204, 4, none⟩) (Kd.R_far (p := ⟨gb204, 3, none⟩) (Kd.R_far (p := ⟨gb204, 2, none⟩) (Kd.R_far (p := ⟨gb204, 1, none⟩) (Kd.R_types HO_8.out BK204.out (by decide)) (fun _ hk => hk.2) (.slice Ao44 t233.length co44)) (fun _ hk => hk.2) (.int .i64 t236)) (fun _ hk => hk.2) (.bool t237)) (fun _ hk => hk.2) (.bool t238)) (fun _ hk => hk.2) (.int .i64 t239)) (fun _ hk => hk.2) (.bool t240)) (fun _ hk => hk.2) (.bool t241)) (fun _ h_ => h_.1))) (Kd.N_typed (by (with_reducible repeat (first | apply Kd.N_alloc | apply Kd.N_drewN | apply Kd.N_drew)); exact (Kd.N_mono (Kd.N_far (p := ⟨gb204, 7, none⟩) (Kd.N_far (p := ⟨gb204, 6, none⟩) (Kd.N_far (p := ⟨gb204, 5, none⟩) (Kd.N_far (p := ⟨gb204, 4, none⟩) (Kd.N_far (p := ⟨gb204, 3, none⟩) (Kd.N_far (p := ⟨gb204, 2, none⟩) (Kd.N_far (p := ⟨gb204, 1, none⟩) (Kd.N_mono HO_10.out (fun k_ hk => (⟨hk, hk.2.2.2.2.1⟩ : _ ∧ k_ ≠ gb204))) (fun _ hk => hk.2) (.slice Ao44 t233.length co44)) (fun _ hk => hk.2) (.int .i64 t236)) (fun _ hk => hk.2) (.bool t237)) (fun _ hk => hk.2) (.bool t238)) (fun _ hk => hk.2) (.int .i64 t239)) (fun _ hk => hk.2) (.bool t240)) (fun _ hk => hk.2) (.bool t241)) (fun _ h_ => h_.1)))) (by decide) hg); have n1_ := Aside0.mk (Kd.N_afterv (ok := (fun k_ => some k_ ≠ (.slice Ao31 x8_2.length co31 : Value).ownBlock ∧ some k_ ≠ (u204001 : Value).ownBlock ∧ some k_ ≠ (.slice Ao47 t230.length co47 : Value).ownBlock ∧ some k_ ≠ (.slice Ao44 t233.length co44 : Value).ownBlock ∧ k_ ≠ gb203 ∧ k_ ≠ gb204 ∧ k_ ≠ gb205)) (by (with_reducible repeat (first | apply Kd.N_alloc | apply Kd.N_drewN | apply Kd.N_drew)); exact Kd.N_mono (Kd.N_far (p := ⟨gb204, 7, none⟩) (Kd.N_far (p := ⟨gb204, 6, none⟩) (Kd.N_far (p := ⟨gb204, 5, none⟩) (Kd.N_far (p := ⟨gb204, 4, none⟩) (Kd.N_far (p := ⟨gb204, 3, none⟩) (Kd.N_far (p := ⟨gb204, 2, none⟩) (Kd.N_far (p := ⟨gb204, 1, none⟩) (Kd.N_mono HO_9.out (fun k_ hk => (⟨hk, hk.2.2.2.2.1⟩ : _ ∧ k_ ≠ gb204))) (fun _ hk => hk.2) (.slice Ao44 t233.length co44)) (fun _ hk => hk.2) (.int .i64 t236)) (fun _ hk => hk.2) (.bool t237)) (fun _ hk => hk.2) (.bool t238)) (fun _ hk => hk.2) (.int .i64 t239)) (fun _ hk => hk.2) (.bool t240)) (fun _ hk => hk.2) (.bool t241)) (fun _ hk => ⟨⟨hk.1.1, ⟨hk.1.2.2.1, ⟨hk.1.2.2.2.2.2.2.1, ⟨hk.1.2.2.2.2.2.2.2, ⟨hk.1.2.2.2.1, ⟨hk.1.2.2.2.2.1, hk.1.2.2.2.2.2.1⟩⟩⟩⟩⟩⟩, hk.1.2.1⟩)) hg hat); have n2_ := Aside0.mk (Kd.R_over' (by (with_reducible repeat (first | apply Kd.R_alloc | apply Kd.R_drewN | apply Kd.R_drew)); exact (Kd.R_mono (Kd.R_far (p := ⟨gb204, 7, none⟩) (Kd.R_far (p := ⟨gb204, 6, none⟩) (Kd.R_far (p := ⟨gb204, 5, none⟩) (Kd.R_far (p := ⟨gb204, 4, none⟩) (Kd.R_far (p := ⟨gb204, 3, none⟩) (Kd.R_far (p := ⟨gb204, 2, none⟩) (Kd.R_far (p := ⟨gb204, 1, none⟩) (Kd.R_types HO_204001.out BK204.out (by decide)) (fun _ hk => hk.2) (.slice Ao44 t233.length co44)) (fun _ hk => hk.2) (.int .i64 t236)) (fun _ hk => hk.2) (.bool t237)) (fun _ hk => hk.2) (.bool t238)) (fun _ hk => hk.2) (.int .i64 t239)) (fun _ hk => hk.2) (.bool t240)) (fun _ hk => hk.2) (.bool t241)) (fun _ h_ => h_.1))) (Kd.N_typed (by (with_reducible repeat (first | apply Kd.N_alloc | apply Kd.N_drewN | apply Kd.N_drew)); exact (Kd.N_mono (Kd.N_far (p := ⟨gb204, 7, none⟩) (Kd.N_far (p := ⟨gb204, 6, none⟩) (Kd.N_far (p := ⟨gb204, 5, none⟩) (Kd.N_far (p := ⟨gb204, 4, none⟩) (Kd.N_far (p := ⟨gb204, 3, none⟩) (Kd.N_far (p := ⟨gb204, 2, none⟩) (Kd.N_far (p := ⟨gb204, 1, none⟩) (Kd.N_mono HO_10.out (fun k_ hk => (⟨hk, hk.2.2.2.2.1⟩ : _ ∧ k_ ≠ gb204))) (fun _ hk => hk.2) (.slice Ao44 t233.length co44)) (fun _ hk => hk.2) (.int .i64 t236)) (fun _ hk => hk.2) (.bool t237)) (fun _ hk => hk.2) (.bool t238)) (fun _ hk => hk.2) (.int .i64 t239)) (fun _ hk => hk.2) (.bool t240)) (fun _ hk => hk.2) (.bool t241)) (fun _ h_ => h_.1)))) (by decide) hg); have n3_ := Aside0.mk (blk_grown (g := gb203) (o := .cells #[.int .i64 a0, u204001, .int .i64 x204002_2, .bool x204003_2, .bool x204004_2, .int .i64 x204005_2, .bool x204006_2, .bool x204007_2] 70 (0, 0)) (by (with_reducible repeat (first | refine blk_drewN ?_ _ | refine blk_drew ?_ | refine blk_alloc ?_ _)); refine blk_far ?_ NB203_204.out _; (with_reducible repeat (first | refine blk_drewN ?_ _ | refine blk_drew ?_ | refine blk_alloc ?_ _)); refine blk_far ?_ NB203_204.out _; (with_reducible repeat (first | refine blk_drewN ?_ _ | refine blk_drew ?_ | refine blk_alloc ?_ _)); refine blk_far ?_ NB203_204.out _; (with_reducible repeat (first | refine blk_drewN ?_ _ | refine blk_drew ?_ | refine blk_alloc ?_ _)); refine blk_far ?_ NB203_204.out _; (with_reducible repeat (first | refine blk_drewN ?_ _ | refine blk_drew ?_ | refine blk_alloc ?_ _)); refine blk_far ?_ NB203_204.out _; (with_reducible repeat (first | refine blk_drewN ?_ _ | refine blk_drew ?_ | refine blk_alloc ?_ _)); refine blk_far ?_ NB203_204.out _; (with_reducible repeat (first | refine blk_drewN ?_ _ | refine blk_drew ?_ | refine blk_alloc ?_ _)); refine blk_far ?_ NB203_204.out _; (with_reducible repeat (first | refine blk_drewN ?_ _ | refine blk_drew ?_ | refine blk_alloc ?_ _)); exact BK203.out) hg (Kd.N_ne HO_10.out BK203.out (by decide))); have n4_ := Aside0.mk (blk_grown (g := gb204) (o := .cells #[.int .i64 a0, .slice Ao44 t233.length co44, .int .i64 t236, .bool t237, .bool t238, .int .i64 t239, .bool t240, .bool t241] 70 (0, 0)) (by (with_reducible repeat (first | refine blk_drewN ?_ _ | refine blk_drew ?_ | refine blk_alloc ?_ _)); refine blk_put (cs := #[.int .i64 a0, .slice Ao44 t233.length co44, .int .i64 t236, .bool t237, .bool t238, .int .i64 t239, .bool t240, .bool x205007_3]) ?_ 7 _ rfl; (with_reducible repeat (first | refine blk_drewN ?_ _ | refine blk_drew ?_ | refine blk_alloc ?_ _)); refine blk_put (cs := #[.int .i64 a0, .slice Ao44 t233.length co44, .int .i64 t236, .bool t237, .bool t238, .int .i64 t239, .bool x205006_3, .bool x205007_3]) ?_ 6 _ rfl; (with_reducible repeat (first | refine blk_drewN ?_ _ | refine blk_drew ?_ | refine blk_alloc ?_ _)); refine blk_put (cs := #[.int .i64 a0, .slice Ao44 t233.length co44, .int .i64 t236, .bool t237, .bool t238, .int .i64 x205005_3, .bool x205006_3, .bool x205007_3]) ?_ 5 _ rfl; (with_reducible repeat (first | refine blk_drewN ?_ _ | refine blk_drew ?_ | refine blk_alloc ?_ _)); refine blk_put (cs := #[.int .i64 a0, .slice Ao44 t233.length co44, .int .i64 t236, .bool t237, .bool x205004_3, .int .i64 x205005_3, .bool x205006_3, .bool x205007_3]) ?_ 4 _ rfl; (with_reducible repeat (first | refine blk_drewN ?_ _ | refine blk_drew ?_ | refine blk_alloc ?_ _)); refine blk_put (cs := #[.int .i64 a0, .slice Ao44 t233.length co44, .int .i64 t236, .bool x205003_3, .bool x205004_3, .int .i64 x205005_3, .bool x205006_3, .bool x205007_3]) ?_ 3 _ rfl; (with_reducible repeat (first | refine blk_drewN ?_ _ | refine blk_drew ?_ | refine blk_alloc ?_ _)); refine blk_put (cs := #[.int .i64 a0, .slice Ao44 t233.length co44, .int .i64 x205002_3, .bool x205003_3, .bool x205004_3, .int .i64 x205005_3, .bool x205006_3, .bool x205007_3]) ?_ 2 _ rfl; (with_reducible repeat (first | refine blk_drewN ?_ _ | refine blk_drew ?_ | refine blk_alloc ?_ _)); refine blk_put (cs := #[.int .i64 a0, .slice Ao42 x205001_3.length co42, .int .i64 x205002_3, .bool x205003_3, .bool x205004_3, .int .i64 x205005_3, .bool x205006_3, .bool x205007_3]) ?_ 1 _ rfl; (with_reducible repeat (first | refine blk_drewN ?_ _ | refine blk_drew ?_ | refine blk_alloc ?_ _)); exact BK204.out) hg (Kd.N_ne HO_10.out BK204.out (by decide))); have n5_ := Aside0.mk (blk_grown (g := gb205) (o := .cells #[.int .i64 a0, .slice none 0 0, .int .i64 0, .bool false, .bool false, .int .i64 0, .bool false, .bool false] 70 (0, 0)) (by (with_reducible repeat (first | refine blk_drewN ?_ _ | refine blk_drew ?_ | refine blk_alloc ?_ _)); refine blk_far ?_ NB205_204.out _; (with_reducible repeat (first | refine blk_drewN ?_ _ | refine blk_drew ?_ | refine blk_alloc ?_ _)); refine blk_far ?_ NB205_204.out _; (with_reducible repeat (first | refine blk_drewN ?_ _ | refine blk_drew ?_ | refine blk_alloc ?_ _)); refine blk_far ?_ NB205_204.out _; (with_reducible repeat (first | refine blk_drewN ?_ _ | refine blk_drew ?_ | refine blk_alloc ?_ _)); refine blk_far ?_ NB205_204.out _; (with_reducible repeat (first | refine blk_drewN ?_ _ | refine blk_drew ?_ | refine blk_alloc ?_ _)); refine blk_far ?_ NB205_204.out _; (with_reducible repeat (first | refine blk_drewN ?_ _ | refine blk_drew ?_ | refine blk_alloc ?_ _)); refine blk_far ?_ NB205_204.out _; (with_reducible repeat (first | refine blk_drewN ?_ _ | refine blk_drew ?_ | refine blk_alloc ?_ _)); refine blk_far ?_ NB205_204.out _; (with_reducible repeat (first | refine blk_drewN ?_ _ | refine blk_drew ?_ | refine blk_alloc ?_ _)); exact BK205.out) hg (Kd.N_ne HO_10.out BK205.out (by decide))); have n6_ := Aside0.mk (Kd.V_afterv (ok := (fun k_ => some k_ ≠ (u9 : Value).ownBlock ∧ some k_ ≠ (u204001 : Value).ownBlock ∧ some k_ ≠ (.slice Ao47 t230.length co47 : Value).ownBlock ∧ some k_ ≠ (.slice Ao44 t233.length co44 : Value).ownBlock ∧ k_ ≠ gb203 ∧ k_ ≠ gb204 ∧ k_ ≠ gb205)) (by (with_reducible repeat (first | apply Kd.V_alloc | apply Kd.V_drewN | apply Kd.V_drew)); exact Kd.V_mono (Kd.V_far (p := ⟨gb204, 7, none⟩) (Kd.V_far (p := ⟨gb204, 6, none⟩) (Kd.V_far (p := ⟨gb204, 5, none⟩) (Kd.V_far (p := ⟨gb204, 4, none⟩) (Kd.V_far (p := ⟨gb204, 3, none⟩) (Kd.V_far (p := ⟨gb204, 2, none⟩) (Kd.V_far (p := ⟨gb204, 1, none⟩) (Kd.V_mono HO229.out (fun k_ hk => (⟨hk, hk.2.2.2.2.1⟩ : _ ∧ k_ ≠ gb204))) (fun _ hk => hk.2) (.slice Ao44 t233.length co44)) (fun _ hk => hk.2) (.int .i64 t236)) (fun _ hk => hk.2) (.bool t237)) (fun _ hk => hk.2) (.bool t238)) (fun _ hk => hk.2) (.int .i64 t239)) (fun _ hk => hk.2) (.bool t240)) (fun _ hk => hk.2) (.bool t241)) (fun _ hk => ⟨⟨hk.1.1, ⟨hk.1.2.2.1, ⟨hk.1.2.2.2.2.2.2.1, ⟨hk.1.2.2.2.2.2.2.2, ⟨hk.1.2.2.2.1, ⟨hk.1.2.2.2.2.1, hk.1.2.2.2.2.2.1⟩⟩⟩⟩⟩⟩, hk.1.2.1⟩)) hg hat); have n7_ := Aside0.mk (Kd.N_afterv (ok := (fun k_ => some k_ ≠ (.slice Ao31 x8_2.length co31 : Value).ownBlock ∧ some k_ ≠ (u9 : Value).ownBlock ∧ some k_ ≠ (u204001 : Value).ownBlock ∧ some k_ ≠ (.slice Ao44 t233.length co44 : Value).ownBlock ∧ k_ ≠ gb203 ∧ k_ ≠ gb204 ∧ k_ ≠ gb205)) (by (with_reducible repeat (first | apply Kd.N_alloc | apply Kd.N_drewN | apply Kd.N_drew)); exact Kd.N_mono (Kd.N_far (p := ⟨gb204, 7, none⟩) (Kd.N_far (p := ⟨gb204, 6, none⟩) (Kd.N_far (p := ⟨gb204, 5, none⟩) (Kd.N_far (p := ⟨gb204, 4, none⟩) (Kd.N_far (p := ⟨gb204, 3, none⟩) (Kd.N_far (p := ⟨gb204, 2, none⟩) (Kd.N_far (p := ⟨gb204, 1, none⟩) (Kd.N_mono HO232.out (fun k_ hk => (⟨hk, hk.2.2.2.2.2.2.1⟩ : _ ∧ k_ ≠ gb204))) (fun _ hk => hk.2) (.slice Ao44 t233.length co44)) (fun _ hk => hk.2) (.int .i64 t236)) (fun _ hk => hk.2) (.bool t237)) (fun _ hk => hk.2) (.bool t238)) (fun _ hk => hk.2) (.int .i64 t239)) (fun _ hk => hk.2) (.bool t240)) (fun _ hk => hk.2) (.bool t241)) (fun _ hk => ⟨⟨hk.1.2.1, ⟨hk.1.2.2.1, ⟨hk.1.2.2.2.2.1, ⟨hk.1.1, ⟨hk.1.2.2.2.2.2.1, ⟨hk.1.2.2.2.2.2.2.1, hk.1.2.2.2.2.2.2.2⟩⟩⟩⟩⟩⟩, hk.1.2.2.2.1⟩)) hg hat); have n8_ := Aside0.mk (Kd.R_over' (by (with_reducible repeat (first | apply Kd.R_alloc | apply Kd.R_drewN | apply Kd.R_drew)); exact (Kd.R_mono (Kd.R_far (p := ⟨gb204, 7, none⟩) (Kd.R_far (p := ⟨gb204, 6, none⟩) (Kd.R_far (p := ⟨gb204, 5, none⟩) (Kd.R_far (p := ⟨gb204, 4, none⟩) (Kd.R_far (p := ⟨gb204, 3, none⟩) (Kd.R_far (p := ⟨gb204, 2, none⟩) (Kd.R_far (p := ⟨gb204, 1, none⟩) (Kd.R_types HO235.out BK204.out (by decide)) (fun _ hk => hk.2) (.slice Ao44 t233.length co44)) (fun _ hk => hk.2) (.int .i64 t236)) (fun _ hk => hk.2) (.bool t237)) (fun _ hk => hk.2) (.bool t238)) (fun _ hk => hk.2) (.int .i64 t239)) (fun _ hk => hk.2) (.bool t240)) (fun _ hk => hk.2) (.bool t241)) (fun _ h_ => h_.1))) (Kd.N_typed (by (with_reducible repeat (first | apply Kd.N_alloc | apply Kd.N_drewN | apply Kd.N_drew)); exact (Kd.N_mono (Kd.N_far (p := ⟨gb204, 7, none⟩) (Kd.N_far (p := ⟨gb204, 6, none⟩) (Kd.N_far (p := ⟨gb204, 5, none⟩) (Kd.N_far (p := ⟨gb204, 4, none⟩) (Kd.N_far (p := ⟨gb204, 3, none⟩) (Kd.N_far (p := ⟨gb204, 2, none⟩) (Kd.N_far (p := ⟨gb204, 1, none⟩) (Kd.N_mono HO_10.out (fun k_ hk => (⟨hk, hk.2.2.2.2.1⟩ : _ ∧ k_ ≠ gb204))) (fun _ hk => hk.2) (.slice Ao44 t233.length co44)) (fun _ hk => hk.2) (.int .i64 t236)) (fun _ hk => hk.2) (.bool t237)) (fun _ hk => hk.2) (.bool t238)) (fun _ hk => hk.2) (.int .i64 t239)) (fun _ hk => hk.2) (.bool t240)) (fun _ hk => hk.2) (.bool t241)) (fun _ h_ => h_.1)))) (by decide) hg); have n9_ := Aside0.mk (hb); have n10_ := Aside0.mk (ho); clear HO_8; clear HO_9; clear HO_204001; clear BK203; clear BK204; clear BK205; clear HO229; clear HO232; clear HO235; clear HB; clear HO_10; have HO_8 := n0_; have HO_9 := n1_; have HO_204001 := n2_; have BK203 := n3_; have BK204 := n4_; have BK205 := n5_; have HO229 := n6_; have HO232 := n7_; have HO235 := n8_; have HB := n9_; have HO244 := n10_; clear n0_ n1_ n2_ n3_ n4_ n5_ n6_ n7_ n8_ n9_ n10_; clear ho hb hg hat))
                            go_roundg k3
                            case measure => have := HJ2.out; have := HK2.out; have := HK3.out; omega
                            case rel => exact ⟨(y242), (wrap64 (x56_3 + 1)), (t233), (t236), (t237), (t238), (t239), (t240), (t241), (.slice Ao44 t233.length co44), (by first | rfl | (simp; done) | (simp [*]; done)), H', ⟨by have := HJ2.out; have := HK2.out; have := HK3.out; omega⟩, ⟨by (with_reducible repeat (first | apply Kd.R_alloc | apply Kd.R_drewN | apply Kd.R_drew)); exact HO_8.out⟩, ⟨by (with_reducible repeat (first | apply Kd.N_alloc | apply Kd.N_drewN | apply Kd.N_drew)); exact Kd.N_mono HO_9.out (fun _ hk => ⟨hk.1.1, ⟨hk.2, ⟨hk.1.2.1, ⟨hk.1.2.2.2.1, ⟨hk.1.2.2.2.2.1, ⟨hk.1.2.2.2.2.2.1, hk.1.2.2.2.2.2.2⟩⟩⟩⟩⟩⟩)⟩, ⟨by (with_reducible repeat (first | apply Kd.N_alloc | apply Kd.N_drewN | apply Kd.N_drew)); exact HO244.out⟩, ⟨by (with_reducible repeat (first | apply Kd.R_alloc | apply Kd.R_drewN | apply Kd.R_drew)); exact HO_204001.out⟩, ⟨by (with_reducible repeat (first | apply Kd.R_alloc | apply Kd.R_drewN | apply Kd.R_drew)); exact HO235.out⟩, ⟨by (with_reducible repeat (first | refine blk_drewN ?_ _ | refine blk_drew ?_ | refine blk_alloc ?_ _)); exact BK203.out⟩, ⟨by (with_reducible repeat (first | refine blk_drewN ?_ _ | refine blk_drew ?_ | refine blk_alloc ?_ _)); exact BK204.out⟩, ⟨by (with_reducible repeat (first | refine blk_drewN ?_ _ | refine blk_drew ?_ | refine blk_alloc ?_ _)); exact BK205.out⟩, ⟨by repeat (first | (with_reducible first | exact HB.out | apply below_alloc | apply pw_below_drewN | apply below_drew1 | refine below_set ?_ GE203.out | refine below_set ?_ GE204.out | refine below_set ?_ GE205.out) | exact HB.out)⟩⟩
                          · rw [if_neg c37] at H
                            exact absurd H (by simp)
                        · rw [if_neg c35] at H
                          exact absurd H (by simp)
                      · rw [if_neg c34] at H
                        exact absurd H (by simp)
                    · rw [if_neg c33] at H
                      exact absurd H (by simp)
                  · rw [if_neg c32] at H
                    have c32b0 : decide (x56_3 < (x8_2.length : Int)) = false := decide_eq_false c32
                    clear c32
                    replace H := Option.bind_eq_some_iff.mp H
                    obtain ⟨t245, A480, H⟩ := H
                    replace H : (if t245 = true then ((sync_Deframer_Feed.f a0 ([] : List Int) 0 false false 0 false false x8_2).bind fun bt246 => ((marlinelaw07_same.f k3 x10_3 bt246.1).bind fun t258 => (some t258))) else (none)) = some r := H
                    have A48 := Aside0.mk A480
                    clear A480
                    by_cases c49 : t245 = true
                    · subst c49
                      have H1 : ((sync_Deframer_Feed.f a0 ([] : List Int) 0 false false 0 false false x8_2).bind fun bt246 => ((marlinelaw07_same.f k3 x10_3 bt246.1).bind fun t258 => (some t258))) = some r := by rw [if_pos rfl] at H; exact H
                      clear H
                      have H := H1
                      clear H1
                      replace H := Option.bind_eq_some_iff.mp H
                      obtain ⟨⟨t246, t249, t252, t253, t254, t255, t256, t257⟩, A500, H⟩ := H
                      replace H : ((marlinelaw07_same.f k3 x10_3 t246).bind fun t258 => (some t258)) = some r := H
                      have A50 := Aside0.mk A500
                      clear A500
                      replace H := Option.bind_eq_some_iff.mp H
                      obtain ⟨t258, A510, H⟩ := H
                      replace H : (some t258) = some r := H
                      have A51 := Aside0.mk A510
                      clear A510
                      obtain rfl := Option.some.inj H
                      obtain ⟨Ao52, co52, eo52⟩ := Kd.N_slice HO_9.out
                      subst eo52
                      obtain ⟨Ao53, co53, eo53⟩ := Kd.N_slice HO_10.out
                      subst eo53
                      go_wp2_with (first | ((with_reducible refine gate_callee (f := 26) rfl ?_); refine goesL_ (some 71) rfl rfl Try.func26 (by kernel_rfl) rfl #[.slice Ao52 x9_2.length co52, .slice Ao53 x10_3.length co53] rfl (by (try simp only [List.map_toArray, List.map_cons, List.map_nil]); first | done | rfl | (simp only [List.length_drop, List.length_take]; rfl)) ?_; (with_reducible refine (marlinelaw07_same.calls k3 _ _ x9_2 _ _ x10_3 true _ ?side1 ?side2 ?side3 ?side4 A48.out).mono ?_); (case side1 => repeat (first | exact (Kd.N_reads' HO_9.out).2.2 | (with_reducible refine Kd.C_alloc ?_ _) | (with_reducible refine Kd.C_drewN ?_ _) | (with_reducible refine Kd.C_drew ?_))); (case side2 => exact (Kd.N_reads' HO_9.out).2.1); (case side3 => repeat (first | exact (Kd.N_reads' HO_10.out).2.2 | (with_reducible refine Kd.C_alloc ?_ _) | (with_reducible refine Kd.C_drewN ?_ _) | (with_reducible refine Kd.C_drew ?_))); (case side4 => exact (Kd.N_reads' HO_10.out).2.1); rintro e w' ⟨rfl, ⟨nd, rfl⟩⟩; refine ⟨_, rfl, ?_⟩; (try (rw [drewN_self wr]; generalize hq_ : World.drewN wr _ = wr; have n0_ : Aside0 (Kd.N k54 54 wr w.heap.size (fun k_ => some k_ ≠ (u204001 : Value).ownBlock ∧ some k_ ≠ (u205001 : Value).ownBlock ∧ some k_ ≠ (.slice Ao31 x8_2.length co31 : Value).ownBlock ∧ some k_ ≠ (.slice Ao52 x9_2.length co52 : Value).ownBlock ∧ k_ ≠ gb203 ∧ k_ ≠ gb204 ∧ k_ ≠ gb205) (.slice Ao53 x10_3.length co53) x10_3) := ⟨by rw [← hq_]; exact (by (with_reducible repeat (first | apply Kd.N_alloc | apply Kd.N_drewN | apply Kd.N_drew)); exact Kd.N_mono HO_10.out (fun _ hk => ⟨hk.2.2.1, ⟨hk.2.2.2.1, ⟨hk.1, ⟨hk.2.1, ⟨hk.2.2.2.2.1, ⟨hk.2.2.2.2.2.1, hk.2.2.2.2.2.2⟩⟩⟩⟩⟩⟩))⟩; have n1_ : Aside0 (Kd.R (Kd.int .u8) 5 wr w.heap.size (fun k_ => some k_ ≠ (u205001 : Value).ownBlock ∧ some k_ ≠ (.slice Ao31 x8_2.length co31 : Value).ownBlock) u204001 x204001_2) := ⟨by rw [← hq_]; exact (by (with_reducible repeat (first | apply Kd.R_alloc | apply Kd.R_drewN | apply Kd.R_drew)); exact Kd.R_mono HO_204001.out (fun _ hk => ⟨hk.2, hk.1⟩))⟩; have n2_ : Aside0 (Kd.R (Kd.int .u8) 5 wr w.heap.size (fun k_ => some k_ ≠ (u204001 : Value).ownBlock ∧ some k_ ≠ (.slice Ao31 x8_2.length co31 : Value).ownBlock) u205001 x205001_3) := ⟨by rw [← hq_]; exact (by (with_reducible repeat (first | apply Kd.R_alloc | apply Kd.R_drewN | apply Kd.R_drew)); exact Kd.R_mono HO_205001.out (fun _ hk => ⟨hk.2, hk.1⟩))⟩; have n3_ : Aside0 (Kd.R (Kd.int .u8) 5 wr w.heap.size (fun k_ => some k_ ≠ (u204001 : Value).ownBlock ∧ some k_ ≠ (u205001 : Value).ownBlock) (.slice Ao31 x8_2.length co31) x8_2) := ⟨by rw [← hq_]; exact (by (with_reducible repeat (first | apply Kd.R_alloc | apply Kd.R_drewN | apply Kd.R_drew)); exact HO_8.out)⟩; have n4_ : Aside0 (Kd.N k54 54 wr w.heap.size (fun k_ => some k_ ≠ (.slice Ao53 x10_3.length co53 : Value).ownBlock ∧ some k_ ≠ (u204001 : Value).ownBlock ∧ some k_ ≠ (u205001 : Value).ownBlock ∧ some k_ ≠ (.slice Ao31 x8_2.length co31 : Value).ownBlock ∧ k_ ≠ gb203 ∧ k_ ≠ gb204 ∧ k_ ≠ gb205) (.slice Ao52 x9_2.length co52) x9_2) := ⟨by rw [← hq_]; exact (by (with_reducible repeat (first | apply Kd.N_alloc | apply Kd.N_drewN | apply Kd.N_drew)); exact Kd.N_mono HO_9.out (fun _ hk => ⟨hk.2.1, ⟨hk.2.2.1, ⟨hk.2.2.2.1, ⟨hk.1, ⟨hk.2.2.2.2.1, ⟨hk.2.2.2.2.2.1, hk.2.2.2.2.2.2⟩⟩⟩⟩⟩⟩))⟩; have n5_ : Aside0 (wr.heap[gb203]? = some (.cells #[.int .i64 a0, u204001, .int .i64 x204002_2, .bool x204003_2, .bool x204004_2, .int .i64 x204005_2, .bool x204006_2, .bool x204007_2] 70 (0, 0))) := ⟨by rw [← hq_]; exact (by (with_reducible repeat (first | refine blk_drewN ?_ _ | refine blk_drew ?_ | refine blk_alloc ?_ _)); exact BK203.out)⟩; have n6_ : Aside0 (wr.heap[gb204]? = some (.cells #[.int .i64 a0, u205001, .int .i64 x205002_3, .bool x205003_3, .bool x205004_3, .int .i64 x205005_3, .bool x205006_3, .bool x205007_3] 70 (0, 0))) := ⟨by rw [← hq_]; exact (by (with_reducible repeat (first | refine blk_drewN ?_ _ | refine blk_drew ?_ | refine blk_alloc ?_ _)); exact BK204.out)⟩; have n7_ : Aside0 (wr.heap[gb205]? = some (.cells #[.int .i64 a0, .slice none 0 0, .int .i64 0, .bool false, .bool false, .int .i64 0, .bool false, .bool false] 70 (0, 0))) := ⟨by rw [← hq_]; exact (by (with_reducible repeat (first | refine blk_drewN ?_ _ | refine blk_drew ?_ | refine blk_alloc ?_ _)); exact BK205.out)⟩; have n8_ : Aside0 (Below w.heap.size w wr) := ⟨by rw [← hq_]; exact (by repeat (first | (with_reducible first | exact HB.out | apply below_alloc | apply pw_below_drewN | apply below_drew1 | refine below_set ?_ GE203.out | refine below_set ?_ GE204.out | refine below_set ?_ GE205.out) | exact HB.out))⟩; clear HO_10 HO_204001 HO_205001 HO_8 HO_9 BK203 BK204 BK205 HB hq_; have HO_10 := n0_; have HO_204001 := n1_; have HO_205001 := n2_; have HO_8 := n3_; have HO_9 := n4_; have BK203 := n5_; have BK204 := n6_; have BK205 := n7_; have HB := n8_; clear n0_ n1_ n2_ n3_ n4_ n5_ n6_ n7_ n8_)); have hnb54 := NB205_203.out; have hnc54 := NB203_205.out; have hnb55 := NB205_204.out; have hnc55 := NB204_205.out; have hcz56_0 : wr.cell? ⟨gb205, 0, none⟩ = some (.int .i64 a0) := (blk_cell BK205.out 0).trans rfl; have hcz56_1 : wr.cell? ⟨gb205, 1, none⟩ = some (.slice none 0 0) := (blk_cell BK205.out 1).trans rfl; have hcz56_2 : wr.cell? ⟨gb205, 2, none⟩ = some (.int .i64 0) := (blk_cell BK205.out 2).trans rfl; have hcz56_3 : wr.cell? ⟨gb205, 3, none⟩ = some (.bool false) := (blk_cell BK205.out 3).trans rfl; have hcz56_4 : wr.cell? ⟨gb205, 4, none⟩ = some (.bool false) := (blk_cell BK205.out 4).trans rfl; have hcz56_5 : wr.cell? ⟨gb205, 5, none⟩ = some (.int .i64 0) := (blk_cell BK205.out 5).trans rfl; have hcz56_6 : wr.cell? ⟨gb205, 6, none⟩ = some (.bool false) := (blk_cell BK205.out 6).trans rfl; have hcz56_7 : wr.cell? ⟨gb205, 7, none⟩ = some (.bool false) := (blk_cell BK205.out 7).trans rfl; have hfz56_0 := blk_frozen BK205.out 0; have hfz56_1 := blk_frozen BK205.out 1; have hfz56_2 := blk_frozen BK205.out 2; have hfz56_3 := blk_frozen BK205.out 3; have hfz56_4 := blk_frozen BK205.out 4; have hfz56_5 := blk_frozen BK205.out 5; have hfz56_6 := blk_frozen BK205.out 6; have hfz56_7 := blk_frozen BK205.out 7) | (go_at_call 25; refine (sdx gb205 a0 (fun k_ => some k_ = (.slice none 0 0 : Value).ownBlock) (.slice none 0 0) ([] : List Int) 0 false false 0 false false _ _ x8_2 t246 t249 t252 t253 t254 t255 t256 t257 w _ ?side1 ?side2 ?side3 ?side4 A50.out ?side5 ?side6 ?side7).mono ?_; (case side1 => repeat (first | (with_reducible first | exact HB.out | apply below_alloc | apply pw_below_drewN | apply below_drew1 | refine below_set ?_ GE203.out | refine below_set ?_ GE204.out | refine below_set ?_ GE205.out) | exact HB.out)); (case side2 => exact Kd.R_nil _ _ _ _ _); (case side3 => exact Kd.C_kept_own (HO_8.out) (fun k_ hk_ hs_ => (fun e_ => by simp [Value.ownBlock] at e_) hs_)); (case side4 => exact (Kd.R_reads' HO_8.out).2.1); (case side5 => exact (by (with_reducible repeat (first | refine blk_drewN ?_ _ | refine blk_drew ?_ | refine blk_alloc ?_ _)); exact BK205.out)); (case side6 => exact GE205.out); (case side7 => exact (fun hs_ => (fun e_ => by simp [Value.ownBlock] at e_) hs_)); rintro e wq_ ⟨w57, v247, v250, rfl, rfl, ho0, ho1, hb, hkp⟩; have n0_ := Aside0.mk (Kd.R_mono (ok' := fun k_ => some k_ ≠ (u204001 : Value).ownBlock ∧ some k_ ≠ (u205001 : Value).ownBlock ∧ some k_ ≠ (v250 : Value).ownBlock) (Kd.R_keptB (HO_8.out) hkp (fun k_ hk_ hs_ => (fun e_ => by simp [Value.ownBlock] at e_) hs_)) (fun k_ hk_ => ⟨hk_.1.1, hk_.1.2, fun e_ => Or.elim (ho1.1 k_ e_.symm) (fun hs_ => hk_.2.1 hs_) (fun hn_ => Nat.not_le.2 hk_.2.2 hn_)⟩)); have n1_ := Aside0.mk (Kd.N_mono (ok' := fun k_ => some k_ ≠ (.slice Ao31 x8_2.length co31 : Value).ownBlock ∧ some k_ ≠ (.slice Ao53 x10_3.length co53 : Value).ownBlock ∧ some k_ ≠ (u204001 : Value).ownBlock ∧ some k_ ≠ (u205001 : Value).ownBlock ∧ k_ ≠ gb203 ∧ k_ ≠ gb204 ∧ k_ ≠ gb205 ∧ some k_ ≠ (v247 : Value).ownBlock ∧ some k_ ≠ (v250 : Value).ownBlock) (Kd.N_keptB (HO_9.out) hkp (fun k_ hk_ hs_ => (fun e_ => by simp [Value.ownBlock] at e_) hs_)) (fun k_ hk_ => ⟨hk_.1.2.2.2.1, hk_.1.1, hk_.1.2.1, hk_.1.2.2.1, hk_.1.2.2.2.2.1, hk_.1.2.2.2.2.2.1, hk_.1.2.2.2.2.2.2, fun e_ => Or.elim ((Kd.S_R ho0).1 k_ e_.symm).1 (fun hs_ => hk_.2.1 hs_) (fun hn_ => Nat.not_le.2 hk_.2.2 hn_), fun e_ => Or.elim (ho1.1 k_ e_.symm) (fun hs_ => hk_.2.1 hs_) (fun hn_ => Nat.not_le.2 hk_.2.2 hn_)⟩)); have n2_ := Aside0.mk (Kd.N_mono (ok' := fun k_ => some k_ ≠ (.slice Ao31 x8_2.length co31 : Value).ownBlock ∧ some k_ ≠ (.slice Ao52 x9_2.length co52 : Value).ownBlock ∧ some k_ ≠ (u204001 : Value).ownBlock ∧ some k_ ≠ (u205001 : Value).ownBlock ∧ k_ ≠ gb203 ∧ k_ ≠ gb204 ∧ k_ ≠ gb205 ∧ some k_ ≠ (v247 : Value).ownBlock ∧ some k_ ≠ (v250 : Value).ownBlock) (Kd.N_keptB (HO_10.out) hkp (fun k_ hk_ hs_ => (fun e_ => by simp [Value.ownBlock] at e_) hs_)) (fun k_ hk_ => ⟨hk_.1.2.2.1, hk_.1.2.2.2.1, hk_.1.1, hk_.1.2.1, hk_.1.2.2.2.2.1, hk_.1.2.2.2.2.2.1, hk_.1.2.2.2.2.2.2, fun e_ => Or.elim ((Kd.S_R ho0).1 k_ e_.symm).1 (fun hs_ => hk_.2.1 hs_) (fun hn_ => Nat.not_le.2 hk_.2.2 hn_), fun e_ => Or.elim (ho1.1 k_ e_.symm) (fun hs_ => hk_.2.1 hs_) (fun hn_ => Nat.not_le.2 hk_.2.2 hn_)⟩)); have n3_ := Aside0.mk (Kd.R_mono (ok' := fun k_ => some k_ ≠ (.slice Ao31 x8_2.length co31 : Value).ownBlock ∧ some k_ ≠ (u205001 : Value).ownBlock ∧ some k_ ≠ (v250 : Value).ownBlock) (Kd.R_keptB (HO_204001.out) hkp (fun k_ hk_ hs_ => (fun e_ => by simp [Value.ownBlock] at e_) hs_)) (fun k_ hk_ => ⟨hk_.1.2, hk_.1.1, fun e_ => Or.elim (ho1.1 k_ e_.symm) (fun hs_ => hk_.2.1 hs_) (fun hn_ => Nat.not_le.2 hk_.2.2 hn_)⟩)); have n4_ := Aside0.mk (Kd.R_mono (ok' := fun k_ => some k_ ≠ (.slice Ao31 x8_2.length co31 : Value).ownBlock ∧ some k_ ≠ (u204001 : Value).ownBlock ∧ some k_ ≠ (v250 : Value).ownBlock) (Kd.R_keptB (HO_205001.out) hkp (fun k_ hk_ hs_ => (fun e_ => by simp [Value.ownBlock] at e_) hs_)) (fun k_ hk_ => ⟨hk_.1.2, hk_.1.1, fun e_ => Or.elim (ho1.1 k_ e_.symm) (fun hs_ => hk_.2.1 hs_) (fun hn_ => Nat.not_le.2 hk_.2.2 hn_)⟩)); have n5_ := Aside0.mk (blk_kept (by (with_reducible repeat (first | refine blk_drewN ?_ _ | refine blk_drew ?_ | refine blk_alloc ?_ _)); exact BK203.out) hkp (fun hs_ => (fun e_ => by simp [Value.ownBlock] at e_) hs_)); have n6_ := Aside0.mk (blk_kept (by (with_reducible repeat (first | refine blk_drewN ?_ _ | refine blk_drew ?_ | refine blk_alloc ?_ _)); exact BK204.out) hkp (fun hs_ => (fun e_ => by simp [Value.ownBlock] at e_) hs_)); have n7_ := Aside0.mk (blk_kept (by (with_reducible repeat (first | refine blk_drewN ?_ _ | refine blk_drew ?_ | refine blk_alloc ?_ _)); exact BK205.out) hkp (fun hs_ => (fun e_ => by simp [Value.ownBlock] at e_) hs_)); have n8_ := Aside0.mk (Kd.N_lower (Kd.N_mono (ok' := fun k_ => some k_ ≠ (v250 : Value).ownBlock ∧ some k_ ≠ (.slice Ao31 x8_2.length co31 : Value).ownBlock ∧ some k_ ≠ (.slice Ao52 x9_2.length co52 : Value).ownBlock ∧ some k_ ≠ (.slice Ao53 x10_3.length co53 : Value).ownBlock ∧ some k_ ≠ (u204001 : Value).ownBlock ∧ some k_ ≠ (u205001 : Value).ownBlock ∧ k_ ≠ gb203 ∧ k_ ≠ gb204 ∧ k_ ≠ gb205) (Kd.S_N ho0) (fun k_ hk_ => ⟨hk_.2, Or.elim hk_.1 (fun hs_ => absurd hs_ (by simp [Value.ownBlock])) (fun hn_ => (Kd.fresh' (Kd.R_lt (by (with_reducible repeat (first | apply Kd.R_alloc | apply Kd.R_drewN | apply Kd.R_drew)); exact HO_8.out)) k_ hn_)), Or.elim hk_.1 (fun hs_ => absurd hs_ (by simp [Value.ownBlock])) (fun hn_ => (Kd.fresh' (Kd.N_lt (by (with_reducible repeat (first | apply Kd.N_alloc | apply Kd.N_drewN | apply Kd.N_drew)); exact HO_9.out)) k_ hn_)), Or.elim hk_.1 (fun hs_ => absurd hs_ (by simp [Value.ownBlock])) (fun hn_ => (Kd.fresh' (Kd.N_lt (by (with_reducible repeat (first | apply Kd.N_alloc | apply Kd.N_drewN | apply Kd.N_drew)); exact HO_10.out)) k_ hn_)), Or.elim hk_.1 (fun hs_ => absurd hs_ (by simp [Value.ownBlock])) (fun hn_ => (Kd.fresh' (Kd.R_lt (by (with_reducible repeat (first | apply Kd.R_alloc | apply Kd.R_drewN | apply Kd.R_drew)); exact HO_204001.out)) k_ hn_)), Or.elim hk_.1 (fun hs_ => absurd hs_ (by simp [Value.ownBlock])) (fun hn_ => (Kd.fresh' (Kd.R_lt (by (with_reducible repeat (first | apply Kd.R_alloc | apply Kd.R_drewN | apply Kd.R_drew)); exact HO_205001.out)) k_ hn_)), Or.elim hk_.1 (fun hs_ => absurd hs_ (by simp [Value.ownBlock])) (fun hn_ => (Kd.freshB (g := gb203) (o := .cells #[.int .i64 a0, u204001, .int .i64 x204002_2, .bool x204003_2, .bool x204004_2, .int .i64 x204005_2, .bool x204006_2, .bool x204007_2] 70 (0, 0)) (by (with_reducible repeat (first | refine blk_drewN ?_ _ | refine blk_drew ?_ | refine blk_alloc ?_ _)); exact BK203.out) k_ hn_)), Or.elim hk_.1 (fun hs_ => absurd hs_ (by simp [Value.ownBlock])) (fun hn_ => (Kd.freshB (g := gb204) (o := .cells #[.int .i64 a0, u205001, .int .i64 x205002_3, .bool x205003_3, .bool x205004_3, .int .i64 x205005_3, .bool x205006_3, .bool x205007_3] 70 (0, 0)) (by (with_reducible repeat (first | refine blk_drewN ?_ _ | refine blk_drew ?_ | refine blk_alloc ?_ _)); exact BK204.out) k_ hn_)), Or.elim hk_.1 (fun hs_ => absurd hs_ (by simp [Value.ownBlock])) (fun hn_ => (Kd.freshB (g := gb205) (o := .cells #[.int .i64 a0, .slice none 0 0, .int .i64 0, .bool false, .bool false, .int .i64 0, .bool false, .bool false] 70 (0, 0)) (by (with_reducible repeat (first | refine blk_drewN ?_ _ | refine blk_drew ?_ | refine blk_alloc ?_ _)); exact BK205.out) k_ hn_))⟩)) (Nat.le_refl _)); have n9_ := Aside0.mk (Kd.R_mono (ok' := fun k_ => some k_ ≠ (.slice Ao31 x8_2.length co31 : Value).ownBlock ∧ some k_ ≠ (u204001 : Value).ownBlock ∧ some k_ ≠ (u205001 : Value).ownBlock) ho1 (fun k_ hk_ => ⟨Or.elim hk_ (fun hs_ => absurd hs_ (by simp [Value.ownBlock])) (fun hn_ => (Kd.fresh' (Kd.R_lt (by (with_reducible repeat (first | apply Kd.R_alloc | apply Kd.R_drewN | apply Kd.R_drew)); exact HO_8.out)) k_ hn_)), Or.elim hk_ (fun hs_ => absurd hs_ (by simp [Value.ownBlock])) (fun hn_ => (Kd.fresh' (Kd.R_lt (by (with_reducible repeat (first | apply Kd.R_alloc | apply Kd.R_drewN | apply Kd.R_drew)); exact HO_204001.out)) k_ hn_)), Or.elim hk_ (fun hs_ => absurd hs_ (by simp [Value.ownBlock])) (fun hn_ => (Kd.fresh' (Kd.R_lt (by (with_reducible repeat (first | apply Kd.R_alloc | apply Kd.R_drewN | apply Kd.R_drew)); exact HO_205001.out)) k_ hn_))⟩)); have n10_ := Aside0.mk (hb); clear HO_8; clear HO_9; clear HO_10; clear HO_204001; clear HO_205001; clear BK203; clear BK204; clear BK205; clear HB; have HO_8 := n0_; have HO_9 := n1_; have HO_10 := n2_; have HO_204001 := n3_; have HO_205001 := n4_; have BK203 := n5_; have BK204 := n6_; have BK205 := n7_; have HO248 := n8_; have HO251 := n9_; have HB := n10_; clear n0_ n1_ n2_ n3_ n4_ n5_ n6_ n7_ n8_ n9_ n10_; (try clear hb); (try clear hkp); (try clear ho0); (try clear ho1); obtain ⟨Ao58, co58, eo58⟩ := Kd.R_slice HO251.out; subst eo58; have hcz59_0 : w57.cell? ⟨gb205, 0, none⟩ = some (.int .i64 a0) := (blk_cell BK205.out 0).trans rfl; have hcz59_1 : w57.cell? ⟨gb205, 1, none⟩ = some (.slice none 0 0) := (blk_cell BK205.out 1).trans rfl; have hcz59_2 : w57.cell? ⟨gb205, 2, none⟩ = some (.int .i64 0) := (blk_cell BK205.out 2).trans rfl; have hcz59_3 : w57.cell? ⟨gb205, 3, none⟩ = some (.bool false) := (blk_cell BK205.out 3).trans rfl; have hcz59_4 : w57.cell? ⟨gb205, 4, none⟩ = some (.bool false) := (blk_cell BK205.out 4).trans rfl; have hcz59_5 : w57.cell? ⟨gb205, 5, none⟩ = some (.int .i64 0) := (blk_cell BK205.out 5).trans rfl; have hcz59_6 : w57.cell? ⟨gb205, 6, none⟩ = some (.bool false) := (blk_cell BK205.out 6).trans rfl; have hcz59_7 : w57.cell? ⟨gb205, 7, none⟩ = some (.bool false) := (blk_cell BK205.out 7).trans rfl; have hfz59_0 := blk_frozen BK205.out 0; have hfz59_1 := blk_frozen BK205.out 1; have hfz59_2 := blk_frozen BK205.out 2; have hfz59_3 := blk_frozen BK205.out 3; have hfz59_4 := blk_frozen BK205.out 4; have hfz59_5 := blk_frozen BK205.out 5; have hfz59_6 := blk_frozen BK205.out 6; have hfz59_7 := blk_frozen BK205.out 7; obtain ⟨Ao60, co60, eo60⟩ := Kd.N_slice HO248.out; subst eo60) | (go_at_call 26; (with_reducible refine (marlinelaw07_same.calls k3 _ _ x10_3 _ _ t246 t258 _ ?side1 ?side2 ?side3 ?side4 A51.out).mono ?_); (case side1 => refine (Kd.N_reads' (e := 54) (base := w.heap.size) (ok := fun k_ => (some k_ ≠ (.slice Ao31 x8_2.length co31 : Value).ownBlock ∧ (some k_ ≠ (.slice Ao52 x9_2.length co52 : Value).ownBlock ∧ (some k_ ≠ (u204001 : Value).ownBlock ∧ (some k_ ≠ (u205001 : Value).ownBlock ∧ (k_ ≠ gb203 ∧ (k_ ≠ gb204 ∧ (k_ ≠ gb205 ∧ (some k_ ≠ (.slice Ao60 t246.length co60 : Value).ownBlock ∧ some k_ ≠ (.slice Ao58 t249.length co58 : Value).ownBlock))))))))) (n := x10_3.length) (c := co53) ?_).2.2; exact (by (with_reducible repeat (first | apply Kd.N_alloc | apply Kd.N_drewN | apply Kd.N_drew)); exact (Kd.N_mono (Kd.N_far (p := ⟨gb205, 7, none⟩) (Kd.N_far (p := ⟨gb205, 6, none⟩) (Kd.N_far (p := ⟨gb205, 5, none⟩) (Kd.N_far (p := ⟨gb205, 4, none⟩) (Kd.N_far (p := ⟨gb205, 3, none⟩) (Kd.N_far (p := ⟨gb205, 2, none⟩) (Kd.N_far (p := ⟨gb205, 1, none⟩) (Kd.N_mono HO_10.out (fun k_ hk => (⟨hk, hk.2.2.2.2.2.2.1⟩ : _ ∧ k_ ≠ gb205))) (fun _ hk => hk.2) (.slice Ao58 t249.length co58)) (fun _ hk => hk.2) (.int .i64 t252)) (fun _ hk => hk.2) (.bool t253)) (fun _ hk => hk.2) (.bool t254)) (fun _ hk => hk.2) (.int .i64 t255)) (fun _ hk => hk.2) (.bool t256)) (fun _ hk => hk.2) (.bool t257)) (fun _ h_ => h_.1)))); (case side2 => exact (Kd.N_reads' HO_10.out).2.1); (case side3 => refine (Kd.N_reads' (e := 54) (base := w.heap.size) (ok := fun k_ => (some k_ ≠ (.slice Ao58 t249.length co58 : Value).ownBlock ∧ (some k_ ≠ (.slice Ao31 x8_2.length co31 : Value).ownBlock ∧ (some k_ ≠ (.slice Ao52 x9_2.length co52 : Value).ownBlock ∧ (some k_ ≠ (.slice Ao53 x10_3.length co53 : Value).ownBlock ∧ (some k_ ≠ (u204001 : Value).ownBlock ∧ (some k_ ≠ (u205001 : Value).ownBlock ∧ (k_ ≠ gb203 ∧ (k_ ≠ gb204 ∧ k_ ≠ gb205))))))))) (n := t246.length) (c := co60) ?_).2.2; exact (by (with_reducible repeat (first | apply Kd.N_alloc | apply Kd.N_drewN | apply Kd.N_drew)); exact (Kd.N_mono (Kd.N_far (p := ⟨gb205, 7, none⟩) (Kd.N_far (p := ⟨gb205, 6, none⟩) (Kd.N_far (p := ⟨gb205, 5, none⟩) (Kd.N_far (p := ⟨gb205, 4, none⟩) (Kd.N_far (p := ⟨gb205, 3, none⟩) (Kd.N_far (p := ⟨gb205, 2, none⟩) (Kd.N_far (p := ⟨gb205, 1, none⟩) (Kd.N_mono HO248.out (fun k_ hk => (⟨hk, hk.2.2.2.2.2.2.2.2⟩ : _ ∧ k_ ≠ gb205))) (fun _ hk => hk.2) (.slice Ao58 t249.length co58)) (fun _ hk => hk.2) (.int .i64 t252)) (fun _ hk => hk.2) (.bool t253)) (fun _ hk => hk.2) (.bool t254)) (fun _ hk => hk.2) (.int .i64 t255)) (fun _ hk => hk.2) (.bool t256)) (fun _ hk => hk.2) (.bool t257)) (fun _ h_ => h_.1)))); (case side4 => exact (Kd.N_reads' HO248.out).2.1); rintro e w' ⟨rfl, ⟨nd, rfl⟩⟩))
                      go_ret
                      exact ⟨by first | rfl | (simp [errW_none, errW_some] <;> rfl) | (simp [*, errW_none, errW_some] <;> rfl), by repeat (first | (with_reducible first | exact HB.out | apply below_alloc | apply pw_below_drewN | apply below_drew1 | refine below_set ?_ GE203.out | refine below_set ?_ GE204.out | refine below_set ?_ GE205.out) | exact HB.out)⟩
                    · replace c49 := Bool.eq_false_iff.mpr c49
                      subst c49
                      have H1 : (none) = some r := by rw [if_neg (show ¬ (false = true) by decide)] at H; exact H
                      clear H
                      have H := H1
                      clear H1
                      exact absurd H (by simp)

/-- THE ONE PURE STATEMENT of marlinelaw07_SyncCuts: yours. -/
def marlinelaw07_SyncCuts.Pure : Prop := ∀ (a0 : Int) (l1 : List (List Int)), (Lit.int .i64 a0).wf = true → ((l1.length ≤ 9223372036854775807 ∧ l1.length * 24 ≤ 140737488351232) ∧ ∀ y0_ ∈ l1, ((y0_.length ≤ 9223372036854775807 ∧ y0_.length * 1 ≤ 140737488351232) ∧ ∀ y1_ ∈ y0_, (Lit.int .u8 y1_).wf = true)) → ∃ k, marlinelaw07_SyncCuts.f k a0 l1 = some true
theorem marlinelaw07_SyncCuts.walk (P : marlinelaw07_SyncCuts.Pure) (a0 : Int) (A1 : Option Addr) (c1 : Nat) (l1 : List (List Int)) (w : World) (hw0 : (Lit.int .i64 a0).wf = true) (hr1 : Kd.C (Kd.slice 5 (Kd.int .u8)) w A1 l1.length l1) (hc1 : l1.length ≤ c1) (hw1 : ((l1.length ≤ 9223372036854775807 ∧ l1.length * 24 ≤ 140737488351232) ∧ ∀ y0_ ∈ l1, ((y0_.length ≤ 9223372036854775807 ∧ y0_.length * 1 ≤ 140737488351232) ∧ ∀ y1_ ∈ y0_, (Lit.int .u8 y1_).wf = true))) :
    Calls Try.prog 7 #[.int .i64 a0, .slice A1 l1.length c1] w fun e w' => e = .returned (.bool true) ∧ Below w.heap.size w w' := by
  obtain ⟨k, h⟩ := P a0 l1 hw0 hw1
  refine (marlinelaw07_SyncCuts.calls k a0 _ _ l1 true w hr1 hc1 h).mono ?_
  rintro e w' ⟨rfl, hd⟩
  exact ⟨rfl, hd⟩

end Go.Proofs.Ytjmclghjhnbafaa.Print

/- Plain words on bits that can't be a flag: a 0 put in behind five 1s, and taken out again. No condition; no program in sight. -/
namespace Go.Proofs.Ytjmclghjhnbafaa.Pl
open Go.RowKit Go.Proofs.YtjmclghjhnbafaaW.PrintWords
set_option linter.unusedVariables false
def ins : Int → List Int → List Int
  | _, [] => []
  | n, b :: t => if b % 2 = 0 then 0 :: ins 0 t else if n + 1 = 5 then 1 :: 0 :: ins 0 t else 1 :: ins (n + 1) t
def rem : Int → List Int → List Int
  | _, [] => []
  | n, b :: t => if n = 5 then rem ((n + 1) * (b % 2)) t else b % 2 :: rem ((n + 1) * (b % 2)) t
theorem ins_clean (n : Int) (l : List Int) : ins n (clean l) = ins n l := by
  induction l generalizing n with
  | nil => rfl
  | cons b t ih =>
    show ins n (b % 2 :: clean t) = _
    simp only [ins, Int.emod_emod_of_dvd b (Int.dvd_refl 2), ih]
theorem rem_clean (n : Int) (l : List Int) : rem n (clean l) = rem n l := by
  induction l generalizing n with
  | nil => rfl
  | cons b t ih =>
    show rem n (b % 2 :: clean t) = _
    simp only [rem, Int.emod_emod_of_dvd b (Int.dvd_refl 2), ih]
theorem ins_len (n : Int) (l : List Int) (h0 : 0 ≤ n) (h4 : n ≤ 4) : (l.length : Int) ≤ (ins n l).length ∧ ((ins n l).length : Int) ≤ l.length + (l.length + n) / 5 := by
  induction l generalizing n with
  | nil => simp [ins]; omega
  | cons b t ih =>
    unfold ins
    split
    · have := ih 0 (by omega) (by omega); simp only [List.length_cons]; omega
    · split
      · have := ih 0 (by omega) (by omega); simp only [List.length_cons]; omega
      · have := ih (n + 1) (by omega) (by omega); simp only [List.length_cons]; omega
theorem ins_bits (n : Int) (l : List Int) : ∀ x ∈ ins n l, x = 0 ∨ x = 1 := by
  induction l generalizing n with
  | nil => simp [ins]
  | cons b t ih =>
    intro x hx
    unfold ins at hx
    split at hx
    · rcases List.mem_cons.1 hx with rfl | hx
      · simp
      · exact ih 0 x hx
    · split at hx
      · rcases List.mem_cons.1 hx with rfl | hx
        · simp
        · rcases List.mem_cons.1 hx with rfl | hx
          · simp
          · exact ih 0 x hx
      · rcases List.mem_cons.1 hx with rfl | hx
        · simp
        · exact ih _ x hx
theorem clean_of_bits {l : List Int} (h : ∀ x ∈ l, x = 0 ∨ x = 1) : clean l = l := by
  unfold clean
  conv => rhs; rw [← List.map_id l]
  refine List.map_congr_left (fun x hx => ?_)
  rcases h x hx with rfl | rfl <;> simp
theorem bytes_of_bits {l : List Int} (h : ∀ x ∈ l, x = 0 ∨ x = 1) : Bytes l := fun x hx => by rcases h x hx with rfl | rfl <;> constructor <;> omega
theorem bytes_ins (n : Int) (l : List Int) : Bytes (ins n l) := bytes_of_bits (ins_bits n l)
theorem rem_bits (n : Int) (l : List Int) : ∀ x ∈ rem n l, x = 0 ∨ x = 1 := by
  induction l generalizing n with
  | nil => simp [rem]
  | cons b t ih =>
    intro x hx
    unfold rem at hx
    split at hx
    · exact ih _ x hx
    · rcases List.mem_cons.1 hx with rfl | hx
      · omega
      · exact ih _ x hx
theorem rem_len (n : Int) (l : List Int) : (rem n l).length ≤ l.length := by
  induction l generalizing n with
  | nil => simp [rem]
  | cons b t ih =>
    unfold rem
    split
    · have := ih ((n + 1) * (b % 2)); simp only [List.length_cons]; omega
    · have := ih ((n + 1) * (b % 2)); simp only [List.length_cons]; omega
theorem peak_ins (n : Int) (l : List Int) (h0 : 0 ≤ n) (h4 : n ≤ 4) : peak n (ins n l) ≤ 5 := by
  induction l generalizing n with
  | nil => simp [ins, peak]
  | cons b t ih =>
    unfold ins
    split
    · have := ih 0 (by omega) (by omega)
      simp only [peak, Int.zero_emod, Int.mul_zero]; omega
    · split
      · have := ih 0 (by omega) (by omega)
        have e : (1 : Int) % 2 = 1 := by decide
        simp only [peak, Int.zero_emod, Int.mul_zero, e, Int.mul_one]; omega
      · have := ih (n + 1) (by omega) (by omega)
        have e : (1 : Int) % 2 = 1 := by decide
        simp only [peak, e, Int.mul_one]; omega
theorem run_ins (l : List Int) : run (ins 0 l) ≤ 5 := peak_ins 0 l (by omega) (by omega)
theorem rem_ins (n : Int) (l : List Int) (h0 : 0 ≤ n) (h4 : n ≤ 4) : rem n (ins n l) = clean l := by
  induction l generalizing n with
  | nil => rfl
  | cons b t ih =>
    have e : (1 : Int) % 2 = 1 := by decide
    have hc : clean (b :: t) = b % 2 :: clean t := rfl
    unfold ins
    split
    · rename_i hb
      rw [rem, if_neg (by omega), Int.zero_emod, Int.mul_zero, ih 0 (by omega) (by omega), hc, hb]
    · rename_i hb
      have hb1 : b % 2 = 1 := by omega
      split
      · rename_i h5
        rw [rem, if_neg (by omega), e, Int.mul_one, h5, rem, if_pos rfl, Int.zero_emod, Int.mul_zero, ih 0 (by omega) (by omega), hc, hb1]
      · rw [rem, if_neg (by omega), e, Int.mul_one, ih (n + 1) (by omega) (by omega), hc, hb1]
theorem again (l : List Int) : (∀ n : Int, 0 ≤ n → n ≤ 4 → peak n l ≤ 5 → ins n (rem n l) = clean l ∨ ins n (rem n l) = clean l ++ [0]) ∧ (peak 5 l ≤ 5 → 0 :: ins 0 (rem 5 l) = clean l ∨ 0 :: ins 0 (rem 5 l) = clean l ++ [0]) := by
  induction l with
  | nil => simp [ins, rem, clean]
  | cons b t ih =>
    obtain ⟨ih1, ih2⟩ := ih
    have hc : clean (b :: t) = b % 2 :: clean t := rfl
    refine ⟨fun n h0 h4 hp => ?_, fun hp => ?_⟩
    · rw [rem, if_neg (by omega), ins, hc]
      rcases bitmul n b h0 with ⟨e, h1⟩ | ⟨e, h1⟩
      · rw [peak, h1] at hp
        rw [h1, e, Int.zero_emod, if_pos rfl]
        rcases ih1 0 (by omega) (by omega) (by omega) with h | h <;> rw [h] <;> simp
      · rw [peak, h1] at hp
        rw [h1, e, if_neg (by decide)]
        split
        · rename_i h5
          rw [h5] at hp ⊢
          rcases ih2 (by omega) with h | h <;> rw [h] <;> simp
        · rcases ih1 (n + 1) (by omega) (by omega) (by omega) with h | h <;> rw [h] <;> simp
    · rw [rem, if_pos rfl, hc]
      rcases bitmul 5 b (by omega) with ⟨e, h1⟩ | ⟨e, h1⟩
      · rw [peak, h1] at hp
        rw [h1, e]
        rcases ih1 0 (by omega) (by omega) (by omega) with h | h <;> rw [h] <;> simp
      · rw [peak, h1] at hp
        omega
theorem ins_zero (n : Int) (a b : List Int) : ins n (a ++ 0 :: b) = ins n (a ++ [0]) ++ ins 0 b := by
  induction a generalizing n with
  | nil => simp [ins]
  | cons c t ih =>
    simp only [List.cons_append, ins]
    split
    · rw [ih]; rfl
    · split
      · rw [ih]; rfl
      · rw [ih]; rfl
/-- Without what was put in, read bit by bit: none where six 1s stand in a row. -/
def rrem : Int → List Int → Option (List Int)
  | _, [] => some []
  | n, b :: t => if b % 2 = 1 then (if n + 1 = 6 then none else (rrem (n + 1) t).map (1 :: ·)) else (rrem 0 t).map (fun r => if n < 5 then 0 :: r else r)
theorem rrem_is (n : Int) (l : List Int) (h0 : 0 ≤ n) (h5 : n ≤ 5) : rrem n l = if peak n l > 5 then none else some (rem n l) := by
  induction l generalizing n with
  | nil => simp [rrem, peak, rem]
  | cons b t ih =>
    rcases bitmul n b h0 with ⟨e, h1⟩ | ⟨e, h1⟩
    · rw [rrem, if_neg (by omega), ih 0 (by omega) (by omega), peak, h1, rem, h1, e]
      have hm : max 0 (peak 0 t) = peak 0 t := by have := peak_nonneg 0 t (by omega); omega
      rw [hm]
      by_cases hp : peak 0 t > 5
      · rw [if_pos hp, if_pos hp]; rfl
      · rw [if_neg hp, if_neg hp, Option.map_some]
        by_cases hn : n = 5
        · rw [if_neg (by omega), if_pos hn]
        · rw [if_pos (by omega), if_neg hn]
    · rw [rrem, if_pos e, peak, h1, rem, h1, e]
      by_cases hn : n + 1 = 6
      · rw [if_pos hn, if_pos (by omega)]
      · rw [if_neg hn, ih (n + 1) (by omega) (by omega), if_neg (by omega : ¬ n = 5)]
        have hm : (max (n + 1) (peak (n + 1) t) > 5) ↔ peak (n + 1) t > 5 := by omega
        by_cases hp : peak (n + 1) t > 5
        · rw [if_pos hp, if_pos (hm.2 hp)]; rfl
        · rw [if_neg hp, if_neg (fun h => hp (hm.1 h))]; rfl
theorem last_append (n : Int) (a b : List Int) : last n (a ++ b) = last (last n a) b := by
  induction a generalizing n with
  | nil => rfl
  | cons c t ih => exact ih _
theorem five_ones (a : List Int) (s0 s1 s2 s3 s4 : Int) (h0 : s0 = 0 ∨ s0 = 1) (h1 : s1 = 0 ∨ s1 = 1) (h2 : s2 = 0 ∨ s2 = 1) (h3 : s3 = 0 ∨ s3 = 1) (h4 : s4 = 0 ∨ s4 = 1) :
    ([s0, s1, s2, s3, s4].all (· == 1) = true) ↔ 5 ≤ last 0 (a ++ [s0, s1, s2, s3, s4]) := by
  rw [last_append]
  have hn := last_nonneg 0 a (by omega)
  generalize last 0 a = n at hn
  rcases h0 with rfl | rfl <;> rcases h1 with rfl | rfl <;> rcases h2 with rfl | rfl <;> rcases h3 with rfl | rfl <;> rcases h4 with rfl | rfl <;> simp [last] <;> omega
end Go.Proofs.Ytjmclghjhnbafaa.Pl

/- A text that a program of this claim (wip/x) laid out of the translation: what Go functions come to, and that they come to it. Lean checks it. -/
namespace Go.Proofs.Ytjmclghjhnbafaa.Print
open Go.RowKit Go.Proofs.YtjmclghjhnbafaaW.PrintWords Go.Proofs.YtjmclghjhnbafaaW.PrintLast Go.Proofs.YtjmclghjhnbafaaW.PrintMore
attribute [local go_sem] max2_int min2_int max_two min_two max_three min_three max_four min_four   -- for this text's walks alone
set_option linter.unusedVariables false
set_option linter.unusedSimpArgs false

/-! ### marlineref06_Remove: function 55 -/
def marlineref06_Remove.l0 : Nat → List Int → List Int → Int → Int → Option (List Int × Int)
  | 0, _, _, _, _ => none
  | k + 1, x0, x4, x5, x6 => if x6 < (x0.length : Int) then (if 0 ≤ x6 then (if (Int.tmod (rd x0 x6) 2) = 1 then (if (wrap64 (x5 + 1)) = 6 then (some (([] : List Int), 10)) else (if x4.length < 140737488355328 then (marlineref06_Remove.l0 k x0 (x4 ++ [1]) (wrap64 (x5 + 1)) (wrap64 (x6 + 1))) else (none))) else (if x5 < 5 then (if x4.length < 140737488355328 then (marlineref06_Remove.l0 k x0 (x4 ++ [0]) 0 (wrap64 (x6 + 1))) else (none)) else (marlineref06_Remove.l0 k x0 x4 0 (wrap64 (x6 + 1))))) else (none)) else (some (x4, 0))
def marlineref06_Remove.f (k : Nat) (l0 : List Int) : Option (List Int × Int) := marlineref06_Remove.l0 k l0 (([] : List Int)) 0 0
theorem marlineref06_Remove.mono_l : ∀ k, (∀ y0 y1 y2 y3, LeO (marlineref06_Remove.l0 k y0 y1 y2 y3) (marlineref06_Remove.l0 (k + 1) y0 y1 y2 y3))
  | 0 => fun _ _ _ _ r h => by simp [marlineref06_Remove.l0] at h
  | k + 1 => by
    have ih0 := marlineref06_Remove.mono_l k
    · intro y0 y1 y2 y3
      unfold marlineref06_Remove.l0
      repeat' first
      | (with_reducible exact ih0 _ _ _ _)
      | (with_reducible exact LeO.refl _)
      | (with_reducible exact LeO.none _)
      | (with_reducible refine LeO.ite ?_ ?_)
      | (with_reducible refine LeO.bind ?_ (fun _ => ?_))
      | exact ih0 _ _ _ _
      | exact LeO.none _
      | refine LeO.ite ?_ ?_
      | refine LeO.bind ?_ (fun _ => ?_)
theorem marlineref06_Remove.mono : ∀ a0 k, LeO (marlineref06_Remove.f k a0) (marlineref06_Remove.f (k + 1) a0) := by
  intro a0 k
  have ih0 := marlineref06_Remove.mono_l k
  unfold marlineref06_Remove.f
  repeat' first
      | (with_reducible exact ih0 _ _ _ _)
      | (with_reducible exact LeO.refl _)
      | (with_reducible exact LeO.none _)
      | (with_reducible refine LeO.ite ?_ ?_)
      | (with_reducible refine LeO.bind ?_ (fun _ => ?_))
      | exact ih0 _ _ _ _
      | exact LeO.none _
      | refine LeO.ite ?_ ?_
      | refine LeO.bind ?_ (fun _ => ?_)
set_option maxHeartbeats 8000000 in
set_option maxRecDepth 100000 in
theorem marlineref06_Remove.calls (k : Nat) (A0 : Option Addr) (c0 : Nat) (l0 : List Int) (r1 : List Int) (r2 : Int) (w : World) (hr0 : Kd.C (Kd.int .u8) w A0 l0.length l0) (hc0 : l0.length ≤ c0) (h : marlineref06_Remove.f k l0 = some (r1, r2)) :
    Calls Try.prog 55 #[.slice A0 l0.length c0] w fun e w' => ∃ v0_ : Value, e = .returned (.tuple #[v0_, .int .i64 r2]) ∧ Kd.R (Kd.int .u8) 5 w' w.heap.size (fun _ => True) v0_ r1 ∧ Below w.heap.size w w' := by
  have HR0 := Aside0.mk hr0
  have HC0 := Aside0.mk hc0
  clear hr0 hc0
  have HB := Aside0.mk (Below.refl w.heap.size w)
  have H : (marlineref06_Remove.l0 k l0 (([] : List Int)) 0 0) = some (r1, r2) := h
  clear h
  obtain ⟨y330, hy330⟩ : ∃ y_ : List Int, y_ = (([] : List Int)) := ⟨_, rfl⟩
  replace H : (marlineref06_Remove.l0 k l0 y330 0 0) = some (r1, r2) := by first | (rw [hy330]; with_reducible exact H) | (have H2_ := (Option.bind_some _ _).symm.trans H; rw [hy330]; with_reducible exact H2_) | (have H2_ := (Option.bind_some _ _).symm.trans H; with_reducible exact H2_) | with_reducible exact H | (rw [hy330]; exact H) | exact H
  have Ny330 := Aside0.mk hy330
  clear hy330
  have H' := Aside0.mk H
  clear H
  go_enter Try.func55, Try.ntmps55
  go_wp2_with (first | ((with_reducible refine gate_dst (N := 7) rfl ?_); refine Kd.R_lit (Kd.int .u8) _ 5 ?hg (N := 7) ?hd (xs := ([] : List Int)) (inner := []) (ok := fun _ => True) (okp := fun _ => True) ?hr ?hp (fun _ hk => hk) trivial (Below.refl _ _) (Nat.le_refl _) (by simp) ?_; (case hd => rfl); (case hg => rfl); (case hr => first | (go_simp; done) | (go_simp; simp only [IntKind.wrap_u8, IntKind.wrap_u16, IntKind.wrap_u32, IntKind.wrap_u64]; done) | (go_simp; simp only [IntKind.wrap_u8, IntKind.wrap_u16, IntKind.wrap_u32, IntKind.wrap_u64, Int.tmod_eq_emod_of_nonneg (Int.natCast_nonneg _), Int.emod_emod]; done) | (go_simp; rfl)); (case hp => exact (Reps.none _ _)); intro v331 w2 ho3 hb hg_ hnew_; clear hg_ hnew_; (first | rw [← Ny330.out] at ho3 | (simp only [Int.reduceToNat] at ho3; rw [← Ny330.out] at ho3)); have n0_ := Aside0.mk (Kd.R_lower ho3 (below_size (by repeat (first | (with_reducible first | exact HB.out | apply below_alloc | apply pw_below_drewN | apply below_drew1) | exact HB.out)))); have n1_ := Aside0.mk (below_step (by repeat (first | (with_reducible first | exact HB.out | apply below_alloc | apply pw_below_drewN | apply below_drew1) | exact HB.out)) hb); clear HB; have HO332 := n0_; have HB := n1_; clear n0_ n1_; clear hb ho3))
  go_loopg [4, 5, 6] k (fun kq v4 v5 v6 w' => ∃ (x4_1 : List Int) (x5_1 : Int) (x6_1 : Int), v5 = .int .i64 x5_1 ∧ v6 = .int .i64 x6_1 ∧ Aside0 (marlineref06_Remove.l0 kq l0 x4_1 x5_1 x6_1 = some (r1, r2)) ∧ Aside0 (kq ≤ k) ∧ Aside0 (Kd.R (Kd.int .u8) 5 w' w.heap.size (fun _ => True) v4 x4_1) ∧ Aside0 (Below w.heap.size w w'))
  case atStart => exact ⟨(y330), (0), (0), (by first | rfl | (simp; done) | (simp [*]; done)), (by first | rfl | (simp; done) | (simp [*]; done)), H', ⟨Nat.le_refl _⟩, ⟨by (with_reducible repeat (first | apply Kd.R_alloc | apply Kd.R_drewN | apply Kd.R_drew)); exact HO332.out⟩, ⟨by repeat (first | (with_reducible first | exact HB.out | apply below_alloc | apply pw_below_drewN | apply below_drew1) | exact HB.out)⟩⟩
  case round =>
    clear H'
    try clear p2
    obtain ⟨x4_1, x5_1, x6_1, rfl, rfl, HA, HK1, HO_4, HB⟩ := hrel
    cases gk with
    | zero => exact absurd HA.out (by simp [marlineref06_Remove.l0])
    | succ k1 =>
      have H := HA.out
      clear HA
      simp only [marlineref06_Remove.l0] at H
      by_cases c4 : x6_1 < (l0.length : Int)
      · rw [if_pos c4] at H
        have c4b0 : decide (x6_1 < (l0.length : Int)) = true := decide_eq_true c4
        clear c4
        by_cases c5 : 0 ≤ x6_1
        · rw [if_pos c5] at H
          have c5b0 : decide (0 ≤ x6_1) = true := decide_eq_true c5
          clear c5
          by_cases c6 : (Int.tmod (rd l0 x6_1) 2) = 1
          · rw [if_pos c6] at H
            have c6b0 : ((Int.tmod (rd l0 x6_1) 2) == 1) = true := beq_iff_eq.mpr c6
            have c6b1 : ((Int.tmod (rd l0 x6_1) 2) != 1) = false := bne_eq_false_iff_eq.mpr c6
            clear c6
            by_cases c7 : (wrap64 (x5_1 + 1)) = 6
            · rw [if_pos c7] at H
              have c7b0 : ((wrap64 (x5_1 + 1)) == 6) = true := beq_iff_eq.mpr c7
              have c7b1 : ((wrap64 (x5_1 + 1)) != 6) = false := bne_eq_false_iff_eq.mpr c7
              clear c7
              simp only [Option.some.injEq, Prod.mk.injEq] at H
              obtain ⟨rfl, rfl⟩ := H
              have p333 : 0 ≤ (x6_1 : Int) := of_decide_eq_true (by first | (with_reducible assumption) | assumption)
              have q333 : x6_1 < (l0.length : Int) := of_decide_eq_true (by first | (with_reducible assumption) | assumption)
              obtain ⟨ad333, e333, hx333_0⟩ := Kd.at_int HR0.out x6_1 p333 q333
              cases e333
              replace hx333_0 := (HB.out.cell (World.block_lt_of_cell? w _ hx333_0)).trans hx333_0
              replace p333 := eq_true p333
              replace q333 := eq_true q333
              go_wp2
              go_ret2
              exact ⟨_, by first | rfl | (simp [errW_none, errW_some] <;> rfl) | (simp [*, errW_none, errW_some] <;> rfl), by first | exact Kd.R_nil _ _ _ _ _ | exact Kd.N_nil _ _ _ _ _ | exact Kd.V_nil _ _ _ _ _ | exact Kd.Q_nil _ _ _ _ _ | exact Kd.S_nil _ _ _ _ _, by repeat (first | (with_reducible first | exact HB.out | apply below_alloc | apply pw_below_drewN | apply below_drew1) | exact HB.out)⟩
            · rw [if_neg c7] at H
              have c7b0 : ((wrap64 (x5_1 + 1)) == 6) = false := beq_eq_false_iff_ne.mpr c7
              have c7b1 : ((wrap64 (x5_1 + 1)) != 6) = true := bne_iff_ne.mpr c7
              by_cases c8 : x4_1.length < 140737488355328
              · rw [if_pos c8] at H
                have LMc8 := Aside0.mk c8
                clear c8
                obtain ⟨y334, hy334⟩ : ∃ y_ : List Int, y_ = (x4_1 ++ [1]) := ⟨_, rfl⟩
                replace H : (marlineref06_Remove.l0 k1 l0 y334 (wrap64 (x5_1 + 1)) (wrap64 (x6_1 + 1))) = some (r1, r2) := by first | (rw [hy334]; with_reducible exact H) | (have H2_ := (Option.bind_some _ _).symm.trans H; rw [hy334]; with_reducible exact H2_) | (have H2_ := (Option.bind_some _ _).symm.trans H; with_reducible exact H2_) | with_reducible exact H | (rw [hy334]; exact H) | exact H
                have Ny334 := Aside0.mk hy334
                clear hy334
                have H' := Aside0.mk H
                clear H
                have p333 : 0 ≤ (x6_1 : Int) := of_decide_eq_true (by first | (with_reducible assumption) | assumption)
                have q333 : x6_1 < (l0.length : Int) := of_decide_eq_true (by first | (with_reducible assumption) | assumption)
                obtain ⟨ad333, e333, hx333_0⟩ := Kd.at_int HR0.out x6_1 p333 q333
                cases e333
                replace hx333_0 := (HB.out.cell (World.block_lt_of_cell? w _ hx333_0)).trans hx333_0
                replace p333 := eq_true p333
                replace q333 := eq_true q333
                go_wp2_with (first | ((with_reducible refine gate_builtin (b := .append) (xs := #[.tmp 24, .tmp 25]) rfl ?_); at_builtin; refine Kd.R_append (Kd.int .u8) (w0 := w) w.heap.size rfl (.tmp 24) (.tmp 25) 28 5 (.int .u8 0) 1 rfl Try.underlying28 info5 rfl (by decide) (by omega) u4 x4_1 1 [.int .u8 1] (fun _ => True) (fun _ => False) rfl rfl ?aP (fun _ hk => hk.elim) ?aF ?aO ?aB ?aS ?aL ?_; (case aP => exact rfl); (case aB => exact (by repeat (first | (with_reducible first | exact HB.out | apply below_alloc | apply pw_below_drewN | apply below_drew1) | exact HB.out))); (case aF => exact (fun _ _ => trivial)); (case aO => exact (by (with_reducible repeat (first | apply Kd.R_alloc | apply Kd.R_drewN | apply Kd.R_drew)); exact HO_4.out)); (case aS => exact (below_size (by repeat (first | (with_reducible first | exact HB.out | apply below_alloc | apply pw_below_drewN | apply below_drew1) | exact HB.out)))); (case aL => have := LMc8.out; omega); intro v335 w9 ho hb hg hat; rw [← Ny334.out] at ho; have n0_ := Aside0.mk (hb); have n1_ := Aside0.mk (ho); clear HB; clear HO_4; have HB := n0_; have HO336 := n1_; clear n0_ n1_; clear ho hb hg hat))
                go_roundg k1
                case measure => have := HK1.out; omega
                case rel => exact ⟨(y334), (wrap64 (x5_1 + 1)), (wrap64 (x6_1 + 1)), (by first | rfl | (simp; done) | (simp [*]; done)), (by first | rfl | (simp; done) | (simp [*]; done)), H', ⟨by have := HK1.out; omega⟩, ⟨by (with_reducible repeat (first | apply Kd.R_alloc | apply Kd.R_drewN | apply Kd.R_drew)); exact HO336.out⟩, ⟨by repeat (first | (with_reducible first | exact HB.out | apply below_alloc | apply pw_below_drewN | apply below_drew1) | exact HB.out)⟩⟩
              · rw [if_neg c8] at H
                exact absurd H (by simp)
          · rw [if_neg c6] at H
            have c6b0 : ((Int.tmod (rd l0 x6_1) 2) == 1) = false := beq_eq_false_iff_ne.mpr c6
            have c6b1 : ((Int.tmod (rd l0 x6_1) 2) != 1) = true := bne_iff_ne.mpr c6
            by_cases c10 : x5_1 < 5
            · rw [if_pos c10] at H
              have c10b0 : decide (x5_1 < 5) = true := decide_eq_true c10
              clear c10
              by_cases c11 : x4_1.length < 140737488355328
              · rw [if_pos c11] at H
                have LMc11 := Aside0.mk c11
                clear c11
                obtain ⟨y337, hy337⟩ : ∃ y_ : List Int, y_ = (x4_1 ++ [0]) := ⟨_, rfl⟩
                replace H : (marlineref06_Remove.l0 k1 l0 y337 0 (wrap64 (x6_1 + 1))) = some (r1, r2) := by first | (rw [hy337]; with_reducible exact H) | (have H2_ := (Option.bind_some _ _).symm.trans H; rw [hy337]; with_reducible exact H2_) | (have H2_ := (Option.bind_some _ _).symm.trans H; with_reducible exact H2_) | with_reducible exact H | (rw [hy337]; exact H) | exact H
                have Ny337 := Aside0.mk hy337
                clear hy337
                have H' := Aside0.mk H
                clear H
                have p333 : 0 ≤ (x6_1 : Int) := of_decide_eq_true (by first | (with_reducible assumption) | assumption)
                have q333 : x6_1 < (l0.length : Int) := of_decide_eq_true (by first | (with_reducible assumption) | assumption)
                obtain ⟨ad333, e333, hx333_0⟩ := Kd.at_int HR0.out x6_1 p333 q333
                cases e333
                replace hx333_0 := (HB.out.cell (World.block_lt_of_cell? w _ hx333_0)).trans hx333_0
                replace p333 := eq_true p333
                replace q333 := eq_true q333
                go_wp2_with (first | ((with_reducible refine gate_builtin (b := .append) (xs := #[.tmp 29, .tmp 30]) rfl ?_); at_builtin; refine Kd.R_append (Kd.int .u8) (w0 := w) w.heap.size rfl (.tmp 29) (.tmp 30) 28 5 (.int .u8 0) 1 rfl Try.underlying28 info5 rfl (by decide) (by omega) u4 x4_1 0 [.int .u8 0] (fun _ => True) (fun _ => False) rfl rfl ?aP (fun _ hk => hk.elim) ?aF ?aO ?aB ?aS ?aL ?_; (case aP => exact rfl); (case aB => exact (by repeat (first | (with_reducible first | exact HB.out | apply below_alloc | apply pw_below_drewN | apply below_drew1) | exact HB.out))); (case aF => exact (fun _ _ => trivial)); (case aO => exact (by (with_reducible repeat (first | apply Kd.R_alloc | apply Kd.R_drewN | apply Kd.R_drew)); exact HO_4.out)); (case aS => exact (below_size (by repeat (first | (with_reducible first | exact HB.out | apply below_alloc | apply pw_below_drewN | apply below_drew1) | exact HB.out)))); (case aL => have := LMc11.out; omega); intro v338 w12 ho hb hg hat; rw [← Ny337.out] at ho; have n0_ := Aside0.mk (hb); have n1_ := Aside0.mk (ho); clear HB; clear HO_4; have HB := n0_; have HO339 := n1_; clear n0_ n1_; clear ho hb hg hat))
                go_roundg k1
                case measure => have := HK1.out; omega
                case rel => exact ⟨(y337), (0), (wrap64 (x6_1 + 1)), (by first | rfl | (simp; done) | (simp [*]; done)), (by first | rfl | (simp; done) | (simp [*]; done)), H', ⟨by have := HK1.out; omega⟩, ⟨by (with_reducible repeat (first | apply Kd.R_alloc | apply Kd.R_drewN | apply Kd.R_drew)); exact HO339.out⟩, ⟨by repeat (first | (with_reducible first | exact HB.out | apply below_alloc | apply pw_below_drewN | apply below_drew1) | exact HB.out)⟩⟩
              · rw [if_neg c11] at H
                exact absurd H (by simp)
            · rw [if_neg c10] at H
              have c10b0 : decide (x5_1 < 5) = false := decide_eq_false c10
              clear c10
              have H' := Aside0.mk H
              clear H
              have p333 : 0 ≤ (x6_1 : Int) := of_decide_eq_true (by first | (with_reducible assumption) | assumption)
              have q333 : x6_1 < (l0.length : Int) := of_decide_eq_true (by first | (with_reducible assumption) | assumption)
              obtain ⟨ad333, e333, hx333_0⟩ := Kd.at_int HR0.out x6_1 p333 q333
              cases e333
              replace hx333_0 := (HB.out.cell (World.block_lt_of_cell? w _ hx333_0)).trans hx333_0
              replace p333 := eq_true p333
              replace q333 := eq_true q333
              go_wp2
              go_roundg k1
              case measure => have := HK1.out; omega
              case rel => exact ⟨(x4_1), (0), (wrap64 (x6_1 + 1)), (by first | rfl | (simp; done) | (simp [*]; done)), (by first | rfl | (simp; done) | (simp [*]; done)), H', ⟨by have := HK1.out; omega⟩, ⟨by (with_reducible repeat (first | apply Kd.R_alloc | apply Kd.R_drewN | apply Kd.R_drew)); exact HO_4.out⟩, ⟨by repeat (first | (with_reducible first | exact HB.out | apply below_alloc | apply pw_below_drewN | apply below_drew1) | exact HB.out)⟩⟩
        · rw [if_neg c5] at H
          exact absurd H (by simp)
      · rw [if_neg c4] at H
        have c4b0 : decide (x6_1 < (l0.length : Int)) = false := decide_eq_false c4
        clear c4
        simp only [Option.some.injEq, Prod.mk.injEq] at H
        obtain ⟨rfl, rfl⟩ := H
        go_wp2
        go_ret2
        exact ⟨_, by first | rfl | (simp [errW_none, errW_some] <;> rfl) | (simp [*, errW_none, errW_some] <;> rfl), by (with_reducible repeat (first | apply Kd.R_alloc | apply Kd.R_drewN | apply Kd.R_drew)); exact HO_4.out, by repeat (first | (with_reducible first | exact HB.out | apply below_alloc | apply pw_below_drewN | apply below_drew1) | exact HB.out)⟩

end Go.Proofs.Ytjmclghjhnbafaa.Print

/- What the printed functions of layer 6 and of its reference come to, in plain words. -/
namespace Go.Proofs.Ytjmclghjhnbafaa.Sp
open Go.RowKit Go.Proofs.Ytjmclghjhnbafaa.Print Go.Proofs.YtjmclghjhnbafaaW.PrintWords Go.Proofs.YtjmclghjhnbafaaW.PrintLast Go.Proofs.Ytjmclghjhnbafaa.Pl
set_option linter.unusedVariables false
theorem Insert_l0 (c : List Int) (hl : Lim c) (hbit : ∀ x ∈ c, x = 0 ∨ x = 1) : ∀ (t : List Int) (i : Nat) (x : List Int) (n : Int), c.drop i = t → x.length ≤ 2 * i → 0 ≤ n → n ≤ 4 → Ev (fun k => zero_Insert.l0 k x n c (c.length : Int) i) (x ++ ins n t)
  | [], i, x, n, h1, hx, h0, h4 => by
    have h3 := drop_nil_len h1
    rw [ins, List.append_nil]
    exact Ev.step (fun k => by simp only [zero_Insert.l0]; rw [if_neg (by omega)]) (Ev.now _)
  | b :: t, i, x, n, h1, hx, h0, h4 => by
    obtain ⟨e1, e2, e3⟩ := rd_drop h1
    have hb := hbit b (by have : b ∈ c.drop i := by rw [h1]; simp
                          exact List.mem_of_mem_drop this)
    unfold Lim at hl
    have e : x ++ ins n (b :: t) = if b = 0 then (x ++ [b]) ++ ins 0 t else if n + 1 = 5 then ((x ++ [b]) ++ [0]) ++ ins 0 t else (x ++ [b]) ++ ins (n + 1) t := by
      rcases hb with rfl | rfl
      · simp [ins]
      · have e9 : (1 : Int) % 2 = 1 := by decide
        rw [ins, e9, if_neg (show ¬ (1 : Int) = 0 by decide), if_neg (show ¬ (1 : Int) = 0 by decide)]
        split <;> simp
    rw [e]
    refine Ev.step (fun k => by simp only [zero_Insert.l0]; rw [if_pos (by omega), if_pos (by omega), if_pos (by omega), if_pos (by omega), e1, suc i (by omega), w64 (x := n + 1) (by omega) (by omega)]) ?_
    refine Ev.name ?_
    by_cases hz : b = 0
    · rw [if_pos hz]
      exact Ev.pos hz (Insert_l0 c hl hbit t (i + 1) _ 0 e2 (by simp; omega) (by omega) (by omega))
    · rw [if_neg hz]
      refine Ev.neg hz ?_
      by_cases h5 : n + 1 = 5
      · rw [if_pos h5]
        refine Ev.pos h5 (Ev.pos (by simp; omega) ?_)
        exact Insert_l0 c hl hbit t (i + 1) _ 0 e2 (by simp; omega) (by omega) (by omega)
      · rw [if_neg h5]
        exact Ev.neg h5 (Insert_l0 c hl hbit t (i + 1) _ (n + 1) e2 (by simp; omega) (by omega) (by omega))
theorem Insert (l : List Int) (hl : Lim l) (hb : Bytes l) : Ev (fun k => zero_Insert.f k l) (ins 0 l) := by
  have hlc : Lim (clean l) := by unfold Lim; rw [clean_length]; exact hl
  have h := Insert_l0 (clean l) hlc (fun x hx => bit_clean hx) (clean l) 0 [] 0 rfl (by simp) (by omega) (by omega)
  rw [ins_clean] at h
  have hll := hl
  unfold Lim at hll
  have hq : Int.tdiv (l.length : Int) 5 = (l.length : Int) / 5 := Int.tdiv_eq_ediv_of_nonneg (by omega)
  unfold zero_Insert.f
  simp only [w64 (x := (l.length : Int) / 5) (by omega) (by omega), w64 (x := (l.length : Int) + (l.length : Int) / 5) (by omega) (by omega)]
  refine Ev.pos (by omega) (Ev.pos (by omega) ?_)
  refine Ev.bind (Clean l hl hb) ?_
  exact h
theorem Flag : Ev (fun k => zero_Flag.f k) [0, 1, 1, 1, 1, 1, 1, 0] := by
  unfold zero_Flag.f
  refine Ev.bind (Of [126] (by unfold Lim; decide) (bytes_lit (by decide))) ?_
  exact Ev.end_ (by decide)

def told : Option (List Int) → List Int → List Int × Int
  | none, _ => ([], 10)
  | some r, x => (x ++ r, 0)
theorem rRemove_l0 (l : List Int) (hl : Lim l) (hb : Bytes l) : ∀ (t : List Int) (i : Nat) (x : List Int) (n : Int), l.drop i = t → x.length ≤ i → 0 ≤ n → n ≤ 5 → Ev (fun k => marlineref06_Remove.l0 k l x n i) (told (rrem n t) x)
  | [], i, x, n, h1, hx, h0, h4 => by
    have h3 := drop_nil_len h1
    rw [rrem, told, List.append_nil]
    exact Ev.step (fun k => by simp only [marlineref06_Remove.l0]; rw [if_neg (by omega)]) (Ev.now _)
  | b :: t, i, x, n, h1, hx, h0, h4 => by
    obtain ⟨e1, e2, e3⟩ := rd_drop h1
    have hc : Byte b := by
      have h4 := hb.drop i
      rw [h1] at h4
      exact h4.head
    have hll := hl
    unfold Lim at hll
    have hc0 := hc.1
    refine Ev.step (fun k => by simp only [marlineref06_Remove.l0]; rw [if_pos (by omega), if_pos (by omega), e1, Int.tmod_eq_emod_of_nonneg hc0, suc i (by omega), w64 (x := n + 1) (by omega) (by omega)]) ?_
    rw [rrem]
    by_cases hb1 : b % 2 = 1
    · rw [if_pos hb1]
      refine Ev.pos hb1 ?_
      by_cases h6 : n + 1 = 6
      · rw [if_pos h6]
        exact Ev.pos h6 (Ev.now _)
      · rw [if_neg h6]
        refine Ev.neg h6 (Ev.pos (by omega) ?_)
        have ih := rRemove_l0 l hl hb t (i + 1) (x ++ [1]) (n + 1) e2 (by simp; omega) (by omega) (by omega)
        rw [show told ((rrem (n + 1) t).map (1 :: ·)) x = told (rrem (n + 1) t) (x ++ [1]) by cases rrem (n + 1) t <;> simp [told]]
        exact ih
    · rw [if_neg hb1]
      refine Ev.neg hb1 ?_
      by_cases h5 : n < 5
      · refine Ev.pos h5 (Ev.pos (by omega) ?_)
        have ih := rRemove_l0 l hl hb t (i + 1) (x ++ [0]) 0 e2 (by simp; omega) (by omega) (by omega)
        rw [show told ((rrem 0 t).map (fun r => if n < 5 then 0 :: r else r)) x = told (rrem 0 t) (x ++ [0]) by cases rrem 0 t <;> simp [told, h5]]
        exact ih
      · refine Ev.neg h5 ?_
        have ih := rRemove_l0 l hl hb t (i + 1) x 0 e2 (by omega) (by omega) (by omega)
        rw [show told ((rrem 0 t).map (fun r => if n < 5 then 0 :: r else r)) x = told (rrem 0 t) x by cases rrem 0 t <;> simp [told, h5]]
        exact ih
theorem rRemove (l : List Int) (hl : Lim l) (hb : Bytes l) : Ev (fun k => marlineref06_Remove.f k l) (if run l > 5 then ([], 10) else (rem 0 l, 0)) := by
  have h := rRemove_l0 l hl hb l 0 [] 0 rfl (by simp) (by omega) (by omega)
  rw [rrem_is 0 l (by omega) (by omega)] at h
  rw [show (if run l > 5 then (([] : List Int), (10 : Int)) else (rem 0 l, 0)) = told (if peak 0 l > 5 then none else some (rem 0 l)) [] by unfold run; split <;> rfl]
  exact h
theorem Concat3 (a b c : List Int) (ha : Lim a) (hb : Lim b) (hc : Lim c) : Ev (fun k => slices_Concat_byte_byte.f k [a, b, c]) (a ++ b ++ c) := by
  unfold Lim at ha hb hc
  unfold slices_Concat_byte_byte.f
  have r0 : rd_L1 [a, b, c] 0 = a := rfl
  have r1 : rd_L1 [a, b, c] 1 = b := rfl
  have r2 : rd_L1 [a, b, c] 2 = c := rfl
  have w0 : wrap64 (0 + (a.length : Int)) = a.length := w64 (by omega) (by omega) |>.trans (by omega)
  have w1 : wrap64 ((a.length : Int) + b.length) = a.length + b.length := w64 (by omega) (by omega)
  have w2 : wrap64 ((a.length : Int) + b.length + c.length) = a.length + b.length + c.length := w64 (by omega) (by omega)
  have v0 : wrap64 (0 + 1 : Int) = 1 := w64 (by omega) (by omega)
  have v1 : wrap64 (1 + 1 : Int) = 2 := w64 (by omega) (by omega)
  have v2 : wrap64 (2 + 1 : Int) = 3 := w64 (by omega) (by omega)
  refine Ev.step (fun k => by simp only [slices_Concat_byte_byte.l0]; rw [if_pos (by simp), if_pos (by omega), if_pos (by simp), r0, w0, if_neg (by omega), v0]) ?_
  refine Ev.step (fun k => by simp only [slices_Concat_byte_byte.l0]; rw [if_pos (by simp), if_pos (by omega), if_pos (by simp), r1, w1, if_neg (by omega), v1]) ?_
  refine Ev.step (fun k => by simp only [slices_Concat_byte_byte.l0]; rw [if_pos (by simp), if_pos (by omega), if_pos (by simp), r2, w2, if_neg (by omega), v2]) ?_
  refine Ev.step (fun k => by simp only [slices_Concat_byte_byte.l0]; rw [if_neg (by simp)]) ?_
  have hg : slices_Grow_byte_byte.f ([] : List Int) ((a.length : Int) + b.length + c.length) = some [] := by
    unfold slices_Grow_byte_byte.f
    rw [if_pos (by omega), if_pos (by omega)]
  rw [hg]
  refine Ev.name ?_
  refine Ev.step (fun k => by simp only [slices_Concat_byte_byte.l1]; rw [if_pos (by simp), if_pos (by omega), if_pos (by simp), r0, if_pos (by simp only [List.length_nil]; omega), v0, List.nil_append]) ?_
  refine Ev.step (fun k => by simp only [slices_Concat_byte_byte.l1]; rw [if_pos (by simp), if_pos (by omega), if_pos (by simp), r1, if_pos (by omega), v1]) ?_
  refine Ev.step (fun k => by simp only [slices_Concat_byte_byte.l1]; rw [if_pos (by simp), if_pos (by omega), if_pos (by simp), r2, if_pos (by rw [List.length_append]; omega), v2]) ?_
  exact Ev.step (fun k => by simp only [slices_Concat_byte_byte.l1]; rw [if_neg (by simp)]) (Ev.now _)
/-- A flag's bits. -/
def flag : List Int := [0, 1, 1, 1, 1, 1, 1, 0]
/-- What octets come to, wrapped. -/
def wrapZ (l : List Int) : List Int := flag ++ ins 0 (ofOct l) ++ flag
theorem WrapZ (l : List Int) (hl : l.length ≤ 10000) (hb : Bytes l) : Ev (fun k => sync_Wrap.f k l) (wrapZ l) := by
  unfold sync_Wrap.f
  have h8 := ofOct_length l
  have hi := ins_len 0 (ofOct l) (by omega) (by omega)
  have hbb : Bytes (ofOct l) := by rw [← clean_ofOct]; exact bytes_clean _
  exact Ev.bind Flag (Ev.bind (Of l (by unfold Lim; omega) hb) (Ev.bind (Insert (ofOct l) (by unfold Lim; omega) hbb) (Ev.bind Flag (Ev.bind (Concat3 flag (ins 0 (ofOct l)) flag (by unfold Lim flag; simp) (by unfold Lim; omega) (by unfold Lim flag; simp)) (Ev.now _)))))
end Go.Proofs.Ytjmclghjhnbafaa.Sp

/- The synchronous deframer as a fold, in plain words: chunks joined, how much is told and kept; speaks, same and right of its laws. -/
namespace Go.Proofs.Ytjmclghjhnbafaa.Sp
open Go.RowKit Go.Proofs.Ytjmclghjhnbafaa.Print Go.Proofs.YtjmclghjhnbafaaW.PrintWords Go.Proofs.YtjmclghjhnbafaaW.PrintLast Go.Proofs.Ytjmclghjhnbafaa.Pl
set_option linter.unusedVariables false
theorem sstep_out (m : Int) (o : List S54) (s : Sst) (c : Int) : sstep m (o, s) c = (o ++ (sstep m ([], s) c).1, (sstep m ([], s) c).2) := by
  unfold sstep
  by_cases h1 : sbit c = true
  · simp [h1]
  · simp only [if_neg h1]
    by_cases h2 : s.ones = 6
    · simp only [if_pos h2]
      by_cases h3 : s.any = true <;> simp [h3]
    · simp [h2]
theorem sfold_out (m : Int) : ∀ (l : List Int) (o : List S54) (s : Sst), l.foldl (sstep m) (o, s) = (o ++ (sfeed m s l).1, (sfeed m s l).2)
  | [], o, s => by simp [sfeed]
  | c :: t, o, s => by
    unfold sfeed
    rw [List.foldl_cons, List.foldl_cons, sstep_out m o s c]
    rw [sfold_out m t (o ++ (sstep m ([], s) c).1) (sstep m ([], s) c).2]
    have h := sfold_out m t (sstep m ([], s) c).1 (sstep m ([], s) c).2
    rw [show ((sstep m ([], s) c).1, (sstep m ([], s) c).2) = sstep m ([], s) c from rfl] at h
    rw [h, List.append_assoc]
theorem sfeed_append (m : Int) (s : Sst) (a b : List Int) : sfeed m s (a ++ b) = ((sfeed m s a).1 ++ (sfeed m (sfeed m s a).2 b).1, (sfeed m (sfeed m s a).2 b).2) := by
  have h := sfold_out m b (sfeed m s a).1 (sfeed m s a).2
  rw [show ((sfeed m s a).1, (sfeed m s a).2) = sfeed m s a from rfl] at h
  rw [← h]
  unfold sfeed
  rw [List.foldl_append]
theorem sfeed_cons (m : Int) (s : Sst) (c : Int) (t : List Int) : sfeed m s (c :: t) = ((sstep m ([], s) c).1 ++ (sfeed m (sstep m ([], s) c).2 t).1, (sfeed m (sstep m ([], s) c).2 t).2) := by
  have h := sfold_out m t (sstep m ([], s) c).1 (sstep m ([], s) c).2
  rw [show ((sstep m ([], s) c).1, (sstep m ([], s) c).2) = sstep m ([], s) c from rfl] at h
  rw [← h]
  rfl
theorem sok0 {n : Nat} (h : n ≤ 100000) : Sok s00 n := ⟨by simp only [s00, List.length_nil]; omega, Bytes.nil, by simp [s00], by simp only [s00]; omega⟩
theorem Sok.le {s : Sst} {n k : Nat} (h : Sok s n) (hk : k ≤ n) : Sok s k := ⟨by have := h.len; omega, h.byt, h.on0, by have := h.on1; omega⟩
theorem Sok.after {m : Int} {s : Sst} {n : Nat} {l : List Int} (h : Sok s (n + l.length)) : Sok (sfeed m s l).2 n ∧ (sfeed m s l).1.length ≤ l.length := by
  have := Sok.fold m l ([], s) n h
  simpa [sfeed] using this
theorem soc_len (l : List Int) : (soc l).length ≤ l.length / 8 := by
  unfold soc
  split
  · rw [octs_length]; exact Nat.le_refl _
  · simp
theorem sseg_len (m : Int) (s : Sst) : (sseg m s (soc s.bits)).length ≤ s.bits.length / 8 := by
  unfold sseg
  split
  · exact soc_len _
  · simp
theorem sstep_seg {m : Int} {s : Sst} {n : Nat} (h : Sok s n) (c : Int) : ∀ x ∈ (sstep m ([], s) c).1, x.f1.length ≤ 1000000 := by
  intro x hx
  unfold sstep at hx
  split at hx
  · simp at hx
  · split at hx
    · simp only at hx
      split at hx
      · rw [List.nil_append, List.mem_singleton] at hx
        subst hx
        have h1 := sseg_len m s
        have h2 := h.len
        simp only at h1 ⊢
        omega
      · simp at hx
    · simp at hx
theorem sfeed_seg {m : Int} : ∀ (l : List Int) (s : Sst), Sok s l.length → ∀ x ∈ (sfeed m s l).1, x.f1.length ≤ 1000000
  | [], s, h => by simp [sfeed]
  | c :: t, s, h => by
    intro x hx
    rw [sfeed_cons] at hx
    rcases List.mem_append.1 hx with hx | hx
    · exact sstep_seg h c x hx
    · exact sfeed_seg t _ (Sok.step (p := ([], s)) h c).1 x hx
/-- Feed's function is the fold, where what is kept is small. -/
theorem FeedS (m : Int) (s : Sst) (l : List Int) (h : Sok s l.length) :
    sync_Deframer_Feed.f m s.bits s.many s.any s.broken s.ones s.zero s.stuff l = some ((sfeed m s l).1, (sfeed m s l).2.bits, (sfeed m s l).2.many, (sfeed m s l).2.any, (sfeed m s l).2.broken, (sfeed m s l).2.ones, (sfeed m s l).2.zero, (sfeed m s l).2.stuff) := by
  unfold sync_Deframer_Feed.f
  rw [if_pos ⟨h.len, List.all_eq_true.2 (fun x hx => decide_eq_true (h.byt x hx)), h.on0, h.on1⟩]
theorem FeedS0 (m : Int) (l : List Int) (h : l.length ≤ 100000) :
    sync_Deframer_Feed.f m [] 0 false false 0 false false l = some ((sfeed m s00 l).1, (sfeed m s00 l).2.bits, (sfeed m s00 l).2.many, (sfeed m s00 l).2.any, (sfeed m s00 l).2.broken, (sfeed m s00 l).2.ones, (sfeed m s00 l).2.zero, (sfeed m s00 l).2.stuff) :=
  FeedS m s00 l (sok0 h)
theorem sfeed_speaks : (sfeed 9 s00 [0, 1, 1, 1, 1, 1, 1, 0, 0, 0, 0, 0, 0, 0, 0, 0, 0, 1, 1, 1, 1, 1, 1, 0]).1 = [⟨0, [0]⟩] := by kernel_rfl
theorem wrap_speaks : wrapZ [0] = [0, 1, 1, 1, 1, 1, 1, 0, 0, 0, 0, 0, 0, 0, 0, 0, 0, 1, 1, 1, 1, 1, 1, 0] := by kernel_rfl
theorem Speaks07 : Ev (fun k => marlinelaw07_speaks.f k) true := by
  unfold marlinelaw07_speaks.f
  refine Ev.bind (WrapZ [0] (by simp) (bytes_lit (by decide))) ?_
  rw [wrap_speaks, FeedS0 9 _ (by simp)]
  refine Ev.name ?_
  simp only [sfeed_speaks]
  refine Ev.pos (by simp) (Ev.pos (by simp) (Ev.pos (by simp) (Ev.pos rfl ?_)))
  refine Ev.bind (Equal [0] [0] (by unfold Lim; simp)) (Ev.end_ (by simp))
/-! ### same -/
def SegsOk (l : List S54) : Prop := l.length ≤ 1000000 ∧ ∀ s ∈ l, Lim s.f1
theorem rdT_drop {xs : List S54} {i : Nat} {b : S54} {t : List S54} (h : xs.drop i = b :: t) : rd_T54 xs (i : Int) = b ∧ xs.drop (i + 1) = t ∧ i < xs.length := by
  have h1 : i < xs.length := by
    apply Decidable.byContradiction
    intro hn
    rw [List.drop_of_length_le (by omega)] at h
    cases h
  have h2 := List.drop_eq_getElem_cons h1
  rw [h] at h2
  injection h2 with h3 h4
  refine ⟨?_, h4.symm, h1⟩
  unfold rd_T54
  rw [Int.toNat_natCast, List.getD_eq_getElem?_getD, List.getElem?_eq_getElem h1]
  exact h3.symm
theorem Same_l0 (l : List S54) (ok : SegsOk l) : ∀ (t : List S54) (i : Nat), l.drop i = t → Ev (fun k => marlinelaw07_same.l0 k l l (l.length : Int) i) true
  | [], i, h => by
    have h3 : l.length ≤ i := by
      have := congrArg List.length h
      simp at this; omega
    exact Ev.step (fun k => by simp only [marlinelaw07_same.l0]; rw [if_neg (by omega)]) (Ev.end_ rfl)
  | c :: t, i, h => by
    obtain ⟨e1, e2, e3⟩ := rdT_drop h
    have h0 := ok.1
    have hc : Lim c.f1 := ok.2 c (by
      have : c ∈ l.drop i := by rw [h]; simp
      exact List.mem_of_mem_drop this)
    refine Ev.step (fun k => by simp only [marlinelaw07_same.l0]; rw [if_pos (by omega), if_pos (by omega), if_pos (by omega), if_pos (by omega), if_pos trivial, e1, suc i (by omega)]) ?_
    refine Ev.bind (Equal c.f1 c.f1 hc) (Ev.pos (by simp) ?_)
    exact Same_l0 l ok t (i + 1) e2
theorem SameD (l : List S54) (ok : SegsOk l) : Ev (fun k => marlinelaw07_same.f k l l) true := by
  unfold marlinelaw07_same.f
  exact Ev.pos rfl (Same_l0 l ok l 0 rfl)
/-! ### right -/
def tot : List (List Int) → Int
  | [] => 0
  | c :: t => c.length + tot t
theorem tot_nn (l : List (List Int)) : 0 ≤ tot l := by
  induction l with
  | nil => simp [tot]
  | cons c t ih => simp only [tot]; omega
def SegsLim (l : List (List Int)) : Prop := ∀ c ∈ l, (c.length : Int) ≤ 140737488351232
theorem rdL_drop {xs : List (List Int)} {i : Nat} {b : List Int} {t : List (List Int)} (h : xs.drop i = b :: t) : rd_L1 xs (i : Int) = b ∧ xs.drop (i + 1) = t ∧ i < xs.length := by
  have h1 : i < xs.length := by
    apply Decidable.byContradiction
    intro hn
    rw [List.drop_of_length_le (by omega)] at h
    cases h
  have h2 := List.drop_eq_getElem_cons h1
  rw [h] at h2
  injection h2 with h3 h4
  refine ⟨?_, h4.symm, h1⟩
  unfold rd_L1
  rw [Int.toNat_natCast, List.getD_eq_getElem?_getD, List.getElem?_eq_getElem h1]
  exact h3.symm
theorem dropL_nil {xs : List (List Int)} {i : Nat} (h : xs.drop i = []) : xs.length ≤ i := by
  have := congrArg List.length h
  simp at this; omega
/-- What right answers: whether few octets, where the chunks are no more than 60; no matter what where there are more. -/
theorem Right_l0 (m : Int) (l : List (List Int)) (hs : SegsLim l) (hl : l.length ≤ 5864062014634) : ∀ (t : List (List Int)) (i : Nat) (n : Int), l.drop i = t →
    ∃ n' : Int, (l.length ≤ 60 → 0 ≤ n → n + 140737488351232 * t.length ≤ 140737488351232 * 60 → n' = n + tot t) ∧ Ev (fun k => marlinelaw07_right.l0 k m l n l (l.length : Int) i) (if m ≥ 1 ∧ m ≤ 1048576 ∧ (l.length : Int) ≤ 60 then decide (n' ≤ 900) else false)
  | [], i, n, h => by
    have h3 := dropL_nil h
    refine ⟨n, fun _ _ _ => by simp [tot], Ev.step (fun k => by simp only [marlinelaw07_right.l0]; rw [if_neg (by omega)]) ?_⟩
    by_cases h1 : m ≥ 1
    · refine Ev.pos h1 ?_
      by_cases h2 : m ≤ 1048576
      · refine Ev.pos h2 ?_
        by_cases h4 : (l.length : Int) ≤ 60
        · exact Ev.pos h4 (Ev.end_ (by rw [if_pos ⟨h1, h2, h4⟩]))
        · exact Ev.neg h4 (Ev.end_ (by rw [if_neg (fun h => h4 h.2.2)]))
      · exact Ev.neg h2 (Ev.end_ (by rw [if_neg (fun h => h2 h.2.1)]))
    · exact Ev.neg h1 (Ev.end_ (by rw [if_neg (fun h => h1 h.1)]))
  | c :: t, i, n, h => by
    obtain ⟨e1, e2, e3⟩ := rdL_drop h
    have hc := hs c (List.mem_of_mem_drop (by rw [h]; simp : c ∈ l.drop i))
    obtain ⟨n', k1, k2⟩ := Right_l0 m l hs hl t (i + 1) (wrap64 (n + c.length)) e2
    refine ⟨n', ?_, Ev.step (fun k => by simp only [marlinelaw07_right.l0]; rw [if_pos (by omega), if_pos (by omega), if_pos (by omega), e1, show wrap64 ((i : Int) + 1) = ((i + 1 : Nat) : Int) by rw [w64 (by omega) (by omega)]; omega]) k2⟩
    intro a b d
    simp only [List.length_cons] at d
    have w : wrap64 (n + c.length) = n + c.length := w64 (by omega) (by omega)
    rw [w] at k1
    rw [k1 a (by omega) (by omega)]
    simp only [tot]
    omega
theorem RightD (m : Int) (l : List (List Int)) (hs : SegsLim l) (hl : l.length ≤ 5864062014634) : ∃ b : Bool, (b = true → 1 ≤ m ∧ m ≤ 1048576 ∧ l.length ≤ 60 ∧ tot l ≤ 900) ∧ Ev (fun k => marlinelaw07_right.f k m l) b := by
  obtain ⟨n', k1, k2⟩ := Right_l0 m l hs hl l 0 0 rfl
  refine ⟨_, ?_, k2⟩
  intro h
  by_cases h1 : m ≥ 1 ∧ m ≤ 1048576 ∧ (l.length : Int) ≤ 60
  · rw [if_pos h1, decide_eq_true_iff] at h
    have := k1 (by omega) (by omega) (by omega)
    exact ⟨by omega, by omega, by omega, by omega⟩
  · rw [if_neg h1] at h; cases h
theorem segs_ok (m : Int) (l : List Int) (h : l.length ≤ 100000) : SegsOk (sfeed m s00 l).1 := by
  have h1 := sok0 h
  have h2 := (Sok.after (m := m) (n := 0) (l := l) (by rw [Nat.zero_add]; exact h1)).2
  exact ⟨by omega, fun x hx => by have := sfeed_seg l s00 h1 x hx; unfold Lim; omega⟩
end Go.Proofs.Ytjmclghjhnbafaa.Sp

/- The statement SyncCuts, in plain words: chunks play no part. -/
namespace Go.Proofs.Ytjmclghjhnbafaa.Sp
open Go.RowKit Go.Proofs.Ytjmclghjhnbafaa.Print Go.Proofs.YtjmclghjhnbafaaW.PrintWords Go.Proofs.YtjmclghjhnbafaaW.PrintLast Go.Proofs.Ytjmclghjhnbafaa.Pl
set_option linter.unusedVariables false
theorem Cuts_l1 (m : Int) (l : List Int) (hl : l.length ≤ 1000) : ∀ (t : List Int) (i : Nat) (s : Sst) (y : List S54), l.drop i = t → i ≤ l.length → (y, s) = sfeed m s00 (l.take i) →
    Ev (fun k => marlinelaw07_SyncCuts.l1 k l (sfeed m s00 l).1 y (l.length : Int) i m s.bits s.many s.any s.broken s.ones s.zero s.stuff m 0 false false 0 false false) true
  | [], i, s, y, h, hi, hy => by
    have h3 := drop_nil_len h
    rw [List.take_of_length_le h3] at hy
    have hy1 : y = (sfeed m s00 l).1 := congrArg Prod.fst hy
    subst hy1
    have hq := SameD (sfeed m s00 l).1 (segs_ok m l (by omega))
    refine Ev.step (fun k => by simp only [marlinelaw07_SyncCuts.l1]; rw [if_neg (by omega), FeedS0 m l (by omega)]) ?_
    exact Ev.bind hq (Ev.pos rfl (Ev.name (Ev.bind hq (Ev.now _))))
  | c :: t, i, s, y, h, hi, hy => by
    obtain ⟨e1, e2, e3⟩ := rd_drop h
    have ei : (l.take i).length = i := by rw [List.length_take]; omega
    have hs := Sok.after (m := m) (n := 1) (l := l.take i) (sok0 (by omega))
    rw [← hy, ei] at hs
    simp only at hs
    have ec : ((l.take ((wrap64 ((i : Int) + 1)) : Int).toNat).drop (i : Int).toNat) = [c] := by
      rw [suc i (by omega), Int.toNat_natCast, Int.toNat_natCast, List.drop_take, h]
      rw [show i + 1 - i = 1 by omega]
      rfl
    have hF := FeedS m s [c] hs.1
    have hfl := Sok.after (m := m) (n := 0) (l := [c]) hs.1
    refine Ev.step (fun k => by simp only [marlinelaw07_SyncCuts.l1]; rw [if_pos (by omega), if_pos (by omega), if_pos (by rw [suc i (by omega)]; omega), if_pos (by rw [suc i (by omega)]; omega), ec, hF, suc i (by omega)]) ?_
    simp only [List.length_cons, List.length_nil] at hfl
    refine Ev.name (Ev.pos (by simp only; omega) ?_)
    refine Cuts_l1 m l hl t (i + 1) (sfeed m s [c]).2 (y ++ (sfeed m s [c]).1) e2 (by omega) ?_
    have ht : l.take (i + 1) = l.take i ++ [c] := by
      rw [List.take_add_one]
      have h5 := congrArg (·[0]?) h
      simp only [List.getElem?_drop, Nat.add_zero, List.getElem?_cons_zero] at h5
      rw [h5]
      rfl
    rw [ht, sfeed_append, ← hy]
theorem Cuts_l0 (m : Int) (ls : List (List Int)) (hn : ls.length ≤ 60) : ∀ (t : List (List Int)) (i : Nat) (s : Sst) (y : List S54) (l : List Int), ls.drop i = t → l.length + tot t ≤ 900 → (y, s) = sfeed m s00 l →
    Ev (fun k => marlinelaw07_SyncCuts.l0 k l y ls (ls.length : Int) i m s.bits s.many s.any s.broken s.ones s.zero s.stuff m 0 false false 0 false false m 0 false false 0 false false) true
  | [], i, s, y, l, h, hi, hy => by
    have h3 := dropL_nil h
    have hy1 : y = (sfeed m s00 l).1 := congrArg Prod.fst hy
    subst hy1
    refine Ev.step (fun k => by simp only [marlinelaw07_SyncCuts.l0]; rw [if_neg (by omega)]) ?_
    simp only [tot] at hi
    exact Cuts_l1 m l (by omega) l 0 s00 [] rfl (by omega) (by rw [List.take_zero]; rfl)
  | c :: t, i, s, y, l, h, hi, hy => by
    obtain ⟨e1, e2, e3⟩ := rdL_drop h
    simp only [tot] at hi
    have ht := tot_nn t
    have hs := Sok.after (m := m) (n := c.length) (l := l) (sok0 (by omega))
    rw [← hy] at hs
    simp only at hs
    have hF := FeedS m s c hs.1
    have hfl := Sok.after (m := m) (n := 0) (l := c) (by rw [Nat.zero_add]; exact hs.1)
    refine Ev.step (fun k => by simp only [marlinelaw07_SyncCuts.l0]; rw [if_pos (by omega), if_pos (by omega), if_pos (by omega), e1, hF, suc i (by omega)]) ?_
    refine Ev.name (Ev.pos (by simp only; omega) (Ev.pos (by omega) ?_))
    refine Cuts_l0 m ls hn t (i + 1) (sfeed m s c).2 (y ++ (sfeed m s c).1) (l ++ c) e2 (by rw [List.length_append]; omega) ?_
    rw [sfeed_append, ← hy]
theorem SyncCuts : marlinelaw07_SyncCuts.Pure := by
  intro a0 l1 h0 hw
  obtain ⟨⟨hn, hn2⟩, hy⟩ := hw
  refine Ev.rounds ?_
  unfold marlinelaw07_SyncCuts.f
  refine Ev.bind Speaks07 (Ev.pos rfl ?_)
  obtain ⟨b, hb1, hb2⟩ := RightD a0 l1 (fun c hc => by have := (hy c hc).1.2; omega) (by omega)
  refine Ev.bind hb2 ?_
  cases b with
  | false => exact Ev.step (fun k => by simp only [marlinelaw07_SyncCuts.j0]; rw [if_pos (by decide)]) (Ev.bind Speaks07 (Ev.now _))
  | true =>
    obtain ⟨_, _, q1, q2⟩ := hb1 rfl
    refine Ev.step (fun k => by simp only [marlinelaw07_SyncCuts.j0]; rw [if_neg (by decide)]) ?_
    exact Cuts_l0 a0 l1 q1 l1 0 s00 [] [] rfl (by simp only [List.length_nil]; omega) rfl
end Go.Proofs.Ytjmclghjhnbafaa.Sp

/- The plain part of marlinelaw07.SyncCuts: its printed form gives true for every input in its kinds' ranges. -/
namespace Go.Proofs.Ytjmclghjhnbafaa.Pure
open Go.Proofs.Ytjmclghjhnbafaa.Print
theorem SyncCuts : marlinelaw07_SyncCuts.Pure := Go.Proofs.Ytjmclghjhnbafaa.Sp.SyncCuts
end Go.Proofs.Ytjmclghjhnbafaa.Pure

/- Words on rows of rows, for the law's row. No condition. -/
namespace Go.Proofs.Ytjmclghjhnbafaa.Print
open Go.RowKit Go.Proofs.YtjmclghjhnbafaaW.PrintWords Go.Proofs.YtjmclghjhnbafaaW.PrintLast Go.Proofs.YtjmclghjhnbafaaW.PrintMore
/-! ### how what came in reads: words of this claim's own, over any program -/
namespace XRow
variable {H : Type} {enc : TypeId × Value → H} {P : Program} {w : World} {α : Type}
/-- Whatever reads as data at type t, no heavier than a machine reaches, holds the cells of one x of kind d, in its range. -/
def Opens (enc : TypeId × Value → H) (P : Program) (w : World) (t : TypeId) (d : Kd α) (wf : α → Prop) : Prop :=
  ∀ fuel cs x, DataW.trod enc P w 0 (fun _ => true) true fuel t cs = some x → (∀ n ∈ x.1.weights P t, n ≤ reachBytes) → ∃ a, d.K w a cs ∧ wf a
theorem opens_int {t : TypeId} {k : IntKind} (ht : P.underlying t = some (.int k)) : Opens enc P w t (Kd.int k) (fun n => (Lit.int k n).wf = true) := by
  intro fuel cs x hx _
  obtain ⟨n, rfl, _, hw⟩ := DataW.trod_int ht hx
  exact ⟨n, rfl, hw⟩
theorem opens_bool {t : TypeId} (ht : P.underlying t = some .bool) : Opens enc P w t Kd.bool (fun _ => True) := by
  intro fuel cs x hx _
  obtain ⟨b, rfl, _⟩ := DataW.trod_bool ht hx
  exact ⟨b, rfl, trivial⟩
theorem cells_at {a : Addr} {n : Nat} {cs : List Value} (h : w.cells? 0 a n = some cs) : cs.length = n ∧ ∀ i u, cs[i]? = some u → w.cell? (a.add i) = some u := by
  obtain ⟨_, hlen, hc⟩ := World.cells?_some h
  refine ⟨hlen, fun i u hu => ?_⟩
  have hi : i < n := by rw [← hlen]; exact (List.getElem?_eq_some_iff.1 hu).1
  rw [← hu]
  exact hc i hi
theorem weights_all {e : TypeId} : ∀ {ds : List (DataW H)} {d : DataW H}, d ∈ ds → ∀ n ∈ d.weights P e, n ∈ DataW.weightsAll P e ds
  | [], _, h, _, _ => by simp at h
  | _ :: ds, d, h, n, hn => by
    simp only [DataW.weightsAll, List.mem_append]
    rcases List.mem_cons.1 h with rfl | h
    · exact Or.inl hn
    · exact Or.inr (weights_all h n hn)
theorem opens_slice {t e : TypeId} {d : Kd α} {wf : α → Prop} (ht : P.underlying t = some (.slice e)) (hC : P.cellsOf e = d.sz) {B : Nat} (hB : P.bytesOf e = B) (hE : Opens enc P w e d wf) :
    Opens enc P w t (Kd.slice e d) (fun l => (l.length ≤ 9223372036854775807 ∧ l.length * B ≤ 140737488351232) ∧ ∀ y ∈ l, wf y) := by
  intro fuel cs x hx hz
  rcases DataW.trod_slice ht hx with ⟨rfl, _⟩ | ⟨a, len, cap, elems, rest, n, _, rfl, he, _, hl, hm, hlen, hel, _, _⟩
  · exact ⟨[], ⟨none, 0, rfl, Nat.le_refl _, Kd.C_nil d w⟩, by simp, by simp⟩
  have hm' : cap ≤ 9223372036854775807 := by simpa [maxLen] using hm
  subst he
  simp only [DataW.weights, ht, List.mem_cons, List.mem_append] at hz
  have hB' : len * B ≤ 140737488351232 := by
    have h1 := hz _ (Or.inl rfl)
    rw [hB, List.length_map, hlen] at h1
    exact Nat.le_trans (Nat.mul_le_mul_right _ (Nat.le_add_right _ _)) h1
  have key : ∀ i, i < len → ∃ y, ∃ c, w.cells? 0 (a.add (i * d.sz)) d.sz = some c ∧ d.K w y c ∧ wf y := by
    intro i hi
    have h := hel i hi
    rw [hC, List.getElem?_eq_getElem (by omega)] at h
    obtain ⟨c, hc, ht⟩ := Option.bind_eq_some_iff.1 h
    obtain ⟨y, hk, hw⟩ := hE n c _ ht (fun m hm => hz m (Or.inr (Or.inl (weights_all (List.mem_map.2 ⟨_, List.getElem_mem _, rfl⟩) m hm))))
    exact ⟨y, c, hc, hk, hw⟩
  have hf : ∃ f : (i : Nat) → i < len → α, ∀ i (hi : i < len), ∃ c, w.cells? 0 (a.add (i * d.sz)) d.sz = some c ∧ d.K w (f i hi) c ∧ wf (f i hi) :=
    ⟨fun i hi => Classical.choose (key i hi), fun i hi => Classical.choose_spec (key i hi)⟩
  obtain ⟨f, hf⟩ := hf
  have hll : (List.ofFn (fun i : Fin len => f i.1 i.2)).length = len := by simp
  refine ⟨List.ofFn (fun i : Fin len => f i.1 i.2), ⟨some a, cap, by rw [hll], by rw [hll]; exact hl, rfl, by rw [hll]; omega, fun _ => ⟨a, rfl, fun j p hj => ?_⟩⟩, ⟨by rw [hll]; omega, by rw [hll]; exact hB'⟩, fun y hy => ?_⟩
  · obtain ⟨hj1, hj2⟩ := List.getElem?_eq_some_iff.1 hj
    rw [hll] at hj1
    have e : f j hj1 = p := by rw [← hj2]; simp
    obtain ⟨c, hc, hk, _⟩ := hf j hj1
    obtain ⟨hcl, hcc⟩ := cells_at hc
    refine ⟨c, hcl, e ▸ hk, fun i u hu => ?_⟩
    have h := hcc i u hu
    rwa [add_add] at h
  · obtain ⟨⟨i, hi⟩, rfl⟩ := List.mem_ofFn.1 hy
    obtain ⟨_, _, _, hw⟩ := hf i hi
    exact hw
theorem field_weights {t : TypeId} {fs : Array Field} {xs : List (DataW H × List MemPlace)} (ht : P.underlying t = some (.struct fs)) (hz : ∀ n ∈ (DataW.agg (xs.map (·.1))).weights P t, n ≤ reachBytes) {j : Nat} {f : Field} {x : DataW H × List MemPlace} (hf : fs[j]? = some f) (hx : xs[j]? = some x) : ∀ n ∈ x.1.weights P f.type, n ≤ reachBytes := by
  intro n hn
  refine hz n ?_
  simp only [DataW.weights, ht]
  exact DataW.weights_mem_each (j := j) (by simp [hf]) (by simp [hx]) n hn
theorem arg_weights {ts : List TypeId} {ds : List (DataW H)} (hsz : (DataW.weightsEach P ts ds).all (· ≤ reachBytes) = true) {j : Nat} {t : TypeId} {d : DataW H} (ht : ts[j]? = some t) (hd : ds[j]? = some d) : ∀ n ∈ d.weights P t, n ≤ reachBytes :=
  fun n hn => by simpa using List.all_eq_true.1 hsz n (DataW.weights_mem_each ht hd n hn)
theorem seg (cs : List Value) (o s : Nat) : cs.drop o = (cs.drop o).take s ++ cs.drop (o + s) := by rw [← List.drop_drop, List.take_append_drop]
theorem seg_last {cs : List Value} {o s : Nat} (h : cs.length = o + s) : cs.drop o = (cs.drop o).take s := by rw [List.take_of_length_le]; rw [List.length_drop]; omega
end XRow
end Go.Proofs.Ytjmclghjhnbafaa.Print
