/- A text that a program of this claim (wip/x) laid out of the translation: what Go functions come to, and that they come to it. Lean checks it. -/
import Derived.Test.YtgjeahgagciagaaPrint0
namespace Go.Proofs.Ytgjeahgagciagaa.Print
open Go.RowKit Go.Proofs.YtgjeahgagciagaaW.PrintWords Go.Proofs.YtgjeahgagciagaaW.PrintLast Go.Proofs.YtgjeahgagciagaaW.PrintMore
attribute [local go_sem] max2_int min2_int max_two min_two max_three min_three max_four min_four   -- for this text's walks alone
set_option linter.unusedVariables false
set_option linter.unusedSimpArgs false

/-! ### tlv_Same: function 18 -/
def tlv_Same.one (x y : S57) : Bool := x.f0 == y.f0 && (strOfNums x.f1).toList == (strOfNums y.f1).toList
def tlv_Same.f (l0 l1 : List S57) : Option Bool := some (l0.length == l1.length && (l0.zip l1).all fun p => tlv_Same.one p.1 p.2)
set_option maxHeartbeats 8000000 in
set_option maxRecDepth 100000 in
theorem tlv_Same.eq (A0 : Option Addr) (c0 : Nat) (l0 : List Int) (A1 : Option Addr) (c1 : Nat) (l1 : List Int) (w : World) (hr0 : Kd.C (Kd.int .u8) w A0 l0.length l0) (hr1 : Kd.C (Kd.int .u8) w A1 l1.length l1) :
    Calls Try.prog 45 #[.slice A0 l0.length c0, .slice A1 l1.length c1] w fun e w' => e = .returned (.bool ((strOfNums l0).toList == (strOfNums l1).toList)) ∧ w' = w := by
  have h0 := Kd.C_string (c := c0) Try.underlying23 Try.underlying5 Try.underlying9 hr0
  have h1 := Kd.C_string (c := c1) Try.underlying23 Try.underlying5 Try.underlying9 hr1
  go_enter Try.func45, Try.ntmps45
  go_wp2
  go_ret
  exact ⟨rfl, rfl⟩
set_option maxHeartbeats 8000000 in
set_option maxRecDepth 100000 in
theorem tlv_Same.two (x y : S57) (A0 : Option Addr) (c0 : Nat) (A1 : Option Addr) (c1 : Nat) (w : World) (hr0 : Kd.C (Kd.int .u8) w A0 x.f1.length x.f1) (hr1 : Kd.C (Kd.int .u8) w A1 y.f1.length y.f1) :
    Calls Try.prog 44 #[.agg #[.int .u8 x.f0, .slice A0 x.f1.length c0], .agg #[.int .u8 y.f0, .slice A1 y.f1.length c1]] w fun e w' => e = .returned (.bool (tlv_Same.one x y)) ∧ Below w.heap.size w w' := by
  have hu := Try.underlying57
  have HR0 := Aside0.mk hr0
  have HR1 := Aside0.mk hr1
  clear hr0 hr1
  have HB := Aside0.mk (Below.refl w.heap.size w)
  go_enter Try.func44, Try.ntmps44
  go_wp2_with (first | (go_at_call 45; refine (tlv_Same.eq _ _ x.f1 _ _ y.f1 _ ?s1 ?s2).mono ?_; (case s1 => repeat (first | exact HR0.out | (with_reducible refine Kd.C_alloc ?_ _))); (case s2 => repeat (first | exact HR1.out | (with_reducible refine Kd.C_alloc ?_ _))); rintro e w' ⟨rfl, rfl⟩))
  · rename_i h
    go_ret
    exact ⟨by simp [tlv_Same.one, h], by repeat (first | exact HB.out | apply below_alloc)⟩
  · rename_i h
    go_ret
    exact ⟨by simp [tlv_Same.one, h], by repeat (first | exact HB.out | apply below_alloc)⟩
theorem tlv_Same.all_true (l0 l1 : List S57) (h : ∀ j : Nat, j < l0.length → j < l1.length → tlv_Same.one (rd_T57 l0 j) (rd_T57 l1 j) = true) : ((l0.zip l1).all fun p => tlv_Same.one p.1 p.2) = true := by
  rw [List.all_eq_true]
  intro p hp
  obtain ⟨j, hj, rfl⟩ := List.mem_iff_getElem.1 hp
  rw [List.length_zip] at hj
  have := h j (by omega) (by omega)
  simp only [rd_T57, Int.toNat_natCast, List.getD_eq_getElem?_getD] at this
  rw [List.getElem?_eq_getElem (by omega), List.getElem?_eq_getElem (by omega)] at this
  simpa using this
theorem tlv_Same.all_false (l0 l1 : List S57) (j : Nat) (h0 : j < l0.length) (h1 : j < l1.length) (h : tlv_Same.one (rd_T57 l0 j) (rd_T57 l1 j) = false) : ((l0.zip l1).all fun p => tlv_Same.one p.1 p.2) = false := by
  rw [← Bool.not_eq_true, List.all_eq_true]
  intro hp
  have := hp (l0[j], l1[j]) (List.mem_iff_getElem.2 ⟨j, by rw [List.length_zip]; omega, by simp⟩)
  simp only [rd_T57, Int.toNat_natCast, List.getD_eq_getElem?_getD] at h
  rw [List.getElem?_eq_getElem (by omega), List.getElem?_eq_getElem (by omega)] at h
  simp only [Option.getD_some] at h
  simp only [h] at this
  cases this
set_option maxHeartbeats 8000000 in
set_option maxRecDepth 100000 in
theorem tlv_Same.whole (A0 : Option Addr) (c0 : Nat) (l0 : List S57) (A1 : Option Addr) (c1 : Nat) (l1 : List S57) (w : World) (hr0 : Kd.C k57 w A0 l0.length l0) (hr1 : Kd.C k57 w A1 l1.length l1) (hl : l0.length ≤ 9223372036854775807) :
    Calls Try.prog 43 #[.slice A0 l0.length c0, .slice A1 l1.length c1, .func (.func 44) #[] #[]] w fun e w' => e = .returned (.bool (l0.length == l1.length && (l0.zip l1).all fun p => tlv_Same.one p.1 p.2)) ∧ Below w.heap.size w w' := by
  have hu := Try.underlying57
  have HR0 := Aside0.mk hr0
  have HR1 := Aside0.mk hr1
  clear hr0 hr1
  have HB := Aside0.mk (Below.refl w.heap.size w)
  by_cases he : l0.length = l1.length
  · have HE := Aside0.mk he
    have HE' : Aside0 ((l0.length == l1.length) = true) := ⟨by simp [he]⟩
    have c3b0 : ((l0.length : Int) == (l1.length : Int)) = true := by simp [he]
    have c3b1 : ((l0.length : Int) != (l1.length : Int)) = false := by simp [he]
    have c3b2 : (l0.length == l1.length) = true := by simp [he]
    clear he
    go_enter Try.func43, Try.ntmps43
    go_wp2
    go_loopg [17] (l0.length + 1) (fun kq v17 w' => ∃ (x : Int), v17 = .int .i64 x ∧ Aside0 (0 ≤ x ∧ x.toNat + kq = l0.length + 1) ∧ Aside0 (∀ j : Nat, (j : Int) < x → tlv_Same.one (rd_T57 l0 j) (rd_T57 l1 j) = true) ∧ Aside0 (Below w.heap.size w w'))
    case atStart => exact ⟨0, rfl, ⟨Int.le_refl _, by simp⟩, ⟨fun j h => absurd h (by omega)⟩, HB⟩
    case round =>
      obtain ⟨x, rfl, hk, hj, HB⟩ := hrel
      by_cases hi : x < (l0.length : Int)
      · have hi0 : decide (x < (l0.length : Int)) = true := decide_eq_true hi
        have hi1 : decide (x < (l1.length : Int)) = true := decide_eq_true (by have := HE.out; omega)
        have p0 : 0 ≤ x := hk.out.1
        have p0b : decide (0 ≤ x) = true := decide_eq_true p0
        have q1 : x < (l1.length : Int) := by have := HE.out; omega
        obtain ⟨ad0, B0, d0, e0, hx00, hx01, hl0, hi0_⟩ := at_T57 HR0.out x p0 hi
        obtain ⟨ad1, B1, d1, e1, hx10, hx11, hl1, hi1_⟩ := at_T57 HR1.out x p0 q1
        cases e0
        cases e1
        replace hx00 := (HB.out.cell (World.block_lt_of_cell? w _ hx00)).trans hx00
        replace hx01 := (HB.out.cell (World.block_lt_of_cell? w _ hx01)).trans hx01
        replace hx10 := (HB.out.cell (World.block_lt_of_cell? w _ hx10)).trans hx10
        replace hx11 := (HB.out.cell (World.block_lt_of_cell? w _ hx11)).trans hx11
        have hx10a : ∀ o, (wr.alloc o).cell? (ad1.add (x.toNat * 2)) = some (.int .u8 (rd_T57 l1 x).f0) := fun o => ((below_alloc (Below.refl _ wr) o).cell (World.block_lt_of_cell? wr _ hx10)).trans hx10
        have hx11a : ∀ o, (wr.alloc o).cell? ⟨(ad1.add (x.toNat * 2)).block, (ad1.add (x.toNat * 2)).off + 1, none⟩ = some (.slice B1 (rd_T57 l1 x).f1.length d1) := fun o => ((below_alloc (Below.refl _ wr) o).cell (World.block_lt_of_cell? wr _ hx11)).trans hx11
        clear hx10 hx11
        have I0 := Aside0.mk hi0_
        have I1 := Aside0.mk hi1_
        clear hi0_ hi1_
        have P0 := Aside0.mk p0
        have HI := Aside0.mk hi
        replace p0 := eq_true p0
        replace hi := eq_true hi
        replace q1 := eq_true q1
        cases gk with
        | zero =>
          have := hk.out.2
          have := HI.out
          omega
        | succ k1 =>
          have CC := fun W (h0 : Kd.C (Kd.int .u8) W B0 (rd_T57 l0 x).f1.length (rd_T57 l0 x).f1) (h1 : Kd.C (Kd.int .u8) W B1 (rd_T57 l1 x).f1.length (rd_T57 l1 x).f1) => tlv_Same.two (rd_T57 l0 x) (rd_T57 l1 x) B0 d0 B1 d1 W h0 h1
          have HW := HB.out
          have hne : ∀ b : Bool, b = tlv_Same.one (rd_T57 l0 x) (rd_T57 l1 x) → (b = true ∨ b = false) := fun b _ => by cases b <;> simp
          rcases hq : tlv_Same.one (rd_T57 l0 x) (rd_T57 l1 x) with _ | _
          · rw [hq] at CC
            go_wp2_with (first | (go_at_call 44; refine (CC _ ?s1 ?s2).mono ?_; (case s1 => repeat (first | exact Kd.C_below I0.out HB.out | (with_reducible refine Kd.C_alloc ?_ _))); (case s2 => repeat (first | exact Kd.C_below I1.out HB.out | (with_reducible refine Kd.C_alloc ?_ _))); rintro e w' ⟨rfl, hb⟩; have HB2 := Aside0.mk (below_step (by repeat (first | exact HB.out | apply below_alloc)) hb); clear hb))
            go_ret
            refine ⟨?_, HB2.out⟩
            rw [tlv_Same.all_false l0 l1 x.toNat (by have := HI.out; have := P0.out; omega) (by have := HI.out; have := P0.out; have := HE.out; omega) (by rw [Int.toNat_of_nonneg P0.out]; exact hq), Bool.and_false]
            rfl
          · rw [hq] at CC
            go_wp2_with (first | (go_at_call 44; refine (CC _ ?s1 ?s2).mono ?_; (case s1 => repeat (first | exact Kd.C_below I0.out HB.out | (with_reducible refine Kd.C_alloc ?_ _))); (case s2 => repeat (first | exact Kd.C_below I1.out HB.out | (with_reducible refine Kd.C_alloc ?_ _))); rintro e w' ⟨rfl, hb⟩; have HB2 := Aside0.mk (below_step (by repeat (first | exact HB.out | apply below_alloc)) hb); clear hb))
            have hx1 : wrap64 (x + 1) = x + 1 := by have := HI.out; have := P0.out; unfold wrap64; omega
            go_roundg k1
            case measure => omega
            case rel =>
              refine ⟨wrap64 (x + 1), (by first | rfl | (simp; done)), ⟨?_⟩, ⟨?_⟩, HB2⟩
              · have := hk.out
                rw [hx1]
                omega
              · intro j hj'
                rw [hx1] at hj'
                by_cases hjx : (j : Int) < x
                · exact hj.out j hjx
                · obtain rfl : (j : Int) = x := by omega
                  exact hq
      · have hi0 : decide (x < (l0.length : Int)) = false := decide_eq_false hi
        go_wp2
        go_ret
        refine ⟨?_, HB.out⟩
        have e := tlv_Same.all_true l0 l1 (fun j h0 _ => hj.out j (by omega))
        first | (rw [HE'.out, e]; rfl) | (rw [e]; rfl)
  · have he' : (l0.length == l1.length) = false := by simp [he]
    have c3b1 : ((l0.length : Int) != (l1.length : Int)) = true := by simp; omega
    go_enter Try.func43, Try.ntmps43
    go_wp2
    go_ret
    refine ⟨?_, HB.out⟩
    rw [he', Bool.false_and]
    rfl
set_option maxHeartbeats 8000000 in
set_option maxRecDepth 100000 in
theorem tlv_Same.calls (A0 : Option Addr) (c0 : Nat) (l0 : List S57) (A1 : Option Addr) (c1 : Nat) (l1 : List S57) (r : Bool) (w : World) (hr0 : Kd.C k57 w A0 l0.length l0) (hc0 : l0.length ≤ c0) (hr1 : Kd.C k57 w A1 l1.length l1) (hc1 : l1.length ≤ c1) (h : tlv_Same.f l0 l1 = some r) :
    Calls Try.prog 18 #[.slice A0 l0.length c0, .slice A1 l1.length c1] w fun e w' => e = .returned (.bool r) ∧ Below w.heap.size w w' := by
  obtain rfl := Option.some.inj h
  have CC := fun W (h0 : Kd.C k57 W A0 l0.length l0) (h1 : Kd.C k57 W A1 l1.length l1) => tlv_Same.whole A0 c0 l0 A1 c1 l1 W h0 h1 hr0.2.1
  clear h hc0 hc1
  have HR0 := Aside0.mk hr0
  have HR1 := Aside0.mk hr1
  clear hr0 hr1
  go_enter Try.func18, Try.ntmps18
  go_wp2_with (first | (go_at_call 43; refine (CC _ HR0.out HR1.out).mono ?_; rintro e w' ⟨rfl, hb⟩; have HB2 := Aside0.mk hb; clear hb))
  go_ret
  exact ⟨rfl, HB2.out⟩


end Go.Proofs.Ytgjeahgagciagaa.Print
