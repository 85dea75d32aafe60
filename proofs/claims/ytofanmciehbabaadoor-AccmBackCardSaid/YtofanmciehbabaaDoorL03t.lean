/- The statements AccmTells and AccmBack, in plain words: true of any maps and any octets. No condition. -/
import Derived.Test.YtofanmciehbabaaDoorS03b
import Derived.Test.YtofanmciehbabaaDoorL03w
import Derived.Test.YtofanmciehbabaaDoorPrintMarlinelaw03AccmTells
import Derived.Test.YtofanmciehbabaaDoorPrintMarlinelaw03AccmBack
namespace Go.Proofs.YtofanmciehbabaaDoor.Sp
open Go.RowKit Go.Proofs.YtofanmciehbabaaDoor.Print Go.Proofs.YtofanmciehbabaaDoorW.PrintWords Go.Proofs.YtofanmciehbabaaDoorW.PrintLast Go.Proofs.YtofanmciehbabaaDoor.Pl
set_option linter.unusedVariables false
def allIn (a b : Int) (i : Nat) : Bool := (List.range' i (256 - i)).all fun c : Nat => !has a (c : Int) || has b (c : Int)
theorem allIn_win {a b : Int} (A : U32 a) (B : U32 b) : allIn a b 0 = win a.toNat b.toNat := by
  rw [Bool.eq_iff_iff, win_iff A.nat B.nat]
  unfold allIn
  rw [List.all_eq_true]
  constructor
  · intro h i hi
    have h32 : i < 32 := by
      rcases Nat.lt_or_ge i 32 with h1 | h1
      · exact h1
      · rw [tb_big A.nat h1] at hi; cases hi
    have := h i (by rw [List.mem_range'_1]; omega)
    rw [has_bit A, has_bit B, hi] at this
    simpa using this
  · intro h i _
    rw [has_bit A, has_bit B]
    cases h1 : a.toNat.testBit i with
    | false => rfl
    | true => rw [h i h1]; rfl
theorem tells_l0 {a b : Int} (A : U32 a) (B : U32 b) : ∀ (n i : Nat) (x : Bool), 256 - i = n → i ≤ 256 → (x && allIn a b i) = win a.toNat b.toNat → Ev (fun k => marlinelaw03_AccmTells.l0 k a b x (i : Int)) true := by
  intro n
  induction n with
  | zero =>
    intro i x h1 h2 h3
    have e : allIn a b i = true := by unfold allIn; rw [h1]; rfl
    rw [e, Bool.and_true] at h3
    refine Ev.step (fun k => by simp only [marlinelaw03_AccmTells.l0]; rw [if_neg (by omega)]) (Ev.bind (ListA A) (Ev.bind (rListA A) ?_))
    refine Ev.bind (Equal _ _ (by unfold Lim; have := lst_len a.toNat; omega)) (Ev.pos (by simp) ?_)
    rw [WithinA A B]
    exact Ev.name (Ev.end_ (by rw [h3]; simp))
  | succ n ih =>
    intro i x h1 h2 h3
    have e : allIn a b i = ((!has a (i : Int) || has b (i : Int)) && allIn a b (i + 1)) := by
      unfold allIn
      rw [show 256 - i = (256 - (i + 1)) + 1 by omega, List.range'_succ, List.all_cons]
    rw [e] at h3
    have hi : Byte (i : Int) := ⟨by omega, by omega⟩
    refine Ev.step (fun k => by simp only [marlinelaw03_AccmTells.l0]; rw [if_pos (by omega), Int.emod_eq_of_lt (by omega) (by omega), HasA A hi, Option.bind_some]) ?_
    refine Ev.bind (rHasA A hi) (Ev.neg (by simp) (Ev.bind (MustA A hi) (Ev.bind (rMustA A hi) ?_)))
    rw [show (must a (i : Int) != must a (i : Int)) = false by simp]
    refine Ev.step (fun k => by simp only [marlinelaw03_AccmTells.j1]; rw [if_neg (by decide), suc i (by omega)]) ?_
    cases x with
    | false => exact Ev.neg (by decide) (ih (i + 1) false (by omega) (by omega) (by simpa using h3))
    | true =>
      refine Ev.pos rfl (Ev.bind (rHasA A hi) ?_)
      cases ha : has a (i : Int) with
      | true =>
        refine Ev.pos rfl (Ev.bind (rHasA B hi) (ih (i + 1) _ (by omega) (by omega) ?_))
        rw [ha] at h3
        simpa using h3
      | false =>
        refine Ev.neg (by decide) (ih (i + 1) true (by omega) (by omega) ?_)
        rw [ha] at h3
        simpa using h3
theorem AccmTells : marlinelaw03_AccmTells.Pure := by
  intro a b ha hb
  have A := u32_of_wf ha
  have B := u32_of_wf hb
  refine Ev.rounds ?_
  unfold marlinelaw03_AccmTells.f
  exact Ev.bind Speaks03 (Ev.pos rfl (tells_l0 A B 256 0 true (by omega) (by omega) (by rw [Bool.true_and, allIn_win A B])))
/-! ### AccmBack -/
theorem back_end (a : Int) (A : U32 a) (l t : List Int) (j : Int) (hj : (t.length : Int) ≤ j) : Ev (fun k => marlinelaw03_AccmBack.l1 k a l t (t.length : Int) j) true := by
  refine Ev.step (fun k => by simp only [marlinelaw03_AccmBack.l1]; rw [if_neg (by omega)]) (Ev.bind (ListA A) ?_)
  have hB : Bytes (lst a.toNat) := fun y hy => by
    obtain ⟨i, rfl, h1, _⟩ := mem_lst.1 hy
    exact ⟨by omega, by omega⟩
  have hlen := lst_len a.toNat
  refine Ev.bind (OfA _ (by unfold Lim; omega) hB) (Ev.pos ?_ (Ev.bind (ListA A) (Ev.end_ ?_)))
  · have e : orl (lst a.toNat) 0 = a.toNat := Nat.eq_of_testBit_eq fun i => by
      rw [orl_bit _ _ _ hB, Nat.zero_testBit, Bool.false_or, Bool.eq_iff_iff]
      simp only [Bool.and_eq_true, decide_eq_true_eq]
      constructor
      · rintro ⟨h1, h2⟩
        obtain ⟨n, e1, _, e3⟩ := mem_lst.1 h2
        rw [show i = n by omega]
        exact e3
      · intro h
        have h32 : i < 32 := by
          rcases Nat.lt_or_ge i 32 with h1 | h1
          · exact h1
          · rw [tb_big A.nat h1] at h; cases h
        exact ⟨h32, mem_lst.2 ⟨i, rfl, h32, h⟩⟩
    rw [e, Int.toNat_of_nonneg A.1]
  · rw [decide_eq_true_eq]
    omega
theorem back_l2 (a : Int) (l t : List Int) (y j : Int) (hl : l.length ≤ 300) (E : Ev (fun k => marlinelaw03_AccmBack.l1 k a l t (t.length : Int) (wrap64 (j + 1))) true) : ∀ (r : List Int) (i : Nat) (x : Bool), l.drop i = r → (x || decide (y ∈ r)) = true → Ev (fun k => marlinelaw03_AccmBack.l2 k a l y x t (t.length : Int) j l (l.length : Int) (i : Int)) true
  | [], i, x, h, hx => by
    have h3 := drop_nil_len h
    have : x = true := by simpa using hx
    exact Ev.step (fun k => by simp only [marlinelaw03_AccmBack.l2]; rw [if_neg (by omega), if_pos this]) E
  | c :: r, i, x, h, hx => by
    obtain ⟨e1, e2, e3⟩ := rd_drop h
    by_cases hxx : x = true
    · exact Ev.step (fun k => by simp only [marlinelaw03_AccmBack.l2]; rw [if_pos (by omega), if_pos (by omega), if_pos (by omega), if_pos hxx, suc i (by omega)]) (back_l2 a l t y j hl E r (i + 1) true e2 rfl)
    · refine Ev.step (fun k => by simp only [marlinelaw03_AccmBack.l2]; rw [if_pos (by omega), if_pos (by omega), if_pos (by omega), if_neg hxx, e1, suc i (by omega)]) (back_l2 a l t y j hl E r (i + 1) (c == y) e2 ?_)
      have hf : x = false := by simpa using hxx
      rw [hf, Bool.false_or, decide_eq_true_eq, List.mem_cons] at hx
      rcases hx with rfl | hx
      · simp
      · simp [hx]
theorem back_l1 (a : Int) (A : U32 a) (l t : List Int) (hl : l.length ≤ 300) (ht : t.length ≤ 300) (hm : ∀ y ∈ t, y ∈ l) : ∀ (r : List Int) (i : Nat), t.drop i = r → Ev (fun k => marlinelaw03_AccmBack.l1 k a l t (t.length : Int) (i : Int)) true
  | [], i, h => back_end a A l t i (by have := drop_nil_len h; omega)
  | y :: r, i, h => by
    obtain ⟨e1, e2, e3⟩ := rd_drop h
    have ih := back_l1 a A l t hl ht hm r (i + 1) e2
    rw [← suc i (by omega)] at ih
    have hy : y ∈ l := hm y (by rw [← List.take_append_drop i t, h]; simp)
    exact Ev.step (fun k => by simp only [marlinelaw03_AccmBack.l1]; rw [if_pos (by omega), if_pos (by omega), if_pos (by omega), e1]; rfl) (back_l2 a l t y i hl ih l 0 false rfl (by simpa using hy))
theorem AccmBack : marlinelaw03_AccmBack.Pure := by
  intro a l ha _ _ hl
  have A := u32_of_wf ha
  have B := bytes_of_wf hl
  refine Ev.rounds ?_
  unfold marlinelaw03_AccmBack.f
  refine Ev.bind Speaks03 (Ev.pos rfl ?_)
  by_cases hq : (l.length : Int) > 300
  · rw [decide_eq_true hq]
    exact Ev.step (fun k => by simp only [marlinelaw03_AccmBack.j0]; rw [if_pos trivial]) (Ev.bind Speaks03 (Ev.now _))
  rw [decide_eq_false hq]
  have hL : Lim l := by unfold Lim; omega
  have hlt := orl_lt l 0 B (by omega)
  have O : U32 ((orl l 0 : Nat) : Int) := ⟨by omega, by omega⟩
  have hbit : ∀ i : Nat, has ((orl l 0 : Nat) : Int) (i : Int) = (decide (i < 32) && decide ((i : Int) ∈ l)) := fun i => by
    rw [has_bit O, Int.toNat_natCast, orl_bit l 0 i B, Nat.zero_testBit, Bool.false_or]
  refine Ev.step (fun k => by simp only [marlinelaw03_AccmBack.j0]; rw [if_neg (by decide)]) (Ev.bind (OfA l hL B) ?_)
  have go : ∀ (r : List Int) (i : Nat), l.drop i = r → Ev (fun k => marlinelaw03_AccmBack.l0 k a l ((orl l 0 : Nat) : Int) l (l.length : Int) (i : Int)) true := by
    intro r
    induction r with
    | nil =>
      intro i h
      have h3 := drop_nil_len h
      refine Ev.step (fun k => by simp only [marlinelaw03_AccmBack.l0]; rw [if_neg (by omega)]) (Ev.bind (ListA O) ?_)
      have hlen := lst_len ((orl l 0 : Nat) : Int).toNat
      refine back_l1 a A l _ (by omega) (by omega) ?_ _ 0 rfl
      intro y hy
      obtain ⟨n, rfl, h1, h2⟩ := mem_lst.1 hy
      have := hbit n
      rw [has_bit O, h2] at this
      have := this.symm
      simp only [Bool.and_eq_true, decide_eq_true_eq] at this
      exact this.2
    | cons c r ih =>
      intro i h
      obtain ⟨e1, e2, e3⟩ := rd_drop h
      have hc : c ∈ l := by rw [← List.take_append_drop i l, h]; simp
      have hcb := B c hc
      have e : has ((orl l 0 : Nat) : Int) c = decide (c < 32) := by
        obtain ⟨n, rfl⟩ := Int.eq_ofNat_of_zero_le hcb.1
        rw [hbit n, decide_eq_true hc, Bool.and_true, decide_eq_decide]
        omega
      refine Ev.step (fun k => by simp only [marlinelaw03_AccmBack.l0]; rw [if_pos (by omega), if_pos (by omega), if_pos (by omega), e1, HasA O hcb, Option.bind_some, suc i (by omega)]) ?_
      exact Ev.neg (by rw [e]; simp) (ih (i + 1) e2)
  exact go l 0 rfl
end Go.Proofs.YtofanmciehbabaaDoor.Sp
