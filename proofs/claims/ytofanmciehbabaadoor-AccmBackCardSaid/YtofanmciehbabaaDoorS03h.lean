/- What telling whether an octet is in a map, or must be escaped, comes to, in plain words: the code's and the reference's. -/
import Derived.Test.YtofanmciehbabaaDoorS00
import Derived.Test.YtofanmciehbabaaDoorPrintAccmHas
import Derived.Test.YtofanmciehbabaaDoorPrintAccmMust
import Derived.Test.YtofanmciehbabaaDoorPrintMarlineref03Has
import Derived.Test.YtofanmciehbabaaDoorPrintMarlineref03Must
namespace Go.Proofs.YtofanmciehbabaaDoor.Sp
open Go.RowKit Go.Proofs.YtofanmciehbabaaDoor.Print Go.Proofs.YtofanmciehbabaaDoorW.PrintWords Go.Proofs.YtofanmciehbabaaDoorW.PrintLast Go.Proofs.YtofanmciehbabaaDoor.Pl
set_option linter.unusedVariables false
/-! ### maps -/
def U32 (m : Int) : Prop := 0 ≤ m ∧ m < 4294967296
/-- Is an octet in a map? -/
def has (m c : Int) : Bool := decide (m / 2 ^ c.toNat % 2 = 1)
theorem and1u {x : Int} (h : U32 x) : Go.bits .and .u32 x 1 = x % 2 := by
  obtain ⟨n, rfl⟩ := Int.eq_ofNat_of_zero_le h.1
  have h2 := h.2
  have h3 := u32_and_nat n 1 (by omega) (by omega)
  rw [Nat.and_one_is_mod] at h3
  rw [show ((1 : Nat) : Int) = 1 from rfl] at h3
  rw [h3]
  omega
theorem pow32 {j : Nat} (h : 32 ≤ j) : (4294967296 : Int) ≤ 2 ^ j := by
  have h9 : (2 : Nat) ^ 32 ≤ 2 ^ j := Nat.pow_le_pow_right (by omega) h
  have h8 := Int.ofNat_le.2 h9
  rw [Int.natCast_pow] at h8
  simpa using h8
theorem div_u32 {m : Int} (h : U32 m) (j : Nat) : U32 (m / 2 ^ j) := by
  have hp : (0 : Int) < 2 ^ j := Int.pow_pos (by omega)
  refine ⟨Int.ediv_nonneg h.1 (by omega), ?_⟩
  have := Int.ediv_le_self (2 ^ j) h.1
  have := h.2
  omega
theorem has_big {m c : Int} (h : U32 m) (hc : 32 ≤ c) : has m c = false := by
  unfold has
  rw [decide_eq_false_iff_not]
  have h1 := pow32 (j := c.toNat) (by omega)
  have h2 : m / 2 ^ c.toNat = 0 := Int.ediv_eq_zero_of_lt h.1 (by have := h.2; omega)
  rw [h2]
  decide
theorem bitsHas {m c : Int} (h : U32 m) (hc : Byte c) : ((Go.bits .and .u32 (shr .u32 m c) 1) == 1) = has m c := by
  have hc0 := hc.1
  by_cases h32 : c < 32
  · have e : shr .u32 m c = m / 2 ^ c.toNat := by
      unfold shr
      rw [Nat.min_eq_left (by simp [IntKind.bits]; omega)]
    rw [e, and1u (div_u32 h _)]
    unfold has
    rw [Bool.eq_iff_iff]
    simp
  · have e : shr .u32 m c = m / 2 ^ 32 := by
      unfold shr
      rw [Nat.min_eq_right (by simp [IntKind.bits]; omega)]
      rfl
    rw [e, and1u (div_u32 h _), has_big h (by omega)]
    have h2 : m / 2 ^ 32 = 0 := Int.ediv_eq_zero_of_lt h.1 (by have := h.2; omega)
    rw [h2]
    rfl
theorem HasA {m c : Int} (h : U32 m) (hc : Byte c) : accm_Has.f m c = some (has m c) := by
  unfold accm_Has.f
  rw [if_pos hc.1, bitsHas h hc]
def must (m c : Int) : Bool := decide (c = 126 ∨ c = 125) || has m c
theorem MustA {m c : Int} (h : U32 m) (hc : Byte c) : Ev (fun k => accm_Must.f k m c) (must m c) := by
  have j0 : ∀ b : Bool, Ev (fun k => accm_Must.j0 k m c b) (b || has m c) := by
    intro b
    cases b with
    | true => exact Ev.step (fun k => by simp only [accm_Must.j0]; rw [if_pos trivial]) (Ev.end_ (by simp))
    | false =>
      refine Ev.step (fun k => by simp only [accm_Must.j0]; rw [if_neg (by decide), HasA h hc, Option.bind_some]) (Ev.end_ (by simp))
  unfold accm_Must.f
  by_cases h1 : c = 126
  · refine Ev.pos h1 ?_
    have := j0 (c == 126)
    rw [show must m c = ((c == 126) || has m c) by unfold must; simp [h1]]
    exact this
  · refine Ev.neg h1 ?_
    have := j0 (c == 125)
    rw [show must m c = ((c == 125) || has m c) by unfold must; rw [Bool.eq_iff_iff]; simp [h1]]
    exact this
theorem rHas_l0 (m c : Int) (hc : c ≤ 31) : ∀ (d : Nat) (x i : Int), U32 x → 0 ≤ i → c - i = d → Ev (fun k => marlineref03_Has.l0 k x c i) (decide (x / 2 ^ d % 2 = 1))
  | 0, x, i, hx, h0, hd => by
    refine Ev.step (fun k => by simp only [marlineref03_Has.l0]; rw [if_neg (by omega), Int.tmod_eq_emod_of_nonneg hx.1]) (Ev.end_ ?_)
    rw [Bool.eq_iff_iff]
    simp
  | d + 1, x, i, hx, h0, hd => by
    have h2 := hx.2
    have h1 := hx.1
    have ih := rHas_l0 m c hc d (x / 2) (i + 1) ⟨by omega, by omega⟩ (by omega) (by omega)
    have e : x / 2 / 2 ^ d = x / 2 ^ (d + 1) := by rw [Int.ediv_ediv_of_nonneg (by omega), Int.pow_succ, Int.mul_comm]
    rw [e] at ih
    refine Ev.step (fun k => ?_) ih
    simp only [marlineref03_Has.l0]
    rw [if_pos (by omega), Int.tdiv_eq_ediv_of_nonneg h1, Int.emod_eq_of_lt (a := x / 2) (by omega) (by omega), Int.emod_eq_of_lt (a := i + 1) (by omega) (by omega)]
theorem rHasA {m c : Int} (h : U32 m) (hc : Byte c) : Ev (fun k => marlineref03_Has.f k m c) (has m c) := by
  unfold marlineref03_Has.f
  by_cases h1 : c > 31
  · exact Ev.pos h1 (Ev.end_ (has_big h (by omega)).symm)
  · have := rHas_l0 m c (by omega) c.toNat m 0 h (by omega) (by have := hc.1; omega)
    exact Ev.neg h1 this
theorem rMustA {m c : Int} (h : U32 m) (hc : Byte c) : Ev (fun k => marlineref03_Must.f k m c) (must m c) := by
  unfold marlineref03_Must.f must
  by_cases h1 : c = 125
  · exact Ev.pos h1 (Ev.end_ (by simp [h1]))
  · refine Ev.neg h1 ?_
    by_cases h2 : c = 126
    · exact Ev.pos h2 (Ev.end_ (by simp [h2]))
    · refine Ev.neg h2 ?_
      exact Ev.bind (rHasA h hc) (Ev.end_ (by simp [h1, h2]))
end Go.Proofs.YtofanmciehbabaaDoor.Sp
