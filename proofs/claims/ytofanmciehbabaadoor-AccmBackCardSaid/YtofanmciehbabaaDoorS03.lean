/- Maps of octets: within, the octets of a map, the map of octets, in plain words. -/
import Derived.Test.YtofanmciehbabaaDoorS03h
import Derived.Test.YtofanmciehbabaaDoorPrintBitsTrailingZeros32
import Derived.Test.YtofanmciehbabaaDoorPrintAccmWithin
import Derived.Test.YtofanmciehbabaaDoorPrintAccmList
import Derived.Test.YtofanmciehbabaaDoorPrintMarlinelaw03Speaks
namespace Go.Proofs.YtofanmciehbabaaDoor.Sp
open Go.RowKit Go.Proofs.YtofanmciehbabaaDoor.Print Go.Proofs.YtofanmciehbabaaDoorW.PrintWords Go.Proofs.YtofanmciehbabaaDoorW.PrintLast Go.Proofs.YtofanmciehbabaaDoor.Pl
set_option linter.unusedVariables false
/-! ### within -/
def win (a b : Nat) : Bool := (a &&& (4294967295 - b)) == 0
theorem tb_not {b i : Nat} (hb : b < 4294967296) : (4294967295 - b).testBit i = (decide (i < 32) && !b.testBit i) := by
  have h := Nat.testBit_two_pow_sub_succ (x := b) (n := 32) (by omega) i
  rw [show 2 ^ 32 - (b + 1) = 4294967295 - b by omega] at h
  exact h
theorem tb_big {a i : Nat} (ha : a < 4294967296) (hi : 32 ≤ i) : a.testBit i = false := by
  refine Nat.testBit_lt_two_pow (Nat.lt_of_lt_of_le ha ?_)
  exact Nat.pow_le_pow_right (n := 2) (by omega) hi
theorem win_iff {a b : Nat} (ha : a < 4294967296) (hb : b < 4294967296) : win a b = true ↔ ∀ i, a.testBit i = true → b.testBit i = true := by
  unfold win
  rw [beq_iff_eq]
  constructor
  · intro h i hi
    have h1 := congrArg (fun n => n.testBit i) h
    simp only [Nat.testBit_and, tb_not hb, Nat.zero_testBit, hi, Bool.true_and] at h1
    by_cases h2 : i < 32
    · simpa [h2] using h1
    · rw [tb_big ha (by omega)] at hi; cases hi
  · intro h
    refine Nat.eq_of_testBit_eq fun i => ?_
    rw [Nat.testBit_and, tb_not hb, Nat.zero_testBit]
    cases h2 : a.testBit i with
    | false => rfl
    | true => rw [h i h2]; simp
theorem U32.nat {a : Int} (h : U32 a) : a.toNat < 4294967296 := by have := h.1; have := h.2; omega
theorem WithinA {a b : Int} (ha : U32 a) (hb : U32 b) : accm_Within.f a b = some (win a.toNat b.toNat) := by
  unfold accm_Within.f win
  rw [u32_andNot a b ha.1 ha.2 hb.1 hb.2]
  congr 1
  rw [Bool.eq_iff_iff, beq_iff_eq, beq_iff_eq]
  omega
/-! ### how many 0s a number ends with -/
theorem TZn {n : Nat} (h0 : 0 < n) (h : n < 4294967296) : bits_TrailingZeros32.f (n : Int) = some (bits_TrailingZeros32.tab.getD (((n &&& (4294967296 - n)) * 125613361) % 4294967296 / 134217728) 0) := by
  unfold bits_TrailingZeros32.f bits_TrailingZeros32.ix
  rw [if_neg (by omega), show (-(n : Int)) % 4294967296 = ((4294967296 - n : Nat) : Int) by omega, u32_and_nat n _ h (by omega)]
  generalize (n &&& (4294967296 - n)) = k
  rw [show (k : Int) * 125613361 = ((k * 125613361 : Nat) : Int) by rw [Int.natCast_mul]; rfl]
  generalize k * 125613361 = z
  rw [show ((z : Int) % 4294967296 / 134217728).toNat = z % 4294967296 / 134217728 by omega]
theorem AndPred {n : Nat} (h0 : 0 < n) (h : n < 4294967296) : Go.bits .and .u32 (n : Int) (((n : Int) - 1) % 4294967296) = ((n &&& (n - 1) : Nat) : Int) := by
  rw [show ((n : Int) - 1) % 4294967296 = ((n - 1 : Nat) : Int) by omega, u32_and_nat n _ h (by omega)]
theorem Speaks03 : Ev (fun k => marlinelaw03_speaks.f k) true := by
  unfold marlinelaw03_speaks.f
  have hL : Ev (fun k => accm_List.f k 9) [0, 3] := by
    unfold accm_List.f
    have t9 : bits_TrailingZeros32.f 9 = some 0 := (TZn (n := 9) (by omega) (by omega)).trans (by decide)
    have t8 : bits_TrailingZeros32.f 8 = some 3 := (TZn (n := 8) (by omega) (by omega)).trans (by decide)
    have a9 : Go.bits .and .u32 9 (((9 : Int) - 1) % 4294967296) = 8 := (AndPred (n := 9) (by omega) (by omega)).trans (by decide)
    have a8 : Go.bits .and .u32 8 (((8 : Int) - 1) % 4294967296) = 0 := (AndPred (n := 8) (by omega) (by omega)).trans (by decide)
    refine Ev.step (fun k => by simp only [accm_List.l0]; rw [if_neg (by decide), t9, Option.bind_some, if_pos (by simp), a9]) ?_
    refine Ev.step (fun k => by simp only [accm_List.l0]; rw [if_neg (by decide), t8, Option.bind_some, if_pos (by simp), a8]) ?_
    exact Ev.step (fun k => by simp only [accm_List.l0]; rw [if_pos trivial]) (Ev.end_ (by decide))
  refine Ev.bind hL (Ev.bind (Equal _ [0, 3] (by unfold Lim; decide)) (Ev.pos (by decide) ?_))
  refine Ev.bind (MustA (m := 0) (c := 126) ⟨by omega, by omega⟩ ⟨by omega, by omega⟩) (Ev.end_ (by decide))
end Go.Proofs.YtofanmciehbabaaDoor.Sp
