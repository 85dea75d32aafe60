/- The octets of a map, in plain words. No condition. -/
import Derived.Test.YtppfoopecdmblaaDoorS04n
import Derived.Test.YtppfoopecdmblaaDoorPrintBitsTrailingZeros32
import Derived.Test.YtppfoopecdmblaaDoorPrintAccmList
namespace Go.Proofs.YtppfoopecdmblaaDoor.Sp
open Go.RowKit Go.Proofs.YtppfoopecdmblaaDoor.Print Go.Proofs.YtppfoopecdmblaaDoorW.PrintWords Go.Proofs.YtppfoopecdmblaaDoorW.PrintLast Go.Proofs.YtppfoopecdmblaaDoor.Pl
set_option linter.unusedVariables false
/-! ### within -/
theorem tb_big {a i : Nat} (ha : a < 4294967296) (hi : 32 ≤ i) : a.testBit i = false := by
  refine Nat.testBit_lt_two_pow (Nat.lt_of_lt_of_le ha ?_)
  exact Nat.pow_le_pow_right (n := 2) (by omega) hi
theorem U32.nat {a : Int} (h : U32 a) : a.toNat < 4294967296 := by have := h.1; have := h.2; omega
/-! ### how many 0s a number ends with -/
theorem TZn {n : Nat} (h0 : 0 < n) (h : n < 4294967296) : bits_TrailingZeros32.f (n : Int) = some (bits_TrailingZeros32.tab.getD (((n &&& (4294967296 - n)) * 125613361) % 4294967296 / 134217728) 0) := by
  unfold bits_TrailingZeros32.f bits_TrailingZeros32.ix
  rw [if_neg (by omega), show (-(n : Int)) % 4294967296 = ((4294967296 - n : Nat) : Int) by omega, u32_and_nat n _ h (by omega)]
  generalize (n &&& (4294967296 - n)) = k
  rw [show (k : Int) * 125613361 = ((k * 125613361 : Nat) : Int) by rw [Int.natCast_mul]; rfl]
  generalize k * 125613361 = z
  rw [show ((z : Int) % 4294967296 / 134217728).toNat = z % 4294967296 / 134217728 by omega]
theorem AndPred {n : Nat} (h0 : 0 < n) (h : n < 4294967296) : Go.bits .and .u32 (n : Int) (((n : Int) - 1) % 4294967296) = ((n &&& (n - 1) : Nat) : Int) := by
  rw [show ((n : Int) - 1) % 4294967296 = ((n - 1 : Nat) : Int) by omega, u32_and_nat n _ h (by omega)]
theorem low : ∀ (n X : Nat), X ≤ n → 0 < X → ∃ t q, X = 2 ^ t * (2 * q + 1)
  | 0, X, h1, h2 => by omega
  | n + 1, X, h1, h2 => by
    by_cases h : X % 2 = 1
    · exact ⟨0, X / 2, by rw [Nat.pow_zero]; omega⟩
    · obtain ⟨t, q, e⟩ := low n (X / 2) (by omega) (by omega)
      exact ⟨t + 1, q, by rw [Nat.pow_succ, Nat.mul_comm (2 ^ t) 2, Nat.mul_assoc, ← e]; omega⟩
theorem tb_odd (q s : Nat) : (2 * q + 1).testBit s = if s = 0 then true else q.testBit (s - 1) := by
  cases s with
  | zero => simp
  | succ s =>
    rw [Nat.testBit_succ, if_neg (by omega), show (2 * q + 1) / 2 = q by omega]
    rfl
theorem low_bits (t q i : Nat) : (2 ^ t * (2 * q + 1)).testBit i = (decide (t ≤ i) && (if i - t = 0 then true else q.testBit (i - t - 1))) := by
  rw [Nat.testBit_two_pow_mul, tb_odd]
theorem low_lt {t q : Nat} (h : 2 ^ t * (2 * q + 1) < 4294967296) : t < 32 := by
  rcases Nat.lt_or_ge t 32 with h1 | h1
  · exact h1
  · have h2 : 2 ^ 32 ≤ 2 ^ t := Nat.pow_le_pow_right (by omega) h1
    have h3 : 2 ^ t * 1 ≤ 2 ^ t * (2 * q + 1) := Nat.mul_le_mul_left _ (by omega)
    omega
theorem low_and {t q : Nat} (h : 2 ^ t * (2 * q + 1) < 4294967296) : (2 ^ t * (2 * q + 1)) &&& (4294967296 - 2 ^ t * (2 * q + 1)) = 2 ^ t := by
  have ht := low_lt h
  obtain ⟨d, hd⟩ : ∃ d, 31 - t = d := ⟨_, rfl⟩
  have e32 : (4294967296 : Nat) = 2 ^ t * (2 * 2 ^ d) := by
    rw [← Nat.pow_succ', ← Nat.pow_add, show t + (d + 1) = 32 by omega]
  have hq : 2 * q + 1 < 2 * 2 ^ d := by
    rw [e32] at h
    exact Nat.lt_of_mul_lt_mul_left h
  have er : 4294967296 - 2 ^ t * (2 * q + 1) = 2 ^ t * (2 * (2 ^ d - (q + 1)) + 1) := by
    rw [e32, ← Nat.mul_sub]
    congr 1
    omega
  rw [er]
  refine Nat.eq_of_testBit_eq fun i => ?_
  rw [Nat.testBit_and, low_bits, low_bits, Nat.testBit_two_pow]
  by_cases h1 : t ≤ i
  · by_cases h2 : i - t = 0
    · simp [h1, h2]
      omega
    · simp only [h1, decide_true, Bool.true_and, if_neg h2]
      rw [Nat.testBit_two_pow_sub_succ (by omega)]
      rw [show decide (t = i) = false by simp; omega]
      cases q.testBit (i - t - 1) <;> simp
  · rw [show decide (t ≤ i) = false by simp; omega, show decide (t = i) = false by simp; omega]
    rfl
theorem low_pred (t q i : Nat) : ((2 ^ t * (2 * q + 1)) &&& (2 ^ t * (2 * q + 1) - 1)).testBit i = ((2 ^ t * (2 * q + 1)).testBit i && decide (i ≠ t)) := by
  have hp : 0 < 2 ^ t := Nat.pow_pos (by omega)
  have e : 2 ^ t * (2 * q + 1) - 1 = 2 ^ t * (2 * q) + (2 ^ t - 1) := by
    rw [Nat.mul_add, Nat.mul_one]
    omega
  have hm : 2 ^ t - 1 < 2 ^ t := by omega
  clear hp
  rw [e, Nat.testBit_and, low_bits, Nat.testBit_two_pow_mul_add _ hm]
  clear e hm
  by_cases h1 : t ≤ i
  · rw [if_neg (show ¬ i < t by omega)]
    by_cases h2 : i - t = 0
    · rw [h2]
      have : i = t := by omega
      simp [this]
    · obtain ⟨s, hs⟩ : ∃ s, i - t = s + 1 := ⟨i - t - 1, by omega⟩
      have h4 : i ≠ t := by omega
      rw [hs, Nat.testBit_succ, show 2 * q / 2 = q by omega]
      simp [h1, h4]
  · rw [show decide (t ≤ i) = false by simp; omega]
    simp
theorem TZ {t q : Nat} (h : 2 ^ t * (2 * q + 1) < 4294967296) : bits_TrailingZeros32.f ((2 ^ t * (2 * q + 1) : Nat) : Int) = some (t : Int) := by
  have ht := low_lt h
  have hp : 0 < 2 ^ t * (2 * q + 1) := Nat.mul_pos (Nat.pow_pos (by omega)) (by omega)
  rw [TZn hp h, low_and h]
  have key : ∀ t : Fin 32, bits_TrailingZeros32.tab.getD ((2 ^ t.1 * 125613361) % 4294967296 / 134217728) 0 = (t.1 : Int) := by decide +kernel
  rw [key ⟨t, ht⟩]
/-! ### the octets of a map -/
def bitsFrom (X j : Nat) : List Nat := (List.range' j (32 - j)).filter fun i => X.testBit i
theorem range_split {j t : Nat} (h1 : j ≤ t) (h2 : t < 32) : List.range' j (32 - j) = List.range' j (t - j) ++ t :: List.range' (t + 1) (32 - (t + 1)) := by
  have := List.range'_append_1 (s := j) (m := t - j) (n := 32 - t)
  rw [show t - j + (32 - t) = 32 - j by omega, show j + (t - j) = t by omega] at this
  rw [← this]
  congr 1
  rw [show 32 - t = (32 - (t + 1)) + 1 by omega, List.range'_succ]
theorem bitsFrom_zero (j : Nat) : bitsFrom 0 j = [] := by
  unfold bitsFrom
  rw [List.filter_eq_nil_iff]
  intro i _
  simp
theorem List_l0 : ∀ (n X j : Nat) (out : List Int), 32 - j ≤ n → X < 4294967296 → (∀ i, i < j → X.testBit i = false) → out.length ≤ j → Ev (fun k => accm_List.l0 k (X : Int) out) (out ++ (bitsFrom X j).map Int.ofNat) := by
  intro n
  induction n with
  | zero =>
    intro X j out h1 h2 h3 h4
    have e : X = 0 := Nat.eq_of_testBit_eq fun i => by
      rw [Nat.zero_testBit]
      by_cases h : i < j
      · exact h3 i h
      · exact tb_big h2 (by omega)
    subst e
    rw [bitsFrom_zero, List.map_nil, List.append_nil]
    exact Ev.step (fun k => by simp only [accm_List.l0]; rw [if_pos (by trivial)]) (Ev.now _)
  | succ n ih =>
    intro X j out h1 h2 h3 h4
    by_cases h0 : X = 0
    · subst h0
      rw [bitsFrom_zero, List.map_nil, List.append_nil]
      exact Ev.step (fun k => by simp only [accm_List.l0]; rw [if_pos (by trivial)]) (Ev.now _)
    obtain ⟨t, q, e⟩ := low X X (Nat.le_refl _) (by omega)
    have ht : t < 32 := low_lt (e ▸ h2)
    have bX : ∀ i, X.testBit i = (decide (t ≤ i) && (if i - t = 0 then true else q.testBit (i - t - 1))) := fun i => by rw [e, low_bits]
    have bt : X.testBit t = true := by rw [bX]; simp
    have hjt : j ≤ t := by
      rcases Nat.lt_or_ge t j with h | h
      · rw [h3 t h] at bt; cases bt
      · exact h
    have bp : ∀ i, (X &&& (X - 1)).testBit i = (X.testBit i && decide (i ≠ t)) := fun i => by rw [e, low_pred]
    have hl : X &&& (X - 1) < 4294967296 := Nat.lt_of_le_of_lt Nat.and_le_left h2
    have IH := ih (X &&& (X - 1)) (t + 1) (out ++ [(t : Int)]) (by omega) hl (fun i hi => by
      rw [bp]
      by_cases h : i = t
      · simp [h]
      · rw [bX, show decide (t ≤ i) = false by simp; omega]; rfl) (by simp; omega)
    have el : bitsFrom X j = t :: bitsFrom (X &&& (X - 1)) (t + 1) := by
      unfold bitsFrom
      rw [range_split hjt ht, List.filter_append, List.filter_cons, if_pos bt]
      rw [show (List.range' j (t - j)).filter (fun i => X.testBit i) = [] by
        rw [List.filter_eq_nil_iff]
        intro i hi
        rw [List.mem_range'_1] at hi
        rw [bX, show decide (t ≤ i) = false by simp; omega]
        simp]
      rw [List.nil_append]
      congr 1
      refine List.filter_congr fun i hi => ?_
      rw [List.mem_range'_1] at hi
      rw [bp, show decide (i ≠ t) = true by simp; omega, Bool.and_true]
    rw [el, List.map_cons, show out ++ Int.ofNat t :: (bitsFrom (X &&& (X - 1)) (t + 1)).map Int.ofNat = (out ++ [(t : Int)]) ++ (bitsFrom (X &&& (X - 1)) (t + 1)).map Int.ofNat by simp]
    refine Ev.step (fun k => ?_) IH
    simp only [accm_List.l0]
    have tz : bits_TrailingZeros32.f (X : Int) = some (t : Int) := by rw [e]; exact TZ (e ▸ h2)
    rw [if_neg (by omega), tz, Option.bind_some, if_pos (by omega), AndPred (by omega) h2, Int.emod_eq_of_lt (by omega) (by omega)]
def lst (X : Nat) : List Int := (bitsFrom X 0).map Int.ofNat
theorem ListA {m : Int} (h : U32 m) : Ev (fun k => accm_List.f k m) (lst m.toNat) := by
  unfold accm_List.f
  have := List_l0 32 m.toNat 0 [] (by omega) h.nat (fun i hi => by omega) (by simp)
  rw [Int.toNat_of_nonneg h.1, List.nil_append] at this
  exact this
theorem lst_len (X : Nat) : (lst X).length ≤ 32 := by
  unfold lst bitsFrom
  rw [List.length_map]
  exact Nat.le_trans (List.length_filter_le _ _) (by simp)
theorem mem_lst {X : Nat} {y : Int} : y ∈ lst X ↔ ∃ i : Nat, y = i ∧ i < 32 ∧ X.testBit i = true := by
  unfold lst bitsFrom
  rw [List.mem_map]
  constructor
  · rintro ⟨i, h, rfl⟩
    rw [List.mem_filter, List.mem_range'_1] at h
    exact ⟨i, rfl, by omega, h.2⟩
  · rintro ⟨i, rfl, h1, h2⟩
    refine ⟨i, ?_, rfl⟩
    rw [List.mem_filter, List.mem_range'_1]
    exact ⟨by omega, h2⟩
theorem has_bit {m : Int} (h : U32 m) (i : Nat) : has m (i : Int) = m.toNat.testBit i := by
  unfold has
  rw [Nat.testBit_eq_decide_div_mod_eq, decide_eq_decide, Int.toNat_natCast]
  obtain ⟨n, rfl⟩ := Int.eq_ofNat_of_zero_le h.1
  rw [Int.toNat_natCast, show ((n : Int) / 2 ^ i % 2) = ((n / 2 ^ i % 2 : Nat) : Int) by simp]
  omega
/-! ### the reference's list -/
/-! ### the map of octets -/
end Go.Proofs.YtppfoopecdmblaaDoor.Sp
