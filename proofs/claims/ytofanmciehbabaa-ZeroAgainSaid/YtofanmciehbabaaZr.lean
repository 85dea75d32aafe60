/- Plain words on bits that can't be a flag: a 0 put in behind five 1s, and taken out again. No condition; no program in sight. -/
import Derived.Test.YtofanmciehbabaaPl
namespace Go.Proofs.Ytofanmciehbabaa.Pl
open Go.RowKit Go.Proofs.YtofanmciehbabaaW.PrintWords
set_option linter.unusedVariables false
def ins : Int → List Int → List Int
  | _, [] => []
  | n, b :: t => if b % 2 = 0 then 0 :: ins 0 t else if n + 1 = 5 then 1 :: 0 :: ins 0 t else 1 :: ins (n + 1) t
def rem : Int → List Int → List Int
  | _, [] => []
  | n, b :: t => if n = 5 then rem ((n + 1) * (b % 2)) t else b % 2 :: rem ((n + 1) * (b % 2)) t
theorem ins_clean (n : Int) (l : List Int) : ins n (clean l) = ins n l := by
  induction l generalizing n with
  | nil => rfl
  | cons b t ih =>
    show ins n (b % 2 :: clean t) = _
    simp only [ins, Int.emod_emod_of_dvd b (Int.dvd_refl 2), ih]
theorem rem_clean (n : Int) (l : List Int) : rem n (clean l) = rem n l := by
  induction l generalizing n with
  | nil => rfl
  | cons b t ih =>
    show rem n (b % 2 :: clean t) = _
    simp only [rem, Int.emod_emod_of_dvd b (Int.dvd_refl 2), ih]
theorem ins_len (n : Int) (l : List Int) (h0 : 0 ≤ n) (h4 : n ≤ 4) : (l.length : Int) ≤ (ins n l).length ∧ ((ins n l).length : Int) ≤ l.length + (l.length + n) / 5 := by
  induction l generalizing n with
  | nil => simp [ins]; omega
  | cons b t ih =>
    unfold ins
    split
    · have := ih 0 (by omega) (by omega); simp only [List.length_cons]; omega
    · split
      · have := ih 0 (by omega) (by omega); simp only [List.length_cons]; omega
      · have := ih (n + 1) (by omega) (by omega); simp only [List.length_cons]; omega
theorem ins_bits (n : Int) (l : List Int) : ∀ x ∈ ins n l, x = 0 ∨ x = 1 := by
  induction l generalizing n with
  | nil => simp [ins]
  | cons b t ih =>
    intro x hx
    unfold ins at hx
    split at hx
    · rcases List.mem_cons.1 hx with rfl | hx
      · simp
      · exact ih 0 x hx
    · split at hx
      · rcases List.mem_cons.1 hx with rfl | hx
        · simp
        · rcases List.mem_cons.1 hx with rfl | hx
          · simp
          · exact ih 0 x hx
      · rcases List.mem_cons.1 hx with rfl | hx
        · simp
        · exact ih _ x hx
theorem clean_of_bits {l : List Int} (h : ∀ x ∈ l, x = 0 ∨ x = 1) : clean l = l := by
  unfold clean
  conv => rhs; rw [← List.map_id l]
  refine List.map_congr_left (fun x hx => ?_)
  rcases h x hx with rfl | rfl <;> simp
theorem bytes_of_bits {l : List Int} (h : ∀ x ∈ l, x = 0 ∨ x = 1) : Bytes l := fun x hx => by rcases h x hx with rfl | rfl <;> constructor <;> omega
theorem bytes_ins (n : Int) (l : List Int) : Bytes (ins n l) := bytes_of_bits (ins_bits n l)
theorem rem_bits (n : Int) (l : List Int) : ∀ x ∈ rem n l, x = 0 ∨ x = 1 := by
  induction l generalizing n with
  | nil => simp [rem]
  | cons b t ih =>
    intro x hx
    unfold rem at hx
    split at hx
    · exact ih _ x hx
    · rcases List.mem_cons.1 hx with rfl | hx
      · omega
      · exact ih _ x hx
theorem rem_len (n : Int) (l : List Int) : (rem n l).length ≤ l.length := by
  induction l generalizing n with
  | nil => simp [rem]
  | cons b t ih =>
    unfold rem
    split
    · have := ih ((n + 1) * (b % 2)); simp only [List.length_cons]; omega
    · have := ih ((n + 1) * (b % 2)); simp only [List.length_cons]; omega
theorem peak_ins (n : Int) (l : List Int) (h0 : 0 ≤ n) (h4 : n ≤ 4) : peak n (ins n l) ≤ 5 := by
  induction l generalizing n with
  | nil => simp [ins, peak]
  | cons b t ih =>
    unfold ins
    split
    · have := ih 0 (by omega) (by omega)
      simp only [peak, Int.zero_emod, Int.mul_zero]; omega
    · split
      · have := ih 0 (by omega) (by omega)
        have e : (1 : Int) % 2 = 1 := by decide
        simp only [peak, Int.zero_emod, Int.mul_zero, e, Int.mul_one]; omega
      · have := ih (n + 1) (by omega) (by omega)
        have e : (1 : Int) % 2 = 1 := by decide
        simp only [peak, e, Int.mul_one]; omega
theorem run_ins (l : List Int) : run (ins 0 l) ≤ 5 := peak_ins 0 l (by omega) (by omega)
theorem rem_ins (n : Int) (l : List Int) (h0 : 0 ≤ n) (h4 : n ≤ 4) : rem n (ins n l) = clean l := by
  induction l generalizing n with
  | nil => rfl
  | cons b t ih =>
    have e : (1 : Int) % 2 = 1 := by decide
    have hc : clean (b :: t) = b % 2 :: clean t := rfl
    unfold ins
    split
    · rename_i hb
      rw [rem, if_neg (by omega), Int.zero_emod, Int.mul_zero, ih 0 (by omega) (by omega), hc, hb]
    · rename_i hb
      have hb1 : b % 2 = 1 := by omega
      split
      · rename_i h5
        rw [rem, if_neg (by omega), e, Int.mul_one, h5, rem, if_pos rfl, Int.zero_emod, Int.mul_zero, ih 0 (by omega) (by omega), hc, hb1]
      · rw [rem, if_neg (by omega), e, Int.mul_one, ih (n + 1) (by omega) (by omega), hc, hb1]
theorem again (l : List Int) : (∀ n : Int, 0 ≤ n → n ≤ 4 → peak n l ≤ 5 → ins n (rem n l) = clean l ∨ ins n (rem n l) = clean l ++ [0]) ∧ (peak 5 l ≤ 5 → 0 :: ins 0 (rem 5 l) = clean l ∨ 0 :: ins 0 (rem 5 l) = clean l ++ [0]) := by
  induction l with
  | nil => simp [ins, rem, clean]
  | cons b t ih =>
    obtain ⟨ih1, ih2⟩ := ih
    have hc : clean (b :: t) = b % 2 :: clean t := rfl
    refine ⟨fun n h0 h4 hp => ?_, fun hp => ?_⟩
    · rw [rem, if_neg (by omega), ins, hc]
      rcases bitmul n b h0 with ⟨e, h1⟩ | ⟨e, h1⟩
      · rw [peak, h1] at hp
        rw [h1, e, Int.zero_emod, if_pos rfl]
        rcases ih1 0 (by omega) (by omega) (by omega) with h | h <;> rw [h] <;> simp
      · rw [peak, h1] at hp
        rw [h1, e, if_neg (by decide)]
        split
        · rename_i h5
          rw [h5] at hp ⊢
          rcases ih2 (by omega) with h | h <;> rw [h] <;> simp
        · rcases ih1 (n + 1) (by omega) (by omega) (by omega) with h | h <;> rw [h] <;> simp
    · rw [rem, if_pos rfl, hc]
      rcases bitmul 5 b (by omega) with ⟨e, h1⟩ | ⟨e, h1⟩
      · rw [peak, h1] at hp
        rw [h1, e]
        rcases ih1 0 (by omega) (by omega) (by omega) with h | h <;> rw [h] <;> simp
      · rw [peak, h1] at hp
        omega
theorem ins_zero (n : Int) (a b : List Int) : ins n (a ++ 0 :: b) = ins n (a ++ [0]) ++ ins 0 b := by
  induction a generalizing n with
  | nil => simp [ins]
  | cons c t ih =>
    simp only [List.cons_append, ins]
    split
    · rw [ih]; rfl
    · split
      · rw [ih]; rfl
      · rw [ih]; rfl
/-- Without what was put in, read bit by bit: none where six 1s stand in a row. -/
def rrem : Int → List Int → Option (List Int)
  | _, [] => some []
  | n, b :: t => if b % 2 = 1 then (if n + 1 = 6 then none else (rrem (n + 1) t).map (1 :: ·)) else (rrem 0 t).map (fun r => if n < 5 then 0 :: r else r)
theorem rrem_is (n : Int) (l : List Int) (h0 : 0 ≤ n) (h5 : n ≤ 5) : rrem n l = if peak n l > 5 then none else some (rem n l) := by
  induction l generalizing n with
  | nil => simp [rrem, peak, rem]
  | cons b t ih =>
    rcases bitmul n b h0 with ⟨e, h1⟩ | ⟨e, h1⟩
    · rw [rrem, if_neg (by omega), ih 0 (by omega) (by omega), peak, h1, rem, h1, e]
      have hm : max 0 (peak 0 t) = peak 0 t := by have := peak_nonneg 0 t (by omega); omega
      rw [hm]
      by_cases hp : peak 0 t > 5
      · rw [if_pos hp, if_pos hp]; rfl
      · rw [if_neg hp, if_neg hp, Option.map_some]
        by_cases hn : n = 5
        · rw [if_neg (by omega), if_pos hn]
        · rw [if_pos (by omega), if_neg hn]
    · rw [rrem, if_pos e, peak, h1, rem, h1, e]
      by_cases hn : n + 1 = 6
      · rw [if_pos hn, if_pos (by omega)]
      · rw [if_neg hn, ih (n + 1) (by omega) (by omega), if_neg (by omega : ¬ n = 5)]
        have hm : (max (n + 1) (peak (n + 1) t) > 5) ↔ peak (n + 1) t > 5 := by omega
        by_cases hp : peak (n + 1) t > 5
        · rw [if_pos hp, if_pos (hm.2 hp)]; rfl
        · rw [if_neg hp, if_neg (fun h => hp (hm.1 h))]; rfl
theorem last_append (n : Int) (a b : List Int) : last n (a ++ b) = last (last n a) b := by
  induction a generalizing n with
  | nil => rfl
  | cons c t ih => exact ih _
theorem five_ones (a : List Int) (s0 s1 s2 s3 s4 : Int) (h0 : s0 = 0 ∨ s0 = 1) (h1 : s1 = 0 ∨ s1 = 1) (h2 : s2 = 0 ∨ s2 = 1) (h3 : s3 = 0 ∨ s3 = 1) (h4 : s4 = 0 ∨ s4 = 1) :
    ([s0, s1, s2, s3, s4].all (· == 1) = true) ↔ 5 ≤ last 0 (a ++ [s0, s1, s2, s3, s4]) := by
  rw [last_append]
  have hn := last_nonneg 0 a (by omega)
  generalize last 0 a = n at hn
  rcases h0 with rfl | rfl <;> rcases h1 with rfl | rfl <;> rcases h2 with rfl | rfl <;> rcases h3 with rfl | rfl <;> rcases h4 with rfl | rfl <;> simp [last] <;> omega
end Go.Proofs.Ytofanmciehbabaa.Pl
