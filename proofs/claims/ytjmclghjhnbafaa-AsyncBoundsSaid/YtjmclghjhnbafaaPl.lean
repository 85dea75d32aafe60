/- Plain words on lists of whole numbers: octets, bits, rows of 1s. No condition; no program in sight. -/
import Derived.Test.YtjmclghjhnbafaaWMore
import Derived.Laws.BitsAllLaws
import Derived.RowKit
namespace Go.Proofs.Ytjmclghjhnbafaa.Pl
open Go.RowKit Go.Proofs.YtjmclghjhnbafaaW.PrintWords
set_option linter.unusedVariables false

/-! ### numbers -/
theorem u8_of_wf {x : Int} (h : (Lit.int .u8 x).wf = true) : 0 ≤ x ∧ x < 256 := by
  simp [Lit.wf, IntKind.min, IntKind.max, IntKind.bits, IntKind.signed] at h
  omega
theorem u16_of_wf {x : Int} (h : (Lit.int .u16 x).wf = true) : 0 ≤ x ∧ x < 65536 := by
  simp [Lit.wf, IntKind.min, IntKind.max, IntKind.bits, IntKind.signed] at h
  omega
theorem u32_of_wf {x : Int} (h : (Lit.int .u32 x).wf = true) : 0 ≤ x ∧ x < 4294967296 := by
  simp [Lit.wf, IntKind.min, IntKind.max, IntKind.bits, IntKind.signed] at h
  omega
theorem w64 {x : Int} (h0 : -9223372036854775808 ≤ x) (h1 : x ≤ 9223372036854775807) : wrap64 x = x := by unfold wrap64; omega
theorem wu64 {x : Int} (h0 : 0 ≤ x) (h1 : x < 18446744073709551616) : IntKind.u64.wrap x = x := by rw [IntKind.wrap_u64]; omega
def Byte (x : Int) : Prop := 0 ≤ x ∧ x < 256
def Bytes (l : List Int) : Prop := ∀ x ∈ l, Byte x
theorem bytes_of_wf {l : List Int} (h : ∀ x ∈ l, (Lit.int .u8 x).wf = true) : Bytes l := fun x hx => u8_of_wf (h x hx)
theorem Bytes.take {l : List Int} (h : Bytes l) (n : Nat) : Bytes (l.take n) := fun x hx => h x (List.mem_of_mem_take hx)
theorem Bytes.drop {l : List Int} (h : Bytes l) (n : Nat) : Bytes (l.drop n) := fun x hx => h x (List.mem_of_mem_drop hx)
theorem Bytes.append {l m : List Int} (h : Bytes l) (k : Bytes m) : Bytes (l ++ m) := fun x hx => by rcases List.mem_append.1 hx with hx | hx; exact h x hx; exact k x hx
theorem Bytes.cons {x : Int} {l : List Int} (h : Byte x) (k : Bytes l) : Bytes (x :: l) := fun y hy => by rcases List.mem_cons.1 hy with rfl | hy; exact h; exact k y hy
theorem Bytes.nil : Bytes [] := fun x hx => by simp at hx
theorem Bytes.head {x : Int} {l : List Int} (h : Bytes (x :: l)) : Byte x := h x (by simp)
theorem Bytes.tail {x : Int} {l : List Int} (h : Bytes (x :: l)) : Bytes l := fun y hy => h y (by simp [hy])
theorem bytes_lit {l : List Int} (h : (l.all fun x => decide (0 ≤ x ∧ x < 256)) = true) : Bytes l := by
  intro x hx
  have := List.all_eq_true.1 h x hx
  simpa [Byte] using this
theorem and1 {x : Int} (h : Byte x) : Go.bits .and .u8 x 1 = x % 2 := by
  obtain ⟨n, rfl⟩ := Int.eq_ofNat_of_zero_le h.1
  have h2 := h.2
  have h3 := u8_and_nat n 1 (by omega) (by omega)
  rw [Nat.and_one_is_mod] at h3
  rw [show ((1 : Nat) : Int) = 1 from rfl] at h3
  rw [h3]
  omega
theorem shr_lt {x : Int} (h : Byte x) (j : Nat) (hj : j ≤ 8) : shr .u8 x j = x / 2 ^ j := by
  unfold shr
  rw [Int.toNat_natCast, Nat.min_eq_left (by simpa [IntKind.bits] using hj)]
theorem byte_div {x : Int} (h : Byte x) (j : Nat) : Byte (x / 2 ^ j) := by
  have hp : (0 : Int) < 2 ^ j := Int.pow_pos (by omega)
  refine ⟨Int.ediv_nonneg h.1 (by omega), ?_⟩
  have := Int.ediv_le_self (2 ^ j) h.1
  have := h.2
  omega
theorem bit_at {x : Int} (h : Byte x) (j : Nat) (hj : j ≤ 8) : Go.bits .and .u8 (shr .u8 x j) 1 = x / 2 ^ j % 2 := by
  rw [shr_lt h j hj, and1 (byte_div h j)]

/-! ### reading a list by places -/
theorem rd_drop {xs : List Int} {i : Nat} {b : Int} {t : List Int} (h : xs.drop i = b :: t) : rd xs (i : Int) = b ∧ xs.drop (i + 1) = t ∧ i < xs.length := by
  have hlt : i < xs.length := by
    rcases Nat.lt_or_ge i xs.length with h1 | h1
    · exact h1
    · rw [List.drop_eq_nil_of_le h1] at h; cases h
  rw [List.drop_eq_getElem_cons hlt] at h
  injection h with h1 h2
  refine ⟨?_, h2, hlt⟩
  unfold rd
  rw [Int.toNat_natCast, List.getD_eq_getElem?_getD, List.getElem?_eq_getElem hlt]
  exact h1
theorem drop_nil_len {xs : List Int} {i : Nat} (h : xs.drop i = []) : xs.length ≤ i := by
  rcases Nat.lt_or_ge i xs.length with h1 | h1
  · rw [List.drop_eq_getElem_cons h1] at h; cases h
  · exact h1
theorem drop_len {xs t : List Int} {i : Nat} (h : xs.drop i = t) : t.length = xs.length - i := by rw [← h, List.length_drop]

/-! ### octets as bits -/
def eight (c : Int) : List Int := [c % 2, c / 2 % 2, c / 4 % 2, c / 8 % 2, c / 16 % 2, c / 32 % 2, c / 64 % 2, c / 128 % 2]
def ofOct : List Int → List Int
  | [] => []
  | c :: t => eight c ++ ofOct t
theorem ofOct_append (a b : List Int) : ofOct (a ++ b) = ofOct a ++ ofOct b := by
  induction a with
  | nil => rfl
  | cons c t ih => simp [ofOct, ih]
theorem ofOct_length (a : List Int) : (ofOct a).length = 8 * a.length := by
  induction a with
  | nil => rfl
  | cons c t ih => simp [ofOct, eight, ih]; omega
def clean (l : List Int) : List Int := l.map (· % 2)
theorem clean_length (l : List Int) : (clean l).length = l.length := by simp [clean]
theorem clean_append (a b : List Int) : clean (a ++ b) = clean a ++ clean b := by simp [clean]
def oct8 (a0 a1 a2 a3 a4 a5 a6 a7 : Int) : Int := a0 % 2 + 2 * (a1 % 2) + 4 * (a2 % 2) + 8 * (a3 % 2) + 16 * (a4 % 2) + 32 * (a5 % 2) + 64 * (a6 % 2) + 128 * (a7 % 2)
def octs : List Int → List Int
  | a0 :: a1 :: a2 :: a3 :: a4 :: a5 :: a6 :: a7 :: t => oct8 a0 a1 a2 a3 a4 a5 a6 a7 :: octs t
  | _ => []
theorem octs_length : ∀ l : List Int, (octs l).length = l.length / 8
  | a0 :: a1 :: a2 :: a3 :: a4 :: a5 :: a6 :: a7 :: t => by
    have := octs_length t
    simp only [octs, List.length_cons, this]
    omega
  | [] | [_] | [_, _] | [_, _, _] | [_, _, _, _] | [_, _, _, _, _] | [_, _, _, _, _, _] | [_, _, _, _, _, _, _] => by simp [octs]
theorem bytes_octs : ∀ l : List Int, Bytes (octs l)
  | a0 :: a1 :: a2 :: a3 :: a4 :: a5 :: a6 :: a7 :: t => by
    simp only [octs]
    exact Bytes.cons (by unfold oct8; constructor <;> omega) (bytes_octs t)
  | [] | [_] | [_, _] | [_, _, _] | [_, _, _, _] | [_, _, _, _, _] | [_, _, _, _, _, _] | [_, _, _, _, _, _, _] => by simp [octs, Bytes]
theorem octs_of : ∀ b : List Int, Bytes b → octs (ofOct b) = b
  | [], _ => rfl
  | c :: t, h => by
    have ih := octs_of t h.tail
    have hc := h.head
    simp only [ofOct, eight, List.cons_append, List.nil_append, octs, ih]
    congr 1
    unfold oct8
    have := hc.1; have := hc.2
    omega
theorem of_octs : ∀ l : List Int, l.length % 8 = 0 → ofOct (octs l) = clean l
  | a0 :: a1 :: a2 :: a3 :: a4 :: a5 :: a6 :: a7 :: t, h => by
    have ih := of_octs t (by simp at h; omega)
    simp only [octs, ofOct, ih, eight, clean, List.map_cons, List.cons_append, List.nil_append, List.cons.injEq, and_true]
    unfold oct8
    refine ⟨?_, ?_, ?_, ?_, ?_, ?_, ?_, ?_⟩ <;> omega
  | [], _ => rfl
  | [_], h | [_, _], h | [_, _, _], h | [_, _, _, _], h | [_, _, _, _, _], h | [_, _, _, _, _, _], h | [_, _, _, _, _, _, _], h => by simp at h
theorem bytes_clean (l : List Int) : Bytes (clean l) := by
  intro x hx
  simp only [clean, List.mem_map] at hx
  obtain ⟨y, _, rfl⟩ := hx
  constructor <;> omega
theorem bit_clean {l : List Int} {x : Int} (hx : x ∈ clean l) : x = 0 ∨ x = 1 := by
  simp only [clean, List.mem_map] at hx
  obtain ⟨y, _, rfl⟩ := hx
  omega
theorem clean_clean (l : List Int) : clean (clean l) = clean l := by simp [clean]
theorem clean_ofOct (l : List Int) : clean (ofOct l) = ofOct l := by
  induction l with
  | nil => rfl
  | cons c t ih => rw [ofOct, clean_append, ih]; simp [clean, eight]

/-! ### 1s in a row -/
/-- The most 1s in a row, n of them standing ahead. -/
def peak : Int → List Int → Int
  | _, [] => 0
  | n, b :: t => max ((n + 1) * (b % 2)) (peak ((n + 1) * (b % 2)) t)
/-- How many 1s the list ends with, n of them standing ahead. -/
def last : Int → List Int → Int
  | n, [] => n
  | n, b :: t => last ((n + 1) * (b % 2)) t
def run (l : List Int) : Int := peak 0 l
theorem bitmul (n b : Int) (h0 : 0 ≤ n) : b % 2 = 0 ∧ (n + 1) * (b % 2) = 0 ∨ b % 2 = 1 ∧ (n + 1) * (b % 2) = n + 1 := by
  rcases Int.emod_two_eq b with h | h
  · left; rw [h]; simp
  · right; rw [h]; simp
theorem peak_nonneg (n : Int) (l : List Int) (h0 : 0 ≤ n) : 0 ≤ peak n l := by
  induction l generalizing n with
  | nil => simp [peak]
  | cons b t ih =>
    rcases bitmul n b h0 with ⟨_, h⟩ | ⟨_, h⟩ <;> rw [peak, h]
    · omega
    · omega
theorem peak_le (n : Int) (l : List Int) (h0 : 0 ≤ n) : peak n l ≤ n + l.length := by
  induction l generalizing n with
  | nil => simp [peak]; omega
  | cons b t ih =>
    simp only [List.length_cons]
    rcases bitmul n b h0 with ⟨_, h⟩ | ⟨_, h⟩ <;> rw [peak, h]
    · have := ih 0 (by omega); omega
    · have := ih (n + 1) (by omega); omega
theorem last_nonneg (n : Int) (l : List Int) (h0 : 0 ≤ n) : 0 ≤ last n l := by
  induction l generalizing n with
  | nil => simpa [last]
  | cons b t ih =>
    rcases bitmul n b h0 with ⟨_, h⟩ | ⟨_, h⟩ <;> rw [last, h]
    · exact ih 0 (by omega)
    · exact ih _ (by omega)
theorem last_le_peak (n : Int) (l : List Int) (h0 : 0 ≤ n) : last n l ≤ max n (peak n l) := by
  induction l generalizing n with
  | nil => simp [last]; omega
  | cons b t ih =>
    rcases bitmul n b h0 with ⟨_, h⟩ | ⟨_, h⟩ <;> rw [last, peak, h]
    · have := ih 0 (by omega); omega
    · have := ih (n + 1) (by omega); omega
theorem peak_append (n : Int) (a b : List Int) (h0 : 0 ≤ n) : peak n (a ++ b) = max (peak n a) (peak (last n a) b) := by
  induction a generalizing n with
  | nil => simp only [List.nil_append, peak, last]; have := peak_nonneg n b h0; omega
  | cons c t ih =>
    rcases bitmul n c h0 with ⟨_, h⟩ | ⟨_, h⟩ <;> simp only [List.cons_append, peak, last, h]
    · rw [ih 0 (by omega)]; omega
    · rw [ih (n + 1) (by omega)]; omega
theorem peak_mono (n m : Int) (l : List Int) (h0 : 0 ≤ n) (h : n ≤ m) : peak n l ≤ peak m l ∧ peak m l ≤ peak n l + (m - n) := by
  induction l generalizing n m with
  | nil => simp [peak]; omega
  | cons b t ih =>
    rcases bitmul n b h0 with ⟨e, h1⟩ | ⟨e, h1⟩ <;> rcases bitmul m b (by omega) with ⟨e', h2⟩ | ⟨e', h2⟩ <;> first | omega | skip
    · simp only [peak, h1, h2]; omega
    · simp only [peak, h1, h2]
      have := ih (n + 1) (m + 1) (by omega) (by omega)
      omega
theorem run_nonneg (l : List Int) : 0 ≤ run l := peak_nonneg 0 l (by omega)
theorem run_le (l : List Int) : run l ≤ l.length := by have := peak_le 0 l (by omega); unfold run; omega
theorem run_parts (a b : List Int) : run a ≤ run (a ++ b) ∧ run b ≤ run (a ++ b) ∧ run (a ++ b) ≤ run a + run b := by
  unfold run
  have h0 := last_nonneg 0 a (by omega)
  have h1 := last_le_peak 0 a (by omega)
  have h2 := peak_mono 0 (last 0 a) b (by omega) h0
  have h3 := peak_nonneg 0 a (by omega)
  have h4 := peak_nonneg 0 b (by omega)
  rw [peak_append 0 a b (by omega)]
  omega
theorem peak_clean (n : Int) (l : List Int) : peak n (clean l) = peak n l := by
  induction l generalizing n with
  | nil => rfl
  | cons b t ih =>
    show peak n (b % 2 :: clean t) = _
    simp only [peak, Int.emod_emod_of_dvd b (Int.dvd_refl 2), ih]
theorem run_clean (l : List Int) : run (clean l) = run l := peak_clean 0 l
/-- How many 1s the list begins with. -/
def lead : List Int → Int
  | [] => 0
  | b :: t => if b % 2 = 1 then 1 + lead t else 0
/-- The most that any end of the list begins with. -/
def best : List Int → Int
  | [] => 0
  | b :: t => max (lead (b :: t)) (best t)
theorem lead_nonneg (l : List Int) : 0 ≤ lead l := by
  induction l with
  | nil => simp [lead]
  | cons b t ih => unfold lead; split <;> omega
theorem lead_le (l : List Int) : lead l ≤ l.length := by
  induction l with
  | nil => simp [lead]
  | cons b t ih => unfold lead; simp only [List.length_cons]; split <;> omega
theorem lead_le_best (l : List Int) : lead l ≤ best l := by
  cases l with
  | nil => simp [lead, best]
  | cons b t => unfold best; omega
theorem peak_best (n : Int) (l : List Int) (h0 : 0 ≤ n) : peak n l = max (if 0 < lead l then n + lead l else 0) (best l) := by
  induction l generalizing n with
  | nil => simp [peak, lead, best]
  | cons b t ih =>
    have hn := lead_nonneg t
    have hb := lead_le_best t
    rcases bitmul n b h0 with ⟨e, h1⟩ | ⟨e, h1⟩
    · have hl : lead (b :: t) = 0 := by rw [lead, if_neg (by omega)]
      rw [peak, h1, ih 0 (by omega), best, hl]
      split <;> omega
    · have hl : lead (b :: t) = 1 + lead t := by rw [lead, if_pos e]
      rw [peak, h1, ih (n + 1) (by omega), best, hl, if_pos (by omega : (0 : Int) < 1 + lead t)]
      split <;> omega
theorem run_best (l : List Int) : run l = best l := by
  unfold run
  rw [peak_best 0 l (by omega)]
  have := lead_le_best l
  have := lead_nonneg l
  split <;> omega
end Go.Proofs.Ytjmclghjhnbafaa.Pl
