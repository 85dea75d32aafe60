/- Numbers in octets, in plain words. -/
import Derived.Test.YthkgaciibfjejaaDoorS00
import Derived.Test.YthkgaciibfjejaaDoorPrintWirePut
import Derived.Test.YthkgaciibfjejaaDoorPrintWireGet
namespace Go.Proofs.YthkgaciibfjejaaDoor.Sp
open Go.RowKit Go.Proofs.YthkgaciibfjejaaDoor.Print Go.Proofs.YthkgaciibfjejaaDoorW.PrintWords Go.Proofs.YthkgaciibfjejaaDoorW.PrintLast Go.Proofs.YthkgaciibfjejaaDoor.Pl
set_option linter.unusedVariables false
/-- A number as so many octets, the high one first. -/
def be : Nat → Int → List Int
  | 0, _ => []
  | s + 1, n => n / 256 ^ s % 256 :: be s n
theorem be_length (s : Nat) (n : Int) : (be s n).length = s := by
  induction s with
  | zero => rfl
  | succ s ih => simp [be, ih]
theorem bytes_be (s : Nat) (n : Int) : Bytes (be s n) := by
  induction s with
  | zero => exact Bytes.nil
  | succ s ih => exact Bytes.cons (by constructor <;> omega) ih
theorem Put_l0 (n : Int) (hn : 0 ≤ n) : ∀ (s : Nat) (x : List Int), s ≤ 8 → x.length + s ≤ 3000000 → Ev (fun k => wire_Put.l0 k x n ((s : Int) - 1)) (x ++ be s n)
  | 0, x, h1, h2 => by
    rw [be, List.append_nil]
    exact Ev.step (fun k => by simp only [wire_Put.l0]; rw [if_neg (by omega)]) (Ev.now _)
  | s + 1, x, h1, h2 => by
    have ih := Put_l0 n hn s (x ++ [n / 256 ^ s % 256]) (by omega) (by simp; omega)
    rw [be, show x ++ n / 256 ^ s % 256 :: be s n = (x ++ [n / 256 ^ s % 256]) ++ be s n by simp]
    refine Ev.step (fun k => ?_) ih
    have e : shr .u64 n (8 * (s : Int)) = n / 256 ^ s := by
      unfold shr
      have h3 : (8 * (s : Int)).toNat = 8 * s := by omega
      rw [h3, Nat.min_eq_left (by simp [IntKind.bits]; omega), Int.pow_mul]
      rfl
    simp only [wire_Put.l0]
    rw [show (((s + 1 : Nat) : Int) - 1) = (s : Int) by omega, if_pos (by omega), w64 (x := 8 * (s : Int)) (by omega) (by omega), if_pos (by omega), if_pos (by omega), e, w64 (x := (s : Int) - 1) (by omega) (by omega)]
theorem WPut (x : List Int) (n : Int) (hn : 0 ≤ n) (s : Nat) (hs : s ≤ 8) (hx : x.length ≤ 2000000) : Ev (fun k => wire_Put.f k x n s) (x ++ be s n) := by
  unfold wire_Put.f
  simp only [w64 (x := (s : Int) - 1) (by omega) (by omega)]
  exact Put_l0 n hn s x hs (by omega)

/-- The number that octets are, one that stands ahead. -/
def num : Int → List Int → Int
  | a, [] => a
  | a, c :: t => num (a * 256 + c) t
theorem num_bd : ∀ (l : List Int) (a : Int) (j : Nat), Bytes l → 0 ≤ a → a < 256 ^ j → 0 ≤ num a l ∧ num a l < 256 ^ (j + l.length)
  | [], a, j, hb, h0, h1 => by simpa [num] using ⟨h0, h1⟩
  | c :: t, a, j, hb, h0, h1 => by
    have hc0 := hb.head.1; have hc1 := hb.head.2
    have ih := num_bd t (a * 256 + c) (j + 1) hb.tail (by omega) (by rw [Int.pow_succ]; omega)
    rw [num, show j + (c :: t).length = j + 1 + t.length by simp; omega]
    exact ih
theorem Get_l0 (l : List Int) (hl : l.length ≤ 8) (hb : Bytes l) : ∀ (t : List Int) (i : Nat) (a : Int), l.drop i = t → 0 ≤ a → a < 256 ^ i → Ev (fun k => wire_Get.l0 k a l (l.length : Int) i) (num a t)
  | [], i, a, h1, h0, ha => by
    have h3 := drop_nil_len h1
    rw [num]
    exact Ev.step (fun k => by simp only [wire_Get.l0]; rw [if_neg (by omega)]) (Ev.now _)
  | c :: t, i, a, h1, h0, ha => by
    obtain ⟨e1, e2, e3⟩ := rd_drop h1
    have hc : Byte c := by
      have h4 := hb.drop i
      rw [h1] at h4
      exact h4.head
    have hc0 := hc.1; have hc1 := hc.2
    have hi7 : (256 : Int) ^ i ≤ 256 ^ 7 := by
      have h9 : (256 : Nat) ^ i ≤ 256 ^ 7 := Nat.pow_le_pow_right (by omega) (by omega)
      have h8 := Int.ofNat_le.2 h9
      rw [Int.natCast_pow, Int.natCast_pow] at h8
      exact h8
    have h7 : (256 : Int) ^ 7 = 72057594037927936 := by decide
    have ih := Get_l0 l hl hb t (i + 1) (a * 256 + c) e2 (by omega) (by rw [Int.pow_succ]; omega)
    rw [num]
    refine Ev.step (fun k => ?_) ih
    have eo : Go.bits .or .u64 (a * 256) c = a * 256 + c := by
      obtain ⟨m, rfl⟩ := Int.eq_ofNat_of_zero_le h0
      obtain ⟨q, rfl⟩ := Int.eq_ofNat_of_zero_le hc0
      have h5 := u64_or_nat (m * 256) q (by omega) (by omega)
      have h6 := nat_join 8 (m * 256) q (by omega) (by omega)
      rw [h6, Int.natCast_mul, Int.natCast_add, Int.natCast_mul] at h5
      exact h5
    simp only [wire_Get.l0]
    rw [if_pos (by omega), if_pos (by omega), if_pos (by omega), e1, wu64 (x := a * 256) (by omega) (by omega), wu64 (x := c) (by omega) (by omega), eo, suc i (by omega)]
theorem WGet (l : List Int) (s : Nat) (hs : s ≤ 8) (hl : s ≤ l.length) (hb : Bytes l) : Ev (fun k => wire_Get.f k l s) (num 0 (l.take s)) := by
  unfold wire_Get.f
  refine Ev.pos (by omega) (Ev.pos (by omega) ?_)
  rw [Int.toNat_natCast]
  exact Get_l0 (l.take s) (by rw [List.length_take]; omega) (hb.take s) (l.take s) 0 0 rfl (by omega) (by simp)
theorem num2 {l : List Int} (h : 2 ≤ l.length) : num 0 (l.take 2) = rd l 0 * 256 + rd l 1 := by
  match l, h with
  | a :: b :: t, _ => simp [num, rd]
theorem be2 (n : Int) : be 2 n = [n / 256 % 256, n % 256] := by simp [be]
end Go.Proofs.YthkgaciibfjejaaDoor.Sp
