/- What the printed functions of layer 13 (control packets), of its reference and of the numbers in octets come to, in plain words. -/
import Derived.Test.YtppfoopecdmblaaS00
import Derived.Test.YtppfoopecdmblaaPrintWirePut
import Derived.Test.YtppfoopecdmblaaPrintWireGet
import Derived.Test.YtppfoopecdmblaaPrintSlicesCloneByteByte
import Derived.Test.YtppfoopecdmblaaPrintCtlPut
import Derived.Test.YtppfoopecdmblaaPrintCtlSize
import Derived.Test.YtppfoopecdmblaaPrintCtlGet
import Derived.Test.YtppfoopecdmblaaPrintCtlPad
import Derived.Test.YtppfoopecdmblaaPrintMarlineref13Put
import Derived.Test.YtppfoopecdmblaaPrintMarlineref13Get
namespace Go.Proofs.Ytppfoopecdmblaa.Sp
open Go.RowKit Go.Proofs.Ytppfoopecdmblaa.Print Go.Proofs.YtppfoopecdmblaaW.PrintWords Go.Proofs.YtppfoopecdmblaaW.PrintLast Go.Proofs.Ytppfoopecdmblaa.Pl
set_option linter.unusedVariables false
/-- A number as so many octets, the high one first. -/
def be : Nat → Int → List Int
  | 0, _ => []
  | s + 1, n => n / 256 ^ s % 256 :: be s n
theorem be_length (s : Nat) (n : Int) : (be s n).length = s := by
  induction s with
  | zero => rfl
  | succ s ih => simp [be, ih]
theorem bytes_be (s : Nat) (n : Int) : Bytes (be s n) := by
  induction s with
  | zero => exact Bytes.nil
  | succ s ih => exact Bytes.cons (by constructor <;> omega) ih
theorem Put_l0 (n : Int) (hn : 0 ≤ n) : ∀ (s : Nat) (x : List Int), s ≤ 8 → x.length + s ≤ 3000000 → Ev (fun k => wire_Put.l0 k x n ((s : Int) - 1)) (x ++ be s n)
  | 0, x, h1, h2 => by
    rw [be, List.append_nil]
    exact Ev.step (fun k => by simp only [wire_Put.l0]; rw [if_neg (by omega)]) (Ev.now _)
  | s + 1, x, h1, h2 => by
    have ih := Put_l0 n hn s (x ++ [n / 256 ^ s % 256]) (by omega) (by simp; omega)
    rw [be, show x ++ n / 256 ^ s % 256 :: be s n = (x ++ [n / 256 ^ s % 256]) ++ be s n by simp]
    refine Ev.step (fun k => ?_) ih
    have e : shr .u64 n (8 * (s : Int)) = n / 256 ^ s := by
      unfold shr
      have h3 : (8 * (s : Int)).toNat = 8 * s := by omega
      rw [h3, Nat.min_eq_left (by simp [IntKind.bits]; omega), Int.pow_mul]
      rfl
    simp only [wire_Put.l0]
    rw [show (((s + 1 : Nat) : Int) - 1) = (s : Int) by omega, if_pos (by omega), w64 (x := 8 * (s : Int)) (by omega) (by omega), if_pos (by omega), if_pos (by omega), e, w64 (x := (s : Int) - 1) (by omega) (by omega)]
theorem WPut (x : List Int) (n : Int) (hn : 0 ≤ n) (s : Nat) (hs : s ≤ 8) (hx : x.length ≤ 2000000) : Ev (fun k => wire_Put.f k x n s) (x ++ be s n) := by
  unfold wire_Put.f
  simp only [w64 (x := (s : Int) - 1) (by omega) (by omega)]
  exact Put_l0 n hn s x hs (by omega)

/-- The number that octets are, one that stands ahead. -/
def num : Int → List Int → Int
  | a, [] => a
  | a, c :: t => num (a * 256 + c) t
theorem num_bd : ∀ (l : List Int) (a : Int) (j : Nat), Bytes l → 0 ≤ a → a < 256 ^ j → 0 ≤ num a l ∧ num a l < 256 ^ (j + l.length)
  | [], a, j, hb, h0, h1 => by simpa [num] using ⟨h0, h1⟩
  | c :: t, a, j, hb, h0, h1 => by
    have hc0 := hb.head.1; have hc1 := hb.head.2
    have ih := num_bd t (a * 256 + c) (j + 1) hb.tail (by omega) (by rw [Int.pow_succ]; omega)
    rw [num, show j + (c :: t).length = j + 1 + t.length by simp; omega]
    exact ih
theorem Get_l0 (l : List Int) (hl : l.length ≤ 8) (hb : Bytes l) : ∀ (t : List Int) (i : Nat) (a : Int), l.drop i = t → 0 ≤ a → a < 256 ^ i → Ev (fun k => wire_Get.l0 k a l (l.length : Int) i) (num a t)
  | [], i, a, h1, h0, ha => by
    have h3 := drop_nil_len h1
    rw [num]
    exact Ev.step (fun k => by simp only [wire_Get.l0]; rw [if_neg (by omega)]) (Ev.now _)
  | c :: t, i, a, h1, h0, ha => by
    obtain ⟨e1, e2, e3⟩ := rd_drop h1
    have hc : Byte c := by
      have h4 := hb.drop i
      rw [h1] at h4
      exact h4.head
    have hc0 := hc.1; have hc1 := hc.2
    have hi7 : (256 : Int) ^ i ≤ 256 ^ 7 := by
      have h9 : (256 : Nat) ^ i ≤ 256 ^ 7 := Nat.pow_le_pow_right (by omega) (by omega)
      have h8 := Int.ofNat_le.2 h9
      rw [Int.natCast_pow, Int.natCast_pow] at h8
      exact h8
    have h7 : (256 : Int) ^ 7 = 72057594037927936 := by decide
    have ih := Get_l0 l hl hb t (i + 1) (a * 256 + c) e2 (by omega) (by rw [Int.pow_succ]; omega)
    rw [num]
    refine Ev.step (fun k => ?_) ih
    have eo : Go.bits .or .u64 (a * 256) c = a * 256 + c := by
      obtain ⟨m, rfl⟩ := Int.eq_ofNat_of_zero_le h0
      obtain ⟨q, rfl⟩ := Int.eq_ofNat_of_zero_le hc0
      have h5 := u64_or_nat (m * 256) q (by omega) (by omega)
      have h6 := nat_join 8 (m * 256) q (by omega) (by omega)
      rw [h6, Int.natCast_mul, Int.natCast_add, Int.natCast_mul] at h5
      exact h5
    simp only [wire_Get.l0]
    rw [if_pos (by omega), if_pos (by omega), if_pos (by omega), e1, wu64 (x := a * 256) (by omega) (by omega), wu64 (x := c) (by omega) (by omega), eo, suc i (by omega)]
theorem WGet (l : List Int) (s : Nat) (hs : s ≤ 8) (hl : s ≤ l.length) (hb : Bytes l) : Ev (fun k => wire_Get.f k l s) (num 0 (l.take s)) := by
  unfold wire_Get.f
  refine Ev.pos (by omega) (Ev.pos (by omega) ?_)
  rw [Int.toNat_natCast]
  exact Get_l0 (l.take s) (by rw [List.length_take]; omega) (hb.take s) (l.take s) 0 0 rfl (by omega) (by simp)
theorem Clone (l : List Int) (hl : Lim l) : slices_Clone_byte_byte.f l = some l := by
  unfold slices_Clone_byte_byte.f; unfold Lim at hl; rw [if_pos (by omega)]

/-! ### control packets -/
def ctlN (l : List Int) : Int := 256 * rd l 2 + rd l 3
def ctlPut (a b : Int) (d : List Int) : List Int × Int := if d.length + 4 > 65535 then ([], 3) else ([a, b] ++ be 2 (d.length + 4) ++ d, 0)
def ctlSize (l : List Int) : Int × Int := if l.length < 4 then (0, 2) else if ctlN l < 4 then (0, 4) else if ctlN l > l.length then (0, 2) else (ctlN l, 0)
def ctlGet (l : List Int) : Int × Int × List Int × Int := if (ctlSize l).2 = 0 then (rd l 0, rd l 1, (l.take (ctlN l).toNat).drop 4, 0) else (0, 0, [], (ctlSize l).2)
def ctlPad (l : List Int) : Int := if (ctlSize l).2 = 0 then l.length - ctlN l else 0
theorem CPut (a b : Int) (d : List Int) (hd : Lim d) : Ev (fun k => ctl_Put.f k a b d) (ctlPut a b d) := by
  unfold ctl_Put.f ctlPut
  unfold Lim at hd
  by_cases h : d.length + 4 > 65535
  · rw [if_pos h]
    exact Ev.pos (by rw [w64 (by omega) (by omega)]; omega) (Ev.now _)
  · rw [if_neg h]
    simp only [w64 (x := (d.length : Int) + 4) (by omega) (by omega), wu64 (x := (d.length : Int) + 4) (by omega) (by omega)]
    refine Ev.neg (by omega) (Ev.bind (WPut [a, b] ((d.length : Int) + 4) (by omega) 2 (by omega) (by simp)) ?_)
    exact Ev.pos (by simp [be_length]; omega) (Ev.now _)
theorem rd_bd {l : List Int} (hb : Bytes l) (i : Int) : 0 ≤ rd l i ∧ rd l i < 256 := by
  unfold rd
  rw [List.getD_eq_getElem?_getD]
  by_cases h : i.toNat < l.length
  · rw [List.getElem?_eq_getElem h]
    exact hb _ (List.getElem_mem h)
  · rw [List.getElem?_eq_none (by omega)]
    simp
theorem ctlN_bd {l : List Int} (hb : Bytes l) : 0 ≤ ctlN l ∧ ctlN l < 65536 := by
  have := rd_bd hb 2; have := rd_bd hb 3
  unfold ctlN; omega
theorem CSize (l : List Int) (hl : Lim l) (hb : Bytes l) : Ev (fun k => ctl_size.f k l) (ctlSize l) := by
  unfold ctl_size.f ctlSize
  unfold Lim at hl
  have hn := ctlN_bd hb
  by_cases h : l.length < 4
  · rw [if_pos h]
    exact Ev.pos (by omega) (Ev.now _)
  rw [if_neg h]
  refine Ev.neg (by omega) (Ev.pos (by omega) (Ev.bind (WGet (l.drop 2) 2 (by omega) (by rw [List.length_drop]; omega) (hb.drop 2)) ?_))
  have e : num 0 ((l.drop 2).take 2) = ctlN l := by
    match l, h with
    | a :: b :: c :: d :: t, _ => simp [num, ctlN, rd]; omega
    | [], h | [_], h | [_, _], h | [_, _, _], h => simp at h
  rw [e, w64 (by omega) (by omega)]
  by_cases h1 : ctlN l < 4
  · simp only [if_pos h1]; exact Ev.now _
  simp only [if_neg h1]
  by_cases h2 : ctlN l > l.length
  · simp only [if_pos h2]; exact Ev.now _
  · simp only [if_neg h2]; exact Ev.now _
theorem ctlSize_ok {l : List Int} (h : (ctlSize l).2 = 0) : 4 ≤ l.length ∧ 4 ≤ ctlN l ∧ ctlN l ≤ l.length ∧ (ctlSize l).1 = ctlN l := by
  unfold ctlSize at h ⊢
  split at h <;> rename_i h1
  · simp at h
  · split at h <;> rename_i h2
    · simp at h
    · split at h <;> rename_i h3
      · simp at h
      · rw [if_neg h1, if_neg h2, if_neg h3]
        exact ⟨by omega, by omega, by omega, rfl⟩
theorem CGet (l : List Int) (hl : Lim l) (hb : Bytes l) : Ev (fun k => ctl_Get.f k l) (ctlGet l) := by
  unfold ctl_Get.f ctlGet
  refine Ev.bind (CSize l hl hb) ?_
  by_cases h : (ctlSize l).2 = 0
  · obtain ⟨h1, h2, h3, h4⟩ := ctlSize_ok h
    have hc : Lim ((l.take (ctlN l).toNat).drop 4) := by unfold Lim at hl ⊢; rw [List.length_drop, List.length_take]; omega
    simp only [if_pos h, h4]
    refine Ev.pos (by omega) (Ev.pos (by omega) (Ev.pos (by omega) (Ev.pos (by omega) ?_)))
    rw [Clone _ hc]
    exact Ev.name (Ev.now _)
  · simp only [if_neg h]
    exact Ev.now _
theorem CPad (l : List Int) (hl : Lim l) (hb : Bytes l) : Ev (fun k => ctl_Pad.f k l) (ctlPad l) := by
  unfold ctl_Pad.f ctlPad
  refine Ev.bind (CSize l hl hb) ?_
  unfold Lim at hl
  have hn := ctlN_bd hb
  by_cases h : (ctlSize l).2 = 0
  · obtain ⟨h1, h2, h3, h4⟩ := ctlSize_ok h
    simp only [if_pos h, h4]
    rw [w64 (by omega) (by omega)]
    exact Ev.now _
  · simp only [if_neg h]
    exact Ev.now _
theorem be2 (n : Int) (h0 : 0 ≤ n) (h1 : n < 65536) : be 2 n = [n / 256, n % 256] := by
  simp only [be, Int.pow_zero, Int.ediv_one, Int.pow_succ, Int.one_mul]
  rw [Int.emod_eq_of_lt (by omega) (by omega)]
theorem rCPut (a b : Int) (d : List Int) (hd : Lim d) : marlineref13_Put.f a b d = some (ctlPut a b d) := by
  unfold marlineref13_Put.f ctlPut
  unfold Lim at hd
  rw [w64 (x := (d.length : Int) + 4) (by omega) (by omega)]
  by_cases h : d.length + 4 > 65535
  · rw [if_pos h, if_pos (by omega)]
  · rw [if_neg h, if_neg (by omega), Option.bind_some, if_pos (by simp; omega)]
    rw [Int.tdiv_eq_ediv_of_nonneg (by omega), Int.tmod_eq_emod_of_nonneg (by omega), w64 (by omega) (by omega), be2 _ (by omega) (by omega), Int.emod_eq_of_lt (a := ((d.length : Int) + 4) / 256) (by omega) (by omega), Int.emod_eq_of_lt (a := ((d.length : Int) + 4) % 256) (by omega) (by omega)]
    rfl
theorem rCGet (l : List Int) (hl : Lim l) (hb : Bytes l) : marlineref13_Get.f l = some ((ctlGet l).1, (ctlGet l).2.1, (ctlGet l).2.2.1, ctlPad l, (ctlGet l).2.2.2) := by
  unfold marlineref13_Get.f
  unfold Lim at hl
  have hn := ctlN_bd hb
  have h2 := rd_bd hb 2; have h3 := rd_bd hb 3
  have e : wrap64 (wrap64 (256 * wrap64 (rd l 2)) + wrap64 (rd l 3)) = ctlN l := by
    rw [w64 (x := rd l 2) (by omega) (by omega), w64 (x := rd l 3) (by omega) (by omega), w64 (x := 256 * rd l 2) (by omega) (by omega), w64 (by omega) (by omega)]
    rfl
  rw [e]
  unfold ctlGet ctlPad ctlSize
  by_cases h : l.length < 4
  · rw [if_pos (by omega), if_pos h]; rfl
  rw [if_neg (by omega), if_pos (by omega), if_pos (by omega), if_neg h]
  by_cases h1 : ctlN l < 4
  · rw [if_pos h1, if_pos h1]; rfl
  rw [if_neg h1, if_neg h1]
  by_cases h2 : ctlN l > l.length
  · rw [if_pos h2, if_pos h2]; rfl
  · rw [if_neg h2, if_neg h2, if_pos (by omega), if_pos (by omega), if_pos (by omega), if_pos (by omega), w64 (by omega) (by omega)]
    rfl
end Go.Proofs.Ytppfoopecdmblaa.Sp
