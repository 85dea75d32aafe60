/- What the printed functions of layer 4 (octets, escaped), of its reference and of maps come to, in plain words. -/
import Derived.Test.YtjmclghjhnbafaaS00
import Derived.Test.YtjmclghjhnbafaaPrintAccmHas
import Derived.Test.YtjmclghjhnbafaaPrintAccmMust
import Derived.Test.YtjmclghjhnbafaaPrintStuffSize
import Derived.Test.YtjmclghjhnbafaaPrintStuffStuff
import Derived.Test.YtjmclghjhnbafaaPrintSlicesConcatByteByte
import Derived.Test.YtjmclghjhnbafaaPrintAsyncWrap
namespace Go.Proofs.Ytjmclghjhnbafaa.Sp
open Go.RowKit Go.Proofs.Ytjmclghjhnbafaa.Print Go.Proofs.YtjmclghjhnbafaaW.PrintWords Go.Proofs.YtjmclghjhnbafaaW.PrintLast Go.Proofs.Ytjmclghjhnbafaa.Pl
set_option linter.unusedVariables false
/-! ### maps -/
def U32 (m : Int) : Prop := 0 ≤ m ∧ m < 4294967296
/-- Is an octet in a map? -/
def has (m c : Int) : Bool := decide (m / 2 ^ c.toNat % 2 = 1)
theorem and1u {x : Int} (h : U32 x) : Go.bits .and .u32 x 1 = x % 2 := by
  obtain ⟨n, rfl⟩ := Int.eq_ofNat_of_zero_le h.1
  have h2 := h.2
  have h3 := u32_and_nat n 1 (by omega) (by omega)
  rw [Nat.and_one_is_mod] at h3
  rw [show ((1 : Nat) : Int) = 1 from rfl] at h3
  rw [h3]
  omega
theorem pow32 {j : Nat} (h : 32 ≤ j) : (4294967296 : Int) ≤ 2 ^ j := by
  have h9 : (2 : Nat) ^ 32 ≤ 2 ^ j := Nat.pow_le_pow_right (by omega) h
  have h8 := Int.ofNat_le.2 h9
  rw [Int.natCast_pow] at h8
  simpa using h8
theorem div_u32 {m : Int} (h : U32 m) (j : Nat) : U32 (m / 2 ^ j) := by
  have hp : (0 : Int) < 2 ^ j := Int.pow_pos (by omega)
  refine ⟨Int.ediv_nonneg h.1 (by omega), ?_⟩
  have := Int.ediv_le_self (2 ^ j) h.1
  have := h.2
  omega
theorem has_big {m c : Int} (h : U32 m) (hc : 32 ≤ c) : has m c = false := by
  unfold has
  rw [decide_eq_false_iff_not]
  have h1 := pow32 (j := c.toNat) (by omega)
  have h2 : m / 2 ^ c.toNat = 0 := Int.ediv_eq_zero_of_lt h.1 (by have := h.2; omega)
  rw [h2]
  decide
theorem bitsHas {m c : Int} (h : U32 m) (hc : Byte c) : ((Go.bits .and .u32 (shr .u32 m c) 1) == 1) = has m c := by
  have hc0 := hc.1
  by_cases h32 : c < 32
  · have e : shr .u32 m c = m / 2 ^ c.toNat := by
      unfold shr
      rw [Nat.min_eq_left (by simp [IntKind.bits]; omega)]
    rw [e, and1u (div_u32 h _)]
    unfold has
    rw [Bool.eq_iff_iff]
    simp
  · have e : shr .u32 m c = m / 2 ^ 32 := by
      unfold shr
      rw [Nat.min_eq_right (by simp [IntKind.bits]; omega)]
      rfl
    rw [e, and1u (div_u32 h _), has_big h (by omega)]
    have h2 : m / 2 ^ 32 = 0 := Int.ediv_eq_zero_of_lt h.1 (by have := h.2; omega)
    rw [h2]
    rfl
theorem HasA {m c : Int} (h : U32 m) (hc : Byte c) : accm_Has.f m c = some (has m c) := by
  unfold accm_Has.f
  rw [if_pos hc.1, bitsHas h hc]
def must (m c : Int) : Bool := decide (c = 126 ∨ c = 125) || has m c
theorem MustA {m c : Int} (h : U32 m) (hc : Byte c) : Ev (fun k => accm_Must.f k m c) (must m c) := by
  have j0 : ∀ b : Bool, Ev (fun k => accm_Must.j0 k m c b) (b || has m c) := by
    intro b
    cases b with
    | true => exact Ev.step (fun k => by simp only [accm_Must.j0]; rw [if_pos trivial]) (Ev.end_ (by simp))
    | false =>
      refine Ev.step (fun k => by simp only [accm_Must.j0]; rw [if_neg (by decide), HasA h hc, Option.bind_some]) (Ev.end_ (by simp))
  unfold accm_Must.f
  by_cases h1 : c = 126
  · refine Ev.pos h1 ?_
    have := j0 (c == 126)
    rw [show must m c = ((c == 126) || has m c) by unfold must; simp [h1]]
    exact this
  · refine Ev.neg h1 ?_
    have := j0 (c == 125)
    rw [show must m c = ((c == 125) || has m c) by unfold must; rw [Bool.eq_iff_iff]; simp [h1]]
    exact this
/-! ### an octet, turned -/
def tn (c : Int) : Int := Go.bits .xor .u8 c 32
theorem tn_all : ((List.range 256).all fun n => decide (tn (n : Int) = if n / 32 % 2 = 1 then (n : Int) - 32 else (n : Int) + 32)) = true := by decide +kernel
theorem tn_eq {c : Int} (h : Byte c) : tn c = if c / 32 % 2 = 1 then c - 32 else c + 32 := by
  obtain ⟨n, rfl⟩ := Int.eq_ofNat_of_zero_le h.1
  have h2 := h.2
  have h3 := List.all_eq_true.1 tn_all n (List.mem_range.2 (by omega))
  rw [decide_eq_true_iff] at h3
  rw [h3]
  by_cases h4 : n / 32 % 2 = 1
  · rw [if_pos h4, if_pos (by omega)]
  · rw [if_neg h4, if_neg (by omega)]
theorem tn_byte {c : Int} (h : Byte c) : Byte (tn c) := by
  rw [tn_eq h]
  have := h.1; have := h.2
  split <;> constructor <;> omega
theorem tn_tn {c : Int} (h : Byte c) : tn (tn c) = c := by
  have h1 := tn_byte h
  rw [tn_eq h1, tn_eq h]
  have := h.1; have := h.2
  split <;> split <;> omega
/-! ### octets, escaped -/
def stf (m : Int) : List Int → List Int
  | [] => []
  | c :: t => if must m c = true then 125 :: tn c :: stf m t else c :: stf m t
theorem stf_append (m : Int) (a b : List Int) : stf m (a ++ b) = stf m a ++ stf m b := by
  induction a with
  | nil => rfl
  | cons c t ih => simp only [List.cons_append, stf, ih]; split <;> rfl
theorem stf_len (m : Int) (l : List Int) : l.length ≤ (stf m l).length ∧ (stf m l).length ≤ 2 * l.length := by
  induction l with
  | nil => simp [stf]
  | cons c t ih => simp only [stf]; split <;> simp only [List.length_cons] <;> omega
theorem stf_bytes {m : Int} {l : List Int} (h : Bytes l) : Bytes (stf m l) := by
  induction l with
  | nil => exact Bytes.nil
  | cons c t ih =>
    simp only [stf]
    split
    · exact Bytes.cons (by constructor <;> omega) (Bytes.cons (tn_byte h.head) (ih h.tail))
    · exact Bytes.cons h.head (ih h.tail)
theorem bytesAt {l : List Int} (h : Bytes l) {i : Nat} {c : Int} {t : List Int} (e : l.drop i = c :: t) : Byte c := by
  have h4 := h.drop i
  rw [e] at h4
  exact h4.head
theorem SizeS_l0 (m : Int) (hm : U32 m) (l : List Int) (hl : Lim l) (hb : Bytes l) : ∀ (t : List Int) (i : Nat) (n : Int), l.drop i = t → 0 ≤ n → n + t.length ≤ 4000000 →
    Ev (fun k => stuff_Size.l0 k m n l (l.length : Int) i) (n + ((stf m t).length : Int) - t.length)
  | [], i, n, h, h0, h2 => by
    have h3 := drop_nil_len h
    exact Ev.step (fun k => by simp only [stuff_Size.l0]; rw [if_neg (by omega)]) (Ev.end_ (by simp [stf]))
  | c :: t, i, n, h, h0, h2 => by
    obtain ⟨e1, e2, e3⟩ := rd_drop h
    have hc := bytesAt hb h
    simp only [List.length_cons] at h2
    unfold Lim at hl
    refine Ev.step (fun k => by simp only [stuff_Size.l0]; rw [if_pos (by omega), if_pos (by omega), if_pos (by omega), e1, suc i (by omega)]) ?_
    refine Ev.bind (MustA hm hc) ?_
    by_cases hq : must m c = true
    · refine Ev.pos hq ?_
      rw [w64 (x := n + 1) (by omega) (by omega)]
      have ih := SizeS_l0 m hm l hl hb t (i + 1) (n + 1) e2 (by omega) (by omega)
      have e : n + ((stf m (c :: t)).length : Int) - ((c :: t).length : Int) = n + 1 + ((stf m t).length : Int) - t.length := by
        simp only [stf, if_pos hq, List.length_cons]; omega
      rw [e]
      exact ih
    · refine Ev.neg hq ?_
      have ih := SizeS_l0 m hm l hl hb t (i + 1) n e2 h0 (by omega)
      have e : n + ((stf m (c :: t)).length : Int) - ((c :: t).length : Int) = n + ((stf m t).length : Int) - t.length := by
        simp only [stf, if_neg hq, List.length_cons]; omega
      rw [e]
      exact ih
theorem SizeS (m : Int) (hm : U32 m) (l : List Int) (hl : Lim l) (hb : Bytes l) : Ev (fun k => stuff_Size.f k m l) ((stf m l).length : Int) := by
  unfold stuff_Size.f
  have h := SizeS_l0 m hm l hl hb l 0 (l.length : Int) rfl (by omega) (by unfold Lim at hl; omega)
  rw [show (l.length : Int) + ((stf m l).length : Int) - l.length = (stf m l).length by omega] at h
  exact h
theorem StuffS_l0 (m : Int) (hm : U32 m) (l : List Int) (hl : Lim l) (hb : Bytes l) : ∀ (t : List Int) (i : Nat) (x : List Int), l.drop i = t → x.length + 2 * t.length ≤ 4000000 →
    Ev (fun k => stuff_Stuff.l0 k m x l (l.length : Int) i) (x ++ stf m t)
  | [], i, x, h, h2 => by
    have h3 := drop_nil_len h
    exact Ev.step (fun k => by simp only [stuff_Stuff.l0]; rw [if_neg (by omega)]) (Ev.end_ (by simp [stf]))
  | c :: t, i, x, h, h2 => by
    obtain ⟨e1, e2, e3⟩ := rd_drop h
    have hc := bytesAt hb h
    simp only [List.length_cons] at h2
    unfold Lim at hl
    refine Ev.step (fun k => by simp only [stuff_Stuff.l0]; rw [if_pos (by omega), if_pos (by omega), if_pos (by omega), e1, suc i (by omega)]) ?_
    refine Ev.bind (MustA hm hc) ?_
    by_cases hq : must m c = true
    · refine Ev.pos hq (Ev.pos (by omega) (Ev.name (Ev.pos (by simp; omega) ?_)))
      have ih := StuffS_l0 m hm l hl hb t (i + 1) ((x ++ [125]) ++ [tn c]) e2 (by simp; omega)
      rw [show x ++ stf m (c :: t) = ((x ++ [125]) ++ [tn c]) ++ stf m t by simp only [stf, if_pos hq]; simp]
      exact ih
    · refine Ev.neg hq (Ev.pos (by omega) ?_)
      have ih := StuffS_l0 m hm l hl hb t (i + 1) (x ++ [c]) e2 (by simp; omega)
      rw [show x ++ stf m (c :: t) = (x ++ [c]) ++ stf m t by simp only [stf, if_neg hq]; simp]
      exact ih
theorem StuffS (m : Int) (hm : U32 m) (l : List Int) (hl : Lim l) (hb : Bytes l) : Ev (fun k => stuff_Stuff.f k m l) (stf m l) := by
  unfold stuff_Stuff.f
  have h1 := (stf_len m l).2
  refine Ev.bind (SizeS m hm l hl hb) (Ev.pos (by omega) (Ev.pos (by unfold Lim at hl; omega) ?_))
  exact StuffS_l0 m hm l hl hb l 0 [] rfl (by unfold Lim at hl; simp; omega)
/-! ### octets, read -/
/-! ### wrapped -/
theorem Concat3 (a b c : List Int) (ha : Lim a) (hb : Lim b) (hc : Lim c) : Ev (fun k => slices_Concat_byte_byte.f k [a, b, c]) (a ++ b ++ c) := by
  unfold Lim at ha hb hc
  unfold slices_Concat_byte_byte.f
  have r0 : rd_L1 [a, b, c] 0 = a := rfl
  have r1 : rd_L1 [a, b, c] 1 = b := rfl
  have r2 : rd_L1 [a, b, c] 2 = c := rfl
  have w0 : wrap64 (0 + (a.length : Int)) = a.length := w64 (by omega) (by omega) |>.trans (by omega)
  have w1 : wrap64 ((a.length : Int) + b.length) = a.length + b.length := w64 (by omega) (by omega)
  have w2 : wrap64 ((a.length : Int) + b.length + c.length) = a.length + b.length + c.length := w64 (by omega) (by omega)
  have v0 : wrap64 (0 + 1 : Int) = 1 := w64 (by omega) (by omega)
  have v1 : wrap64 (1 + 1 : Int) = 2 := w64 (by omega) (by omega)
  have v2 : wrap64 (2 + 1 : Int) = 3 := w64 (by omega) (by omega)
  refine Ev.step (fun k => by simp only [slices_Concat_byte_byte.l0]; rw [if_pos (by simp), if_pos (by omega), if_pos (by simp), r0, w0, if_neg (by omega), v0]) ?_
  refine Ev.step (fun k => by simp only [slices_Concat_byte_byte.l0]; rw [if_pos (by simp), if_pos (by omega), if_pos (by simp), r1, w1, if_neg (by omega), v1]) ?_
  refine Ev.step (fun k => by simp only [slices_Concat_byte_byte.l0]; rw [if_pos (by simp), if_pos (by omega), if_pos (by simp), r2, w2, if_neg (by omega), v2]) ?_
  refine Ev.step (fun k => by simp only [slices_Concat_byte_byte.l0]; rw [if_neg (by simp)]) ?_
  have hg : slices_Grow_byte_byte.f ([] : List Int) ((a.length : Int) + b.length + c.length) = some [] := by
    unfold slices_Grow_byte_byte.f
    rw [if_pos (by omega), if_pos (by omega)]
  rw [hg]
  refine Ev.name ?_
  refine Ev.step (fun k => by simp only [slices_Concat_byte_byte.l1]; rw [if_pos (by simp), if_pos (by omega), if_pos (by simp), r0, if_pos (by simp only [List.length_nil]; omega), v0, List.nil_append]) ?_
  refine Ev.step (fun k => by simp only [slices_Concat_byte_byte.l1]; rw [if_pos (by simp), if_pos (by omega), if_pos (by simp), r1, if_pos (by omega), v1]) ?_
  refine Ev.step (fun k => by simp only [slices_Concat_byte_byte.l1]; rw [if_pos (by simp), if_pos (by omega), if_pos (by simp), r2, if_pos (by rw [List.length_append]; omega), v2]) ?_
  exact Ev.step (fun k => by simp only [slices_Concat_byte_byte.l1]; rw [if_neg (by simp)]) (Ev.now _)
theorem WrapS (m : Int) (hm : U32 m) (l : List Int) (hl : l.length ≤ 400000) (hb : Bytes l) : Ev (fun k => async_Wrap.f k m l) ([126] ++ stf m l ++ [126]) := by
  unfold async_Wrap.f
  have h := stf_len m l
  exact Ev.bind (StuffS m hm l (by unfold Lim; omega) hb) (Ev.bind (Concat3 [126] (stf m l) [126] (by unfold Lim; simp) (by unfold Lim; omega) (by unfold Lim; simp)) (Ev.now _))
end Go.Proofs.Ytjmclghjhnbafaa.Sp
