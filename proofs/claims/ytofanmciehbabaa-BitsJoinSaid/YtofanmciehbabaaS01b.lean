/- What the printed functions of layer 1 that read bits as octets, and their references, come to, in plain words. -/
import Derived.Test.YtofanmciehbabaaS01
import Derived.Test.YtofanmciehbabaaPrintBitsOctets
import Derived.Test.YtofanmciehbabaaPrintMarlineref01Octets
import Derived.Test.YtofanmciehbabaaPrintMarlineref01Run
import Derived.Test.YtofanmciehbabaaPrintMarlineref01Of
import Derived.Test.YtofanmciehbabaaPrintMarlineref01Same
namespace Go.Proofs.Ytofanmciehbabaa.Sp
open Go.RowKit Go.Proofs.Ytofanmciehbabaa.Print Go.Proofs.YtofanmciehbabaaW.PrintWords Go.Proofs.YtofanmciehbabaaW.PrintLast Go.Proofs.Ytofanmciehbabaa.Pl
set_option linter.unusedVariables false

theorem or_bit {x b : Int} (j : Nat) (hj : j < 8) (hx : 0 ≤ x ∧ x < 2 ^ j) (hb : b = 0 ∨ b = 1) : Go.bits .or .u8 x (shl .u8 b j) = x + 2 ^ j * b := by
  have hp : (2 : Int) ^ j ≤ 2 ^ 7 := by
    have : (2 : Nat) ^ j ≤ 2 ^ 7 := Nat.pow_le_pow_right (by omega) (by omega)
    exact_mod_cast this
  have hp0 : (0 : Int) < 2 ^ j := Int.pow_pos (by omega)
  have e7 : (2 : Int) ^ 7 = 128 := by decide
  have hs : shl .u8 b j = b * 2 ^ j := by
    unfold shl
    rw [Int.toNat_natCast, Nat.min_eq_left (by simp [IntKind.bits]; omega), IntKind.wrap_u8]
    rcases hb with rfl | rfl <;> simp <;> omega
  rw [hs]
  have hbits := bits_join .u8 8 (by decide) wraps_u8 j
  have hx1 := hx.1; have hx2 := hx.2
  rcases hb with rfl | rfl
  · obtain ⟨n, rfl⟩ := Int.eq_ofNat_of_zero_le hx.1
    have h := u8_or_nat n 0 (by omega) (by omega)
    simp at h ⊢
    exact h
  · obtain ⟨n, rfl⟩ := Int.eq_ofNat_of_zero_le hx.1
    have hn : n < 2 ^ j := by exact_mod_cast hx2
    have e : (2 : Int) ^ j = ((2 ^ j : Nat) : Int) := by simp
    have h := u8_or_nat n (2 ^ j) (by omega) (by omega)
    have h5 := nat_join j (2 ^ j) n (by simp) hn
    rw [Int.one_mul, Int.mul_one, e, h, Nat.or_comm, h5]
    omega

/-- One round: the bit at place 8 q + j. -/
theorem Octets_round (l : List Int) (hl : Lim l) (q j : Nat) (hj : j < 8) (b : Int) (hb : Byte b) (hq : 8 * q + j < l.length) (hr : rd l ((8 * q + j : Nat) : Int) = b) (d : List Int) (hd : d.length = q) (z : List Int) (x : Int) (hx : 0 ≤ x ∧ x < 2 ^ j) (k : Nat) :
    bits_Octets.l0 (k + 1) (d ++ x :: z) l (l.length : Int) ((8 * q + j : Nat) : Int) = bits_Octets.l0 k (d ++ (x + 2 ^ j * (b % 2)) :: z) l (l.length : Int) ((8 * q + (j + 1) : Nat) : Int) := by
  unfold Lim at hl
  have e1 : Int.tdiv ((8 * q + j : Nat) : Int) 8 = (q : Int) := by rw [Int.tdiv_eq_ediv_of_nonneg (by omega)]; omega
  have e2 : Int.tmod ((8 * q + j : Nat) : Int) 8 = (j : Int) := by rw [Int.tmod_eq_emod_of_nonneg (by omega)]; omega
  have e3 : rd (d ++ x :: z) (q : Int) = x := (rd_drop (t := z) (by rw [List.drop_append_of_le_length (by omega), List.drop_eq_nil_of_le (by omega), List.nil_append])).1
  simp only [bits_Octets.l0]
  rw [e1, e2, w64 (x := (q : Int)) (by omega) (by omega), if_pos (by omega), if_pos (by omega), if_pos (by omega), if_pos (by omega), if_pos (by simp [hd]; omega), if_pos (by omega), e3, hr, and1 hb, or_bit j hj hx (by omega), suc _ (by omega), Int.toNat_natCast, List.set_append_right _ _ (by omega), hd, Nat.sub_self, List.set_cons_zero]
  rfl
theorem Octets_l0 (l : List Int) (hl : Lim l) (hb : Bytes l) : ∀ (t : List Int) (q : Nat) (d : List Int), l.drop (8 * q) = t → t.length % 8 = 0 → d.length = q → Ev (fun k => bits_Octets.l0 k (d ++ List.replicate (t.length / 8) 0) l (l.length : Int) ((8 * q : Nat) : Int)) (d ++ octs t, true)
  | [], q, d, h1, h0, hd => by
    have h3 := drop_nil_len h1
    exact Ev.step (fun k => by simp only [bits_Octets.l0]; rw [if_neg (by omega)]; rfl) (Ev.now _)
  | a0 :: a1 :: a2 :: a3 :: a4 :: a5 :: a6 :: a7 :: t, q, d, h1, h0, hd => by
    obtain ⟨r0, g1, lt0⟩ := rd_drop h1
    obtain ⟨r1, g2, lt1⟩ := rd_drop g1
    obtain ⟨r2, g3, lt2⟩ := rd_drop g2
    obtain ⟨r3, g4, lt3⟩ := rd_drop g3
    obtain ⟨r4, g5, lt4⟩ := rd_drop g4
    obtain ⟨r5, g6, lt5⟩ := rd_drop g5
    obtain ⟨r6, g7, lt6⟩ := rd_drop g6
    obtain ⟨r7, g8, lt7⟩ := rd_drop g7
    have hbt : Bytes (a0 :: a1 :: a2 :: a3 :: a4 :: a5 :: a6 :: a7 :: t) := by rw [← h1]; exact hb.drop _
    have b0 := hbt.head; have b1 := hbt.tail.head; have b2 := hbt.tail.tail.head; have b3 := hbt.tail.tail.tail.head; have b4 := hbt.tail.tail.tail.tail.head; have b5 := hbt.tail.tail.tail.tail.tail.head; have b6 := hbt.tail.tail.tail.tail.tail.tail.head; have b7 := hbt.tail.tail.tail.tail.tail.tail.tail.head
    simp only [List.length_cons] at h0
    have ih := Octets_l0 l hl hb t (q + 1) (d ++ [oct8 a0 a1 a2 a3 a4 a5 a6 a7]) g8 (by omega) (by simp [hd])
    have e : (d ++ octs (a0 :: a1 :: a2 :: a3 :: a4 :: a5 :: a6 :: a7 :: t)) = (d ++ [oct8 a0 a1 a2 a3 a4 a5 a6 a7]) ++ octs t := by simp [octs]
    have el : (a0 :: a1 :: a2 :: a3 :: a4 :: a5 :: a6 :: a7 :: t).length / 8 = t.length / 8 + 1 := by simp only [List.length_cons]; omega
    rw [e, el, List.replicate_succ]
    have R := fun j hj b hb hq hr x hx k => Octets_round l hl q j hj b hb hq hr d hd (List.replicate (t.length / 8) 0) x hx k
    refine Ev.step (fun k => R 0 (by omega) a0 b0 lt0 r0 0 (by omega) k) ?_
    refine Ev.step (fun k => R 1 (by omega) a1 b1 lt1 r1 _ (by simp only [Int.pow_zero, Int.pow_one]; omega) k) ?_
    refine Ev.step (fun k => R 2 (by omega) a2 b2 lt2 r2 _ (by simp only [Int.pow_zero, Int.pow_one, Int.reducePow]; omega) k) ?_
    refine Ev.step (fun k => R 3 (by omega) a3 b3 lt3 r3 _ (by simp only [Int.pow_zero, Int.pow_one, Int.reducePow]; omega) k) ?_
    refine Ev.step (fun k => R 4 (by omega) a4 b4 lt4 r4 _ (by simp only [Int.pow_zero, Int.pow_one, Int.reducePow]; omega) k) ?_
    refine Ev.step (fun k => R 5 (by omega) a5 b5 lt5 r5 _ (by simp only [Int.pow_zero, Int.pow_one, Int.reducePow]; omega) k) ?_
    refine Ev.step (fun k => R 6 (by omega) a6 b6 lt6 r6 _ (by simp only [Int.pow_zero, Int.pow_one, Int.reducePow]; omega) k) ?_
    refine Ev.step (fun k => R 7 (by omega) a7 b7 lt7 r7 _ (by simp only [Int.pow_zero, Int.pow_one, Int.reducePow]; omega) k) ?_
    have ev : 0 + 2 ^ 0 * (a0 % 2) + 2 ^ 1 * (a1 % 2) + 2 ^ 2 * (a2 % 2) + 2 ^ 3 * (a3 % 2) + 2 ^ 4 * (a4 % 2) + 2 ^ 5 * (a5 % 2) + 2 ^ 6 * (a6 % 2) + 2 ^ 7 * (a7 % 2) = oct8 a0 a1 a2 a3 a4 a5 a6 a7 := by
      unfold oct8; simp only [Int.pow_zero, Int.pow_one, Int.reducePow]; omega
    rw [ev]
    rw [List.append_assoc] at ih
    exact ih
  | [_], q, d, h1, h0, hd | [_, _], q, d, h1, h0, hd | [_, _, _], q, d, h1, h0, hd | [_, _, _, _], q, d, h1, h0, hd | [_, _, _, _, _], q, d, h1, h0, hd | [_, _, _, _, _, _], q, d, h1, h0, hd | [_, _, _, _, _, _, _], q, d, h1, h0, hd => by simp at h0
theorem Octets (l : List Int) (hl : Lim l) (hb : Bytes l) : Ev (fun k => bits_Octets.f k l) (if l.length % 8 = 0 then (octs l, true) else ([], false)) := by
  by_cases h : l.length % 8 = 0
  · rw [if_pos h]
    have h2 := Octets_l0 l hl hb l 0 [] rfl h rfl
    unfold Lim at hl
    refine Ev.congr (fun k => ?_) h2
    unfold bits_Octets.f
    rw [if_pos (by omega), w64 (by omega) (by omega), if_pos (by omega), if_pos (by omega)]
    rw [show ((l.length : Int) / 8).toNat = l.length / 8 by omega]
    rfl
  · rw [if_neg h]
    exact Ev.congr (fun k => by unfold bits_Octets.f; rw [if_neg (by omega)]) (Ev.now _)

theorem rOctets_l1 (l : List Int) (hl : Lim l) (hb : Bytes l) (i : Nat) (a0 a1 a2 a3 a4 a5 a6 a7 : Int) (t : List Int) (h : l.drop i = a0 :: a1 :: a2 :: a3 :: a4 :: a5 :: a6 :: a7 :: t) (x : List Int) (hx : x.length ≤ 1000000) {r : List Int × Bool}
    (hr : Ev (fun k => marlineref01_Octets.l0 k l (x ++ [oct8 a0 a1 a2 a3 a4 a5 a6 a7]) ((i + 8 : Nat) : Int)) r) : Ev (fun k => marlineref01_Octets.l1 k l x i 0 7) r := by
  obtain ⟨r0, g1, lt0⟩ := rd_drop h
  obtain ⟨r1, g2, lt1⟩ := rd_drop g1
  obtain ⟨r2, g3, lt2⟩ := rd_drop g2
  obtain ⟨r3, g4, lt3⟩ := rd_drop g3
  obtain ⟨r4, g5, lt4⟩ := rd_drop g4
  obtain ⟨r5, g6, lt5⟩ := rd_drop g5
  obtain ⟨r6, g7, lt6⟩ := rd_drop g6
  obtain ⟨r7, g8, lt7⟩ := rd_drop g7
  have hbt : Bytes (a0 :: a1 :: a2 :: a3 :: a4 :: a5 :: a6 :: a7 :: t) := by rw [← h]; exact hb.drop _
  have b0 := hbt.head; have b1 := hbt.tail.head; have b2 := hbt.tail.tail.head; have b3 := hbt.tail.tail.tail.head; have b4 := hbt.tail.tail.tail.tail.head; have b5 := hbt.tail.tail.tail.tail.tail.head; have b6 := hbt.tail.tail.tail.tail.tail.tail.head; have b7 := hbt.tail.tail.tail.tail.tail.tail.tail.head
  unfold Lim at hl
  have step : ∀ (j : Nat) (b n : Int), rd l ((i + j : Nat) : Int) = b → Byte b → i + j < l.length → j ≤ 7 → 0 ≤ n → n ≤ 1000 → ∀ k, marlineref01_Octets.l1 (k + 1) l x i n j = marlineref01_Octets.l1 k l x i (2 * n + b % 2) ((j : Int) - 1) := by
    intro j b n h1 h2 h3 h4 h5 h6 k
    have := h2.1; have := h2.2
    simp only [marlineref01_Octets.l1]
    rw [w64 (x := (i : Int) + j) (by omega) (by omega), if_pos (by omega), if_pos (by omega), if_pos (by omega), show (i : Int) + j = ((i + j : Nat) : Int) by omega, h1, w64 (x := 2 * n) (by omega) (by omega), w64 (x := b) (by omega) (by omega), Int.tmod_eq_emod_of_nonneg (by omega), w64 (x := 2 * n + b % 2) (by omega) (by omega), w64 (x := (j : Int) - 1) (by omega) (by omega)]
  have e : ∀ (n : Int), n = oct8 a0 a1 a2 a3 a4 a5 a6 a7 → Ev (fun k => marlineref01_Octets.l1 k l x i n (-1)) r := by
    rintro n rfl
    refine Ev.step (fun k => ?_) hr
    simp only [marlineref01_Octets.l1]
    rw [if_neg (by omega), if_pos (by omega), w64 (by omega) (by omega), Int.emod_eq_of_lt (by unfold oct8; omega) (by unfold oct8; omega)]
    rfl
  refine Ev.step (fun k => step 7 a7 0 r7 b7 lt7 (by omega) (by omega) (by omega) k) ?_
  refine Ev.step (fun k => step 6 a6 _ r6 b6 lt6 (by omega) (by omega) (by omega) k) ?_
  refine Ev.step (fun k => step 5 a5 _ r5 b5 lt5 (by omega) (by omega) (by omega) k) ?_
  refine Ev.step (fun k => step 4 a4 _ r4 b4 lt4 (by omega) (by omega) (by omega) k) ?_
  refine Ev.step (fun k => step 3 a3 _ r3 b3 lt3 (by omega) (by omega) (by omega) k) ?_
  refine Ev.step (fun k => step 2 a2 _ r2 b2 lt2 (by omega) (by omega) (by omega) k) ?_
  refine Ev.step (fun k => step 1 a1 _ r1 b1 lt1 (by omega) (by omega) (by omega) k) ?_
  refine Ev.step (fun k => step 0 a0 _ r0 b0 lt0 (by omega) (by omega) (by omega) k) ?_
  exact e _ (by unfold oct8; omega)
theorem rOctets_l0 (l : List Int) (hl : Lim l) (hb : Bytes l) : ∀ (t : List Int) (i : Nat) (d : List Int), l.drop i = t → t.length % 8 = 0 → d.length ≤ i → Ev (fun k => marlineref01_Octets.l0 k l d (i : Int)) (d ++ octs t, true)
  | [], i, d, h1, h0, hd => by
    have h3 := drop_nil_len h1
    rw [octs, List.append_nil]
    exact Ev.step (fun k => by simp only [marlineref01_Octets.l0]; rw [if_neg (by omega)]) (Ev.now _)
    all_goals simp
  | a0 :: a1 :: a2 :: a3 :: a4 :: a5 :: a6 :: a7 :: t, i, d, h1, h0, hd => by
    have hlen := drop_len h1
    simp only [List.length_cons] at h0 hlen
    have g8 : l.drop (i + 8) = t := by
      have := congrArg (List.drop 8) h1
      rw [List.drop_drop] at this
      simpa using this
    have ih := rOctets_l0 l hl hb t (i + 8) (d ++ [oct8 a0 a1 a2 a3 a4 a5 a6 a7]) g8 (by omega) (by simp; omega)
    have e : (d ++ octs (a0 :: a1 :: a2 :: a3 :: a4 :: a5 :: a6 :: a7 :: t)) = (d ++ [oct8 a0 a1 a2 a3 a4 a5 a6 a7]) ++ octs t := by simp [octs]
    rw [e]
    have hll := hl
    unfold Lim at hll
    exact Ev.step (fun k => by simp only [marlineref01_Octets.l0]; rw [if_pos (by omega)]) (rOctets_l1 l hl hb i a0 a1 a2 a3 a4 a5 a6 a7 t h1 d (by omega) ih)
  | [_], i, d, h1, h0, hd | [_, _], i, d, h1, h0, hd | [_, _, _], i, d, h1, h0, hd | [_, _, _, _], i, d, h1, h0, hd | [_, _, _, _, _], i, d, h1, h0, hd | [_, _, _, _, _, _], i, d, h1, h0, hd | [_, _, _, _, _, _, _], i, d, h1, h0, hd => by simp at h0
theorem rOctets (l : List Int) (hl : Lim l) (hb : Bytes l) : Ev (fun k => marlineref01_Octets.f k l) (if l.length % 8 = 0 then (octs l, true) else ([], false)) := by
  by_cases h : l.length % 8 = 0
  · rw [if_pos h]
    refine Ev.congr (fun k => ?_) (rOctets_l0 l hl hb l 0 [] rfl h (by simp))
    unfold marlineref01_Octets.f
    rw [if_pos (by omega)]
    rfl
  · rw [if_neg h]
    exact Ev.congr (fun k => by unfold marlineref01_Octets.f; rw [if_neg (by omega)]) (Ev.now _)

theorem rRun_l0 (l : List Int) (hl : Lim l) (hb : Bytes l) (at_ : Nat) : ∀ (t : List Int) (n : Nat), l.drop (at_ + n) = t → at_ + n ≤ l.length → Ev (fun k => marlineref01_Run.l0 k l at_ n) (n + lead t)
  | [], n, h1, h2 => by
    have h3 := drop_nil_len h1
    unfold Lim at hl
    rw [lead, Int.add_zero]
    exact Ev.step (fun k => by simp only [marlineref01_Run.l0]; rw [w64 (by omega) (by omega), if_neg (by omega)]) (Ev.now _)
  | c :: t, n, h1, h2 => by
    obtain ⟨e1, e2, e3⟩ := rd_drop h1
    have hll := hl
    unfold Lim at hll
    have hc : Byte c := by
      have h4 := hb.drop (at_ + n)
      rw [h1] at h4
      exact h4.head
    have hc0 := hc.1
    have ew : wrap64 ((at_ : Int) + (n : Int)) = ((at_ + n : Nat) : Int) := by rw [w64 (by omega) (by omega)]; omega
    by_cases hb1 : c % 2 = 1
    · have ih := rRun_l0 l hl hb at_ t (n + 1) e2 (by omega)
      have e : (n : Int) + lead (c :: t) = ((n + 1 : Nat) : Int) + lead t := by rw [lead, if_pos hb1]; omega
      rw [e]
      exact Ev.step (fun k => by simp only [marlineref01_Run.l0]; rw [ew, if_pos (by omega), if_pos (by omega), e1, Int.tmod_eq_emod_of_nonneg (by omega), if_pos hb1, suc n (by omega)]) ih
    · rw [lead, if_neg hb1, Int.add_zero]
      exact Ev.step (fun k => by simp only [marlineref01_Run.l0]; rw [ew, if_pos (by omega), if_pos (by omega), e1, Int.tmod_eq_emod_of_nonneg (by omega), if_neg hb1]) (Ev.now _)
theorem rRun (l : List Int) (hl : Lim l) (hb : Bytes l) (i : Nat) (hi : i ≤ l.length) : Ev (fun k => marlineref01_Run.f k l i) (lead (l.drop i)) := by
  have h := rRun_l0 l hl hb i (l.drop i) 0 rfl (by omega)
  rw [show ((0 : Nat) : Int) + lead (l.drop i) = lead (l.drop i) by omega] at h
  exact h

theorem rOf_l1 (l : List Int) (x : List Int) (c : Int) (hc : Byte c) (hx : x.length ≤ 9000000) (i : Nat) (r : List Int) (h : Ev (fun k => marlineref01_Of.l0 k l (x ++ eight c) (wrap64 ((i : Int) + 1))) r) : Ev (fun k => marlineref01_Of.l1 k l x i c 0) r := by
  have s : ∀ j : Int, 0 ≤ j → j < 8 → wrap64 (j + 1) = j + 1 := fun j h0 h1 => w64 (by omega) (by omega)
  have e : x ++ eight c = (((((((x ++ [c % 2]) ++ [c / 2 % 2]) ++ [c / 4 % 2]) ++ [c / 8 % 2]) ++ [c / 16 % 2]) ++ [c / 32 % 2]) ++ [c / 64 % 2]) ++ [c / 128 % 2] := by simp [eight]
  rw [e] at h
  have h0 := hc.1; have h1 := hc.2
  have step : ∀ (j : Int) (y : List Int) (m m' : Int), 0 ≤ j → j < 8 → 0 ≤ m → m < 256 → y.length ≤ 9000010 → m' = m / 2 → ∀ k, marlineref01_Of.l1 (k + 1) l y i m j = marlineref01_Of.l1 k l (y ++ [m % 2]) i m' (j + 1) := by
    intro j y m m' h2 h3 h4 h5 h6 h7 k
    simp only [marlineref01_Of.l1]
    rw [if_pos (by omega), if_pos (by omega), s j h2 h3, Int.tmod_eq_emod_of_nonneg h4, Int.tdiv_eq_ediv_of_nonneg h4, w64 (by omega) (by omega), Int.emod_eq_of_lt (by omega) (by omega), h7]
  refine Ev.step (fun k => step 0 x c (c / 2) (by omega) (by omega) (by omega) (by omega) (by omega) (by omega) k) ?_
  refine Ev.step (fun k => step 1 _ (c / 2) (c / 4) (by omega) (by omega) (by omega) (by omega) (by simp; omega) (by omega) k) ?_
  refine Ev.step (fun k => step 2 _ (c / 4) (c / 8) (by omega) (by omega) (by omega) (by omega) (by simp; omega) (by omega) k) ?_
  refine Ev.step (fun k => step 3 _ (c / 8) (c / 16) (by omega) (by omega) (by omega) (by omega) (by simp; omega) (by omega) k) ?_
  refine Ev.step (fun k => step 4 _ (c / 16) (c / 32) (by omega) (by omega) (by omega) (by omega) (by simp; omega) (by omega) k) ?_
  refine Ev.step (fun k => step 5 _ (c / 32) (c / 64) (by omega) (by omega) (by omega) (by omega) (by simp; omega) (by omega) k) ?_
  refine Ev.step (fun k => step 6 _ (c / 64) (c / 128) (by omega) (by omega) (by omega) (by omega) (by simp; omega) (by omega) k) ?_
  refine Ev.step (fun k => step 7 _ (c / 128) (c / 256) (by omega) (by omega) (by omega) (by omega) (by simp; omega) (by omega) k) ?_
  exact Ev.step (fun k => by simp only [marlineref01_Of.l1]; rw [if_neg (by omega)]) h
theorem rOf_l0 (l : List Int) (hl : Lim l) (hb : Bytes l) : ∀ (t : List Int) (i : Nat) (x : List Int), l.drop i = t → x.length ≤ 8 * i → Ev (fun k => marlineref01_Of.l0 k l x i) (x ++ ofOct t)
  | [], i, x, h1, hx => by
    have h3 := drop_nil_len h1
    rw [ofOct, List.append_nil]
    exact Ev.step (fun k => by simp only [marlineref01_Of.l0]; rw [if_neg (by omega)]) (Ev.now _)
  | c :: t, i, x, h1, hx => by
    obtain ⟨e1, e2, e3⟩ := rd_drop h1
    unfold Lim at hl
    have ih := rOf_l0 l hl hb t (i + 1) (x ++ eight c) e2 (by simp [eight]; omega)
    rw [ofOct, ← List.append_assoc]
    have hc : Byte c := by
      have h4 := hb.drop i
      rw [h1] at h4
      exact h4.head
    have h0 := hc.1; have h9 := hc.2
    refine Ev.step (fun k => by simp only [marlineref01_Of.l0]; rw [if_pos (by omega), if_pos (by omega), e1, w64 (by omega) (by omega)]) (rOf_l1 l x c hc (by omega) i _ ?_)
    rw [suc i (by omega)]
    exact ih
theorem rOf (l : List Int) (hl : Lim l) (hb : Bytes l) : Ev (fun k => marlineref01_Of.f k l) (ofOct l) := rOf_l0 l hl hb l 0 [] rfl (by simp)

theorem rSame_l0 (a b : List Int) (hl : a.length = b.length) (ha : Lim a) (hba : Bytes a) (hbb : Bytes b) : ∀ (t u : List Int) (i : Nat), a.drop i = t → b.drop i = u → Ev (fun k => marlineref01_Same.l0 k a b i) (decide (clean t = clean u))
  | [], u, i, h1, h2 => by
    have h3 := drop_nil_len h1
    have h4 := drop_len h2
    obtain rfl : u = [] := List.eq_nil_of_length_eq_zero (by omega)
    exact Ev.step (fun k => by simp only [marlineref01_Same.l0]; rw [if_neg (by omega)]; rfl) (Ev.now _)
  | x :: t, u, i, h1, h2 => by
    obtain ⟨e1, e2, e3⟩ := rd_drop h1
    cases u with
    | nil => have := drop_nil_len h2; omega
    | cons y u =>
      obtain ⟨f1, f2, f3⟩ := rd_drop h2
      have hx0 : 0 ≤ x := (by have h4 := hba.drop i; rw [h1] at h4; exact h4.head : Byte x).1
      have hy0 : 0 ≤ y := (by have h4 := hbb.drop i; rw [h2] at h4; exact h4.head : Byte y).1
      have hla := ha
      unfold Lim at hla
      by_cases hxy : x % 2 = y % 2
      · have ih := rSame_l0 a b hl ha hba hbb t u (i + 1) e2 f2
        rw [show decide (clean (x :: t) = clean (y :: u)) = decide (clean t = clean u) from decide_eq_decide.2 (by simp [clean, hxy])]
        exact Ev.step (fun k => by simp only [marlineref01_Same.l0]; rw [if_pos (by omega), if_pos (by omega), if_pos (by omega), e1, f1, Int.tmod_eq_emod_of_nonneg hx0, Int.tmod_eq_emod_of_nonneg hy0, if_pos hxy, suc i (by omega)]) ih
      · rw [show decide (clean (x :: t) = clean (y :: u)) = false by simp [clean, hxy]]
        exact Ev.step (fun k => by simp only [marlineref01_Same.l0]; rw [if_pos (by omega), if_pos (by omega), if_pos (by omega), e1, f1, Int.tmod_eq_emod_of_nonneg hx0, Int.tmod_eq_emod_of_nonneg hy0, if_neg hxy]) (Ev.now _)
theorem rSame (a b : List Int) (ha : Lim a) (hba : Bytes a) (hbb : Bytes b) : Ev (fun k => marlineref01_Same.f k a b) (decide (clean a = clean b)) := by
  by_cases hl : a.length = b.length
  · exact Ev.congr (fun k => by unfold marlineref01_Same.f; rw [if_pos (by omega)]; rfl) (rSame_l0 a b hl ha hba hbb a b 0 rfl rfl)
  · rw [show decide (clean a = clean b) = false by
      simp only [decide_eq_false_iff_not]
      intro h
      have := congrArg List.length h
      rw [clean_length, clean_length] at this
      exact hl this]
    exact Ev.congr (fun k => by unfold marlineref01_Same.f; rw [if_neg (by omega)]) (Ev.now _)
end Go.Proofs.Ytofanmciehbabaa.Sp
