/- Tags written and read again, in plain words. -/
import Derived.Test.YthkgaciibfjejaaDoorS21g
namespace Go.Proofs.YthkgaciibfjejaaDoor.Sp
open Go.RowKit Go.Proofs.YthkgaciibfjejaaDoor.Print Go.Proofs.YthkgaciibfjejaaDoorW.PrintWords Go.Proofs.YthkgaciibfjejaaDoorW.PrintLast Go.Proofs.YthkgaciibfjejaaDoor.Pl
set_option linter.unusedVariables false
theorem bytes_gput : ∀ (l : List AO), (∀ o ∈ l, U16 o.f0 ∧ Bytes o.f1) → Bytes (gput l).1
  | [], _ => Bytes.nil
  | o :: t, h => by
    unfold gput
    split
    · exact Bytes.nil
    split
    · exact Bytes.nil
    split
    · have ho := h o (by simp)
      exact (((bytes_be 2 o.f0).append (bytes_be 2 _)).append ho.2).append (bytes_gput t (fun o ho => h o (by simp [ho])))
    · exact Bytes.nil
theorem bytes_gget : ∀ (n : Nat) (l : List Int), l.length ≤ n → Bytes l → ∀ o ∈ (gget l).1, U16 o.f0 ∧ Bytes o.f1
  | n, [], _, _, o, ho => by rw [gget_nil] at ho; simp at ho
  | 0, c :: t, h1, _, _, _ => by simp at h1
  | n + 1, c :: t, h1, hb, o, ho => by
    have h3 := nn_bd hb
    rw [gget_step (c :: t) hb (by simp)] at ho
    split at ho
    · simp at ho
    rename_i a
    split at ho
    · simp at ho
    split at ho
    · split at ho <;> simp at ho
    split at ho
    · rcases List.mem_cons.1 ho with rfl | ho
      · exact ⟨tt_bd hb, (hb.take _).drop _⟩
      · exact bytes_gget n _ (by rw [List.length_drop]; omega) (hb.drop _) o ho
    · simp at ho
theorem tt_cons {a b c d : Int} {t : List Int} : tt (a :: b :: c :: d :: t) = a * 256 + b ∧ nn (a :: b :: c :: d :: t) = c * 256 + d := ⟨rfl, rfl⟩
theorem take_pre {H T : List Int} {n : Nat} (h : H.length = n) : (H ++ T).take n = H ∧ (H ++ T).drop n = T := by
  subst h
  exact ⟨List.take_left .., List.drop_left ..⟩
/-- A tag's octets with others behind them are read as the tag and what those are. -/
theorem gget_head (o : AO) (ho : U16 o.f0) (h0 : o.f0 ≠ 0) (hb : Bytes o.f1) (hn : o.f1.length ≤ 65535) (tail : List Int) (ht : Bytes tail) :
    gget (be 2 o.f0 ++ be 2 o.f1.length ++ o.f1 ++ tail) = if (gget tail).2.2 = 0 then (o :: (gget tail).1, 4 + (o.f1.length : Int) + (gget tail).2.1, 0) else ([], 0, (gget tail).2.2) := by
  have ho0 := ho.1
  have ho1 := ho.2
  have bb : Bytes (be 2 o.f0 ++ be 2 o.f1.length ++ o.f1 ++ tail) := (((bytes_be 2 o.f0).append (bytes_be 2 _)).append hb).append ht
  have hlen : (be 2 o.f0 ++ be 2 o.f1.length ++ o.f1 ++ tail).length = 4 + o.f1.length + tail.length := by
    simp only [List.length_append, be_length]
  have hp := take_pre (H := be 2 o.f0 ++ be 2 o.f1.length ++ o.f1) (T := tail) (n := 4 + o.f1.length) (by simp only [List.length_append, be_length])
  have hq := take_pre (H := be 2 o.f0 ++ be 2 o.f1.length) (T := o.f1) (n := 4) (by simp only [List.length_append, be_length])
  have e1 : tt (be 2 o.f0 ++ be 2 o.f1.length ++ o.f1 ++ tail) = o.f0 := by
    rw [be2, be2]
    show o.f0 / 256 % 256 * 256 + o.f0 % 256 = o.f0
    omega
  have e2 : nn (be 2 o.f0 ++ be 2 o.f1.length ++ o.f1 ++ tail) = o.f1.length := by
    rw [be2, be2]
    show (o.f1.length : Int) / 256 % 256 * 256 + (o.f1.length : Int) % 256 = o.f1.length
    omega
  rw [gget_step _ bb (by intro e; rw [e, List.length_nil] at hlen; omega), if_neg (by omega), e2, if_neg (by omega), e1, if_neg h0]
  rw [show (4 + (o.f1.length : Int)).toNat = 4 + o.f1.length by omega, hp.1, hp.2, hq.2]
/-- What is written, with other octets behind it, is read as it was. -/
theorem gget_gput : ∀ (l : List AO), (∀ o ∈ l, U16 o.f0 ∧ Bytes o.f1) → (gput l).2 = 0 → ∀ tail : List Int, Bytes tail →
    gget ((gput l).1 ++ tail) = if (gget tail).2.2 = 0 then (l ++ (gget tail).1, ((gput l).1.length : Int) + (gget tail).2.1, 0) else ([], 0, (gget tail).2.2)
  | [], _, _, tail, ht => by
    show gget tail = _
    split
    · rename_i h
      refine Prod.ext rfl (Prod.ext (by simp [gput]) h)
    · rename_i h
      have := gget_err tail.length tail (Nat.le_refl _) ht h
      exact Prod.ext this.1 (Prod.ext this.2 rfl)
  | o :: t, h, hg, tail, ht => by
    have ho := h o (by simp)
    unfold gput at hg ⊢
    split at hg
    · cases hg
    rename_i h0
    split at hg
    · cases hg
    rename_i h1
    split at hg
    · rename_i h2
      rw [if_neg h0, if_neg h1, if_pos h2]
      have ih := gget_gput t (fun o ho => h o (by simp [ho])) h2 tail ht
      have hb := bytes_gput t (fun o ho => h o (by simp [ho]))
      show gget (be 2 o.f0 ++ be 2 o.f1.length ++ o.f1 ++ (gput t).1 ++ tail) = _
      rw [List.append_assoc _ (gput t).1 tail, gget_head o ho.1 h0 ho.2 (by omega) _ (hb.append ht), ih]
      by_cases h3 : (gget tail).2.2 = 0
      · rw [if_pos h3, if_pos rfl, if_pos h3]
        refine Prod.ext (by simp) (Prod.ext ?_ rfl)
        simp only [List.length_append, be_length]
        omega
      · rw [if_neg h3, if_neg h3, if_neg h3]
    · rename_i h2
      exact absurd hg h2
theorem gget_gput_nil (l : List AO) (h : ∀ o ∈ l, U16 o.f0 ∧ Bytes o.f1) (hg : (gput l).2 = 0) : gget (gput l).1 = (l, ((gput l).1.length : Int), 0) := by
  have := gget_gput l h hg [] Bytes.nil
  rw [List.append_nil, gget_nil, if_pos rfl] at this
  rw [this]
  simp
theorem gget_zeros (b : List Int) (hb : Bytes b) : gget (0 :: 0 :: 0 :: 0 :: b) = ([], 4, 0) := by
  have h0 : Byte 0 := ⟨by omega, by omega⟩
  rw [gget_step _ (((hb.cons h0).cons h0).cons h0 |>.cons h0) (by simp), if_neg (by simp), if_neg (by rw [tt_cons.2]; simp; omega), if_pos (by rw [tt_cons.1]; rfl), if_neg (by rw [tt_cons.2]; decide)]
/-- What is read is written as the octets that it has, but for what ends a list. -/
theorem gput_gget : ∀ (n : Nat) (b : List Int), b.length ≤ n → Bytes b → (gget b).2.2 = 0 →
    (gput (gget b).1).2 = 0 ∧ (gput (gget b).1).1 = b.take (gput (gget b).1).1.length ∧
    ((gget b).2.1 = ((gput (gget b).1).1.length : Int) ∧ (gput (gget b).1).1.length = b.length ∨ (gget b).2.1 = ((gput (gget b).1).1.length : Int) + 4 ∧ (b.drop (gput (gget b).1).1.length).take 4 = [0, 0, 0, 0])
  | 0, b, h1, hb, h => by
    obtain rfl : b = [] := List.eq_nil_of_length_eq_zero (by omega)
    exact ⟨rfl, rfl, .inl ⟨rfl, rfl⟩⟩
  | n + 1, b, h1, hb, h => by
    by_cases hne : b = []
    · subst hne
      exact ⟨rfl, rfl, .inl ⟨rfl, rfl⟩⟩
    have hs := gget_step b hb hne
    by_cases c1 : b.length < 4
    · rw [if_pos c1] at hs; rw [hs] at h; cases h
    rw [if_neg c1] at hs
    by_cases c2 : (b.length : Int) - 4 < nn b
    · rw [if_pos c2] at hs; rw [hs] at h; cases h
    rw [if_neg c2] at hs
    obtain ⟨b0, b1, b2, b3, t, rfl⟩ : ∃ b0 b1 b2 b3 t, b = b0 :: b1 :: b2 :: b3 :: t := by
      match b, c1 with
      | b0 :: b1 :: b2 :: b3 :: t, _ => exact ⟨b0, b1, b2, b3, t, rfl⟩
      | [], c | [_], c | [_, _], c | [_, _, _], c => simp at c
    have x0 := hb.head
    have x1 := hb.tail.head
    have x2 := hb.tail.tail.head
    have x3 := hb.tail.tail.tail.head
    have bt := hb.tail.tail.tail.tail
    have x00 := x0.1; have x01 := x0.2; have x10 := x1.1; have x11 := x1.2; have x20 := x2.1; have x21 := x2.2; have x30 := x3.1; have x31 := x3.2
    have et : tt (b0 :: b1 :: b2 :: b3 :: t) = b0 * 256 + b1 := rfl
    have en : nn (b0 :: b1 :: b2 :: b3 :: t) = b2 * 256 + b3 := rfl
    rw [et, en] at hs
    rw [en] at c2
    simp only [List.length_cons] at c1 c2 h1
    by_cases c3 : b0 * 256 + b1 = 0
    · rw [if_pos c3] at hs
      by_cases c4 : b2 * 256 + b3 > 0
      · rw [if_pos c4] at hs; rw [hs] at h; cases h
      · rw [if_neg c4] at hs
        rw [hs]
        obtain rfl : b0 = 0 := by omega
        obtain rfl : b1 = 0 := by omega
        obtain rfl : b2 = 0 := by omega
        obtain rfl : b3 = 0 := by omega
        exact ⟨rfl, rfl, .inr ⟨rfl, rfl⟩⟩
    · rw [if_neg c3] at hs
      obtain ⟨m, hm⟩ : ∃ m : Nat, b2 * 256 + b3 = m := ⟨(b2 * 256 + b3).toNat, by omega⟩
      rw [hm] at hs c2
      rw [show (4 + (m : Int)).toNat = m + 4 by omega] at hs
      simp only [List.drop_succ_cons, List.take_succ_cons, List.drop_zero] at hs
      have htl : (t.take m).length = m := by rw [List.length_take]; omega
      by_cases c5 : (gget (t.drop m)).2.2 = 0
      · rw [if_pos c5] at hs
        obtain ⟨i1, i2, i3⟩ := gput_gget n (t.drop m) (by rw [List.length_drop]; omega) (bt.drop _) c5
        have hx : gput ((⟨b0 * 256 + b1, t.take m⟩ : AO) :: (gget (t.drop m)).1) = (b0 :: b1 :: b2 :: b3 :: (t.take m ++ (gput (gget (t.drop m)).1).1), 0) := by
          have f0 : b0 = (b0 * 256 + b1) / 256 % 256 := by omega
          have f1 : b1 = (b0 * 256 + b1) % 256 := by omega
          have f2 : b2 = (m : Int) / 256 % 256 := by omega
          have f3 : b3 = (m : Int) % 256 := by omega
          rw [gput, if_neg c3, if_neg (by simp only; omega), if_pos i1]
          simp only [htl, be2, ← f0, ← f1, ← f2, ← f3, List.cons_append, List.nil_append]
        rw [hs]
        simp only [hx]
        generalize hX : (gput (gget (t.drop m)).1).1 = X at i1 i2 i3 ⊢
        have hXl : X.length ≤ t.length - m := by
          have := congrArg List.length i2
          rw [List.length_take, List.length_drop] at this
          omega
        have hlen : (b0 :: b1 :: b2 :: b3 :: (t.take m ++ X)).length = m + X.length + 4 := by simp only [List.length_cons, List.length_append, htl]
        have e2 : t.take m ++ X = t.take (m + X.length) := by
          conv => lhs; rw [i2]
          rw [List.take_add]
        refine ⟨trivial, ?_, ?_⟩
        · rw [hlen, e2]
          simp only [List.take_succ_cons]
        · rw [hlen]
          rcases i3 with ⟨j1, j2⟩ | ⟨j1, j2⟩
          · rw [List.length_drop] at j2
            exact .inl ⟨by omega, by simp only [List.length_cons]; omega⟩
          · refine .inr ⟨by omega, ?_⟩
            simp only [List.drop_succ_cons]
            rw [← List.drop_drop]
            exact j2
      · rw [if_neg c5] at hs
        rw [hs] at h
        exact absurd h c5
/-- A list that is cut off is refused, or it is what stands ahead of the cut. -/
theorem gget_cut : ∀ (l : List AO), (∀ o ∈ l, U16 o.f0 ∧ Bytes o.f1) → (gput l).2 = 0 → ∀ k : Nat, k < (gput l).1.length →
    (gget ((gput l).1.take k) = ([], 0, 2)) ∨ ((gget ((gput l).1.take k)).2.2 = 0 ∧ (gget ((gput l).1.take k)).2.1 = k ∧ (gget ((gput l).1.take k)).1.length < l.length ∧ (gget ((gput l).1.take k)).1 = l.take (gget ((gput l).1.take k)).1.length)
  | [], _, _, k, hk => by simp [gput] at hk
  | o :: t, h, hg, k, hk => by
    have ho := h o (by simp)
    have hb := bytes_gput t (fun o ho => h o (by simp [ho]))
    unfold gput at hg hk ⊢
    split at hg
    · cases hg
    rename_i h0
    split at hg
    · cases hg
    rename_i h1
    split at hg
    · rename_i h2
      rw [if_neg h0, if_neg h1, if_pos h2] at hk ⊢
      simp only at hk ⊢
      generalize hX : (gput t).1 = X at hb hk ⊢
      have bb : Bytes (be 2 o.f0 ++ be 2 o.f1.length ++ o.f1 ++ X) := (((bytes_be 2 o.f0).append (bytes_be 2 _)).append ho.2).append hb
      have hlen : (be 2 o.f0 ++ be 2 o.f1.length ++ o.f1 ++ X).length = 4 + o.f1.length + X.length := by
        simp only [List.length_append, be_length]
      by_cases k0 : k = 0
      · subst k0
        rw [List.take_zero, gget_nil]
        exact .inr ⟨rfl, rfl, by simp, rfl⟩
      by_cases c : k < 4 + o.f1.length
      · left
        have hl : ((be 2 o.f0 ++ be 2 o.f1.length ++ o.f1 ++ X).take k).length = k := by rw [List.length_take]; omega
        rw [gget_step _ (bb.take _) (by intro e; rw [e] at hl; simp at hl; omega)]
        by_cases c4 : k < 4
        · rw [if_pos (by omega)]
        · rw [if_neg (by omega)]
          obtain ⟨j, rfl⟩ : ∃ j, k = j + 4 := ⟨k - 4, by omega⟩
          rw [if_pos]
          rw [hl]
          rw [be2, be2]
          show ((j + 4 : Nat) : Int) - 4 < (o.f1.length : Int) / 256 % 256 * 256 + (o.f1.length : Int) % 256
          omega
      · obtain ⟨j, rfl⟩ : ∃ j, k = (4 + o.f1.length) + j := ⟨k - (4 + o.f1.length), by omega⟩
        have e : (be 2 o.f0 ++ be 2 o.f1.length ++ o.f1 ++ X).take ((4 + o.f1.length) + j) = be 2 o.f0 ++ be 2 o.f1.length ++ o.f1 ++ X.take j := by
          have hH : (be 2 o.f0 ++ be 2 o.f1.length ++ o.f1).length = 4 + o.f1.length := by simp only [List.length_append, be_length]
          rw [List.take_append, hH, List.take_of_length_le (by omega), show 4 + o.f1.length + j - (4 + o.f1.length) = j by omega]
        rw [e, gget_head o ho.1 h0 ho.2 (by omega) _ (hb.take _)]
        have ih := gget_cut t (fun o ho => h o (by simp [ho])) h2 j (by rw [hX]; rw [hlen] at hk; omega)
        rw [hX] at ih
        rcases ih with ih | ⟨i1, i2, i3, i4⟩
        · left
          rw [ih, if_neg (by decide)]
        · right
          rw [if_pos i1]
          refine ⟨rfl, by simp only; omega, by simp only [List.length_cons]; omega, ?_⟩
          simp only [List.length_cons, List.take_succ_cons]
          rw [← i4]
    · rename_i h2
      exact absurd hg h2
end Go.Proofs.YthkgaciibfjejaaDoor.Sp
