/- Tags as they are read, by the code and by the reference, in plain words. -/
import Derived.Test.YthkgaciibfjejaaDoorS21
namespace Go.Proofs.YthkgaciibfjejaaDoor.Sp
open Go.RowKit Go.Proofs.YthkgaciibfjejaaDoor.Print Go.Proofs.YthkgaciibfjejaaDoorW.PrintWords Go.Proofs.YthkgaciibfjejaaDoorW.PrintLast Go.Proofs.YthkgaciibfjejaaDoor.Pl
set_option linter.unusedVariables false
set_option maxHeartbeats 1000000
theorem rdb {l : List Int} (hb : Bytes l) (i : Int) : 0 ≤ rd l i ∧ rd l i < 256 := by
  unfold rd
  rw [List.getD_eq_getElem?_getD]
  by_cases h : i.toNat < l.length
  · rw [List.getElem?_eq_getElem h]
    exact hb _ (List.getElem_mem h)
  · rw [List.getElem?_eq_none (by omega)]
    simp
theorem rd_dropN (l : List Int) (i j : Nat) : rd (l.drop i) (j : Int) = rd l ((i + j : Nat) : Int) := by
  unfold rd
  rw [Int.toNat_natCast, Int.toNat_natCast, List.getD_eq_getElem?_getD, List.getD_eq_getElem?_getD, List.getElem?_drop]
/-- A tag's type, and how long its data is. -/
def tt (l : List Int) : Int := rd l 0 * 256 + rd l 1
def nn (l : List Int) : Int := rd l 2 * 256 + rd l 3
theorem tt_bd {l : List Int} (hb : Bytes l) : 0 ≤ tt l ∧ tt l < 65536 := by
  have h0 := rdb hb 0
  have h1 := rdb hb 1
  unfold tt
  omega
theorem nn_bd {l : List Int} (hb : Bytes l) : 0 ≤ nn l ∧ nn l < 65536 := by
  have h0 := rdb hb 2
  have h1 := rdb hb 3
  unfold nn
  omega
def gg : Nat → List Int → List AO × Int × Int
  | 0, _ => ([], 0, 0)
  | m + 1, l => if l = [] then ([], 0, 0) else if l.length < 4 then ([], 0, 2) else if (l.length : Int) - 4 < nn l then ([], 0, 2) else if tt l = 0 then (if nn l > 0 then ([], 0, 4) else ([], 4, 0)) else
      if (gg m (l.drop (4 + nn l).toNat)).2.2 = 0 then (⟨tt l, (l.take (4 + nn l).toNat).drop 4⟩ :: (gg m (l.drop (4 + nn l).toNat)).1, 4 + nn l + (gg m (l.drop (4 + nn l).toNat)).2.1, 0) else ([], 0, (gg m (l.drop (4 + nn l).toNat)).2.2)
theorem gg_fuel : ∀ (n m : Nat) (l : List Int), Bytes l → l.length ≤ n → l.length ≤ m → gg n l = gg m l
  | 0, m, l, hb, h1, h2 => by
    obtain rfl : l = [] := List.eq_nil_of_length_eq_zero (by omega)
    cases m <;> simp [gg]
  | n + 1, 0, l, hb, h1, h2 => by
    obtain rfl : l = [] := List.eq_nil_of_length_eq_zero (by omega)
    simp [gg]
  | n + 1, m + 1, l, hb, h1, h2 => by
    have h3 := nn_bd hb
    unfold gg
    by_cases h : l = []
    · simp [h]
    rw [if_neg h, if_neg h]
    by_cases h4 : l.length < 4
    · rw [if_pos h4, if_pos h4]
    rw [gg_fuel n m (l.drop (4 + nn l).toNat) (hb.drop _) (by rw [List.length_drop]; omega) (by rw [List.length_drop]; omega)]
def gget (l : List Int) : List AO × Int × Int := gg l.length l
theorem gget_nil : gget [] = ([], 0, 0) := rfl
theorem gget_step (l : List Int) (hb : Bytes l) (h : l ≠ []) : gget l = if l.length < 4 then ([], 0, 2) else if (l.length : Int) - 4 < nn l then ([], 0, 2) else if tt l = 0 then (if nn l > 0 then ([], 0, 4) else ([], 4, 0)) else
      if (gget (l.drop (4 + nn l).toNat)).2.2 = 0 then (⟨tt l, (l.take (4 + nn l).toNat).drop 4⟩ :: (gget (l.drop (4 + nn l).toNat)).1, 4 + nn l + (gget (l.drop (4 + nn l).toNat)).2.1, 0) else ([], 0, (gget (l.drop (4 + nn l).toNat)).2.2) := by
  have hp := List.length_pos_iff.2 h
  have h3 := nn_bd hb
  unfold gget
  obtain ⟨n, hn⟩ : ∃ n, l.length = n + 1 := ⟨l.length - 1, by omega⟩
  rw [hn]
  conv => lhs; unfold gg
  rw [if_neg h, hn]
  by_cases h4 : n + 1 < 4
  · rw [if_pos h4, if_pos h4]
  rw [gg_fuel n (l.drop (4 + nn l).toNat).length (l.drop (4 + nn l).toNat) (hb.drop _) (by rw [List.length_drop]; omega) (Nat.le_refl _)]
theorem gget_err : ∀ (n : Nat) (l : List Int), l.length ≤ n → Bytes l → (gget l).2.2 ≠ 0 → (gget l).1 = [] ∧ (gget l).2.1 = 0
  | 0, l, h1, hb, h => by
    obtain rfl : l = [] := List.eq_nil_of_length_eq_zero (by omega)
    exact absurd rfl h
  | n + 1, l, h1, hb, h => by
    by_cases h0 : l = []
    · subst h0; exact absurd rfl h
    rw [gget_step l hb h0] at h ⊢
    split
    · exact ⟨rfl, rfl⟩
    split
    · exact ⟨rfl, rfl⟩
    split
    · split
      · exact ⟨rfl, rfl⟩
      · rename_i a b c d
        rw [if_neg a, if_neg b, if_pos c, if_neg d] at h
        exact absurd rfl h
    split
    · rename_i a b c d
      rw [if_neg a, if_neg b, if_neg c, if_pos d] at h
      exact absurd rfl h
    · exact ⟨rfl, rfl⟩
theorem gget_n : ∀ (n : Nat) (l : List Int), l.length ≤ n → Bytes l → 0 ≤ (gget l).2.1 ∧ (gget l).2.1 ≤ l.length ∧ (gget l).1.length ≤ l.length
  | 0, l, h1, hb => by
    obtain rfl : l = [] := List.eq_nil_of_length_eq_zero (by omega)
    simp [gget_nil]
  | n + 1, l, h1, hb => by
    by_cases h0 : l = []
    · subst h0; simp [gget_nil]
    have h3 := nn_bd hb
    rw [gget_step l hb h0]
    split
    · simp
    rename_i a
    split
    · simp
    rename_i b
    split
    · split
      · simp
      · simp; omega
    split
    · have ih := gget_n n (l.drop (4 + nn l).toNat) (by rw [List.length_drop]; omega) (hb.drop _)
      rw [List.length_drop] at ih
      simp only [List.length_cons]
      omega
    · simp
/-! ### the reference -/
theorem rGetL : ∀ (n : Nat) (l : List Int), l.length ≤ n → Bytes l → Lim l → Ev (fun k => marlineref21_Get.f k l) ((gget l).1.map ro, (gget l).2.1, (gget l).2.2)
  | 0, l, h1, hb, hl => by
    obtain rfl : l = [] := List.eq_nil_of_length_eq_zero (by omega)
    exact Ev.step (fun k => by simp only [marlineref21_Get.f]; rw [if_pos (by simp)]; rfl) (Ev.now _)
  | n + 1, l, h1, hb, hl => by
    have hl' := hl
    unfold Lim at hl
    by_cases h0 : l = []
    · subst h0
      exact Ev.step (fun k => by simp only [marlineref21_Get.f]; rw [if_pos (by simp)]; rfl) (Ev.now _)
    have hp := List.length_pos_iff.2 h0
    have r0 := rdb hb 0
    have r1 := rdb hb 1
    have r2 := rdb hb 2
    have r3 := rdb hb 3
    have ht := tt_bd hb
    have hn := nn_bd hb
    have a0 : wrap64 (wrap64 (wrap64 (rd l 0) * 256) + wrap64 (rd l 1)) = tt l := by
      unfold tt
      rw [w64 (x := rd l 0) (by omega) (by omega), w64 (x := rd l 1) (by omega) (by omega), w64 (x := rd l 0 * 256) (by omega) (by omega), w64 (by omega) (by omega)]
    have a1 : wrap64 (wrap64 (wrap64 (rd l 2) * 256) + wrap64 (rd l 3)) = nn l := by
      unfold nn
      rw [w64 (x := rd l 2) (by omega) (by omega), w64 (x := rd l 3) (by omega) (by omega), w64 (x := rd l 2 * 256) (by omega) (by omega), w64 (by omega) (by omega)]
    have a2 : wrap64 (4 + nn l) = 4 + nn l := w64 (by omega) (by omega)
    have a3 : wrap64 ((l.length : Int) - 4) = l.length - 4 := w64 (by omega) (by omega)
    have a4 : IntKind.u16.wrap (tt l) = tt l := by rw [IntKind.wrap_u16]; omega
    rw [gget_step l hb h0]
    by_cases h4 : l.length < 4
    · rw [if_pos h4]
      exact Ev.step (fun k => by simp only [marlineref21_Get.f, a0, a1, a2, a3]; rw [if_neg (by omega), if_pos (by omega)]; rfl) (Ev.now _)
    rw [if_neg h4]
    by_cases h5 : (l.length : Int) - 4 < nn l
    · rw [if_pos h5]
      exact Ev.step (fun k => by simp only [marlineref21_Get.f, a0, a1, a2, a3]; rw [if_neg (by omega), if_neg (by omega), if_pos (by omega), if_pos (by omega), if_pos (by omega), if_pos (by omega), if_pos h5]; rfl) (Ev.now _)
    rw [if_neg h5]
    by_cases h6 : tt l = 0
    · rw [if_pos h6]
      by_cases h7 : nn l > 0
      · rw [if_pos h7]
        exact Ev.step (fun k => by simp only [marlineref21_Get.f, a0, a1, a2, a3]; rw [if_neg (by omega), if_neg (by omega), if_pos (by omega), if_pos (by omega), if_pos (by omega), if_pos (by omega), if_neg h5, if_pos h6, if_pos h7]; rfl) (Ev.now _)
      · rw [if_neg h7]
        exact Ev.step (fun k => by simp only [marlineref21_Get.f, a0, a1, a2, a3]; rw [if_neg (by omega), if_neg (by omega), if_pos (by omega), if_pos (by omega), if_pos (by omega), if_pos (by omega), if_neg h5, if_pos h6, if_neg h7]; rfl) (Ev.now _)
    rw [if_neg h6]
    have ih := rGetL n (l.drop (4 + nn l).toNat) (by rw [List.length_drop]; omega) (hb.drop _) (by unfold Lim; rw [List.length_drop]; omega)
    have hm := gget_n n (l.drop (4 + nn l).toNat) (by rw [List.length_drop]; omega) (hb.drop _)
    rw [List.length_drop] at hm
    refine Ev.step (fun k => by simp only [marlineref21_Get.f, a0, a1, a2, a3, a4]; rw [if_neg (by omega), if_neg (by omega), if_pos (by omega), if_pos (by omega), if_pos (by omega), if_pos (by omega), if_neg h5, if_neg h6, if_pos (by omega), if_pos (by omega)]) (Ev.bind ih ?_)
    by_cases h8 : (gget (l.drop (4 + nn l).toNat)).2.2 = 0
    · refine Ev.pos h8 (Ev.pos (by omega) (Ev.name (Ev.pos (by simp only [List.length_cons, List.length_nil, List.length_map]; omega) (Ev.end_ ?_))))
      rw [if_pos h8, w64 (x := 4 + nn l + (gget (l.drop (4 + nn l).toNat)).2.1) (by omega) (by omega)]
      rfl
    · refine Ev.neg h8 ?_
      rw [if_neg h8]
      exact Ev.now _
/-! ### the code -/
theorem b0_ (L i : Nat) (h : L ≤ 1000000) (hi : i ≤ L) : wrap64 ((L : Int) - i) = L - i := w64 (by omega) (by omega)
theorem b2_ (i : Nat) (h : i ≤ 1000000) : wrap64 ((i : Int) + 2) = ((i + 2 : Nat) : Int) := by rw [w64 (by omega) (by omega)]; omega
theorem b4_ (i : Nat) (h : i ≤ 1000000) : wrap64 ((i : Int) + 4) = ((i + 4 : Nat) : Int) := by rw [w64 (by omega) (by omega)]; omega
theorem b5_ (L i : Nat) (h : L ≤ 1000000) (hi : i ≤ L) : wrap64 ((L : Int) - ((i + 4 : Nat) : Int)) = L - i - 4 := by rw [w64 (by omega) (by omega)]; omega
theorem b6_ (i m : Nat) (h : i ≤ 1000000) (hm : m ≤ 1000000) : wrap64 (((i + 4 : Nat) : Int) + m) = ((i + 4 + m : Nat) : Int) := by rw [w64 (by omega) (by omega)]; omega
theorem gGet_l0 (l : List Int) (hb : Bytes l) (hl : Lim l) : ∀ (n at_ : Nat) (x : List AO), l.length - at_ ≤ n → at_ ≤ l.length → x.length + n ≤ 3000000 →
    Ev (fun k => tags_Get.l0 k l x (at_ : Int)) (if (gget (l.drop at_)).2.2 = 0 then (x ++ (gget (l.drop at_)).1, (at_ : Int) + (gget (l.drop at_)).2.1, 0) else ([], 0, (gget (l.drop at_)).2.2)) := by
  have hl' := hl
  unfold Lim at hl
  intro n
  induction n with
  | zero =>
    intro i x h1 h2 hx
    rw [List.drop_eq_nil_of_le (by omega), gget_nil, if_pos rfl, List.append_nil, Int.add_zero]
    exact Ev.step (fun k => by simp only [tags_Get.l0]; rw [if_neg (by omega)]) (Ev.now _)
  | succ n ih =>
    intro i x h1 h2 hx
    by_cases h0 : l.length ≤ i
    · rw [List.drop_eq_nil_of_le h0, gget_nil, if_pos rfl, List.append_nil, Int.add_zero]
      exact Ev.step (fun k => by simp only [tags_Get.l0]; rw [if_neg (by omega)]) (Ev.now _)
    have hd : (l.drop i).length = l.length - i := List.length_drop
    have hne : l.drop i ≠ [] := by intro e; rw [e] at hd; simp at hd; omega
    have bd : Bytes (l.drop i) := hb.drop i
    have ht := tt_bd bd
    have hn := nn_bd bd
    rw [gget_step _ bd hne]
    by_cases c1 : (l.drop i).length < 4
    · rw [if_pos c1, if_neg (by decide)]
      exact Ev.step (fun k => by simp only [tags_Get.l0, b0_ l.length i hl h2]; rw [if_pos (by omega), if_pos (by omega)]) (Ev.now _)
    rw [if_neg c1]
    have g1 : num 0 ((l.drop i).take 2) = tt (l.drop i) := num2 (l := l.drop i) (by omega)
    have g2 : num 0 ((l.drop (i + 2)).take 2) = nn (l.drop i) := by
      have e9 : num 0 ((l.drop (i + 2)).take 2) = rd (l.drop (i + 2)) 0 * 256 + rd (l.drop (i + 2)) 1 := num2 (l := l.drop (i + 2)) (by rw [List.length_drop]; omega)
      rw [e9]
      unfold nn
      have e0 := rd_dropN l (i + 2) 0
      have e1 := rd_dropN l (i + 2) 1
      have e2 := rd_dropN l i 2
      have e3 := rd_dropN l i 3
      rw [show (rd (l.drop (i + 2)) 0) = rd (l.drop i) 2 from e0.trans e2.symm, show (rd (l.drop (i + 2)) 1) = rd (l.drop i) 3 from e1.trans e3.symm]
    have W1 := WGet (l.drop i) 2 (by omega) (by omega) bd
    have W2 := WGet (l.drop (i + 2)) 2 (by omega) (by rw [List.length_drop]; omega) (hb.drop _)
    rw [g1] at W1
    rw [g2] at W2
    replace W1 : Ev (fun k => wire_Get.f k (l.drop i) 2) (tt (l.drop i)) := W1
    replace W2 : Ev (fun k => wire_Get.f k (l.drop (i + 2)) 2) (nn (l.drop i)) := W2
    refine Ev.step (fun k => by simp only [tags_Get.l0, b0_ l.length i hl h2, b2_ i (Nat.le_trans h2 hl), b4_ i (Nat.le_trans h2 hl), b5_ l.length i hl h2, Int.toNat_natCast]; rw [if_pos (by omega), if_neg (by omega), if_pos (by omega), if_pos (by omega)]) (Ev.bind W1 ?_)
    refine Ev.pos (show (0 : Int) ≤ ((i + 2 : Nat) : Int) by omega) ?_
    refine Ev.pos (show ((i + 2 : Nat) : Int) ≤ (l.length : Int) by omega) (Ev.bind W2 ?_)
    rw [w64 (x := nn (l.drop i)) (by omega) (by omega), IntKind.wrap_u16, Int.emod_eq_of_lt ht.1 ht.2]
    by_cases c2 : ((l.drop i).length : Int) - 4 < nn (l.drop i)
    · rw [if_pos c2, if_neg (by decide)]
      exact Ev.pos (by omega) (Ev.now _)
    rw [if_neg c2]
    refine Ev.neg (by omega) ?_
    by_cases c3 : tt (l.drop i) = 0
    · rw [if_pos c3]
      refine Ev.pos c3 ?_
      by_cases c4 : nn (l.drop i) > 0
      · rw [if_pos c4, if_neg (by decide)]
        exact Ev.step (fun k => by simp only [tags_Get.j1]; rw [if_pos (decide_eq_true c4)]) (Ev.now _)
      · rw [if_neg c4, if_pos rfl]
        exact Ev.step (fun k => by simp only [tags_Get.j1]; rw [if_neg (by simpa using c4), if_pos c3]) (Ev.end_ (by simp))
    · rw [if_neg c3]
      refine Ev.neg c3 ?_
      obtain ⟨m, hm⟩ : ∃ m : Nat, nn (l.drop i) = m := ⟨(nn (l.drop i)).toNat, by omega⟩
      rw [hm] at c2 ⊢
      have e4 : ((l.drop i).take (4 + (m : Int)).toNat).drop 4 = (l.take (i + 4 + m)).drop (i + 4) := by
        rw [show (4 + (m : Int)).toNat = 4 + m by omega, List.take_drop, List.drop_drop, show i + (4 + m) = i + 4 + m by omega]
      have e5 : (l.drop i).drop (4 + (m : Int)).toNat = l.drop (i + 4 + m) := by rw [List.drop_drop, show i + (4 + (m : Int)).toNat = i + 4 + m by omega]
      rw [e4, e5]
      have IH := ih (i + 4 + m) (x ++ [⟨tt (l.drop i), (l.take (i + 4 + m)).drop (i + 4)⟩]) (by omega) (by omega) (by simp; omega)
      have hm6 : m ≤ 1000000 := by omega
      have cl : bytes_Clone.f ((l.take (i + 4 + m)).drop (i + 4)) = some ((l.take (i + 4 + m)).drop (i + 4)) := by
        unfold bytes_Clone.f
        rw [if_pos (by rw [List.length_drop, List.length_take]; omega)]
      refine Ev.step (fun k => by simp only [tags_Get.j1, b6_ i m (Nat.le_trans h2 hl) hm6, Int.toNat_natCast]; rw [if_neg (by decide), if_neg c3, if_pos (by omega), if_pos (by omega), if_pos (by omega), cl, Option.bind_some, if_pos (by omega)]) ?_
      have e6 : ∀ g : List AO × Int × Int, (if (if g.2.2 = 0 then ((⟨tt (l.drop i), (l.take (i + 4 + m)).drop (i + 4)⟩ : AO) :: g.1, 4 + (m : Int) + g.2.1, (0 : Int)) else ([], 0, g.2.2)).2.2 = 0 then (x ++ (if g.2.2 = 0 then ((⟨tt (l.drop i), (l.take (i + 4 + m)).drop (i + 4)⟩ : AO) :: g.1, 4 + (m : Int) + g.2.1, (0 : Int)) else ([], 0, g.2.2)).1, (i : Int) + (if g.2.2 = 0 then ((⟨tt (l.drop i), (l.take (i + 4 + m)).drop (i + 4)⟩ : AO) :: g.1, 4 + (m : Int) + g.2.1, (0 : Int)) else ([], 0, g.2.2)).2.1, (0 : Int)) else ([], 0, (if g.2.2 = 0 then ((⟨tt (l.drop i), (l.take (i + 4 + m)).drop (i + 4)⟩ : AO) :: g.1, 4 + (m : Int) + g.2.1, (0 : Int)) else ([], 0, g.2.2)).2.2)) = if g.2.2 = 0 then ((x ++ [⟨tt (l.drop i), (l.take (i + 4 + m)).drop (i + 4)⟩]) ++ g.1, ((i + 4 + m : Nat) : Int) + g.2.1, 0) else ([], 0, g.2.2) := by
        intro g
        by_cases h5 : g.2.2 = 0
        · simp [h5]
          omega
        · simp [h5]
      rw [e6]
      exact IH
theorem gGetL (l : List Int) (hb : Bytes l) (hl : Lim l) : Ev (fun k => tags_Get.f k l) (gget l) := by
  unfold tags_Get.f
  have h := gGet_l0 l hb hl l.length 0 [] (by omega) (by omega) (by unfold Lim at hl; simp; omega)
  rw [List.drop_zero] at h
  have e : (if (gget l).2.2 = 0 then (([] : List AO) ++ (gget l).1, ((0 : Nat) : Int) + (gget l).2.1, (0 : Int)) else ([], 0, (gget l).2.2)) = gget l := by
    split
    · rename_i h; refine Prod.ext rfl (Prod.ext (by simp) h.symm)
    · rename_i h; have := gget_err l.length l (Nat.le_refl _) hb h; exact Prod.ext this.1.symm (Prod.ext this.2.symm rfl)
  rw [e] at h
  exact h
end Go.Proofs.YthkgaciibfjejaaDoor.Sp
