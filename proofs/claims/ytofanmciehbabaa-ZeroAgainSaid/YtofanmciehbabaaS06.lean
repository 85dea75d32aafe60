/- What the printed functions of layer 6 and of its reference come to, in plain words. -/
import Derived.Test.YtofanmciehbabaaEv
import Derived.Test.YtofanmciehbabaaZr
import Derived.Test.YtofanmciehbabaaPrintZeroInsert
import Derived.Test.YtofanmciehbabaaPrintZeroFlag
import Derived.Test.YtofanmciehbabaaPrintZeroRemove
import Derived.Test.YtofanmciehbabaaPrintMarlineref06Insert
import Derived.Test.YtofanmciehbabaaPrintMarlineref06Remove
namespace Go.Proofs.Ytofanmciehbabaa.Sp
open Go.RowKit Go.Proofs.Ytofanmciehbabaa.Print Go.Proofs.YtofanmciehbabaaW.PrintWords Go.Proofs.YtofanmciehbabaaW.PrintLast Go.Proofs.Ytofanmciehbabaa.Pl
set_option linter.unusedVariables false
theorem Insert_l0 (c : List Int) (hl : Lim c) (hbit : ∀ x ∈ c, x = 0 ∨ x = 1) : ∀ (t : List Int) (i : Nat) (x : List Int) (n : Int), c.drop i = t → x.length ≤ 2 * i → 0 ≤ n → n ≤ 4 → Ev (fun k => zero_Insert.l0 k x n c (c.length : Int) i) (x ++ ins n t)
  | [], i, x, n, h1, hx, h0, h4 => by
    have h3 := drop_nil_len h1
    rw [ins, List.append_nil]
    exact Ev.step (fun k => by simp only [zero_Insert.l0]; rw [if_neg (by omega)]) (Ev.now _)
  | b :: t, i, x, n, h1, hx, h0, h4 => by
    obtain ⟨e1, e2, e3⟩ := rd_drop h1
    have hb := hbit b (by have : b ∈ c.drop i := by rw [h1]; simp
                          exact List.mem_of_mem_drop this)
    unfold Lim at hl
    have e : x ++ ins n (b :: t) = if b = 0 then (x ++ [b]) ++ ins 0 t else if n + 1 = 5 then ((x ++ [b]) ++ [0]) ++ ins 0 t else (x ++ [b]) ++ ins (n + 1) t := by
      rcases hb with rfl | rfl
      · simp [ins]
      · have e9 : (1 : Int) % 2 = 1 := by decide
        rw [ins, e9, if_neg (show ¬ (1 : Int) = 0 by decide), if_neg (show ¬ (1 : Int) = 0 by decide)]
        split <;> simp
    rw [e]
    refine Ev.step (fun k => by simp only [zero_Insert.l0]; rw [if_pos (by omega), if_pos (by omega), if_pos (by omega), if_pos (by omega), e1, suc i (by omega), w64 (x := n + 1) (by omega) (by omega)]) ?_
    refine Ev.name ?_
    by_cases hz : b = 0
    · rw [if_pos hz]
      exact Ev.pos hz (Insert_l0 c hl hbit t (i + 1) _ 0 e2 (by simp; omega) (by omega) (by omega))
    · rw [if_neg hz]
      refine Ev.neg hz ?_
      by_cases h5 : n + 1 = 5
      · rw [if_pos h5]
        refine Ev.pos h5 (Ev.pos (by simp; omega) ?_)
        exact Insert_l0 c hl hbit t (i + 1) _ 0 e2 (by simp; omega) (by omega) (by omega)
      · rw [if_neg h5]
        exact Ev.neg h5 (Insert_l0 c hl hbit t (i + 1) _ (n + 1) e2 (by simp; omega) (by omega) (by omega))
theorem Insert (l : List Int) (hl : Lim l) (hb : Bytes l) : Ev (fun k => zero_Insert.f k l) (ins 0 l) := by
  have hlc : Lim (clean l) := by unfold Lim; rw [clean_length]; exact hl
  have h := Insert_l0 (clean l) hlc (fun x hx => bit_clean hx) (clean l) 0 [] 0 rfl (by simp) (by omega) (by omega)
  rw [ins_clean] at h
  have hll := hl
  unfold Lim at hll
  have hq : Int.tdiv (l.length : Int) 5 = (l.length : Int) / 5 := Int.tdiv_eq_ediv_of_nonneg (by omega)
  unfold zero_Insert.f
  simp only [w64 (x := (l.length : Int) / 5) (by omega) (by omega), w64 (x := (l.length : Int) + (l.length : Int) / 5) (by omega) (by omega)]
  refine Ev.pos (by omega) (Ev.pos (by omega) ?_)
  refine Ev.bind (Clean l hl hb) ?_
  exact h
theorem Flag : Ev (fun k => zero_Flag.f k) [0, 1, 1, 1, 1, 1, 1, 0] := by
  unfold zero_Flag.f
  refine Ev.bind (Of [126] (by unfold Lim; decide) (bytes_lit (by decide))) ?_
  exact Ev.end_ (by decide)

theorem Remove_l0 (c : List Int) (hl : Lim c) (hbit : ∀ x ∈ c, x = 0 ∨ x = 1) : ∀ (t : List Int) (i : Nat) (x : List Int) (n : Int), c.drop i = t → x.length ≤ i → 0 ≤ n → n ≤ i → Ev (fun k => zero_Remove.l0 k x n c (c.length : Int) i) (x ++ rem n t, 0)
  | [], i, x, n, h1, hx, h0, h4 => by
    have h3 := drop_nil_len h1
    rw [rem, List.append_nil]
    exact Ev.step (fun k => by simp only [zero_Remove.l0]; rw [if_neg (by omega)]) (Ev.now _)
  | b :: t, i, x, n, h1, hx, h0, h4 => by
    obtain ⟨e1, e2, e3⟩ := rd_drop h1
    have hb := hbit b (by have : b ∈ c.drop i := by rw [h1]; simp
                          exact List.mem_of_mem_drop this)
    unfold Lim at hl
    have hb2 : b % 2 = b := by rcases hb with rfl | rfl <;> decide
    have hbm := bitmul n b h0
    rw [hb2] at hbm
    have e : x ++ rem n (b :: t) = if n = 5 then x ++ rem ((n + 1) * b) t else (x ++ [b]) ++ rem ((n + 1) * b) t := by
      rw [rem, hb2]
      split <;> simp
    rw [e]
    refine Ev.step (fun k => by simp only [zero_Remove.l0]; rw [if_pos (by omega), if_pos (by omega), if_pos (by omega), e1, suc i (by omega), w64 (x := n + 1) (by omega) (by omega), w64 (x := b) (by omega) (by omega), w64 (x := (n + 1) * b) (by omega) (by omega)]) ?_
    by_cases h5 : n = 5
    · rw [if_pos h5]
      exact Ev.pos h5 (Remove_l0 c hl hbit t (i + 1) _ _ e2 (by omega) (by omega) (by omega))
    · rw [if_neg h5]
      exact Ev.neg h5 (Ev.pos (by omega) (Remove_l0 c hl hbit t (i + 1) _ _ e2 (by simp; omega) (by omega) (by omega)))
theorem Remove (l : List Int) (hl : Lim l) (hb : Bytes l) : Ev (fun k => zero_Remove.f k l) (if run l > 5 then ([], 10) else (rem 0 l, 0)) := by
  have hlc : Lim (clean l) := by unfold Lim; rw [clean_length]; exact hl
  unfold zero_Remove.f
  refine Ev.bind (Run l hl hb) ?_
  by_cases h : run l > 5
  · rw [if_pos h]
    exact Ev.pos h (Ev.now _)
  · rw [if_neg h]
    refine Ev.neg h (Ev.bind (Clean l hl hb) ?_)
    have h2 := Remove_l0 (clean l) hlc (fun x hx => bit_clean hx) (clean l) 0 [] 0 rfl (by simp) (by omega) (by omega)
    rw [rem_clean] at h2
    exact h2

def told : Option (List Int) → List Int → List Int × Int
  | none, _ => ([], 10)
  | some r, x => (x ++ r, 0)
theorem rRemove_l0 (l : List Int) (hl : Lim l) (hb : Bytes l) : ∀ (t : List Int) (i : Nat) (x : List Int) (n : Int), l.drop i = t → x.length ≤ i → 0 ≤ n → n ≤ 5 → Ev (fun k => marlineref06_Remove.l0 k l x n i) (told (rrem n t) x)
  | [], i, x, n, h1, hx, h0, h4 => by
    have h3 := drop_nil_len h1
    rw [rrem, told, List.append_nil]
    exact Ev.step (fun k => by simp only [marlineref06_Remove.l0]; rw [if_neg (by omega)]) (Ev.now _)
  | b :: t, i, x, n, h1, hx, h0, h4 => by
    obtain ⟨e1, e2, e3⟩ := rd_drop h1
    have hc : Byte b := by
      have h4 := hb.drop i
      rw [h1] at h4
      exact h4.head
    have hll := hl
    unfold Lim at hll
    have hc0 := hc.1
    refine Ev.step (fun k => by simp only [marlineref06_Remove.l0]; rw [if_pos (by omega), if_pos (by omega), e1, Int.tmod_eq_emod_of_nonneg hc0, suc i (by omega), w64 (x := n + 1) (by omega) (by omega)]) ?_
    rw [rrem]
    by_cases hb1 : b % 2 = 1
    · rw [if_pos hb1]
      refine Ev.pos hb1 ?_
      by_cases h6 : n + 1 = 6
      · rw [if_pos h6]
        exact Ev.pos h6 (Ev.now _)
      · rw [if_neg h6]
        refine Ev.neg h6 (Ev.pos (by omega) ?_)
        have ih := rRemove_l0 l hl hb t (i + 1) (x ++ [1]) (n + 1) e2 (by simp; omega) (by omega) (by omega)
        rw [show told ((rrem (n + 1) t).map (1 :: ·)) x = told (rrem (n + 1) t) (x ++ [1]) by cases rrem (n + 1) t <;> simp [told]]
        exact ih
    · rw [if_neg hb1]
      refine Ev.neg hb1 ?_
      by_cases h5 : n < 5
      · refine Ev.pos h5 (Ev.pos (by omega) ?_)
        have ih := rRemove_l0 l hl hb t (i + 1) (x ++ [0]) 0 e2 (by simp; omega) (by omega) (by omega)
        rw [show told ((rrem 0 t).map (fun r => if n < 5 then 0 :: r else r)) x = told (rrem 0 t) (x ++ [0]) by cases rrem 0 t <;> simp [told, h5]]
        exact ih
      · refine Ev.neg h5 ?_
        have ih := rRemove_l0 l hl hb t (i + 1) x 0 e2 (by omega) (by omega) (by omega)
        rw [show told ((rrem 0 t).map (fun r => if n < 5 then 0 :: r else r)) x = told (rrem 0 t) x by cases rrem 0 t <;> simp [told, h5]]
        exact ih
theorem rRemove (l : List Int) (hl : Lim l) (hb : Bytes l) : Ev (fun k => marlineref06_Remove.f k l) (if run l > 5 then ([], 10) else (rem 0 l, 0)) := by
  have h := rRemove_l0 l hl hb l 0 [] 0 rfl (by simp) (by omega) (by omega)
  rw [rrem_is 0 l (by omega) (by omega)] at h
  rw [show (if run l > 5 then (([] : List Int), (10 : Int)) else (rem 0 l, 0)) = told (if peak 0 l > 5 then none else some (rem 0 l)) [] by unfold run; split <;> rfl]
  exact h

theorem rInsert_l1 (l : List Int) (x : List Int) (i : Nat) (hx : x.length ≤ 1000000) {r : List Int} : ∀ (t : List Int) (j : Nat) (all : Bool), x.drop j = t → Ev (fun k => if (all && t.all (· == 1)) = true then marlineref06_Insert.l0 k l (x ++ [0]) (wrap64 ((i : Int) + 1)) else marlineref06_Insert.l0 k l x (wrap64 ((i : Int) + 1))) r → Ev (fun k => marlineref06_Insert.l1 k l x i (x.length : Int) all j) r
  | [], j, all, h1, hr => by
    have h3 := drop_nil_len h1
    refine Ev.step (fun k => ?_) hr
    simp only [marlineref06_Insert.l1, List.all_nil, Bool.and_true]
    rw [if_neg (by omega), if_pos (by omega : x.length < 140737488355328)]
  | b :: t, j, all, h1, hr => by
    obtain ⟨e1, e2, e3⟩ := rd_drop h1
    have ih := rInsert_l1 l x i hx t (j + 1) (all && (b == 1)) e2 (by simp only [List.all_cons, ← Bool.and_assoc] at hr; exact hr)
    refine Ev.step (fun k => ?_) ih
    simp only [marlineref06_Insert.l1]
    rw [if_pos (by omega), suc j (by omega), e1]
    cases all
    · rw [if_neg (by simp)]; rfl
    · rw [if_pos rfl, if_pos (by omega), if_pos (by omega)]; rfl
theorem rInsert_l0 (l : List Int) (hl : Lim l) (hb : Bytes l) (h6 : l.length ≤ 1000) : ∀ (t : List Int) (i : Nat) (x : List Int), l.drop i = t → x.length ≤ 2 * i → (∀ y ∈ x, y = 0 ∨ y = 1) → last 0 x ≤ 4 → Ev (fun k => marlineref06_Insert.l0 k l x i) (x ++ ins (last 0 x) t)
  | [], i, x, h1, hx, hbit, h4 => by
    have h3 := drop_nil_len h1
    rw [ins, List.append_nil]
    exact Ev.step (fun k => by simp only [marlineref06_Insert.l0]; rw [if_neg (by omega)]) (Ev.now _)
  | b :: t, i, x, h1, hx, hbit, h4 => by
    obtain ⟨e1, e2, e3⟩ := rd_drop h1
    have hc : Byte b := by
      have h4 := hb.drop i
      rw [h1] at h4
      exact h4.head
    have hll := hl
    unfold Lim at hll
    have hc0 := hc.1
    have hn := last_nonneg 0 x (by omega)
    refine Ev.step (fun k => by simp only [marlineref06_Insert.l0]; rw [if_pos (by omega), if_pos (by omega), if_pos (by omega), e1, Int.tmod_eq_emod_of_nonneg hc0, suc i (by omega)]) ?_
    refine Ev.name ?_
    have hbit2 : ∀ y ∈ x ++ [b % 2], y = 0 ∨ y = 1 := by
      intro y hy
      rcases List.mem_append.1 hy with hy | hy
      · exact hbit y hy
      · simp at hy; omega
    have hl2 : last 0 (x ++ [b % 2]) = (last 0 x + 1) * (b % 2) := by
      rw [last_append]
      simp only [last, Int.emod_emod_of_dvd b (Int.dvd_refl 2)]
    have hbm := bitmul (last 0 x) b hn
    have e : x ++ ins (last 0 x) (b :: t) = if 5 ≤ last 0 (x ++ [b % 2]) then ((x ++ [b % 2]) ++ [0]) ++ ins 0 t else (x ++ [b % 2]) ++ ins (last 0 (x ++ [b % 2])) t := by
      rw [ins, hl2]
      rcases hbm with ⟨e, h⟩ | ⟨e, h⟩
      · rw [if_pos e, h, if_neg (by omega), e]; simp
      · rw [if_neg (by omega), h, e]
        by_cases h5 : last 0 x + 1 = 5
        · rw [if_pos h5, if_pos (by omega)]; simp
        · rw [if_neg h5, if_neg (by omega)]; simp
    rw [e]
    have hlen : (x ++ [b % 2]).length = x.length + 1 := by simp
    have no : ¬ 5 ≤ last 0 (x ++ [b % 2]) → Ev (fun k => marlineref06_Insert.l0 k l (x ++ [b % 2]) ((i + 1 : Nat) : Int)) ((x ++ [b % 2]) ++ ins (last 0 (x ++ [b % 2])) t) := fun h =>
      rInsert_l0 l hl hb h6 t (i + 1) (x ++ [b % 2]) e2 (by omega) hbit2 (by omega)
    have yes : Ev (fun k => marlineref06_Insert.l0 k l ((x ++ [b % 2]) ++ [0]) ((i + 1 : Nat) : Int)) (((x ++ [b % 2]) ++ [0]) ++ ins 0 t) := by
      have hz : last 0 ((x ++ [b % 2]) ++ [0]) = 0 := by rw [last_append]; simp [last]
      have ih := rInsert_l0 l hl hb h6 t (i + 1) ((x ++ [b % 2]) ++ [0]) e2 (by simp; omega) (by
        intro y hy
        rcases List.mem_append.1 hy with hy | hy
        · exact hbit2 y hy
        · simp at hy; exact Or.inl hy) (by omega)
      rw [hz] at ih
      exact ih
    by_cases h5 : x.length + 1 < 5
    · have hll2 : last 0 (x ++ [b % 2]) ≤ ((x ++ [b % 2]).length : Int) := by
        have := last_le_peak 0 (x ++ [b % 2]) (by omega)
        have := peak_le 0 (x ++ [b % 2]) (by omega)
        omega
      rw [if_neg (by omega)]
      exact Ev.pos (by omega) (no (by omega))
    · refine Ev.neg (by omega) ?_
      have hw : wrap64 (((x ++ [b % 2]).length : Int) - 5) = (((x ++ [b % 2]).length - 5 : Nat) : Int) := by rw [w64 (by omega) (by omega)]; omega
      rw [hw]
      obtain ⟨a, s0, s1, s2, s3, s4, hs⟩ : ∃ a s0 s1 s2 s3 s4, x ++ [b % 2] = a ++ [s0, s1, s2, s3, s4] := by
        have h9 : ((x ++ [b % 2]).drop ((x ++ [b % 2]).length - 5)).length = 5 := by rw [List.length_drop]; omega
        match hd : (x ++ [b % 2]).drop ((x ++ [b % 2]).length - 5), h9 with
        | [s0, s1, s2, s3, s4], _ => exact ⟨(x ++ [b % 2]).take ((x ++ [b % 2]).length - 5), s0, s1, s2, s3, s4, by rw [← hd, List.take_append_drop]⟩
      have hbs : ∀ y ∈ a ++ [s0, s1, s2, s3, s4], y = 0 ∨ y = 1 := by rw [← hs]; exact hbit2
      have h55 := five_ones a s0 s1 s2 s3 s4 (hbs _ (by simp)) (hbs _ (by simp)) (hbs _ (by simp)) (hbs _ (by simp)) (hbs _ (by simp))
      rw [← hs] at h55
      refine rInsert_l1 l (x ++ [b % 2]) i (by omega) [s0, s1, s2, s3, s4] _ true (by rw [hs]; simp) ?_
      rw [suc i (by omega), Bool.true_and]
      by_cases h7 : 5 ≤ last 0 (x ++ [b % 2])
      · rw [if_pos h7]
        exact Ev.pos (h55.2 h7) yes
      · rw [if_neg h7]
        exact Ev.neg (fun h => h7 (h55.1 h)) (no h7)
theorem rInsert (l : List Int) (hl : Lim l) (hb : Bytes l) (h6 : l.length ≤ 1000) : Ev (fun k => marlineref06_Insert.f k l) (ins 0 l) := rInsert_l0 l hl hb h6 l 0 [] rfl (by simp) (by simp) (by simp [last])
end Go.Proofs.Ytofanmciehbabaa.Sp
