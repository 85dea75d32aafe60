/- What AsyncBounds needs, in plain words: how much is told; a segment of the map's octets alone tells nothing. -/
import Derived.Test.YtjmclghjhnbafaaS05d
import Derived.Test.YtjmclghjhnbafaaPrintMarlineref04Left
namespace Go.Proofs.Ytjmclghjhnbafaa.Sp
open Go.RowKit Go.Proofs.Ytjmclghjhnbafaa.Print Go.Proofs.YtjmclghjhnbafaaW.PrintWords Go.Proofs.YtjmclghjhnbafaaW.PrintLast Go.Proofs.Ytjmclghjhnbafaa.Pl
set_option linter.unusedVariables false
/-! ### the reference's map -/
theorem hasb_has {m c : Int} (h : U32 m) (hc : Byte c) : hasb m c = has m c := bitsHas h hc
theorem Has3_l0 (m c : Int) (hm : U32 m) (hc : Byte c) (h31 : c ≤ 31) : ∀ (n i : Nat), c = (i : Int) + n → Ev (fun k => marlineref03_Has.l0 k (m / 2 ^ i) c i) (has m c)
  | 0, i, h => by
    refine Ev.step (fun k => by simp only [marlineref03_Has.l0]; rw [if_neg (by omega)]) (Ev.end_ ?_)
    have e : c.toNat = i := by omega
    unfold has
    rw [e]
    have h1 := (div_u32 hm i).1
    rw [Int.tmod_eq_emod_of_nonneg h1, Bool.eq_iff_iff]
    simp
  | n + 1, i, h => by
    have h1 := (div_u32 hm i).1
    have h2 := div_u32 hm (i + 1)
    have e : (Int.tdiv (m / 2 ^ i) 2) % 4294967296 = m / 2 ^ (i + 1) := by
      rw [Int.tdiv_eq_ediv_of_nonneg h1, Int.ediv_ediv_of_nonneg (Int.le_of_lt (Int.pow_pos (by omega))), ← Int.pow_succ]
      exact Int.emod_eq_of_lt h2.1 h2.2
    have e2 : ((i : Int) + 1) % 256 = ((i + 1 : Nat) : Int) := by omega
    refine Ev.step (fun k => by simp only [marlineref03_Has.l0]; rw [if_pos (by omega), e, e2]) ?_
    exact Has3_l0 m c hm hc h31 n (i + 1) (by omega)
theorem Has3 {m c : Int} (hm : U32 m) (hc : Byte c) : Ev (fun k => marlineref03_Has.f k m c) (has m c) := by
  unfold marlineref03_Has.f
  by_cases h : c > 31
  · rw [has_big hm (by omega)]
    exact Ev.pos h (Ev.now _)
  · refine Ev.neg h ?_
    have h0 := hc.1
    have hq := Has3_l0 m c hm hc (by omega) c.toNat 0 (by omega)
    rw [show m / 2 ^ 0 = m by simp] at hq
    exact hq
/-! ### what is left -/
def lft (m : Int) (l : List Int) : List Int := l.filter fun c => !has m c
theorem Left_l0 (m : Int) (hm : U32 m) (l : List Int) (hl : l.length ≤ 1000) (hb : Bytes l) : ∀ (t : List Int) (i : Nat) (x : List Int), l.drop i = t → x.length ≤ i → i ≤ l.length →
    Ev (fun k => marlineref04_Left.l0 k m l x i) (x ++ lft m t)
  | [], i, x, h, hx, hi => by
    have h3 := drop_nil_len h
    exact Ev.step (fun k => by simp only [marlineref04_Left.l0]; rw [if_neg (by omega)]) (Ev.end_ (by simp [lft]))
  | c :: t, i, x, h, hx, hi => by
    obtain ⟨e1, e2, e3⟩ := rd_drop h
    have hc := bytesAt hb h
    refine Ev.step (fun k => by simp only [marlineref04_Left.l0]; rw [if_pos (by omega), if_pos (by omega), e1, suc i (by omega)]) ?_
    refine Ev.bind (Has3 hm hc) ?_
    by_cases hq : has m c = true
    · have ih := Left_l0 m hm l hl hb t (i + 1) x e2 (by omega) (by omega)
      rw [show lft m (c :: t) = lft m t by simp [lft, hq]]
      exact Ev.pos hq ih
    · have ih := Left_l0 m hm l hl hb t (i + 1) (x ++ [c]) e2 (by rw [List.length_append]; simp; omega) (by omega)
      rw [show x ++ lft m (c :: t) = (x ++ [c]) ++ lft m t by simp [lft, hq]]
      exact Ev.neg hq (Ev.pos (by omega) ih)
theorem LeftD (m : Int) (hm : U32 m) (l : List Int) (hl : l.length ≤ 1000) (hb : Bytes l) : Ev (fun k => marlineref04_Left.f k m l) (lft m l) := by
  unfold marlineref04_Left.f
  exact Left_l0 m hm l hl hb l 0 [] rfl (by simp) (by omega)
theorem lft_len (m : Int) (l : List Int) : (lft m l).length ≤ l.length := List.length_filter_le _ _
theorem lft_bytes {m : Int} {l : List Int} (h : Bytes l) : Bytes (lft m l) := fun x hx => h x ((List.mem_filter.1 hx).1)
/-- What the map has plays no part. -/
theorem dstep_has (r m : Int) (p : List S34 × Dst) (c : Int) (h1 : c ≠ 126) (h : hasb r c = true) : dstep r m p c = p := by
  unfold dstep
  rw [if_neg h1, if_pos h]
theorem dfold_lft (r m : Int) (hr : U32 r) : ∀ (l : List Int) (p : List S34 × Dst), Bytes l → (lft r l).foldl (dstep r m) p = l.foldl (dstep r m) p
  | [], p, hb => rfl
  | c :: t, p, hb => by
    by_cases hq : has r c = true
    · rw [show lft r (c :: t) = lft r t by simp [lft, hq], dfold_lft r m hr t p hb.tail, List.foldl_cons]
      rw [dstep_has r m p c (fun h => by rw [h, has_big hr (by omega)] at hq; cases hq) (by rw [hasb_has hr hb.head]; exact hq)]
    · rw [show lft r (c :: t) = c :: lft r t by simp [lft, hq], List.foldl_cons, List.foldl_cons]
      exact dfold_lft r m hr t _ hb.tail
/-! ### how much is told -/
def cnt : List Int → Nat
  | [] => 0
  | c :: t => (if c = 126 then 1 else 0) + cnt t
theorem cnt_len (l : List Int) : cnt l ≤ l.length := by
  induction l with
  | nil => simp [cnt]
  | cons c t ih => simp only [cnt, List.length_cons]; split <;> omega
def sum : List S34 → Nat
  | [] => 0
  | s :: t => s.f1.length + sum t
theorem sum_append (a b : List S34) : sum (a ++ b) = sum a + sum b := by
  induction a with
  | nil => simp [sum]
  | cons s t ih => simp only [List.cons_append, sum, ih]; omega
/-- A segment as the layer may tell it. -/
def Good (m : Int) (s : S34) : Prop := (s.f0 = 0 → 0 < s.f1.length) ∧ (s.f0 ≠ 0 → s.f1.length = 0) ∧ (s.f1.length : Int) ≤ m
/-- What is kept: no more than fits; and where it is neither escaped nor too long, and something came, there is an octet. -/
def Kept5 (m : Int) (s : Dst) : Prop := (s.data.length : Int) ≤ m ∧ (s.any = true → s.esc = false → s.long = false → 0 < s.data.length)
theorem dput_kept {m : Int} (h1 : 1 ≤ m) {xs : List Int} (l : Bool) (c : Int) (h : (xs.length : Int) ≤ m) : ((dput m xs l c).1.length : Int) ≤ m ∧ 0 < (dput m xs l c).1.length := by
  unfold dput
  by_cases e : (xs.length : Int) = m
  · rw [if_pos e]; simp only; omega
  · rw [if_neg e]; simp only [List.length_append, List.length_cons, List.length_nil]; omega
theorem dstep_good (r m : Int) (h1 : 1 ≤ m) (s : Dst) (c : Int) (hk : Kept5 m s) : (∀ x ∈ (dstep r m ([], s) c).1, Good m x) ∧ Kept5 m (dstep r m ([], s) c).2 ∧
    sum (dstep r m ([], s) c).1 + (dstep r m ([], s) c).2.data.length + (if c = 126 then 1 else 0) ≤ s.data.length + 1 ∧ (dstep r m ([], s) c).1.length ≤ (if c = 126 then 1 else 0) := by
  unfold dstep
  by_cases e1 : c = 126
  · simp only [if_pos e1]
    by_cases e2 : s.any = true
    · simp only [if_pos e2, List.nil_append]
      have hl := dseg_len s.data s.esc s.long
      refine ⟨?_, ⟨by simp only [List.length_nil]; omega, fun h => by cases h⟩, by simp only [sum, List.length_nil]; omega, by simp⟩
      intro x hx
      rw [List.mem_singleton.1 hx]
      have hk2 := hk.2 e2
      have hk1 := hk.1
      refine ⟨?_, ?_, by simp only; omega⟩
      · intro h0
        simp only at h0 ⊢
        unfold dkind at h0
        cases he : s.esc with
        | true => rw [he] at h0; simp at h0
        | false =>
          cases hl2 : s.long with
          | true => rw [he, hl2] at h0; simp at h0
          | false => unfold dseg; simp; exact hk2 he hl2
      · intro h0
        simp only at h0 ⊢
        unfold dkind at h0
        unfold dseg
        cases he : s.esc with
        | true => simp
        | false =>
          cases hl2 : s.long with
          | true => simp
          | false => rw [he, hl2] at h0; simp at h0
    · simp only [if_neg e2]
      exact ⟨fun x hx => by simp at hx, ⟨by simp only [List.length_nil]; omega, fun h => by cases h⟩, by simp only [sum, List.length_nil]; omega, by simp⟩
  · simp only [if_neg e1]
    by_cases e2 : hasb r c = true
    · simp only [if_pos e2]
      exact ⟨fun x hx => by simp at hx, hk, by simp only [sum]; omega, by simp⟩
    · simp only [if_neg e2]
      by_cases e3 : s.esc = true
      · simp only [if_pos e3]
        have h := dput_kept h1 s.long (Go.bits .xor .u8 c 32) hk.1
        have h2 := dput_len m s.data s.long (Go.bits .xor .u8 c 32)
        exact ⟨fun x hx => by simp at hx, ⟨h.1, fun _ _ _ => h.2⟩, by simp only [sum]; omega, by simp⟩
      · simp only [if_neg e3]
        by_cases e4 : c = 125
        · simp only [if_pos e4]
          exact ⟨fun x hx => by simp at hx, ⟨hk.1, fun _ h => by cases h⟩, by simp only [sum]; omega, by simp⟩
        · simp only [if_neg e4]
          have h := dput_kept h1 s.long c hk.1
          have h2 := dput_len m s.data s.long c
          exact ⟨fun x hx => by simp at hx, ⟨h.1, fun _ _ _ => h.2⟩, by simp only [sum]; omega, by simp⟩
theorem dfeed_good (r m : Int) (h1 : 1 ≤ m) : ∀ (l : List Int) (s : Dst), Kept5 m s → (∀ x ∈ (dfeed r m s l).1, Good m x) ∧ sum (dfeed r m s l).1 + cnt l ≤ s.data.length + l.length ∧ (dfeed r m s l).1.length ≤ cnt l
  | [], s, hk => by simp [dfeed, sum, cnt]
  | c :: t, s, hk => by
    have e : dfeed r m s (c :: t) = ((dstep r m ([], s) c).1 ++ (dfeed r m (dstep r m ([], s) c).2 t).1, (dfeed r m (dstep r m ([], s) c).2 t).2) := by
      have h := dfold_out r m t (dstep r m ([], s) c).1 (dstep r m ([], s) c).2
      rw [show ((dstep r m ([], s) c).1, (dstep r m ([], s) c).2) = dstep r m ([], s) c from rfl] at h
      rw [← h]
      rfl
    obtain ⟨a1, a2, a3, a4⟩ := dstep_good r m h1 s c hk
    obtain ⟨b1, b2, b3⟩ := dfeed_good r m h1 t (dstep r m ([], s) c).2 a2
    rw [e]
    simp only [cnt, List.length_append, List.length_cons, sum_append]
    refine ⟨?_, by omega, by omega⟩
    intro x hx
    rcases List.mem_append.1 hx with hx | hx
    · exact a1 x hx
    · exact b1 x hx
end Go.Proofs.Ytjmclghjhnbafaa.Sp
