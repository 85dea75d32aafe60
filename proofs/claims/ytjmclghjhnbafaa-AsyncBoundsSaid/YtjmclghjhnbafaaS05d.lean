/- The asynchronous deframer as a fold, in plain words: chunks joined, how much is told and kept; speaks, same and right of its laws. -/
import Derived.Test.YtjmclghjhnbafaaS05w
import Derived.Test.YtjmclghjhnbafaaDf05h
import Derived.Test.YtjmclghjhnbafaaPrintMarlinelaw05Speaks
import Derived.Test.YtjmclghjhnbafaaPrintMarlinelaw05Same
import Derived.Test.YtjmclghjhnbafaaPrintMarlinelaw05Right
namespace Go.Proofs.Ytjmclghjhnbafaa.Sp
open Go.RowKit Go.Proofs.Ytjmclghjhnbafaa.Print Go.Proofs.YtjmclghjhnbafaaW.PrintWords Go.Proofs.YtjmclghjhnbafaaW.PrintLast Go.Proofs.Ytjmclghjhnbafaa.Pl
set_option linter.unusedVariables false
theorem dstep_out (r m : Int) (o : List S34) (s : Dst) (c : Int) : dstep r m (o, s) c = (o ++ (dstep r m ([], s) c).1, (dstep r m ([], s) c).2) := by
  unfold dstep
  by_cases h1 : c = 126
  · simp only [if_pos h1]
    by_cases h2 : s.any = true <;> simp [h2]
  · simp only [if_neg h1]
    by_cases h2 : hasb r c = true
    · simp [h2]
    · simp only [if_neg h2]
      by_cases h3 : s.esc = true
      · simp [h3]
      · simp only [if_neg h3]
        by_cases h4 : c = 125 <;> simp [h4]
theorem dfold_out (r m : Int) : ∀ (l : List Int) (o : List S34) (s : Dst), l.foldl (dstep r m) (o, s) = (o ++ (dfeed r m s l).1, (dfeed r m s l).2)
  | [], o, s => by simp [dfeed]
  | c :: t, o, s => by
    unfold dfeed
    rw [List.foldl_cons, List.foldl_cons, dstep_out r m o s c]
    rw [dfold_out r m t (o ++ (dstep r m ([], s) c).1) (dstep r m ([], s) c).2]
    have h := dfold_out r m t (dstep r m ([], s) c).1 (dstep r m ([], s) c).2
    rw [show ((dstep r m ([], s) c).1, (dstep r m ([], s) c).2) = dstep r m ([], s) c from rfl] at h
    rw [h, List.append_assoc]
theorem dfeed_append (r m : Int) (s : Dst) (a b : List Int) : dfeed r m s (a ++ b) = ((dfeed r m s a).1 ++ (dfeed r m (dfeed r m s a).2 b).1, (dfeed r m (dfeed r m s a).2 b).2) := by
  have h := dfold_out r m b (dfeed r m s a).1 (dfeed r m s a).2
  rw [show ((dfeed r m s a).1, (dfeed r m s a).2) = dfeed r m s a from rfl] at h
  rw [← h]
  unfold dfeed
  rw [List.foldl_append]
theorem dput_len (m : Int) (xs : List Int) (l : Bool) (c : Int) : (dput m xs l c).1.length ≤ xs.length + 1 := by
  unfold dput
  split <;> simp
theorem dseg_len (xs : List Int) (e l : Bool) : (dseg xs e l).length ≤ xs.length := by
  unfold dseg
  split
  · simp
  · split <;> simp
theorem dstep_len (r m : Int) (s : Dst) (c : Int) : (dstep r m ([], s) c).1.length ≤ 1 ∧ (∀ x ∈ (dstep r m ([], s) c).1, x.f1.length ≤ s.data.length) ∧ (dstep r m ([], s) c).2.data.length ≤ s.data.length + 1 := by
  unfold dstep
  by_cases h1 : c = 126
  · simp only [if_pos h1]
    by_cases h2 : s.any = true
    · have := dseg_len s.data s.esc s.long
      simp [h2]; exact this
    · simp [h2]
  · simp only [if_neg h1]
    by_cases h2 : hasb r c = true
    · simp [h2]
    · simp only [if_neg h2]
      by_cases h3 : s.esc = true
      · have := dput_len m s.data s.long (Go.bits .xor .u8 c 32)
        simp [h3]; exact this
      · simp only [if_neg h3]
        by_cases h4 : c = 125
        · simp [h4]
        · have := dput_len m s.data s.long c
          simp [h4]; exact this
theorem dfeed_len (r m : Int) : ∀ (l : List Int) (s : Dst), (dfeed r m s l).1.length ≤ l.length ∧ (∀ x ∈ (dfeed r m s l).1, x.f1.length ≤ s.data.length + l.length) ∧ (dfeed r m s l).2.data.length ≤ s.data.length + l.length
  | [], s => by simp [dfeed]
  | c :: t, s => by
    have e : dfeed r m s (c :: t) = ((dstep r m ([], s) c).1 ++ (dfeed r m (dstep r m ([], s) c).2 t).1, (dfeed r m (dstep r m ([], s) c).2 t).2) := by
      have h := dfold_out r m t (dstep r m ([], s) c).1 (dstep r m ([], s) c).2
      rw [show ((dstep r m ([], s) c).1, (dstep r m ([], s) c).2) = dstep r m ([], s) c from rfl] at h
      rw [← h]
      rfl
    obtain ⟨a1, a2, a3⟩ := dstep_len r m s c
    obtain ⟨b1, b2, b3⟩ := dfeed_len r m t (dstep r m ([], s) c).2
    rw [e]
    simp only [List.length_append, List.length_cons]
    refine ⟨by omega, ?_, by omega⟩
    intro x hx
    rcases List.mem_append.1 hx with hx | hx
    · have := a2 x hx; omega
    · have := b2 x hx; omega
/-- Feed's function is the fold, where the chunk is short and its octets are octets. -/
theorem FeedD (r m : Int) (s : Dst) (l : List Int) (hl : l.length ≤ 100000) (hd : s.data.length ≤ 1000000) (hb : Bytes l) :
    async_Deframer_Feed.f r m s.data s.any s.esc s.long l = some ((dfeed r m s l).1, (dfeed r m s l).2.data, (dfeed r m s l).2.any, (dfeed r m s l).2.esc, (dfeed r m s l).2.long) := by
  unfold async_Deframer_Feed.f
  rw [if_pos ⟨hl, by omega, List.all_eq_true.2 (fun x hx => decide_eq_true (hb x hx).1)⟩]
def d0 : Dst := ⟨[], false, false, false⟩
theorem dfeed_speaks : (dfeed 0 9 d0 [126, 1, 125, 94, 126]).1 = [⟨0, [1, 126]⟩] := by kernel_rfl
theorem Speaks05 : Ev (fun k => marlinelaw05_speaks.f k) true := by
  unfold marlinelaw05_speaks.f
  have h := FeedD 0 9 d0 [126, 1, 125, 94, 126] (by simp) (by simp [d0]) (bytes_lit (by decide))
  rw [show d0.data = [] from rfl, show d0.any = false from rfl, show d0.esc = false from rfl, show d0.long = false from rfl] at h
  rw [h]
  refine Ev.name ?_
  simp only [dfeed_speaks]
  refine Ev.pos (by simp) (Ev.pos (by simp) (Ev.pos rfl ?_))
  refine Ev.bind (Equal [1, 126] [1, 126] (by unfold Lim; simp)) ?_
  refine Ev.pos (by simp) ?_
  exact Ev.bind (WrapS 0 (by constructor <;> omega) [] (by simp) Bytes.nil) (Ev.end_ (by simp [stf]))
/-! ### same -/
def SegsOk (l : List S34) : Prop := l.length ≤ 1000000 ∧ ∀ s ∈ l, Lim s.f1
theorem rdT_drop {xs : List S34} {i : Nat} {b : S34} {t : List S34} (h : xs.drop i = b :: t) : rd_T34 xs (i : Int) = b ∧ xs.drop (i + 1) = t ∧ i < xs.length := by
  have h1 : i < xs.length := by
    apply Decidable.byContradiction
    intro hn
    rw [List.drop_of_length_le (by omega)] at h
    cases h
  have h2 := List.drop_eq_getElem_cons h1
  rw [h] at h2
  injection h2 with h3 h4
  refine ⟨?_, h4.symm, h1⟩
  unfold rd_T34
  rw [Int.toNat_natCast, List.getD_eq_getElem?_getD, List.getElem?_eq_getElem h1]
  exact h3.symm
theorem Same_l0 (l : List S34) (ok : SegsOk l) : ∀ (t : List S34) (i : Nat), l.drop i = t → Ev (fun k => marlinelaw05_same.l0 k l l (l.length : Int) i) true
  | [], i, h => by
    have h3 : l.length ≤ i := by
      have := congrArg List.length h
      simp at this; omega
    exact Ev.step (fun k => by simp only [marlinelaw05_same.l0]; rw [if_neg (by omega)]) (Ev.end_ rfl)
  | c :: t, i, h => by
    obtain ⟨e1, e2, e3⟩ := rdT_drop h
    have h0 := ok.1
    have hc : Lim c.f1 := ok.2 c (by
      have : c ∈ l.drop i := by rw [h]; simp
      exact List.mem_of_mem_drop this)
    refine Ev.step (fun k => by simp only [marlinelaw05_same.l0]; rw [if_pos (by omega), if_pos (by omega), if_pos (by omega), if_pos (by omega), if_pos trivial, e1, suc i (by omega)]) ?_
    refine Ev.bind (Equal c.f1 c.f1 hc) (Ev.pos (by simp) ?_)
    exact Same_l0 l ok t (i + 1) e2
theorem SameD (l : List S34) (ok : SegsOk l) : Ev (fun k => marlinelaw05_same.f k l l) true := by
  unfold marlinelaw05_same.f
  exact Ev.pos rfl (Same_l0 l ok l 0 rfl)
/-! ### right -/
def tot : List (List Int) → Int
  | [] => 0
  | c :: t => c.length + tot t
theorem tot_nn (l : List (List Int)) : 0 ≤ tot l := by
  induction l with
  | nil => simp [tot]
  | cons c t ih => simp only [tot]; omega
def SegsLim (l : List (List Int)) : Prop := ∀ c ∈ l, (c.length : Int) ≤ 140737488351232
theorem rdL_drop {xs : List (List Int)} {i : Nat} {b : List Int} {t : List (List Int)} (h : xs.drop i = b :: t) : rd_L1 xs (i : Int) = b ∧ xs.drop (i + 1) = t ∧ i < xs.length := by
  have h1 : i < xs.length := by
    apply Decidable.byContradiction
    intro hn
    rw [List.drop_of_length_le (by omega)] at h
    cases h
  have h2 := List.drop_eq_getElem_cons h1
  rw [h] at h2
  injection h2 with h3 h4
  refine ⟨?_, h4.symm, h1⟩
  unfold rd_L1
  rw [Int.toNat_natCast, List.getD_eq_getElem?_getD, List.getElem?_eq_getElem h1]
  exact h3.symm
theorem dropL_nil {xs : List (List Int)} {i : Nat} (h : xs.drop i = []) : xs.length ≤ i := by
  have := congrArg List.length h
  simp at this; omega
/-- What right answers: whether few octets, where the chunks are no more than 60; no matter what where there are more. -/
theorem Right_l0 (m : Int) (l : List (List Int)) (hs : SegsLim l) (hl : l.length ≤ 5864062014634) : ∀ (t : List (List Int)) (i : Nat) (n : Int), l.drop i = t →
    ∃ n' : Int, (l.length ≤ 60 → 0 ≤ n → n + 140737488351232 * t.length ≤ 140737488351232 * 60 → n' = n + tot t) ∧ Ev (fun k => marlinelaw05_right.l0 k m l n l (l.length : Int) i) (if m ≥ 1 ∧ m ≤ 1048576 ∧ (l.length : Int) ≤ 60 then decide (n' ≤ 600) else false)
  | [], i, n, h => by
    have h3 := dropL_nil h
    refine ⟨n, fun _ _ _ => by simp [tot], Ev.step (fun k => by simp only [marlinelaw05_right.l0]; rw [if_neg (by omega)]) ?_⟩
    by_cases h1 : m ≥ 1
    · refine Ev.pos h1 ?_
      by_cases h2 : m ≤ 1048576
      · refine Ev.pos h2 ?_
        by_cases h4 : (l.length : Int) ≤ 60
        · exact Ev.pos h4 (Ev.end_ (by rw [if_pos ⟨h1, h2, h4⟩]))
        · exact Ev.neg h4 (Ev.end_ (by rw [if_neg (fun h => h4 h.2.2)]))
      · exact Ev.neg h2 (Ev.end_ (by rw [if_neg (fun h => h2 h.2.1)]))
    · exact Ev.neg h1 (Ev.end_ (by rw [if_neg (fun h => h1 h.1)]))
  | c :: t, i, n, h => by
    obtain ⟨e1, e2, e3⟩ := rdL_drop h
    have hc := hs c (List.mem_of_mem_drop (by rw [h]; simp : c ∈ l.drop i))
    obtain ⟨n', k1, k2⟩ := Right_l0 m l hs hl t (i + 1) (wrap64 (n + c.length)) e2
    refine ⟨n', ?_, Ev.step (fun k => by simp only [marlinelaw05_right.l0]; rw [if_pos (by omega), if_pos (by omega), if_pos (by omega), e1, show wrap64 ((i : Int) + 1) = ((i + 1 : Nat) : Int) by rw [w64 (by omega) (by omega)]; omega]) k2⟩
    intro a b d
    simp only [List.length_cons] at d
    have w : wrap64 (n + c.length) = n + c.length := w64 (by omega) (by omega)
    rw [w] at k1
    rw [k1 a (by omega) (by omega)]
    simp only [tot]
    omega
theorem RightD (m : Int) (l : List (List Int)) (hs : SegsLim l) (hl : l.length ≤ 5864062014634) : ∃ b : Bool, (b = true → 1 ≤ m ∧ m ≤ 1048576 ∧ l.length ≤ 60 ∧ tot l ≤ 600) ∧ Ev (fun k => marlinelaw05_right.f k m l) b := by
  obtain ⟨n', k1, k2⟩ := Right_l0 m l hs hl l 0 0 rfl
  refine ⟨_, ?_, k2⟩
  intro h
  by_cases h1 : m ≥ 1 ∧ m ≤ 1048576 ∧ (l.length : Int) ≤ 60
  · rw [if_pos h1, decide_eq_true_iff] at h
    have := k1 (by omega) (by omega) (by omega)
    exact ⟨by omega, by omega, by omega, by omega⟩
  · rw [if_neg h1] at h; cases h
end Go.Proofs.Ytjmclghjhnbafaa.Sp
