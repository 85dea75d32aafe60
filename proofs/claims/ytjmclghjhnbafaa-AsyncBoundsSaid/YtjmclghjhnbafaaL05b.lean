/- The statement AsyncBounds, in plain words. -/
import Derived.Test.YtjmclghjhnbafaaS05b
import Derived.Test.YtjmclghjhnbafaaPrintMarlinelaw05AsyncBounds
namespace Go.Proofs.Ytjmclghjhnbafaa.Sp
open Go.RowKit Go.Proofs.Ytjmclghjhnbafaa.Print Go.Proofs.YtjmclghjhnbafaaW.PrintWords Go.Proofs.YtjmclghjhnbafaaW.PrintLast Go.Proofs.Ytjmclghjhnbafaa.Pl
set_option linter.unusedVariables false
theorem Bounds_l1 (r m : Int) (hr : U32 r) (l : List Int) (hl : l.length ≤ 600) (hb : Bytes l) (n : Nat) (got : List S34) (hg : ∀ x ∈ got, Good m x) (hn : got.length ≤ n) (hs : sum got + n ≤ l.length) :
    ∀ (t : List S34) (i a : Nat), got.drop i = t → a + sum t = sum got → Ev (fun k => marlinelaw05_AsyncBounds.l1 k r m l n a got got (got.length : Int) i) true
  | [], i, a, h, ha => by
    have h3 : got.length ≤ i := by
      have := congrArg List.length h
      simp at this; omega
    simp only [sum] at ha
    have hb2 : Bytes ([126] ++ l) := Bytes.cons (by constructor <;> omega) hb
    have hl2 : ([126] ++ l).length ≤ 1000 := by simp; omega
    have hll := lft_len r ([126] ++ l)
    have w : wrap64 ((a : Int) + n) = a + n := w64 (by omega) (by omega)
    have hF := FeedD r m d0 ([126] ++ l) (by omega) (by simp [d0]) hb2
    have hG := FeedD r m d0 (lft r ([126] ++ l)) (by omega) (by simp [d0]) (lft_bytes hb2)
    rw [show d0.data = [] from rfl, show d0.any = false from rfl, show d0.esc = false from rfl, show d0.long = false from rfl] at hF hG
    have e : dfeed r m d0 (lft r ([126] ++ l)) = dfeed r m d0 ([126] ++ l) := dfold_lft r m hr _ _ hb2
    rw [e] at hG
    have hd : d0.data.length = 0 := rfl
    have hlen := dfeed_len r m ([126] ++ l) d0
    have hq : Ev (fun k => marlinelaw05_same.f k (dfeed r m d0 ([126] ++ l)).1 (dfeed r m d0 ([126] ++ l)).1) true := SameD _ ⟨by omega, fun x hx => by have := hlen.2.1 x hx; unfold Lim; omega⟩
    refine Ev.step (fun k => by simp only [marlinelaw05_AsyncBounds.l1]; rw [if_neg (by omega)]) ?_
    refine Ev.name (Ev.pos (by simp; omega) (Ev.name (Ev.bind (LeftD r hr ([126] ++ l) hl2 hb2) (Ev.pos (by omega) (Ev.pos (by rw [w]; omega) ?_)))))
    rw [hF, hG]
    exact Ev.name (Ev.name (Ev.bind hq (Ev.now _)))
  | c :: t, i, a, h, ha => by
    obtain ⟨e1, e2, e3⟩ := rdT_drop h
    have hc := hg c (List.mem_of_mem_drop (by rw [h]; simp : c ∈ got.drop i))
    simp only [sum] at ha
    have w : wrap64 ((a : Int) + (c.f1.length : Int)) = ((a + c.f1.length : Nat) : Int) := by rw [w64 (by omega) (by omega)]; omega
    refine Ev.step (fun k => by simp only [marlinelaw05_AsyncBounds.l1]; rw [if_pos (by omega), if_pos (by omega), if_pos (by omega), e1, w, suc i (by omega)]) ?_
    have ih := Bounds_l1 r m hr l hl hb n got hg hn hs t (i + 1) (a + c.f1.length) e2 (by omega)
    obtain ⟨c1, c2, c3⟩ := hc
    by_cases h0 : c.f0 = 0
    · have := c1 h0
      exact Ev.pos h0 (Ev.neg (by omega) (Ev.neg (by omega) ih))
    · have := c2 h0
      exact Ev.neg h0 (Ev.neg (by omega) (Ev.neg (by omega) ih))
theorem Bounds_l0 (r m : Int) (h1 : 1 ≤ m) (hr : U32 r) (l : List Int) (hl : l.length ≤ 600) (hb : Bytes l) : ∀ (t : List Int) (i a : Nat), l.drop i = t → a + cnt t = cnt l →
    Ev (fun k => marlinelaw05_AsyncBounds.l0 k r m l a 0 l (l.length : Int) i r m false false false) true
  | [], i, a, h, ha => by
    have h3 := drop_nil_len h
    simp only [cnt] at ha
    have hF := FeedD r m d0 l (by omega) (by simp [d0]) hb
    rw [show d0.data = [] from rfl, show d0.any = false from rfl, show d0.esc = false from rfl, show d0.long = false from rfl] at hF
    obtain ⟨g1, g2, g3⟩ := dfeed_good r m h1 l d0 ⟨by simp only [d0, List.length_nil]; omega, fun h => by cases h⟩
    have hd : d0.data.length = 0 := rfl
    refine Ev.step (fun k => by simp only [marlinelaw05_AsyncBounds.l0]; rw [if_neg (by omega), hF]) ?_
    refine Ev.name ?_
    exact Bounds_l1 r m hr l hl hb a (dfeed r m d0 l).1 g1 (by omega) (by omega) _ 0 0 rfl (by rw [List.drop_zero]; omega)
  | c :: t, i, a, h, ha => by
    obtain ⟨e1, e2, e3⟩ := rd_drop h
    have hcl := cnt_len l
    simp only [cnt] at ha
    refine Ev.step (fun k => by simp only [marlinelaw05_AsyncBounds.l0]; rw [if_pos (by omega), if_pos (by omega), if_pos (by omega), e1, suc i (by omega), suc a (by omega)]) ?_
    by_cases h0 : c = 126
    · rw [if_pos h0] at ha
      exact Ev.pos h0 (Bounds_l0 r m h1 hr l hl hb t (i + 1) (a + 1) e2 (by omega))
    · rw [if_neg h0] at ha
      exact Ev.neg h0 (Bounds_l0 r m h1 hr l hl hb t (i + 1) a e2 (by omega))
theorem AsyncBounds : marlinelaw05_AsyncBounds.Pure := by
  intro a0 a1 l2 h0 h1 hm2 hs2 hw2
  have hb2 := bytes_of_wf hw2
  have hr : U32 a0 := u32_of_wf h0
  refine Ev.rounds ?_
  unfold marlinelaw05_AsyncBounds.f
  refine Ev.bind Speaks05 (Ev.pos rfl ?_)
  have out : Ev (fun k => marlinelaw05_AsyncBounds.j0 k a0 a1 l2 true) true :=
    Ev.step (fun k => by simp only [marlinelaw05_AsyncBounds.j0]; rw [if_pos trivial]) (Ev.bind Speaks05 (Ev.now _))
  by_cases c1 : a1 < 1
  · exact Ev.pos c1 out
  refine Ev.neg c1 ?_
  by_cases c2 : a1 > 1048576
  · exact Ev.pos c2 out
  refine Ev.neg c2 ?_
  by_cases c3 : (l2.length : Int) > 600
  · rw [decide_eq_true c3]; exact out
  · rw [decide_eq_false c3]
    refine Ev.step (fun k => by simp only [marlinelaw05_AsyncBounds.j0]; rw [if_neg (by decide)]) ?_
    exact Bounds_l0 a0 a1 (by omega) hr l2 (by omega) hb2 l2 0 0 rfl (by omega)
end Go.Proofs.Ytjmclghjhnbafaa.Sp
