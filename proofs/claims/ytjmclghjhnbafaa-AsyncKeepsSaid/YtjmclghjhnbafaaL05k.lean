/- The statement AsyncKeeps, in plain words: what was told lies as it was told, behind another chunk. -/
import Derived.Test.YtjmclghjhnbafaaS05d
import Derived.Test.YtjmclghjhnbafaaPrintMarlinelaw05AsyncKeeps
namespace Go.Proofs.Ytjmclghjhnbafaa.Sp
open Go.RowKit Go.Proofs.Ytjmclghjhnbafaa.Print Go.Proofs.YtjmclghjhnbafaaW.PrintWords Go.Proofs.YtjmclghjhnbafaaW.PrintLast Go.Proofs.Ytjmclghjhnbafaa.Pl
set_option linter.unusedVariables false
theorem Keeps_l0 (r m : Int) (l2 l3 : List Int) (got : List S34) (s : Dst) (hl2 : Lim l2) (hl3 : l3.length ≤ 1000) (hb3 : Bytes l3) (hs : s.data.length ≤ 1000) (hg : got.length ≤ 1000) (hf : ∀ x ∈ got, x.f1.length ≤ 1000) :
    ∀ (t : List S34) (i : Nat) (x : List S34), got.drop i = t → x = got.take i → Ev (fun k => marlinelaw05_AsyncKeeps.l0 k l2 l3 l2 got x got (got.length : Int) i r m s.data s.any s.esc s.long) true
  | [], i, x, h, hx => by
    have h3 : got.length ≤ i := by
      have := congrArg List.length h
      simp at this; omega
    rw [List.take_of_length_le h3] at hx
    subst hx
    have hq : Ev (fun k => marlinelaw05_same.f k x x) true := SameD x ⟨by omega, fun y hy => by have := hf y hy; unfold Lim; omega⟩
    refine Ev.step (fun k => by simp only [marlinelaw05_AsyncKeeps.l0]; rw [if_neg (by omega), FeedD r m s l3 (by omega) (by omega) hb3]) ?_
    refine Ev.name (Ev.bind hq (Ev.pos rfl ?_))
    exact Ev.bind (Equal l2 l2 hl2) (Ev.end_ (by simp))
  | c :: t, i, x, h, hx => by
    obtain ⟨e1, e2, e3⟩ := rdT_drop h
    have hc := hf c (List.mem_of_mem_drop (by rw [h]; simp : c ∈ got.drop i))
    have hxl : x.length ≤ 1000 := by rw [hx, List.length_take]; omega
    refine Ev.step (fun k => by simp only [marlinelaw05_AsyncKeeps.l0]; rw [if_pos (by omega), if_pos (by omega), if_pos (by omega), e1, suc i (by omega)]) ?_
    refine Ev.name (Ev.pos (by simp only [List.length_nil]; omega) (Ev.pos (by omega) ?_))
    rw [List.nil_append]
    refine Keeps_l0 r m l2 l3 got s hl2 hl3 hb3 hs hg hf t (i + 1) _ e2 ?_
    rw [hx, List.take_add_one]
    have h4 : got[i]? = some c := by
      have h5 := congrArg (·[0]?) h
      simpa using h5
    rw [h4]
    rfl
theorem Keeps_j0 (r m : Int) (l2 l3 : List Int) (b : Bool) (hb2 : Bytes l2) (hb3 : Bytes l3) (h : b = false → l2.length ≤ 300 ∧ l3.length ≤ 300) : Ev (fun k => marlinelaw05_AsyncKeeps.j0 k r m l2 l3 b) true := by
  cases b with
  | true => exact Ev.step (fun k => by simp only [marlinelaw05_AsyncKeeps.j0]; rw [if_pos trivial]) (Ev.bind Speaks05 (Ev.now _))
  | false =>
    obtain ⟨h2, h3⟩ := h rfl
    have hl := dfeed_len r m l2 d0
    have hd : d0.data.length = 0 := rfl
    have hF := FeedD r m d0 l2 (by omega) (by omega) hb2
    rw [show d0.data = [] from rfl, show d0.any = false from rfl, show d0.esc = false from rfl, show d0.long = false from rfl] at hF
    refine Ev.step (fun k => by simp only [marlinelaw05_AsyncKeeps.j0]; rw [if_neg (by decide)]) ?_
    refine Ev.name (Ev.pos (by simp only [List.length_nil]; omega) (Ev.name ?_))
    rw [List.nil_append, hF]
    refine Ev.name ?_
    exact Keeps_l0 r m l2 l3 (dfeed r m d0 l2).1 (dfeed r m d0 l2).2 (by unfold Lim; omega) (by omega) hb3 (by omega) (by omega) (fun x hx => by have := hl.2.1 x hx; omega) _ 0 [] rfl rfl
theorem AsyncKeeps : marlinelaw05_AsyncKeeps.Pure := by
  intro a0 a1 l2 l3 h0 h1 hm2 hs2 hw2 hm3 hs3 hw3
  have hb2 := bytes_of_wf hw2
  have hb3 := bytes_of_wf hw3
  have key : Ev (fun k => marlinelaw05_AsyncKeeps.f k a0 a1 l2 l3) true := by
    unfold marlinelaw05_AsyncKeeps.f
    refine Ev.bind Speaks05 (Ev.pos rfl ?_)
    by_cases c1 : a1 < 1
    · exact Ev.pos c1 (Keeps_j0 a0 a1 l2 l3 true hb2 hb3 (fun h => by cases h))
    refine Ev.neg c1 ?_
    by_cases c2 : a1 > 1048576
    · exact Ev.pos c2 (Keeps_j0 a0 a1 l2 l3 true hb2 hb3 (fun h => by cases h))
    refine Ev.neg c2 ?_
    by_cases c3 : (l2.length : Int) > 300
    · exact Ev.pos c3 (Keeps_j0 a0 a1 l2 l3 true hb2 hb3 (fun h => by cases h))
    refine Ev.neg c3 ?_
    exact Keeps_j0 a0 a1 l2 l3 _ hb2 hb3 (fun h => by have := of_decide_eq_false h; omega)
  exact Ev.rounds key
end Go.Proofs.Ytjmclghjhnbafaa.Sp
