/- The statement AsyncCuts, in plain words: chunks play no part. -/
import Derived.Test.YtjmclghjhnbafaaS05d
import Derived.Test.YtjmclghjhnbafaaPrintMarlinelaw05AsyncCuts
namespace Go.Proofs.Ytjmclghjhnbafaa.Sp
open Go.RowKit Go.Proofs.Ytjmclghjhnbafaa.Print Go.Proofs.YtjmclghjhnbafaaW.PrintWords Go.Proofs.YtjmclghjhnbafaaW.PrintLast Go.Proofs.Ytjmclghjhnbafaa.Pl
set_option linter.unusedVariables false
theorem segs_ok (r m : Int) (l : List Int) (h : l.length ≤ 1000) : SegsOk (dfeed r m d0 l).1 := by
  have hl := dfeed_len r m l d0
  have hd : d0.data.length = 0 := rfl
  exact ⟨by omega, fun x hx => by have := hl.2.1 x hx; unfold Lim; omega⟩
theorem Cuts_l1 (r m : Int) (l : List Int) (hl : l.length ≤ 1000) (hb : Bytes l) : ∀ (t : List Int) (i : Nat) (s : Dst) (y : List S34), l.drop i = t → i ≤ l.length → (y, s) = dfeed r m d0 (l.take i) →
    Ev (fun k => marlinelaw05_AsyncCuts.l1 k l (dfeed r m d0 l).1 y (l.length : Int) i r m s.data s.any s.esc s.long r m false false false) true
  | [], i, s, y, h, hi, hy => by
    have h3 := drop_nil_len h
    rw [List.take_of_length_le h3] at hy
    have hy1 : y = (dfeed r m d0 l).1 := congrArg Prod.fst hy
    subst hy1
    have hF := FeedD r m d0 l (by omega) (by simp [d0]) hb
    rw [show d0.data = [] from rfl, show d0.any = false from rfl, show d0.esc = false from rfl, show d0.long = false from rfl] at hF
    refine Ev.step (fun k => by simp only [marlinelaw05_AsyncCuts.l1]; rw [if_neg (by omega), hF]) ?_
    have hq := SameD (dfeed r m d0 l).1 (segs_ok r m l hl)
    exact Ev.name (Ev.bind hq (Ev.pos rfl (Ev.bind hq (Ev.now _))))
  | c :: t, i, s, y, h, hi, hy => by
    obtain ⟨e1, e2, e3⟩ := rd_drop h
    have hlen := dfeed_len r m (l.take i) d0
    have hd : d0.data.length = 0 := rfl
    rw [← hy] at hlen
    simp only [List.length_take] at hlen
    have hc := hb.drop i
    rw [h] at hc
    have ec : ((l.take ((wrap64 ((i : Int) + 1)) : Int).toNat).drop (i : Int).toNat) = [c] := by
      rw [suc i (by omega), Int.toNat_natCast, Int.toNat_natCast, List.drop_take, h]
      rw [show i + 1 - i = 1 by omega]
      rfl
    have hF := FeedD r m s [c] (by simp) (by omega) (Bytes.cons hc.head Bytes.nil)
    have hfl := dfeed_len r m [c] s
    refine Ev.step (fun k => by simp only [marlinelaw05_AsyncCuts.l1]; rw [if_pos (by omega), if_pos (by omega), if_pos (by rw [suc i (by omega)]; omega), if_pos (by rw [suc i (by omega)]; omega), ec, hF, suc i (by omega)]) ?_
    simp only [List.length_cons, List.length_nil] at hfl
    refine Ev.name (Ev.pos (by simp only; omega) ?_)
    refine Cuts_l1 r m l hl hb t (i + 1) (dfeed r m s [c]).2 (y ++ (dfeed r m s [c]).1) e2 (by omega) ?_
    have ht : l.take (i + 1) = l.take i ++ [c] := by
      rw [List.take_add_one]
      have h5 := congrArg (·[0]?) h
      simp only [List.getElem?_drop, Nat.add_zero, List.getElem?_cons_zero] at h5
      rw [h5]
      rfl
    rw [ht, dfeed_append, ← hy]
theorem Cuts_l0 (r m : Int) (ls : List (List Int)) (hn : ls.length ≤ 60) (hb : ∀ c ∈ ls, Bytes c) : ∀ (t : List (List Int)) (i : Nat) (s : Dst) (y : List S34) (l : List Int), ls.drop i = t → l.length + tot t ≤ 600 → Bytes l → (y, s) = dfeed r m d0 l →
    Ev (fun k => marlinelaw05_AsyncCuts.l0 k l y ls (ls.length : Int) i r m s.data s.any s.esc s.long r m false false false r m false false false) true
  | [], i, s, y, l, h, hi, hl, hy => by
    have h3 := dropL_nil h
    have hy1 : y = (dfeed r m d0 l).1 := congrArg Prod.fst hy
    subst hy1
    refine Ev.step (fun k => by simp only [marlinelaw05_AsyncCuts.l0]; rw [if_neg (by omega)]) ?_
    simp only [tot] at hi
    have hf := Cuts_l1 r m l (by omega) hl l 0 d0 [] rfl (by omega) (by rw [List.take_zero]; rfl)
    exact hf
  | c :: t, i, s, y, l, h, hi, hl, hy => by
    obtain ⟨e1, e2, e3⟩ := rdL_drop h
    have hc := hb c (List.mem_of_mem_drop (by rw [h]; simp : c ∈ ls.drop i))
    simp only [tot] at hi
    have ht := tot_nn t
    have hlen := dfeed_len r m l d0
    have hd : d0.data.length = 0 := rfl
    rw [← hy] at hlen
    simp only at hlen
    have hF := FeedD r m s c (by omega) (by omega) hc
    have hfl := dfeed_len r m c s
    refine Ev.step (fun k => by simp only [marlinelaw05_AsyncCuts.l0]; rw [if_pos (by omega), if_pos (by omega), if_pos (by omega), e1, hF, suc i (by omega)]) ?_
    refine Ev.name (Ev.pos (by simp only; omega) (Ev.pos (by omega) ?_))
    refine Cuts_l0 r m ls hn hb t (i + 1) (dfeed r m s c).2 (y ++ (dfeed r m s c).1) (l ++ c) e2 (by rw [List.length_append]; omega) (hl.append hc) ?_
    rw [dfeed_append, ← hy]
theorem AsyncCuts : marlinelaw05_AsyncCuts.Pure := by
  intro a0 a1 l2 h0 h1 hw
  obtain ⟨⟨hn, hn2⟩, hy⟩ := hw
  have hb : ∀ c ∈ l2, Bytes c := fun c hc => bytes_of_wf (hy c hc).2
  refine Ev.rounds ?_
  unfold marlinelaw05_AsyncCuts.f
  refine Ev.bind Speaks05 (Ev.pos rfl ?_)
  obtain ⟨b, hb1, hb2⟩ := RightD a1 l2 (fun c hc => by have := (hy c hc).1.2; omega) (by omega)
  refine Ev.bind hb2 ?_
  cases b with
  | false => exact Ev.step (fun k => by simp only [marlinelaw05_AsyncCuts.j0]; rw [if_pos (by decide)]) (Ev.bind Speaks05 (Ev.now _))
  | true =>
    obtain ⟨_, _, q1, q2⟩ := hb1 rfl
    refine Ev.step (fun k => by simp only [marlinelaw05_AsyncCuts.j0]; rw [if_neg (by decide)]) ?_
    exact Cuts_l0 a0 a1 l2 q1 hb l2 0 d0 [] [] rfl (by simp only [List.length_nil]; omega) Bytes.nil rfl
end Go.Proofs.Ytjmclghjhnbafaa.Sp
