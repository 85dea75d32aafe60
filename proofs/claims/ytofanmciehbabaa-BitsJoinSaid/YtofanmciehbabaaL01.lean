/- The three statements of layer 1, in plain words: each is true of every list of octets. No condition. -/
import Derived.Test.YtofanmciehbabaaEv
import Derived.Test.YtofanmciehbabaaS01b
import Derived.Test.YtofanmciehbabaaPrintMarlinelaw01BitsJoin
import Derived.Test.YtofanmciehbabaaPrintMarlinelaw01BitsTell
import Derived.Test.YtofanmciehbabaaPrintMarlinelaw01BitsBack
namespace Go.Proofs.Ytofanmciehbabaa.Sp
open Go.RowKit Go.Proofs.Ytofanmciehbabaa.Print Go.Proofs.YtofanmciehbabaaW.PrintWords Go.Proofs.YtofanmciehbabaaW.PrintLast Go.Proofs.Ytofanmciehbabaa.Pl
set_option linter.unusedVariables false
theorem Speaks01 : Ev (fun k => marlinelaw01_speaks.f k) true := by
  unfold marlinelaw01_speaks.f
  refine Ev.bind (Of [6] (by unfold Lim; decide) (bytes_lit (by decide))) ?_
  refine Ev.bind (Equal (ofOct [6]) [0, 1, 1, 0, 0, 0, 0, 0] (by unfold Lim; decide)) ?_
  refine Ev.pos (by decide) ?_
  refine Ev.bind (Run [1, 1, 0, 1] (by unfold Lim; decide) (bytes_lit (by decide))) ?_
  exact Ev.end_ (by decide)

theorem BitsJoin : marlinelaw01_BitsJoin.Pure := by
  intro l a h1 h2 h3 h4
  have hb := bytes_of_wf h3
  obtain ⟨ha0, ha1⟩ := u16_of_wf h4
  refine Ev.rounds ?_
  unfold marlinelaw01_BitsJoin.f
  refine Ev.bind Speaks01 (Ev.pos rfl ?_)
  by_cases hn : l.length > 400
  · refine Ev.step (f := fun k => (marlinelaw01_speaks.f k).bind fun t => some t) (fun k => by simp only [marlinelaw01_BitsJoin.j0]; rw [if_pos (by simp; omega)]) (Ev.bind Speaks01 (Ev.now _))
  have hl : Lim l := by unfold Lim; omega
  obtain ⟨n, hidx⟩ : ∃ n : Nat, Int.tmod (wrap64 a) (wrap64 ((l.length : Int) + 1)) = (n : Int) ∧ n ≤ l.length := by
    rw [w64 (by omega) (by omega), w64 (by omega) (by omega), Int.tmod_eq_emod_of_nonneg ha0]
    have h5 := Int.emod_nonneg a (show (l.length : Int) + 1 ≠ 0 by omega)
    have h6 := Int.emod_lt_of_pos a (show 0 < (l.length : Int) + 1 by omega)
    exact ⟨(a % ((l.length : Int) + 1)).toNat, by omega, by omega⟩
  obtain ⟨hidx, hnl⟩ := hidx
  have ht := hb.take n
  have hd := hb.drop n
  have hlt : Lim (l.take n) := by unfold Lim; rw [List.length_take]; omega
  have hld : Lim (l.drop n) := by unfold Lim; rw [List.length_drop]; omega
  have hsplit := List.take_append_drop n l
  have hp := run_parts (l.take n) (l.drop n)
  rw [hsplit] at hp
  have hr1 := run_nonneg (l.take n); have hr2 := run_nonneg (l.drop n); have hr3 := run_le (l.take n); have hr4 := run_le (l.drop n)
  rw [List.length_take] at hr3
  rw [List.length_drop] at hr4
  have fin : Ev (fun k => marlinelaw01_BitsJoin.j1 k l n false) true := by
    refine Ev.step (fun k => by simp only [marlinelaw01_BitsJoin.j1]; rw [if_neg (by simp), if_pos (by omega), if_pos (by omega), Int.toNat_natCast]) ?_
    refine Ev.bind (Run (l.take n) hlt ht) (Ev.bind (Run (l.drop n) hld hd) (Ev.bind (Run l hl hb) ?_))
    refine Ev.pos (by unfold mx; split <;> omega) (Ev.pos (by rw [w64 (by omega) (by omega)]; omega) ?_)
    refine Ev.bind (Clean l hl hb) (Ev.bind (Run (clean l) (by unfold Lim; rw [clean_length]; exact hl) (bytes_clean l)) ?_)
    exact Ev.end_ (by rw [run_clean]; simp)
  refine Ev.step (fun k => by simp only [marlinelaw01_BitsJoin.j0]; rw [if_neg (by simp; omega), if_neg (by rw [w64 (by omega) (by omega)]; omega), hidx, if_pos (by omega), if_pos (by omega), Int.toNat_natCast]) ?_
  refine Ev.bind (Of (l.take n) hlt ht) (Ev.bind (Of (l.drop n) hld hd) ?_)
  refine Ev.pos (by rw [ofOct_length, ofOct_length, List.length_take, List.length_drop]; omega) ?_
  refine Ev.bind (Of l hl hb) ?_
  refine Ev.bind (Equal (ofOct (l.take n) ++ ofOct (l.drop n)) (ofOct l) (by unfold Lim at hl ⊢; rw [← ofOct_append, hsplit, ofOct_length]; omega)) ?_
  refine Ev.pos (by rw [← ofOct_append, hsplit]; simp) ?_
  refine Ev.bind (Clean (l.take n) hlt ht) (Ev.bind (Clean (l.drop n) hld hd) ?_)
  refine Ev.pos (by rw [clean_length, clean_length, List.length_take, List.length_drop]; omega) ?_
  refine Ev.bind (Clean l hl hb) ?_
  refine Ev.bind (Equal (clean (l.take n) ++ clean (l.drop n)) (clean l) (by unfold Lim at hl ⊢; rw [← clean_append, hsplit, clean_length]; omega)) ?_
  rw [show (!decide (clean (l.take n) ++ clean (l.drop n) = clean l)) = false by rw [← clean_append, hsplit]; simp]
  exact fin

theorem BitsBack : marlinelaw01_BitsBack.Pure := by
  intro l h1 h2 h3
  have hb := bytes_of_wf h3
  refine Ev.rounds ?_
  unfold marlinelaw01_BitsBack.f
  refine Ev.bind Speaks01 (Ev.pos rfl ?_)
  by_cases hn : l.length > 400
  · refine Ev.step (f := fun k => (marlinelaw01_speaks.f k).bind fun t => some t) (fun k => by simp only [marlinelaw01_BitsBack.j0]; rw [if_pos (by simp; omega)]) (Ev.bind Speaks01 (Ev.now _))
  have hl : Lim l := by unfold Lim; omega
  have hbo : Bytes (ofOct l) := by rw [← clean_ofOct]; exact bytes_clean _
  have hlo : Lim (ofOct l) := by unfold Lim; rw [ofOct_length]; omega
  have hoct := octs_of l hb
  have fin : Ev (fun k => marlinelaw01_BitsBack.j1 k l false) true := by
    refine Ev.step (fun k => by simp only [marlinelaw01_BitsBack.j1]; rw [if_neg (by simp)]) ?_
    refine Ev.bind (Octets l hl hb) ?_
    by_cases h8 : l.length % 8 = 0
    · rw [if_pos h8]
      refine Ev.pos rfl ?_
      have hlo2 : Lim (octs l) := by unfold Lim; rw [octs_length]; omega
      refine Ev.bind (Of (octs l) hlo2 (bytes_octs l)) (Ev.bind (Clean l hl hb) ?_)
      refine Ev.bind (Equal (ofOct (octs l)) (clean l) (by unfold Lim; rw [ofOct_length, octs_length]; omega)) ?_
      exact Ev.end_ (by rw [of_octs l h8]; simp)
    · rw [if_neg h8]
      refine Ev.neg (by simp) (Ev.pos rfl ?_)
      exact Ev.end_ (by rw [bne_iff_ne]; omega)
  refine Ev.step (fun k => by simp only [marlinelaw01_BitsBack.j0]; rw [if_neg (by simp; omega)]) ?_
  refine Ev.bind (Of l hl hb) ?_
  refine Ev.bind (Octets (ofOct l) hlo hbo) ?_
  rw [if_pos (by rw [ofOct_length]; omega)]
  refine Ev.pos rfl ?_
  refine Ev.bind (Equal (octs (ofOct l)) l (by rw [hoct]; exact hl)) ?_
  refine Ev.pos (by rw [hoct]; simp) ?_
  refine Ev.bind (Of l hl hb) ?_
  rw [show (((ofOct l).length : Int) != wrap64 (8 * (l.length : Int))) = false by rw [ofOct_length, w64 (by omega) (by omega), bne_eq_false_iff_eq]; omega]
  exact fin

theorem Tell_l1 (l : List Int) (hl : Lim l) (hb : Bytes l) (h4 : l.length ≤ 400) (x3 x5 : List Int) (x4 x6 : Bool) (m : Int) (h35 : x3 = x5) (h46 : x4 = x6) (hx : Lim x3) (hm : m = run l) : ∀ (t : List Int) (i : Nat), (clean l).drop i = t → Ev (fun k => marlinelaw01_BitsTell.l1 k l x3 x4 x5 x6 m (clean l) (clean l) ((clean l).length : Int) i) true
  | [], i, h1 => by
    have h3 := drop_nil_len h1
    have hlc : Lim (clean l) := by unfold Lim; rw [clean_length]; exact hl
    refine Ev.step (fun k => by simp only [marlinelaw01_BitsTell.l1]; rw [if_neg (by omega)]) ?_
    refine Ev.bind (Of l hl hb) (Ev.bind (rOf l hl hb) (Ev.bind (Equal (ofOct l) (ofOct l) (by unfold Lim; rw [ofOct_length]; omega)) (Ev.pos (by simp) ?_)))
    refine Ev.bind (Equal x3 x5 hx) (Ev.pos (by simp [h35]) (Ev.pos (by simp [h46]) ?_))
    refine Ev.bind (rSame (clean l) l hlc (bytes_clean l) hb) (Ev.pos (by simp [clean_clean]) ?_)
    refine Ev.bind (Run l hl hb) ?_
    exact Ev.end_ (by simp [hm])
  | c :: t, i, h1 => by
    obtain ⟨e1, e2, e3⟩ := rd_drop h1
    have hc := bit_clean (l := l) (x := c) (by have : c ∈ (clean l).drop i := by rw [h1]; simp
                                               exact List.mem_of_mem_drop this)
    have hcl := clean_length l
    refine Ev.step (fun k => ?_) (Tell_l1 l hl hb h4 x3 x5 x4 x6 m h35 h46 hx hm t (i + 1) e2)
    simp only [marlinelaw01_BitsTell.l1]
    rw [if_pos (by omega), if_pos (by omega), if_pos (by omega), e1, if_neg (by omega), suc i (by omega)]
theorem Tell_l0 (l : List Int) (hl : Lim l) (hb : Bytes l) (h4 : l.length ≤ 400) (x3 x5 : List Int) (x4 x6 : Bool) (h35 : x3 = x5) (h46 : x4 = x6) (hx : Lim x3) : ∀ (t : List Int) (i : Nat) (m : Int), l.drop i = t → i ≤ l.length → max m (best t) = run l → 0 ≤ m → Ev (fun k => marlinelaw01_BitsTell.l0 k l x3 x4 x5 x6 m (l.length : Int) i) true
  | [], i, m, h1, hi, hm, h0 => by
    have h3 := drop_nil_len h1
    refine Ev.step (fun k => by simp only [marlinelaw01_BitsTell.l0]; rw [if_neg (by omega)]) ?_
    refine Ev.bind (Clean l hl hb) ?_
    exact Tell_l1 l hl hb h4 x3 x5 x4 x6 m h35 h46 hx (by simp only [best] at hm; omega) (clean l) 0 rfl
  | c :: t, i, m, h1, hi, hm, h0 => by
    obtain ⟨e1, e2, e3⟩ := rd_drop h1
    refine Ev.step (fun k => by simp only [marlinelaw01_BitsTell.l0]; rw [if_pos (by omega)]) ?_
    have hr := rRun l hl hb i (by omega)
    rw [h1] at hr
    refine Ev.bind hr ?_
    rw [suc i (by omega)]
    have hmx : mx m (lead (c :: t)) = max m (lead (c :: t)) := by unfold mx; split <;> omega
    rw [hmx]
    exact Tell_l0 l hl hb h4 x3 x5 x4 x6 h35 h46 hx t (i + 1) _ e2 (by omega) (by rw [best] at hm; omega) (by omega)
theorem BitsTell : marlinelaw01_BitsTell.Pure := by
  intro l h1 h2 h3
  have hb := bytes_of_wf h3
  refine Ev.rounds ?_
  unfold marlinelaw01_BitsTell.f
  refine Ev.bind Speaks01 (Ev.pos rfl ?_)
  by_cases hn : l.length > 400
  · refine Ev.step (f := fun k => (marlinelaw01_speaks.f k).bind fun t => some t) (fun k => by simp only [marlinelaw01_BitsTell.j0]; rw [if_pos (by simp; omega)]) (Ev.bind Speaks01 (Ev.now _))
  have hl : Lim l := by unfold Lim; omega
  refine Ev.step (fun k => by simp only [marlinelaw01_BitsTell.j0]; rw [if_neg (by simp; omega)]) ?_
  refine Ev.bind (Octets l hl hb) (Ev.bind (rOctets l hl hb) ?_)
  refine Tell_l0 l hl hb (by omega) _ _ _ _ rfl rfl ?_ l 0 0 rfl (by omega) (by rw [← run_best]; have := run_nonneg l; omega) (by omega)
  unfold Lim
  split
  · rw [octs_length]; omega
  · simp
end Go.Proofs.Ytofanmciehbabaa.Sp
