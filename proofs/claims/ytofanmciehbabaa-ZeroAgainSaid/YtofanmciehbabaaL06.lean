/- The four statements of layer 6, in plain words: each is true of every list of bits. No condition. -/
import Derived.Test.YtofanmciehbabaaS06
import Derived.Test.YtofanmciehbabaaPrintMarlinelaw06ZeroJoin
import Derived.Test.YtofanmciehbabaaPrintMarlinelaw06ZeroTells
import Derived.Test.YtofanmciehbabaaPrintMarlinelaw06ZeroBack
import Derived.Test.YtofanmciehbabaaPrintMarlinelaw06ZeroAgain
namespace Go.Proofs.Ytofanmciehbabaa.Sp
open Go.RowKit Go.Proofs.Ytofanmciehbabaa.Print Go.Proofs.YtofanmciehbabaaW.PrintWords Go.Proofs.YtofanmciehbabaaW.PrintLast Go.Proofs.Ytofanmciehbabaa.Pl
set_option linter.unusedVariables false
theorem Speaks06 : Ev (fun k => marlinelaw06_speaks.f k) true := by
  unfold marlinelaw06_speaks.f
  refine Ev.bind (Insert [1, 1, 1, 1, 1, 1] (by unfold Lim; decide) (bytes_lit (by decide))) ?_
  refine Ev.bind (Equal (ins 0 [1, 1, 1, 1, 1, 1]) [1, 1, 1, 1, 1, 0, 1] (by unfold Lim; decide)) ?_
  refine Ev.pos (by decide) ?_
  refine Ev.bind Flag ?_
  refine Ev.bind (Equal [0, 1, 1, 1, 1, 1, 1, 0] [0, 1, 1, 1, 1, 1, 1, 0] (by unfold Lim; decide)) ?_
  exact Ev.end_ (by decide)
theorem ins_lim {l : List Int} (h : l.length ≤ 1000) (n : Int) (h0 : 0 ≤ n) (h4 : n ≤ 4) : (ins n l).length ≤ 1300 := by
  have := (ins_len n l h0 h4).2
  omega
theorem ZeroTells : marlinelaw06_ZeroTells.Pure := by
  intro l h1 h2 h3
  have hb := bytes_of_wf h3
  refine Ev.rounds ?_
  unfold marlinelaw06_ZeroTells.f
  refine Ev.bind Speaks06 (Ev.pos rfl ?_)
  by_cases hn : l.length > 600
  · refine Ev.step (f := fun k => (marlinelaw06_speaks.f k).bind fun t => some t) (fun k => by simp only [marlinelaw06_ZeroTells.j0]; rw [if_pos (by simp; omega)]) (Ev.bind Speaks06 (Ev.now _))
  have hl : Lim l := by unfold Lim; omega
  refine Ev.step (fun k => by simp only [marlinelaw06_ZeroTells.j0]; rw [if_neg (by simp; omega)]) ?_
  refine Ev.bind (Remove l hl hb) (Ev.bind (rRemove l hl hb) (Ev.bind (Insert l hl hb) (Ev.bind (rInsert l hl hb (by omega)) ?_)))
  refine Ev.bind (Equal (ins 0 l) (ins 0 l) (by have := ins_lim (l := l) (by omega) 0 (by omega) (by omega); unfold Lim; omega)) (Ev.pos (by simp) (Ev.pos rfl ?_))
  refine Ev.bind (Equal _ _ (by unfold Lim; have := rem_len 0 l; split <;> simp <;> omega)) ?_
  exact Ev.end_ (by simp)
theorem ZeroBack : marlinelaw06_ZeroBack.Pure := by
  intro l h1 h2 h3
  have hb := bytes_of_wf h3
  refine Ev.rounds ?_
  unfold marlinelaw06_ZeroBack.f
  refine Ev.bind Speaks06 (Ev.pos rfl ?_)
  by_cases hn : l.length > 600
  · refine Ev.step (f := fun k => (marlinelaw06_speaks.f k).bind fun t => some t) (fun k => by simp only [marlinelaw06_ZeroBack.j0]; rw [if_pos (by simp; omega)]) (Ev.bind Speaks06 (Ev.now _))
  have hl : Lim l := by unfold Lim; omega
  have hlen := ins_len 0 l (by omega) (by omega)
  have hls : Lim (ins 0 l) := by unfold Lim; omega
  have hr := run_ins l
  have hq : Int.tdiv (l.length : Int) 5 = (l.length : Int) / 5 := Int.tdiv_eq_ediv_of_nonneg (by omega)
  refine Ev.step (fun k => by simp only [marlinelaw06_ZeroBack.j0]; rw [if_neg (by simp; omega)]) ?_
  refine Ev.bind (Insert l hl hb) (Ev.bind (Remove (ins 0 l) hls (bytes_ins 0 l)) ?_)
  rw [if_neg (by omega)]
  simp only [w64 (x := (l.length : Int) / 5) (by omega) (by omega), w64 (x := (l.length : Int) + (l.length : Int) / 5) (by omega) (by omega)]
  refine Ev.pos (by simp) (Ev.bind (Clean l hl hb) ?_)
  refine Ev.bind (Equal (rem 0 (ins 0 l)) (clean l) (by have := rem_len 0 (ins 0 l); unfold Lim at hls ⊢; omega)) (Ev.pos (by rw [rem_ins 0 l (by omega) (by omega)]; simp) ?_)
  refine Ev.bind (Run (ins 0 l) hls (bytes_ins 0 l)) ?_
  refine Ev.pos (by omega) (Ev.pos (by omega) ?_)
  exact Ev.end_ (by simp; omega)
theorem ZeroAgain : marlinelaw06_ZeroAgain.Pure := by
  intro l h1 h2 h3
  have hb := bytes_of_wf h3
  refine Ev.rounds ?_
  unfold marlinelaw06_ZeroAgain.f
  refine Ev.bind Speaks06 (Ev.pos rfl ?_)
  by_cases hn : l.length > 600
  · refine Ev.step (f := fun k => (marlinelaw06_speaks.f k).bind fun t => some t) (fun k => by simp only [marlinelaw06_ZeroAgain.j0]; rw [if_pos (by simp; omega)]) (Ev.bind Speaks06 (Ev.now _))
  have hl : Lim l := by unfold Lim; omega
  refine Ev.step (fun k => by simp only [marlinelaw06_ZeroAgain.j0]; rw [if_neg (by simp; omega)]) ?_
  refine Ev.bind (Remove l hl hb) ?_
  by_cases hr : run l > 5
  · rw [if_pos hr]
    refine Ev.neg (by simp) (Ev.pos rfl (Ev.pos rfl (Ev.bind (Run l hl hb) (Ev.end_ (by simpa using hr)))))
  rw [if_neg hr]
  have hrl := rem_len 0 l
  have hrb : Bytes (rem 0 l) := bytes_of_bits (rem_bits 0 l)
  have hcl := clean_length l
  have hlr : Lim (rem 0 l) := by unfold Lim; omega
  refine Ev.pos rfl (Ev.bind (Insert (rem 0 l) hlr hrb) ?_)
  rcases (again l).1 0 (by omega) (by omega) (by unfold run at hr; omega) with h | h
  · rw [h]
    refine Ev.neg (by omega) (Ev.neg (by rw [w64 (by omega) (by omega)]; omega) (Ev.pos (by omega) (Ev.pos (by omega) ?_)))
    rw [Int.toNat_natCast, List.take_of_length_le (by omega)]
    refine Ev.bind (Clean l hl hb) (Ev.bind (Equal (clean l) (clean l) (by unfold Lim; omega)) (Ev.pos (by simp) ?_))
    exact Ev.bind (Run l hl hb) (Ev.neg hr (Ev.pos (by omega) (Ev.now _)))
  · rw [h]
    have hl1 : (clean l ++ [0]).length = l.length + 1 := by simp [hcl]
    refine Ev.neg (by omega) (Ev.neg (by rw [w64 (by omega) (by omega)]; omega) (Ev.pos (by omega) (Ev.pos (by omega) ?_)))
    rw [Int.toNat_natCast, List.take_left' hcl]
    refine Ev.bind (Clean l hl hb) (Ev.bind (Equal (clean l) (clean l) (by unfold Lim; omega)) (Ev.pos (by simp) ?_))
    refine Ev.bind (Run l hl hb) (Ev.neg hr (Ev.neg (by omega) (Ev.pos (by omega) (Ev.end_ ?_))))
    rw [(rd_drop (xs := clean l ++ [0]) (i := l.length) (b := 0) (t := []) (by rw [← hcl, List.drop_left])).1]
    rfl
theorem ZeroJoin : marlinelaw06_ZeroJoin.Pure := by
  intro l m h1 h2 h3 k1 k2 k3
  have hb := bytes_of_wf h3
  have kb := bytes_of_wf k3
  have short : Ev (fun k => marlinelaw06_ZeroJoin.j0 k l m true) true :=
    Ev.step (f := fun k => (marlinelaw06_speaks.f k).bind fun t => some t) (fun k => by simp [marlinelaw06_ZeroJoin.j0]) (Ev.bind Speaks06 (Ev.now _))
  refine Ev.rounds ?_
  unfold marlinelaw06_ZeroJoin.f
  refine Ev.bind Speaks06 (Ev.pos rfl ?_)
  by_cases hn : l.length > 300
  · exact Ev.pos (by omega) short
  refine Ev.neg (by omega) ?_
  by_cases hm : m.length > 300
  · rw [show decide ((m.length : Int) > 300) = true by simp; omega]; exact short
  rw [show decide ((m.length : Int) > 300) = false by simp; omega]
  have hl : Lim l := by unfold Lim; omega
  have b0 : Bytes (l ++ [0]) := hb.append (bytes_lit (by decide))
  have l0 : Lim (l ++ [0]) := by unfold Lim; simp; omega
  have lm : Lim m := by unfold Lim; omega
  refine Ev.step (fun k => by simp only [marlinelaw06_ZeroJoin.j0]; rw [if_neg (by simp)]) ?_
  refine Ev.name (Ev.pos (by simp; omega) (Ev.name (Ev.pos (by simp; omega) (Ev.name (Ev.name (Ev.pos (by simp; omega) (Ev.name (Ev.pos (by simp; omega) ?_))))))))
  simp only [List.nil_append]
  have ba : Bytes ((l ++ [0]) ++ m) := b0.append kb
  have la : Lim ((l ++ [0]) ++ m) := by unfold Lim; simp; omega
  refine Ev.bind (Insert _ la ba) (Ev.bind (Insert _ l0 b0) (Ev.bind (Insert m lm kb) ?_))
  have i1 := ins_lim (l := l ++ [0]) (by simp; omega) 0 (by omega) (by omega)
  have i2 := ins_lim (l := m) (by omega) 0 (by omega) (by omega)
  have i3 := ins_lim (l := (l ++ [0]) ++ m) (by simp; omega) 0 (by omega) (by omega)
  refine Ev.pos (by omega) ?_
  refine Ev.bind (Equal _ _ (by unfold Lim; omega)) ?_
  refine Ev.end_ ?_
  have := ins_zero 0 l m
  simp only [List.append_assoc, List.cons_append, List.nil_append, decide_eq_true_eq]
  exact this
end Go.Proofs.Ytofanmciehbabaa.Sp
