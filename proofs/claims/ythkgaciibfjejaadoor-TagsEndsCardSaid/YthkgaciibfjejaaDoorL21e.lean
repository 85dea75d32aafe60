/- The statement TagsEnds, in plain words: true of any tags, any octets behind them and any cut. No condition. -/
import Derived.Test.YthkgaciibfjejaaDoorL21b
import Derived.Test.YthkgaciibfjejaaDoorPrintMarlinelaw21TagsEnds
namespace Go.Proofs.YthkgaciibfjejaaDoor.Sp
open Go.RowKit Go.Proofs.YthkgaciibfjejaaDoor.Print Go.Proofs.YthkgaciibfjejaaDoorW.PrintWords Go.Proofs.YthkgaciibfjejaaDoorW.PrintLast Go.Proofs.YthkgaciibfjejaaDoor.Pl
set_option linter.unusedVariables false
theorem Ends_j1 (l0 : List RO) (H : Held l0) (hl : l0.length ≤ 60) (u0 : ∀ o ∈ l0.map ao, U16 o.f0 ∧ Bytes o.f1) (hp : (gput (l0.map ao)).2 = 0) (hlen : (gput (l0.map ao)).1.length ≤ 1000000) (c : Int) (hc : U16 c) :
    Ev (fun k => marlinelaw21_TagsEnds.j1 k l0 c (gput (l0.map ao)).1 false) true := by
  have hcut := gget_cut (l0.map ao) u0 hp
  have hbx := bytes_gput _ u0
  generalize (gput (l0.map ao)).1 = x at hlen hcut hbx ⊢
  have hc0 := hc.1
  have hc1 := hc.2
  by_cases h0 : (x.length : Int) = 0
  · exact Ev.step (fun k => by simp only [marlinelaw21_TagsEnds.j1]; rw [if_neg (by decide), if_pos h0]) (Ev.now _)
  have e : Int.tmod (wrap64 c) (x.length : Int) = c % (x.length : Int) := by rw [w64 (by omega) (by omega), Int.tmod_eq_emod_of_nonneg hc0]
  obtain ⟨m, hm⟩ : ∃ m : Nat, c % (x.length : Int) = m := ⟨(c % (x.length : Int)).toNat, by rw [Int.toNat_of_nonneg (Int.emod_nonneg _ h0)]⟩
  have hm2 : m < x.length := by have := Int.emod_lt_of_pos c (show (0 : Int) < (x.length : Int) by omega); omega
  rw [hm] at e
  refine Ev.step (fun k => by simp only [marlinelaw21_TagsEnds.j1, e, Int.toNat_natCast]; rw [if_neg (by decide), if_neg h0, if_pos (by omega), if_pos (by omega)]) ?_
  refine Ev.bind (gGetL _ (hbx.take m) (by unfold Lim; rw [List.length_take]; omega)) ?_
  have hgb := bytes_gget _ (x.take m) (Nat.le_refl _) (hbx.take m)
  rcases hcut m hm2 with h | ⟨i1, i2, i3, i4⟩
  · rw [h]
    exact Ev.neg (by decide) (Ev.pos rfl (Ev.pos rfl (Ev.end_ rfl)))
  · generalize gget (x.take m) = g at i1 i2 i3 i4 hgb ⊢
    rw [List.length_map] at i3
    refine Ev.pos i1 (Ev.pos i2 (Ev.pos (by omega) (Ev.bind (ToL _ (by omega)) (Ev.pos (by omega) (Ev.pos (by omega) ?_)))))
    have e2 : g.1.map ro = l0.take g.1.length := by
      conv => lhs; rw [i4]
      rw [List.map_take, map_ro_ao]
    rw [e2]
    refine Ev.bind (rSameL _ _ (by rw [List.length_take]; omega) (fun o ho => (H.2 o (List.mem_of_mem_take ho)).2.2) (fun o ho => (H.2 o (List.mem_of_mem_take ho)).2.2)) (Ev.end_ (by simp))
theorem TagsEnds : marlinelaw21_TagsEnds.Pure := by
  intro l0 l1 c h0 _ _ h2 h3
  have H := held_of h0
  have hb := bytes_of_wf h2
  have hc := u16_of_wf h3
  refine Ev.rounds ?_
  unfold marlinelaw21_TagsEnds.f
  refine Ev.bind Speaks21 (Ev.pos rfl (Ev.bind (FewL l0 H) ?_))
  have out : Ev (fun k => marlinelaw21_TagsEnds.j0 k l0 l1 c true) true := by
    refine Ev.step (fun k => by simp only [marlinelaw21_TagsEnds.j0]; rw [if_pos trivial]) (Ev.bind Speaks21 (Ev.now _))
  by_cases hF : l0.length ≤ 60 ∧ tot l0 ≤ 1000
  · refine Ev.pos (by simp [hF]) ?_
    by_cases hq : (l1.length : Int) > 1000
    · rw [decide_eq_true hq]; exact out
    rw [decide_eq_false hq]
    have s0 : size (l0.map ao) ≤ 1000000 := by rw [size_ao]; omega
    have u0 : ∀ o ∈ l0.map ao, U16 o.f0 ∧ Bytes o.f1 := by
      intro o ho
      obtain ⟨y, hy, rfl⟩ := List.mem_map.1 ho
      exact ⟨(H.2 y hy).1, (H.2 y hy).2.2⟩
    refine Ev.step (fun k => by simp only [marlinelaw21_TagsEnds.j0]; rw [if_neg (by decide)]) ?_
    refine Ev.bind (OfL l0 (by omega)) (Ev.bind (GPutL _ s0 (fun o ho => (u0 o ho).1)) ?_)
    by_cases hp : (gput (l0.map ao)).2 = 0
    · refine Ev.pos hp ?_
      have hlen := gput_length _ hp
      have hsz := size_ao l0
      have hbx := bytes_gput _ u0
      have hr := gget_gput _ u0 hp (0 :: 0 :: 0 :: 0 :: l1) (by
        have h0 : Byte 0 := ⟨by omega, by omega⟩
        exact ((hb.cons h0).cons h0).cons h0 |>.cons h0)
      rw [gget_zeros l1 hb, if_pos rfl, List.append_nil] at hr
      have hj := Ends_j1 l0 H hF.1 u0 hp (by omega) c hc
      generalize (gput (l0.map ao)).1 = x at hlen hbx hr hj ⊢
      have ez : (([] : List Int) ++ x ++ [0, 0, 0, 0] ++ l1) = x ++ 0 :: 0 :: 0 :: 0 :: l1 := by simp
      have hbz : Bytes (x ++ 0 :: 0 :: 0 :: 0 :: l1) := by
        have h0 : Byte 0 := ⟨by omega, by omega⟩
        exact hbx.append (((hb.cons h0).cons h0).cons h0 |>.cons h0)
      refine Ev.name (Ev.pos (by simp only [List.length_nil]; omega) (Ev.name (Ev.name (Ev.pos (by simp only [List.length_append, List.length_nil, List.length_cons]; omega) (Ev.name (Ev.pos (by simp only [List.length_append, List.length_nil, List.length_cons]; omega) ?_))))))
      rw [ez]
      refine Ev.bind (gGetL _ hbz (by unfold Lim; simp only [List.length_append, List.length_cons]; omega)) ?_
      rw [hr]
      refine Ev.pos rfl (Ev.pos (by rw [w64 (by omega) (by omega)]) (Ev.bind (ToL _ (by rw [List.length_map]; omega)) ?_))
      rw [map_ro_ao]
      refine Ev.bind (rSameL _ _ (by omega) (fun o ho => (H.2 o ho).2.2) (fun o ho => (H.2 o ho).2.2)) ?_
      rw [decide_eq_true rfl]
      exact hj
    · refine Ev.neg hp ?_
      rw [gput_err _ hp]
      exact Ev.end_ rfl
  · refine Ev.neg (by simpa using hF) out
end Go.Proofs.YthkgaciibfjejaaDoor.Sp
