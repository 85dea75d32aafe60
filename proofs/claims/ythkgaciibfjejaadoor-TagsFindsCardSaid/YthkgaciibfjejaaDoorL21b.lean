/- The statement TagsBack, in plain words: true of any tags and any octets. No condition. -/
import Derived.Test.YthkgaciibfjejaaDoorL21t
import Derived.Test.YthkgaciibfjejaaDoorPrintMarlinelaw21TagsBack
namespace Go.Proofs.YthkgaciibfjejaaDoor.Sp
open Go.RowKit Go.Proofs.YthkgaciibfjejaaDoor.Print Go.Proofs.YthkgaciibfjejaaDoorW.PrintWords Go.Proofs.YthkgaciibfjejaaDoorW.PrintLast Go.Proofs.YthkgaciibfjejaaDoor.Pl
set_option linter.unusedVariables false
theorem gget_size : ∀ (n : Nat) (b : List Int), b.length ≤ n → Bytes b → (gget b).2.2 = 0 → size (gget b).1 ≤ b.length
  | 0, b, h1, hb, h => by
    obtain rfl : b = [] := List.eq_nil_of_length_eq_zero (by omega)
    simp [gget_nil, size]
  | n + 1, b, h1, hb, h => by
    by_cases hne : b = []
    · subst hne
      simp [gget_nil, size]
    have hn := nn_bd hb
    rw [gget_step b hb hne] at h ⊢
    split
    · simp [size]
    rename_i a
    rw [if_neg a] at h
    split
    · simp [size]
    rename_i a1
    rw [if_neg a1] at h
    split
    · split <;> simp [size]
    rename_i a2
    rw [if_neg a2] at h
    split
    · rename_i a3
      have ih := gget_size n (b.drop (4 + nn b).toNat) (by rw [List.length_drop]; omega) (hb.drop _) a3
      rw [List.length_drop] at ih
      simp only [size, List.length_drop, List.length_take]
      omega
    · simp [size]
theorem Back_j3 (b : List Int) (hl : b.length ≤ 1000) (n : Int) (x : List Int) (h : n = (x.length : Int) ∧ x.length = b.length ∨ n = (x.length : Int) + 4 ∧ (b.drop x.length).take 4 = [0, 0, 0, 0]) (hx : x.length ≤ b.length) :
    Ev (fun k => marlinelaw21_TagsBack.j3 k b n x false) true := by
  have e0 : wrap64 ((x.length : Int) + 4) = x.length + 4 := w64 (by omega) (by omega)
  rcases h with ⟨h1, h2⟩ | ⟨h1, h2⟩
  · exact Ev.step (fun k => by simp only [marlinelaw21_TagsBack.j3]; rw [if_neg (by decide), if_pos h1, if_pos (by omega)]) (Ev.now _)
  · have h4 := congrArg List.length h2
    rw [List.length_take, List.length_drop] at h4
    simp only [List.length_cons, List.length_nil] at h4
    have e1 : (b.take n.toNat).drop ((x.length : Int)).toNat = [0, 0, 0, 0] := by
      rw [show n.toNat = x.length + 4 by omega, Int.toNat_natCast, List.drop_take, show x.length + 4 - x.length = 4 by omega]
      exact h2
    refine Ev.step (fun k => by simp only [marlinelaw21_TagsBack.j3, e0, e1]; rw [if_neg (by decide), if_neg (by omega), if_pos (by omega), if_pos (by omega), if_pos (by omega), if_pos (by omega)]) ?_
    exact Ev.bind (Equal [0, 0, 0, 0] [0, 0, 0, 0] (by unfold Lim; decide)) (Ev.end_ (by simp))
theorem Back_j2 (b : List Int) (hb : Bytes b) (hl : b.length ≤ 1000) : Ev (fun k => marlinelaw21_TagsBack.j2 k b) true := by
  have hL : Lim b := by unfold Lim; omega
  refine Ev.step (fun k => by simp only [marlinelaw21_TagsBack.j2]; rfl) (Ev.bind (gGetL b hb hL) ?_)
  by_cases h : (gget b).2.2 = 0
  · refine Ev.pos h ?_
    obtain ⟨p1, p2, p3⟩ := gput_gget b.length b (Nat.le_refl _) hb h
    have hs := gget_size b.length b (Nat.le_refl _) hb h
    have hgb := bytes_gget b.length b (Nat.le_refl _) hb
    have hlen := gput_length _ p1
    refine Ev.bind (GPutL _ (by omega) (fun o ho => (hgb o ho).1)) (Ev.pos p1 ?_)
    generalize (gput (gget b).1).1 = x at p2 p3 hlen ⊢
    have hxl : x.length ≤ b.length := by omega
    have n1 : ¬ (gget b).2.1 > (b.length : Int) := by have := (gget_n b.length b (Nat.le_refl _) hb).2.1; omega
    have n2 : ¬ (gget b).2.1 < (x.length : Int) := by rcases p3 with ⟨h1, _⟩ | ⟨h1, _⟩ <;> omega
    refine Ev.neg n1 (Ev.neg n2 (Ev.pos (by omega) (Ev.pos (by omega) ?_)))
    refine Ev.bind (Equal _ _ (by unfold Lim; omega)) ?_
    rw [Int.toNat_natCast, decide_eq_true p2]
    exact Back_j3 b hl _ x p3 hxl
  · have he := gget_err b.length b (Nat.le_refl _) hb h
    rw [he.1, he.2]
    exact Ev.neg h (Ev.pos rfl (Ev.end_ rfl))
theorem TagsBack : marlinelaw21_TagsBack.Pure := by
  intro l0 l1 h0 _ _ h2
  have H := held_of h0
  have hb := bytes_of_wf h2
  refine Ev.rounds ?_
  unfold marlinelaw21_TagsBack.f
  refine Ev.bind Speaks21 (Ev.pos rfl (Ev.bind (FewL l0 H) ?_))
  have out : Ev (fun k => marlinelaw21_TagsBack.j0 k l0 l1 true) true := by
    refine Ev.step (fun k => by simp only [marlinelaw21_TagsBack.j0]; rw [if_pos trivial]) (Ev.bind Speaks21 (Ev.now _))
  by_cases hF : l0.length ≤ 60 ∧ tot l0 ≤ 1000
  · refine Ev.pos (by simp [hF]) ?_
    by_cases hq : (l1.length : Int) > 1000
    · rw [decide_eq_true hq]; exact out
    rw [decide_eq_false hq]
    have s0 : size (l0.map ao) ≤ 1000000 := by rw [size_ao]; omega
    have u0 : ∀ o ∈ l0.map ao, U16 o.f0 ∧ Bytes o.f1 := by
      intro o ho
      obtain ⟨y, hy, rfl⟩ := List.mem_map.1 ho
      exact ⟨(H.2 y hy).1, (H.2 y hy).2.2⟩
    refine Ev.step (fun k => by simp only [marlinelaw21_TagsBack.j0]; rw [if_neg (by decide)]) ?_
    refine Ev.bind (OfL l0 (by omega)) (Ev.bind (GPutL _ s0 (fun o ho => (u0 o ho).1)) ?_)
    by_cases hp : (gput (l0.map ao)).2 = 0
    · refine Ev.pos hp ?_
      have hr := gget_gput_nil _ u0 hp
      have hlen := gput_length _ hp
      refine Ev.bind (gGetL _ (bytes_gput _ u0) (by unfold Lim; omega)) ?_
      rw [hr]
      refine Ev.pos rfl (Ev.pos rfl (Ev.bind (ToL _ (by rw [List.length_map]; omega)) ?_))
      rw [map_ro_ao]
      refine Ev.bind (rSameL _ _ (by omega) (fun o ho => (H.2 o ho).2.2) (fun o ho => (H.2 o ho).2.2)) ?_
      rw [decide_eq_true rfl]
      exact Ev.step (fun k => by simp only [marlinelaw21_TagsBack.j1]; rw [if_neg (by decide)]) (Back_j2 l1 hb (by omega))
    · refine Ev.neg hp ?_
      rw [gput_err _ hp]
      exact Ev.pos rfl (Back_j2 l1 hb (by omega))
  · refine Ev.neg (by simpa using hF) out
end Go.Proofs.YthkgaciibfjejaaDoor.Sp
