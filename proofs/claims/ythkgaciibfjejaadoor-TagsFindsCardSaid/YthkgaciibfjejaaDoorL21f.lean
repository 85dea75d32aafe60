/- The statement TagsFinds, in plain words: true of any tags and any type. No condition. -/
import Derived.Test.YthkgaciibfjejaaDoorL21b
import Derived.Test.YthkgaciibfjejaaDoorPrintMarlinelaw21TagsFinds
namespace Go.Proofs.YthkgaciibfjejaaDoor.Sp
open Go.RowKit Go.Proofs.YthkgaciibfjejaaDoor.Print Go.Proofs.YthkgaciibfjejaaDoorW.PrintWords Go.Proofs.YthkgaciibfjejaaDoorW.PrintLast Go.Proofs.YthkgaciibfjejaaDoor.Pl
set_option linter.unusedVariables false
theorem tot_mem {o : RO} : ∀ {l : List RO}, o ∈ l → o.f1.length ≤ tot l
  | a :: t, h => by
    rcases List.mem_cons.1 h with rfl | h
    · simp only [tot]; omega
    · have := tot_mem h
      simp only [tot]; omega
/-- What is found of a type: the data of the first such tag. -/
def found : List RO → Int → Option (List Int)
  | [], _ => none
  | o :: t, x => if o.f0 = x then some o.f1 else found t x
theorem idx_found : ∀ (l : List RO) (x : Int), match found l x with
    | none => tags_Find.idx (l.map ao) x = -1
    | some d => ∃ i : Nat, tags_Find.idx (l.map ao) x = i ∧ ∃ h : i < l.length, l[i].f1 = d
  | [], x => rfl
  | o :: t, x => by
    have ih := idx_found t x
    unfold found
    have e : (ao o).f0 = o.f0 := rfl
    by_cases h : o.f0 = x
    · rw [if_pos h]
      refine ⟨0, ?_, by simp, rfl⟩
      simp only [List.map_cons, tags_Find.idx]
      rw [if_pos (by rw [e]; exact h)]
      rfl
    · rw [if_neg h]
      have e2 : tags_Find.idx ((o :: t).map ao) x = if tags_Find.idx (t.map ao) x = -1 then -1 else tags_Find.idx (t.map ao) x + 1 := by
        simp only [List.map_cons, tags_Find.idx]
        rw [if_neg (by rw [e]; exact h)]
      cases hf : found t x with
      | none =>
        rw [hf] at ih
        simp only at ih ⊢
        rw [e2, if_pos ih]
      | some d =>
        rw [hf] at ih
        simp only at ih ⊢
        obtain ⟨i, h1, h2, h3⟩ := ih
        refine ⟨i + 1, ?_, by simp only [List.length_cons]; omega, by simpa using h3⟩
        rw [e2, if_neg (by omega), h1]
        omega
theorem FindL (l : List RO) (x : Int) (hd : ∀ o ∈ l, o.f1.length ≤ 140737488351232) : tags_Find.f (l.map ao) x = some (match found l x with | none => ([], false) | some d => (d, true)) := by
  have h := idx_found l x
  unfold tags_Find.f tags_Find.idxf
  rw [Option.bind_some]
  cases hf : found l x with
  | none =>
    rw [hf] at h
    simp only at h ⊢
    rw [h, if_pos (by decide)]
  | some d =>
    rw [hf] at h
    simp only at h ⊢
    obtain ⟨i, h1, h2, h3⟩ := h
    have e : (rd_T50 (l.map ao) (i : Int)).f1 = d := by
      unfold rd_T50
      rw [Int.toNat_natCast, List.getD_eq_getElem?_getD, List.getElem?_map, List.getElem?_eq_getElem h2]
      exact h3
    rw [h1, if_neg (by omega), if_pos (by omega), if_pos (by rw [List.length_map]; omega), e]
    unfold bytes_Clone.f
    have := hd _ (List.getElem_mem h2)
    rw [h3] at this
    rw [if_pos (by omega)]
    rfl
theorem Finds_l1 (l : List RO) (H : Held l) (hl : l.length ≤ 60) (x : Int) (d : List Int) (hf : found l x = some d) (hdl : d.length ≤ 1000) (f0 : Int) : ∀ (n i : Nat) (y : List Int), y.length = d.length → d.length - i ≤ n → i ≤ d.length →
    Ev (fun k => marlinelaw21_TagsFinds.l1 k l x (l.map ao) y (d.length : Int) (i : Int) f0 d) true := by
  have last : ∀ (i : Nat) (y : List Int), ¬ ((i : Int) < (d.length : Int)) → Ev (fun k => marlinelaw21_TagsFinds.l1 k l x (l.map ao) y (d.length : Int) (i : Int) f0 d) true := by
    intro i y hi
    have hfind := FindL l x (fun o ho => (H.2 o ho).2.1)
    rw [hf] at hfind
    refine Ev.step (fun k => by simp only [marlinelaw21_TagsFinds.l1]; rw [if_neg hi, hfind, Option.bind_some, if_pos rfl]) ?_
    refine Ev.bind (Equal d d (by unfold Lim; omega)) (Ev.pos (by simp) (Ev.bind (ToL _ (by rw [List.length_map]; omega)) ?_))
    rw [map_ro_ao]
    exact Ev.bind (rSameL _ _ (by omega) (fun o ho => (H.2 o ho).2.2) (fun o ho => (H.2 o ho).2.2)) (Ev.end_ (by simp))
  intro n
  induction n with
  | zero =>
    intro i y hy h1 h2
    exact last i y (by omega)
  | succ n ih =>
    intro i y hy h1 h2
    by_cases hi : (i : Int) < (d.length : Int)
    · have e : wrap64 ((i : Int) + 1) = ((i + 1 : Nat) : Int) := suc i (by omega)
      refine Ev.step (fun k => by simp only [marlinelaw21_TagsFinds.l1, e]; rw [if_pos hi, if_pos (by omega), if_pos (by omega)]) ?_
      exact ih (i + 1) _ (by rw [List.length_set]; exact hy) (by omega) (by omega)
    · exact last i y hi
theorem Finds_l0 (l : List RO) (H : Held l) (hl : l.length ≤ 60) (ht : tot l ≤ 1000) (x : Int) (y : List Int) (is : Bool) (hy : (y, is) = match found l x with | none => ([], false) | some d => (d, true)) : ∀ (t : List RO) (i : Nat), l.drop i = t → found t x = found l x →
    Ev (fun k => marlinelaw21_TagsFinds.l0 k l x (l.map ao) y is l (l.length : Int) (i : Int)) true
  | [], i, h, hf => by
    have h3 := nil_len h
    rw [← hf] at hy
    simp only [found, Prod.mk.injEq] at hy
    obtain ⟨rfl, rfl⟩ := hy
    exact Ev.step (fun k => by simp only [marlinelaw21_TagsFinds.l0]; rw [if_neg (by omega), if_neg (by decide)]; rfl) (Ev.now _)
  | o :: t, i, h, hf => by
    obtain ⟨e1, e2, e3⟩ := rdr h
    have hm : o ∈ l := by rw [← List.take_append_drop i l, h]; simp
    replace hf : (if o.f0 = x then some o.f1 else found t x) = found l x := hf
    by_cases hx : o.f0 = x
    · rw [if_pos hx] at hf
      rw [← hf] at hy
      simp only [Prod.mk.injEq] at hy
      obtain ⟨rfl, rfl⟩ := hy
      have hol : o.f1.length ≤ 1000 := by
        have := tot_mem hm
        omega
      refine Ev.step (fun k => by simp only [marlinelaw21_TagsFinds.l0, e1]; rw [if_pos (by omega), if_pos (by omega), if_pos (by omega), if_pos hx, if_pos trivial]) ?_
      refine Ev.bind (Equal _ _ (by unfold Lim; omega)) ?_
      rw [decide_eq_true rfl]
      refine Ev.step (fun k => by simp only [marlinelaw21_TagsFinds.j2]; rw [if_neg (by decide)]) ?_
      exact Finds_l1 l H hl x o.f1 hf.symm hol o.f0 o.f1.length 0 o.f1 rfl (by omega) (by omega)
    · rw [if_neg hx] at hf
      refine Ev.step (fun k => by simp only [marlinelaw21_TagsFinds.l0, e1]; rw [if_pos (by omega), if_pos (by omega), if_pos (by omega), if_neg hx, sucB i (by omega)]) ?_
      exact Finds_l0 l H hl ht x y is hy t (i + 1) e2 hf
theorem TagsFinds : marlinelaw21_TagsFinds.Pure := by
  intro l0 x h0 h3
  have H := held_of h0
  refine Ev.rounds ?_
  unfold marlinelaw21_TagsFinds.f
  refine Ev.bind Speaks21 (Ev.pos rfl (Ev.bind (FewL l0 H) ?_))
  by_cases hF : l0.length ≤ 60 ∧ tot l0 ≤ 1000
  · rw [decide_eq_true hF]
    refine Ev.step (fun k => by simp only [marlinelaw21_TagsFinds.j0]; rw [if_neg (by decide)]) ?_
    refine Ev.bind (OfL l0 (by omega)) ?_
    rw [FindL l0 x (fun o ho => (H.2 o ho).2.1)]
    refine Ev.name ?_
    exact Finds_l0 l0 H hF.1 hF.2 x _ _ rfl l0 0 rfl rfl
  · rw [decide_eq_false hF]
    exact Ev.step (fun k => by simp only [marlinelaw21_TagsFinds.j0]; rw [if_pos (by decide)]) (Ev.bind Speaks21 (Ev.now _))
end Go.Proofs.YthkgaciibfjejaaDoor.Sp
