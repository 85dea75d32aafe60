/- The statement TlvKeeps, in plain words: true of any octets and any type. No condition. -/
import Derived.Test.YtgjeahgagciagaaS12b
import Derived.Test.YtgjeahgagciagaaPrintTlvFind
import Derived.Test.YtgjeahgagciagaaPrintMarlinelaw12TlvKeeps
namespace Go.Proofs.Ytgjeahgagciagaa.Sp
open Go.RowKit Go.Proofs.Ytgjeahgagciagaa.Print Go.Proofs.YtgjeahgagciagaaW.PrintWords Go.Proofs.YtgjeahgagciagaaW.PrintLast Go.Proofs.Ytgjeahgagciagaa.Pl
set_option linter.unusedVariables false
/-- The first option of a type. -/
def found (l : List AO) (t : Int) : Option AO := l.find? fun o => o.f0 == t
theorem idx_found : ∀ (l : List AO) (t : Int), (tlv_Find.idx l t = -1 ∧ found l t = none) ∨ ∃ i : Nat, tlv_Find.idx l t = i ∧ i < l.length ∧ ∃ o, found l t = some o ∧ l[i]? = some o ∧ o.f0 = t
  | [], t => .inl ⟨rfl, rfl⟩
  | o :: r, t => by
    unfold found
    simp only [tlv_Find.idx, List.find?_cons]
    by_cases h : o.f0 = t
    · rw [if_pos h]
      exact .inr ⟨0, rfl, by simp, o, by simp [h], by simp, h⟩
    · rw [if_neg h]
      have hb : (o.f0 == t) = false := by simpa using h
      rw [hb]
      rcases idx_found r t with ⟨h1, h2⟩ | ⟨i, h1, h2, x, h3, h4, h5⟩
      · rw [h1, if_pos rfl]
        exact .inl ⟨rfl, h2⟩
      · rw [h1, if_neg (by omega)]
        exact .inr ⟨i + 1, by omega, by simpa using h2, x, h3, by simpa using h4, h5⟩
theorem FindL (l : List AO) (t : Int) (hl : ∀ o ∈ l, Lim o.f1) : tlv_Find.f l t = some (match found l t with | none => (0, [], false) | some o => (t, o.f1, true)) := by
  unfold tlv_Find.f tlv_Find.idxf
  rw [Option.bind_some]
  rcases idx_found l t with ⟨h1, h2⟩ | ⟨i, h1, h2, o, h3, h4, h5⟩
  · rw [h1, h2, if_pos (by omega)]
  · have e : rd_T57 l (i : Int) = o := by
      unfold rd_T57
      rw [Int.toNat_natCast, List.getD_eq_getElem?_getD, h4]
      rfl
    have ho : o ∈ l := List.mem_of_getElem? h4
    rw [h1, h3, if_neg (by omega), if_pos (by omega), if_pos (by omega), e, CloneL _ (hl o ho), Option.bind_some]
theorem TlvKeeps : marlinelaw12_TlvKeeps.Pure := by
  intro b t _ _ hb _
  have hB := bytes_of_wf hb
  refine Ev.rounds ?_
  unfold marlinelaw12_TlvKeeps.f
  refine Ev.bind Speaks12 (Ev.pos rfl ?_)
  by_cases hq : (b.length : Int) > 1000
  · exact Ev.step (fun k => by simp only [marlinelaw12_TlvKeeps.j0]; rw [if_pos (decide_eq_true hq)]) (Ev.bind Speaks12 (Ev.now _))
  have hL : Lim b := by unfold Lim; omega
  have G := GetL b hB hL
  refine Ev.step (fun k => by simp only [marlinelaw12_TlvKeeps.j0]; rw [if_neg (by simpa using hq)]) ?_
  refine Ev.name (Ev.pos (by simp only [List.length_nil]; omega) (Ev.name ?_))
  simp only [List.nil_append]
  refine Ev.bind G ?_
  by_cases he : (tget b).2 = 0
  · refine Ev.pos he (Ev.bind G ?_)
    have hby := bytes_tget b.length b (Nat.le_refl _) hB
    have hlm : ∀ o ∈ (tget b).1, Lim o.f1 := by
      intro o ho
      have h1 := size_tget hB he
      have h2 : ∀ (l : List AO), o ∈ l → o.f1.length ≤ size l := by
        intro l
        induction l with
        | nil => intro h; simp at h
        | cons x r ih =>
          intro h
          simp only [size]
          rcases List.mem_cons.1 h with rfl | h
          · omega
          · have := ih h; omega
      have := h2 _ ho
      unfold Lim
      omega
    have last : Ev (fun k => marlinelaw12_TlvKeeps.j3 k (tget b).1 (tget b).1) true := by
      refine Ev.step (fun k => by simp only [marlinelaw12_TlvKeeps.j3]; rw [SameL _ _ (fun o ho => (hby o ho).2) (fun o ho => (hby o ho).2), Option.bind_some]) (Ev.end_ (by simp))
    have inner : ∀ (n i : Nat) (y : Int) (d : List Int), d.length - i = n → d.length ≤ 1000000 → i ≤ d.length → Ev (fun k => marlinelaw12_TlvKeeps.l1 k (tget b).1 (tget b).1 (d.length : Int) i y d) true := by
      intro n
      induction n with
      | zero =>
        intro i y d h1 h2 h3
        exact Ev.step (fun k => by simp only [marlinelaw12_TlvKeeps.l1]; rw [if_neg (by omega)]) last
      | succ n ih =>
        intro i y d h1 h2 h3
        refine Ev.step (fun k => by simp only [marlinelaw12_TlvKeeps.l1]; rw [if_pos (by omega), if_pos (by omega), if_pos (by omega), suc i (by omega), Int.toNat_natCast]) ?_
        have h4 := ih (i + 1) y (d.set i ((rd d i + 1) % 256)) (by rw [List.length_set]; omega) (by rw [List.length_set]; omega) (by rw [List.length_set]; omega)
        rw [List.length_set] at h4
        exact h4
    have outer : ∀ (n i : Nat) (d : List Int), d.length - i = n → d.length ≤ 1000000 → i ≤ d.length → Ev (fun k => marlinelaw12_TlvKeeps.l0 k t d (tget b).1 (tget b).1 (d.length : Int) i) true := by
      intro n
      induction n with
      | zero =>
        intro i d h1 h2 h3
        refine Ev.step (fun k => by simp only [marlinelaw12_TlvKeeps.l0]; rw [if_neg (by omega), FindL _ t hlm, Option.bind_some]) ?_
        cases hf : found (tget b).1 t with
        | none => exact Ev.neg (by simp) last
        | some o =>
          have ho : o ∈ (tget b).1 := List.mem_of_find?_eq_some hf
          have h4 := hlm o ho
          exact Ev.pos rfl (inner o.f1.length 0 t o.f1 (by omega) h4 (by omega))
      | succ n ih =>
        intro i d h1 h2 h3
        refine Ev.step (fun k => by simp only [marlinelaw12_TlvKeeps.l0]; rw [if_pos (by omega), if_pos (by omega), if_pos (by omega), suc i (by omega), Int.toNat_natCast]) ?_
        have h4 := ih (i + 1) (d.set i ((rd d i + 1) % 256)) (by rw [List.length_set]; omega) (by rw [List.length_set]; omega) (by rw [List.length_set]; omega)
        rw [List.length_set] at h4
        exact h4
    exact outer b.length 0 b (by omega) hL (by omega)
  · exact Ev.neg he (Ev.now _)
end Go.Proofs.Ytgjeahgagciagaa.Sp
