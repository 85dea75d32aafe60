/- The statement StuffNoise, in plain words: true of any map, any octets and any places. No condition. -/
import Derived.Test.YtppfoopecdmblaaDoorS03n
import Derived.Test.YtppfoopecdmblaaDoorPrintMarlinelaw04StuffNoise
namespace Go.Proofs.YtppfoopecdmblaaDoor.Sp
open Go.RowKit Go.Proofs.YtppfoopecdmblaaDoor.Print Go.Proofs.YtppfoopecdmblaaDoorW.PrintWords Go.Proofs.YtppfoopecdmblaaDoorW.PrintLast Go.Proofs.YtppfoopecdmblaaDoor.Pl
set_option linter.unusedVariables false
theorem unst_insert {m c : Int} (hc : has m c = true) (h6 : c ≠ 126) (p q : List Int) : unst m (p ++ ([c] ++ q)) = unst m (p ++ q) := by
  have e1 : left m (p ++ ([c] ++ q)) = left m (p ++ q) := by
    have e0 : left m [c] = [] := by simp [left, hc]
    rw [left_append, left_append, left_append, e0, List.nil_append]
  have e2 : 126 ∈ p ++ ([c] ++ q) ↔ 126 ∈ p ++ q := by
    simp only [List.mem_append, List.mem_singleton]
    constructor
    · rintro (h | h | h)
      · exact .inl h
      · exact absurd h.symm h6
      · exact .inr h
    · rintro (h | h)
      · exact .inl h
      · exact .inr (.inr h)
  unfold unst
  rw [e1]
  by_cases h : 126 ∈ p ++ q
  · rw [if_pos h, if_pos (e2.2 h)]
  · rw [if_neg h, if_neg (fun h' => h (e2.1 h'))]
theorem lst_mem {m : Int} (hm : U32 m) {c : Int} (h : c ∈ lst m.toNat) : Byte c ∧ has m c = true ∧ c ≠ 126 := by
  obtain ⟨i, rfl, h1, h2⟩ := mem_lst.1 h
  refine ⟨⟨by omega, by omega⟩, ?_, by omega⟩
  rw [has_bit hm, h2]
theorem lst_nil {m : Int} (hm : U32 m) (h : lst m.toNat = []) : m = 0 := by
  have hz : m.toNat = 0 := by
    apply Nat.eq_of_testBit_eq
    intro i
    rw [Nat.zero_testBit]
    by_cases hi : i < 32
    · cases hb : m.toNat.testBit i with
      | false => rfl
      | true =>
        have := (mem_lst (X := m.toNat) (y := (i : Int))).2 ⟨i, rfl, hi, hb⟩
        rw [h] at this
        simp at this
    · exact tb_big hm.nat (by omega)
  have := hm.1
  omega
theorem rd_nat {l : List Int} {j : Nat} (h : j < l.length) : rd l (j : Int) ∈ l := by
  unfold rd
  rw [Int.toNat_natCast, List.getD_eq_getElem?_getD, List.getElem?_eq_getElem h]
  exact List.getElem_mem h
theorem Noise_l0 (m : Int) (hm : U32 m) (b : List Int) (hb : Bytes b) (hbl : b.length ≤ 400) (at_ : List Int) (hat : ∀ x ∈ at_, 0 ≤ x ∧ x < 65536) (hal : at_.length ≤ 40) (hl : 0 < (lst m.toNat).length) :
    ∀ (t : List Int) (i : Nat) (y : List Int), at_.drop i = t → Bytes y → y.length = b.length + i → i ≤ at_.length → unst m y = unst m b →
    Ev (fun k => marlinelaw04_StuffNoise.l0 k m b (lst m.toNat) y at_ (at_.length : Int) (i : Int)) true
  | [], i, y, h, hy, hyl, hi, hu => by
    have h3 := drop_nil_len h
    refine Ev.step (fun k => by simp only [marlinelaw04_StuffNoise.l0]; rw [if_neg (by omega)]) ?_
    refine Ev.bind (UnstS m hm b (by unfold Lim; omega) hb) (Ev.bind (UnstS m hm y (by unfold Lim; omega) hy) ?_)
    have := unst_len m b
    rw [hu]
    exact Ev.pos rfl (Ev.bind (Equal _ _ (by unfold Lim; omega)) (Ev.end_ (by simp)))
  | n0 :: t, i, y, h, hy, hyl, hi, hu => by
    obtain ⟨e1, e2, e3⟩ := rd_drop h
    have hn := hat n0 (by rw [← List.take_append_drop i at_, h]; simp)
    obtain ⟨K, hK⟩ : ∃ K : Nat, n0 % ((y.length : Int) + 1) = K := ⟨(n0 % ((y.length : Int) + 1)).toNat, by rw [Int.toNat_of_nonneg (Int.emod_nonneg _ (by omega))]⟩
    have hK2 : K ≤ y.length := by have := Int.emod_lt_of_pos n0 (show (0 : Int) < (y.length : Int) + 1 by omega); omega
    have f1 : wrap64 ((y.length : Int) + 1) = (y.length : Int) + 1 := w64 (by omega) (by omega)
    have f2 : wrap64 n0 = n0 := w64 (by omega) (by omega)
    have f3 : Int.tmod n0 ((y.length : Int) + 1) = (K : Int) := by rw [Int.tmod_eq_emod_of_nonneg hn.1]; exact hK
    have f4 : Int.tmod (i : Int) ((lst m.toNat).length : Int) = ((i % (lst m.toNat).length : Nat) : Int) := by rw [Int.tmod_eq_emod_of_nonneg (by omega)]; rfl
    have hJ := Nat.mod_lt i hl
    generalize i % (lst m.toNat).length = J at f4 hJ
    have hc := lst_mem hm (rd_nat hJ)
    have hy' : Bytes (y.take K ++ ([rd (lst m.toNat) (J : Int)] ++ y.drop K)) := (hy.take K).append ((Bytes.cons hc.1 Bytes.nil).append (hy.drop K))
    have hlen : (y.take K ++ ([rd (lst m.toNat) (J : Int)] ++ y.drop K)).length = b.length + (i + 1) := by
      simp only [List.length_append, List.length_take, List.length_drop, List.length_cons, List.length_nil]
      omega
    have hu' : unst m (y.take K ++ ([rd (lst m.toNat) (J : Int)] ++ y.drop K)) = unst m b := by
      rw [unst_insert hc.2.1 hc.2.2, List.take_append_drop]
      exact hu
    have ih := Noise_l0 m hm b hb hbl at_ hat hal hl t (i + 1) _ e2 hy' hlen (by omega) hu'
    have g1 : (i : Int) < (at_.length : Int) := by omega
    have g3 : ¬ ((y.length : Int) + 1 = 0) := by omega
    have g4 : (0 : Int) ≤ (K : Int) := by omega
    have g5 : (K : Int) ≤ (y.length : Int) := by omega
    have g6 : ¬ (((lst m.toNat).length : Int) = 0) := by omega
    have g7 : (0 : Int) ≤ (J : Int) := by omega
    have g8 : (J : Int) < ((lst m.toNat).length : Int) := by omega
    have g9 : [rd (lst m.toNat) (J : Int)].length + (y.drop K).length < 140737488355328 := by simp only [List.length_drop, List.length_cons, List.length_nil]; omega
    have g10 : ([rd (lst m.toNat) (J : Int)] ++ y.drop K).length + (y.take K).length < 140737488355328 := by simp only [List.length_append, List.length_take, List.length_drop, List.length_cons, List.length_nil]; omega
    have g11 : wrap64 ((i : Int) + 1) = ((i + 1 : Nat) : Int) := suc i (by omega)
    exact Ev.step (fun k => by
      simp only [marlinelaw04_StuffNoise.l0, e1, f1, f2, f3, f4, g11, Int.toNat_natCast, Option.bind_some]
      rw [if_pos g1, if_pos (Int.natCast_nonneg i), if_pos g1, if_neg g3, if_pos g4, if_pos g5, if_neg g6, if_pos g7, if_pos g8, if_pos g9, if_pos g10]) ih
theorem StuffNoise : marlinelaw04_StuffNoise.Pure := by
  intro m b at_ h0 _ _ h1 _ _ h2
  have hm : U32 m := u32_of_wf h0
  have hb := bytes_of_wf h1
  have hat : ∀ x ∈ at_, 0 ≤ x ∧ x < 65536 := fun x hx => u16_of_wf (h2 x hx)
  refine Ev.rounds ?_
  unfold marlinelaw04_StuffNoise.f
  refine Ev.bind Speaks04 (Ev.pos rfl ?_)
  have out : Ev (fun k => marlinelaw04_StuffNoise.j0 k m b at_ true) true := by
    refine Ev.step (fun k => by simp only [marlinelaw04_StuffNoise.j0]; rw [if_pos trivial]) (Ev.bind Speaks04 (Ev.now _))
  by_cases hq : (b.length : Int) > 400
  · exact Ev.pos hq out
  refine Ev.neg hq ?_
  by_cases ha : (at_.length : Int) > 40
  · rw [decide_eq_true ha]; exact out
  rw [decide_eq_false ha]
  refine Ev.step (fun k => by simp only [marlinelaw04_StuffNoise.j0]; rw [if_neg (by decide)]) (Ev.bind (ListA hm) ?_)
  by_cases hl : (lst m.toNat).length = 0
  · refine Ev.pos (by omega) (Ev.end_ ?_)
    rw [lst_nil hm (List.eq_nil_of_length_eq_zero hl)]
    rfl
  · refine Ev.neg (by omega) (Ev.name (Ev.pos (by simp only [List.length_nil]; omega) ?_))
    exact Noise_l0 m hm b hb (by omega) at_ hat (by omega) (by omega) at_ 0 b rfl hb (by omega) (by omega) rfl
end Go.Proofs.YtppfoopecdmblaaDoor.Sp
