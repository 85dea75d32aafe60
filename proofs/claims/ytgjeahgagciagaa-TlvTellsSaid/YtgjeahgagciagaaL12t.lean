/- The statement TlvTells, in plain words: the reference writes and reads as the layer does, says the same of two lists, and finds the same. No condition. -/
import Derived.Test.YtgjeahgagciagaaS12b
import Derived.Test.YtgjeahgagciagaaL12k
import Derived.Test.YtgjeahgagciagaaPrintTlvFind
import Derived.Test.YtgjeahgagciagaaPrintMarlineref12Put
import Derived.Test.YtgjeahgagciagaaPrintMarlineref12Get
import Derived.Test.YtgjeahgagciagaaPrintMarlinelaw12TlvTells
namespace Go.Proofs.Ytgjeahgagciagaa.Sp
open Go.RowKit Go.Proofs.Ytgjeahgagciagaa.Print Go.Proofs.YtgjeahgagciagaaW.PrintWords Go.Proofs.YtgjeahgagciagaaW.PrintLast Go.Proofs.Ytgjeahgagciagaa.Pl
set_option linter.unusedVariables false
/-! ### the reference writes -/
theorem rPut_l0 (l : List RO) (hl : l.length ≤ 1000000) : ∀ (t : List RO) (i : Nat) (x : List Int), l.drop i = t → x.length + size (t.map ao) ≤ 100000000 →
    Ev (fun k => marlineref12_Put.l0 k l x i) (if (tput (t.map ao)).2 = 0 then (x ++ (tput (t.map ao)).1, 0) else ([], 3))
  | [], i, x, h, _ => by
    have h3 := nil_len h
    rw [List.map_nil, tput, if_pos rfl, List.append_nil]
    exact Ev.step (fun k => by simp only [marlineref12_Put.l0]; rw [if_neg (by omega)]) (Ev.now _)
  | o :: t, i, x, h, hx => by
    obtain ⟨e1, e2, e3⟩ := rdr h
    simp only [List.map_cons, size] at hx
    have ef : (ao o).f1 = o.f1 := rfl
    have ef0 : (ao o).f0 = o.f0 := rfl
    rw [ef] at hx
    by_cases h1 : 253 < o.f1.length
    · rw [show tput ((o :: t).map ao) = ([], 3) by rw [List.map_cons, tput, if_pos (by rw [ef]; exact h1)], if_neg (by decide)]
      exact Ev.step (fun k => by simp only [marlineref12_Put.l0]; rw [if_pos (by omega), if_pos (by omega), e1, if_pos (by omega)]) (Ev.now _)
    · have ih := rPut_l0 l hl t (i + 1) (x ++ [o.f0, (o.f1.length : Int) + 2] ++ o.f1) e2 (by simp; omega)
      have e : (if (tput ((o :: t).map ao)).2 = 0 then (x ++ (tput ((o :: t).map ao)).1, (0 : Int)) else ([], 3)) = if (tput (t.map ao)).2 = 0 then ((x ++ [o.f0, (o.f1.length : Int) + 2] ++ o.f1) ++ (tput (t.map ao)).1, 0) else ([], 3) := by
        rw [List.map_cons, tput, ef, ef0, if_neg h1]
        by_cases h2 : (tput (t.map ao)).2 = 0
        · simp [h2]
        · simp [h2]
      rw [e]
      refine Ev.step (fun k => ?_) ih
      simp only [marlineref12_Put.l0]
      rw [if_pos (by omega), if_pos (by omega), e1, if_neg (by omega), Option.bind_some, w64 (x := 2 + (o.f1.length : Int)) (by omega) (by omega), Int.emod_eq_of_lt (by omega) (by omega), Int.add_comm 2 (o.f1.length : Int), if_pos (by simp; omega), Option.bind_some, if_pos (by simp; omega), sucB i (by omega)]
theorem rPutL (l : List RO) (hs : size (l.map ao) ≤ 1000000) : Ev (fun k => marlineref12_Put.f k l) (tput (l.map ao)) := by
  unfold marlineref12_Put.f
  have h := rPut_l0 l (by have := len_size (l.map ao); rw [List.length_map] at this; omega) l 0 [] rfl (by simp; omega)
  have e : (if (tput (l.map ao)).2 = 0 then ([] ++ (tput (l.map ao)).1, (0 : Int)) else ([], 3)) = tput (l.map ao) := by
    split
    · rename_i h; exact Prod.ext rfl h.symm
    · rename_i h; exact (tput_err _ h).symm
  rw [e] at h
  exact h
/-! ### the reference reads -/
theorem rd_drop (l : List Int) (i j : Nat) : rd (l.drop i) (j : Int) = rd l ((i + j : Nat) : Int) := by
  unfold rd
  rw [Int.toNat_natCast, Int.toNat_natCast, List.getD_eq_getElem?_getD, List.getD_eq_getElem?_getD, List.getElem?_drop]
theorem rGet_l0 (l : List Int) (hb : Bytes l) (hl : Lim l) : ∀ (n i : Nat) (x : List RO), l.length - i ≤ n → i ≤ l.length → x.length + n ≤ 3000000 →
    Ev (fun k => marlineref12_Get.l0 k l x i) (if (tget (l.drop i)).2 = 0 then (x ++ (tget (l.drop i)).1.map ro, 0) else ([], (tget (l.drop i)).2)) := by
  have hl' := hl
  unfold Lim at hl
  intro n
  induction n with
  | zero =>
    intro i x h1 h2 hx
    rw [List.drop_eq_nil_of_le (by omega), tget_nil, if_pos rfl, List.map_nil, List.append_nil]
    exact Ev.step (fun k => by simp only [marlineref12_Get.l0]; rw [if_neg (by omega)]) (Ev.now _)
  | succ n ih =>
    intro i x h1 h2 hx
    by_cases h0 : l.length ≤ i
    · rw [List.drop_eq_nil_of_le h0, tget_nil, if_pos rfl, List.map_nil, List.append_nil]
      exact Ev.step (fun k => by simp only [marlineref12_Get.l0]; rw [if_neg (by omega)]) (Ev.now _)
    have hd : (l.drop i).length = l.length - i := List.length_drop
    have hne : l.drop i ≠ [] := by intro e; rw [e] at hd; simp at hd; omega
    have r1 : rd (l.drop i) 1 = rd l ((i + 1 : Nat) : Int) := rd_drop l i 1
    have r0 : rd (l.drop i) 0 = rd l (i : Int) := rd_drop l i 0
    have hr := rdb hb ((i + 1 : Nat) : Int)
    rw [tget_step _ hne]
    by_cases c1 : l.length ≤ i + 1
    · have e : tnx (l.drop i) = (0, [], [], 2) := by unfold tnx; rw [if_pos (by omega)]
      rw [e, if_neg (by decide)]
      exact Ev.step (fun k => by simp only [marlineref12_Get.l0]; rw [if_pos (by omega), sucB i (by omega), if_pos (by omega)]; rfl) (Ev.now _)
    by_cases c2 : rd l ((i + 1 : Nat) : Int) < 2
    · have e : tnx (l.drop i) = (0, [], [], 4) := by unfold tnx; rw [if_neg (by omega), r1, if_pos c2]
      rw [e, if_neg (by decide)]
      exact Ev.step (fun k => by simp only [marlineref12_Get.l0]; rw [if_pos (by omega), sucB i (by omega), if_neg (by omega), if_pos (by omega), if_pos (by omega), w64 (x := rd l ((i + 1 : Nat) : Int)) (by omega) (by omega), if_pos c2]; rfl) (Ev.now _)
    by_cases c3 : rd l ((i + 1 : Nat) : Int) > ((l.drop i).length : Int)
    · have e : tnx (l.drop i) = (0, [], [], 2) := by unfold tnx; rw [if_neg (by omega), r1, if_neg c2, if_pos c3]
      rw [e, if_neg (by decide)]
      exact Ev.step (fun k => by simp only [marlineref12_Get.l0]; rw [if_pos (by omega), sucB i (by omega), if_neg (by omega), if_pos (by omega), if_pos (by omega), w64 (x := rd l ((i + 1 : Nat) : Int)) (by omega) (by omega), if_neg c2, w64 (x := (i : Int) + rd l ((i + 1 : Nat) : Int)) (by omega) (by omega), if_pos (by omega)]; rfl) (Ev.now _)
    obtain ⟨m, hm⟩ : ∃ m : Nat, rd l ((i + 1 : Nat) : Int) = m := ⟨(rd l ((i + 1 : Nat) : Int)).toNat, by omega⟩
    have e : tnx (l.drop i) = (rd l (i : Int), ((l.drop i).take m).drop 2, (l.drop i).drop m, 0) := by
      unfold tnx
      rw [if_neg (by omega), r1, if_neg c2, if_neg c3, r0, hm, Int.toNat_natCast]
    have e4 : ((l.drop i).take m).drop 2 = (l.take (i + m)).drop (i + 2) := by
      rw [List.take_drop, List.drop_drop]
    have e5 : (l.drop i).drop m = l.drop (i + m) := by rw [List.drop_drop]
    rw [hm] at c2 c3 hr
    rw [e, e4, e5]
    simp only [if_true]
    have IH := ih (i + m) (x ++ [⟨rd l (i : Int), (l.take (i + m)).drop (i + 2)⟩]) (by omega) (by omega) (by simp; omega)
    have e6 : (if (if (tget (l.drop (i + m))).2 = 0 then ((⟨rd l (i : Int), (l.take (i + m)).drop (i + 2)⟩ : AO) :: (tget (l.drop (i + m))).1, (0 : Int)) else ([], (tget (l.drop (i + m))).2)).2 = 0 then (x ++ (if (tget (l.drop (i + m))).2 = 0 then ((⟨rd l (i : Int), (l.take (i + m)).drop (i + 2)⟩ : AO) :: (tget (l.drop (i + m))).1, (0 : Int)) else ([], (tget (l.drop (i + m))).2)).1.map ro, (0 : Int)) else ([], (if (tget (l.drop (i + m))).2 = 0 then ((⟨rd l (i : Int), (l.take (i + m)).drop (i + 2)⟩ : AO) :: (tget (l.drop (i + m))).1, (0 : Int)) else ([], (tget (l.drop (i + m))).2)).2)) = if (tget (l.drop (i + m))).2 = 0 then ((x ++ [⟨rd l (i : Int), (l.take (i + m)).drop (i + 2)⟩]) ++ (tget (l.drop (i + m))).1.map ro, 0) else ([], (tget (l.drop (i + m))).2) := by
      by_cases h5 : (tget (l.drop (i + m))).2 = 0
      · simp [h5, ro]
      · simp [h5]
    rw [e6]
    refine Ev.step (fun k => ?_) IH
    simp only [marlineref12_Get.l0]
    rw [if_pos (by omega), sucB i (by omega), if_neg (by omega), if_pos (by omega), if_pos (by omega), hm, w64 (x := (m : Int)) (by omega) (by omega), if_neg c2, w64 (x := (i : Int) + m) (by omega) (by omega), if_neg (by omega), if_pos (by omega), w64 (x := (i : Int) + 2) (by omega) (by omega), if_pos (by omega), if_pos (by omega), if_pos (by omega), if_pos (by omega)]
    rw [show ((i : Int) + (m : Int)) = ((i + m : Nat) : Int) by omega, show ((i : Int) + 2) = ((i + 2 : Nat) : Int) by omega, Int.toNat_natCast, Int.toNat_natCast]
theorem rGetL (l : List Int) (hb : Bytes l) (hl : Lim l) : Ev (fun k => marlineref12_Get.f k l) ((tget l).1.map ro, (tget l).2) := by
  unfold marlineref12_Get.f
  have h := rGet_l0 l hb hl l.length 0 [] (by omega) (by omega) (by unfold Lim at hl; simp; omega)
  rw [List.drop_zero] at h
  have e : (if (tget l).2 = 0 then (([] : List RO) ++ (tget l).1.map ro, (0 : Int)) else ([], (tget l).2)) = ((tget l).1.map ro, (tget l).2) := by
    split
    · rename_i h; exact Prod.ext rfl h.symm
    · rename_i h; rw [(tget_err l.length l (Nat.le_refl _) h).1]; rfl
  rw [e] at h
  exact h
/-! ### the first of a type, as the law gathers it -/
def fin (t : Int) (x : List RO) (l : List RO) : List RO := if x = [] then (l.find? fun o => o.f0 == t).toList else x
theorem gather (t : Int) (L : List AO) (l : List RO) (hl : l.length ≤ 1000000) : ∀ (r : List RO) (i : Nat) (s : Int) (x : List RO), l.drop i = r → 0 ≤ s → s + (2 * r.length + tot r : Nat) ≤ 100000000 →
    (∀ j : Nat, l.length ≤ j → Ev (fun k => marlinelaw12_TlvTells.l0 k t L (s + (2 * r.length + tot r : Nat)) (fin t x r) l (l.length : Int) j) true) →
    Ev (fun k => marlinelaw12_TlvTells.l0 k t L s x l (l.length : Int) i) true
  | [], i, s, x, h, _, _, E => by
    have h3 := nil_len h
    have := E i h3
    have e : fin t x [] = x := by unfold fin; split <;> simp_all
    rw [e] at this
    simpa [tot] using this
  | o :: r, i, s, x, h, h0, hs, E => by
    obtain ⟨e1, e2, e3⟩ := rdr h
    simp only [List.length_cons, tot] at hs E
    have ev : ∀ x' : List RO, fin t x' r = fin t x (o :: r) → Ev (fun k => marlinelaw12_TlvTells.l0 k t L (s + (2 + (o.f1.length : Int))) x' l (l.length : Int) ((i + 1 : Nat) : Int)) true := by
      intro x' hx'
      refine gather t L l hl r (i + 1) (s + (2 + (o.f1.length : Int))) x' e2 (by omega) (by omega) ?_
      intro j hj
      have := E j hj
      rw [hx', show s + (2 + (o.f1.length : Int)) + ((2 * r.length + tot r : Nat) : Int) = s + ((2 * (r.length + 1) + (o.f1.length + tot r) : Nat) : Int) by omega]
      exact this
    by_cases c1 : o.f0 = t
    · by_cases c2 : x = []
      · subst c2
        refine Ev.step (fun k => ?_) (ev [o] (by unfold fin; simp [c1]))
        simp only [marlinelaw12_TlvTells.l0]
        rw [if_pos (by omega), if_pos (by omega), if_pos (by omega), e1, if_pos c1, if_pos (by simp), if_pos (by simp), w64 (x := 2 + (o.f1.length : Int)) (by omega) (by omega), w64 (x := s + (2 + (o.f1.length : Int))) (by omega) (by omega), sucB i (by omega)]
        rfl
      · refine Ev.step (fun k => ?_) (ev x (by unfold fin; rw [if_neg c2, if_neg c2]))
        simp only [marlinelaw12_TlvTells.l0]
        rw [if_pos (by omega), if_pos (by omega), if_pos (by omega), e1, if_pos c1, if_neg (by simpa using c2), w64 (x := 2 + (o.f1.length : Int)) (by omega) (by omega), w64 (x := s + (2 + (o.f1.length : Int))) (by omega) (by omega), sucB i (by omega)]
    · refine Ev.step (fun k => ?_) (ev x (by
        unfold fin
        rw [List.find?_cons, show (o.f0 == t) = false by simpa using c1]))
      simp only [marlinelaw12_TlvTells.l0]
      rw [if_pos (by omega), if_pos (by omega), if_pos (by omega), e1, if_neg c1, w64 (x := 2 + (o.f1.length : Int)) (by omega) (by omega), w64 (x := s + (2 + (o.f1.length : Int))) (by omega) (by omega), sucB i (by omega)]
theorem found_ao (l : List RO) (t : Int) : found (l.map ao) t = (l.find? fun o => o.f0 == t).map ao := by
  induction l with
  | nil => rfl
  | cons o r ih =>
    unfold found at ih ⊢
    rw [List.map_cons, List.find?_cons, List.find?_cons]
    have e : (ao o).f0 = o.f0 := rfl
    rw [e]
    cases h : (o.f0 == t) with
    | true => rfl
    | false => exact ih
theorem tells_end (t : Int) (l : List RO) (hF : l.length ≤ 60 ∧ tot l ≤ 1000) : Ev (fun k => marlinelaw12_TlvTells.j1 k l t (l.map ao) false) true := by
  have hsz : size (l.map ao) = 2 * l.length + tot l := size_ao l
  refine Ev.step (fun k => by simp only [marlinelaw12_TlvTells.j1]; rw [if_neg (by decide)]) ?_
  refine gather t (l.map ao) l (by omega) l 0 0 [] rfl (by omega) (by omega) ?_
  intro j hj
  rw [Int.zero_add]
  have hlm : ∀ o ∈ l.map ao, Lim o.f1 := by
    intro o ho
    obtain ⟨x, hx, rfl⟩ := List.mem_map.1 ho
    have := tot_mem hx
    unfold Lim
    show x.f1.length ≤ _
    omega
  refine Ev.step (fun k => by simp only [marlinelaw12_TlvTells.l0]; rw [if_neg (by omega), FindL _ t hlm, Option.bind_some]) ?_
  have hS := SizeL (l.map ao) (by omega)
  have hE : Ev (fun k => (tlv_Size.f k (l.map ao)).bind fun t450 => some (t450 == ((2 * l.length + tot l : Nat) : Int))) true := by
    refine Ev.bind hS (Ev.end_ ?_)
    rw [hsz]
    simp
  rw [found_ao]
  unfold fin
  rw [if_pos rfl]
  cases hf : l.find? (fun o => o.f0 == t) with
  | none =>
    simp only [Option.map_none, Option.toList_none]
    refine Ev.neg (by simp) (Ev.pos (by simp) (Ev.pos (by trivial) (Ev.pos (by simp) hE)))
  | some o =>
    have ho : o ∈ l := List.mem_of_find?_eq_some hf
    have ht : o.f0 = t := by have := List.find?_some hf; simpa using this
    have hm := tot_mem ho
    simp only [Option.map_some, Option.toList_some]
    have eo : ([(⟨t, (ao o).f1⟩ : RO)] : List RO) = [o] := by
      rw [← ht]; rfl
    rw [eo]
    refine Ev.pos (by trivial) (Ev.bind (rSameL [o] [o] (by simp) (fun x hx => by rw [List.mem_singleton.1 hx]; unfold Lim; omega)) (Ev.pos (by simp) hE))
theorem ao_inj {a b : List RO} : a.map ao = b.map ao ↔ a = b := ⟨fun h => by rw [← map_ro_ao a, ← map_ro_ao b, h], fun h => by rw [h]⟩
theorem TlvTells : marlinelaw12_TlvTells.Pure := by
  intro l0 l1 l2 a3 h0 h1 _ _ h2 _
  have H0 := held_of h0
  have H1 := held_of h1
  have hb := bytes_of_wf h2
  refine Ev.rounds ?_
  unfold marlinelaw12_TlvTells.f
  refine Ev.bind Speaks12 (Ev.pos rfl (Ev.bind (FewL l0 H0) ?_))
  have out : Ev (fun k => marlinelaw12_TlvTells.j0 k l0 l1 l2 a3 true) true := by
    refine Ev.step (fun k => by simp only [marlinelaw12_TlvTells.j0]; rw [if_pos trivial]) (Ev.bind Speaks12 (Ev.now _))
  by_cases hF : l0.length ≤ 60 ∧ tot l0 ≤ 1000
  · refine Ev.pos (by simp [hF]) (Ev.bind (FewL l1 H1) ?_)
    by_cases hG : l1.length ≤ 60 ∧ tot l1 ≤ 1000
    · refine Ev.pos (by simp [hG]) ?_
      by_cases hq : (l2.length : Int) > 1000
      · rw [decide_eq_true hq]; exact out
      rw [decide_eq_false hq]
      have hL : Lim l2 := by unfold Lim; omega
      have s0 : size (l0.map ao) ≤ 1000000 := by rw [size_ao]; omega
      have hlen : (tput (l0.map ao)).1.length ≤ 1000000 := by
        by_cases hp : (tput (l0.map ao)).2 = 0
        · rw [tput_length _ hp]; omega
        · rw [tput_err _ hp]; simp
      have m0 : ∀ o ∈ l0.map ao, Bytes o.f1 := by
        intro o ho
        obtain ⟨x, hx, rfl⟩ := List.mem_map.1 ho
        exact (H0.2 x hx).2.2
      have m1 : ∀ o ∈ l1.map ao, Bytes o.f1 := by
        intro o ho
        obtain ⟨x, hx, rfl⟩ := List.mem_map.1 ho
        exact (H1.2 x hx).2.2
      have hg : (tget l2).1.length ≤ 1000000 ∧ ∀ o ∈ (tget l2).1, Lim o.f1 := by
        by_cases he : (tget l2).2 = 0
        · have z := size_tget hb he
          have := len_size (tget l2).1
          refine ⟨by omega, fun o ho => ?_⟩
          have z2 : ∀ (r : List AO), o ∈ r → o.f1.length ≤ size r := by
            intro r
            induction r with
            | nil => intro h; simp at h
            | cons y r ih =>
              intro h
              simp only [size]
              rcases List.mem_cons.1 h with rfl | h
              · omega
              · have := ih h; omega
          have := z2 _ ho
          unfold Lim
          omega
        · rw [(tget_err l2.length l2 (Nat.le_refl _) he).1]
          simp
      refine Ev.step (fun k => by simp only [marlinelaw12_TlvTells.j0]; rw [if_neg (by decide)]) ?_
      refine Ev.bind (OfL l0 (by omega)) (Ev.bind (PutL _ s0) (Ev.bind (rPutL l0 s0) (Ev.bind (GetL l2 hb hL) (Ev.bind (rGetL l2 hb hL) (Ev.pos rfl ?_)))))
      refine Ev.bind (Equal _ _ hlen) (Ev.pos (by simp) (Ev.pos rfl ?_))
      refine Ev.bind (ToL _ hg.1) ?_
      refine Ev.bind (rSameL _ _ (by rw [List.length_map]; exact hg.1) (fun o ho => by
        obtain ⟨x, hx, rfl⟩ := List.mem_map.1 ho
        exact hg.2 x hx)) (Ev.pos (by simp) ?_)
      refine Ev.bind (OfL l1 (by omega)) ?_
      rw [SameL _ _ m0 m1]
      simp only [Option.bind_some]
      refine Ev.bind (rSameL l0 l1 (by omega) (fun o ho => by have := tot_mem ho; unfold Lim; omega)) ?_
      rw [show (decide (l0.map ao = l1.map ao) != decide (l0 = l1)) = false by simp [ao_inj]]
      exact tells_end a3 l0 hF
    · refine Ev.neg (by simpa using hG) out
  · refine Ev.neg (by simpa using hF) out
end Go.Proofs.Ytgjeahgagciagaa.Sp
