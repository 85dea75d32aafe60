/- The statements of layer 4 but StuffNoise, in plain words: each is true of every map and octets. No condition. -/
import Derived.Test.YtppfoopecdmblaaS04
import Derived.Test.YtppfoopecdmblaaPrintMarlinelaw04StuffTells
import Derived.Test.YtppfoopecdmblaaPrintMarlinelaw04StuffBack
import Derived.Test.YtppfoopecdmblaaPrintMarlinelaw04StuffLeast
import Derived.Test.YtppfoopecdmblaaPrintMarlinelaw04StuffJoin
namespace Go.Proofs.Ytppfoopecdmblaa.Sp
open Go.RowKit Go.Proofs.Ytppfoopecdmblaa.Print Go.Proofs.YtppfoopecdmblaaW.PrintWords Go.Proofs.YtppfoopecdmblaaW.PrintLast Go.Proofs.Ytppfoopecdmblaa.Pl
set_option linter.unusedVariables false
theorem StuffTells : marlinelaw04_StuffTells.Pure := by
  intro m b hm _ _ hb
  have hU : U32 m := u32_of_wf hm
  have hB := bytes_of_wf hb
  refine Ev.rounds ?_
  unfold marlinelaw04_StuffTells.f
  refine Ev.bind Speaks04 (Ev.pos rfl ?_)
  by_cases hq : (b.length : Int) > 400
  · exact Ev.step (fun k => by simp only [marlinelaw04_StuffTells.j0]; rw [if_pos (decide_eq_true hq)]) (Ev.bind Speaks04 (Ev.now _))
  have hL : Lim b := by unfold Lim; omega
  have h1 := stf_len m b
  have h2 := unst_len m b
  refine Ev.step (fun k => by simp only [marlinelaw04_StuffTells.j0]; rw [if_neg (by simpa using hq)]) ?_
  refine Ev.bind (UnstS m hU b hL hB) (Ev.bind (rUnstS m hU b hL hB) (Ev.bind (StuffS m hU b hL hB) (Ev.bind (rStuffS m hU b hL hB) (Ev.bind (Equal _ _ (by unfold Lim; omega)) (Ev.pos (by simp) ?_)))))
  refine Ev.bind (SizeS m hU b hL hB) (Ev.bind (rStuffS m hU b hL hB) (Ev.pos rfl (Ev.pos rfl (Ev.bind (Equal _ _ (by unfold Lim; omega)) (Ev.end_ (by simp))))))
theorem out_cost (m : Int) : ∀ (l : List Int) (e : Bool), Bytes l → 126 ∉ l → (∀ x ∈ l, has m x = false) → (stf m (out e l)).length ≤ l.length + (if e = true then 1 else 0)
  | [], e, _, _, _ => by cases e <;> simp [out, stf]
  | c :: t, true, hb, h1, h2 => by
    have ih := out_cost m t false hb.tail (fun h => h1 (by simp [h])) (fun x hx => h2 x (by simp [hx]))
    simp only [out, stf, List.length_cons, if_true, Bool.false_eq_true, if_false] at ih ⊢
    split <;> simp only [List.length_cons] <;> omega
  | c :: t, false, hb, h1, h2 => by
    by_cases hc : c = 125
    · have ih := out_cost m t true hb.tail (fun h => h1 (by simp [h])) (fun x hx => h2 x (by simp [hx]))
      simp only [out, if_pos hc, List.length_cons, if_true, Bool.false_eq_true, if_false] at ih ⊢
      omega
    · have ih := out_cost m t false hb.tail (fun h => h1 (by simp [h])) (fun x hx => h2 x (by simp [hx]))
      have hm : must m c = false := by
        unfold must
        rw [h2 c (by simp), Bool.or_false, decide_eq_false_iff_not]
        rintro (h | h)
        · exact h1 (by simp [h])
        · exact hc h
      simp only [out, if_neg hc, stf, hm, List.length_cons, Bool.false_eq_true, if_false] at ih ⊢
      omega
theorem unst_cost {m : Int} {b : List Int} (hb : Bytes b) (h : (unst m b).2 = 0) : (stf m (unst m b).1).length ≤ b.length := by
  unfold unst at h ⊢
  by_cases h1 : 126 ∈ b
  · rw [if_pos h1] at h; cases h
  rw [if_neg h1] at h ⊢
  by_cases h2 : esc false (left m b) = true
  · rw [if_pos h2] at h; cases h
  rw [if_neg h2]
  have := out_cost m (left m b) false (left_bytes hb) (fun hm => h1 (List.mem_filter.1 hm).1) (fun x hx => by simpa using (List.mem_filter.1 hx).2)
  have := left_len m b
  simp only [Bool.false_eq_true, if_false] at *
  omega
theorem unst_err {m : Int} {b : List Int} (h : ¬ (unst m b).2 = 0) : (unst m b).1 = [] := by
  unfold unst at h ⊢
  by_cases h1 : 126 ∈ b
  · rw [if_pos h1]
  rw [if_neg h1] at h ⊢
  by_cases h2 : esc false (left m b) = true
  · rw [if_pos h2]
  · rw [if_neg h2] at h; exact absurd rfl h
theorem StuffLeast : marlinelaw04_StuffLeast.Pure := by
  intro m b hm _ _ hb
  have hU : U32 m := u32_of_wf hm
  have hB := bytes_of_wf hb
  refine Ev.rounds ?_
  unfold marlinelaw04_StuffLeast.f
  refine Ev.bind Speaks04 (Ev.pos rfl ?_)
  by_cases hq : (b.length : Int) > 400
  · exact Ev.step (fun k => by simp only [marlinelaw04_StuffLeast.j0]; rw [if_pos (decide_eq_true hq)]) (Ev.bind Speaks04 (Ev.now _))
  have hL : Lim b := by unfold Lim; omega
  have h2 := unst_len m b
  have hL2 : Lim (unst m b).1 := by unfold Lim; omega
  refine Ev.step (fun k => by simp only [marlinelaw04_StuffLeast.j0]; rw [if_neg (by simpa using hq)]) ?_
  refine Ev.bind (UnstS m hU b hL hB) ?_
  by_cases he : (unst m b).2 = 0
  · have h3 := unst_cost hB he
    refine Ev.pos he (Ev.bind (StuffS m hU _ hL2 (unst_bytes hB)) (Ev.pos (by omega) (Ev.bind (SizeS m hU _ hL2 (unst_bytes hB)) (Ev.end_ (by simp; omega)))))
  · exact Ev.neg he (Ev.end_ (by rw [unst_err he]; rfl))
/-- Nothing in what is escaped must be escaped but the escape. -/
theorem stf_clean {m : Int} (hm : U32 m) : ∀ {b : List Int}, Bytes b → ∀ x ∈ stf m b, x ≠ 126 ∧ has m x = false
  | [], _, x, hx => by simp [stf] at hx
  | c :: t, hb, x, hx => by
    have hc := hb.head
    have hc0 := hc.1; have hc1 := hc.2
    simp only [stf] at hx
    by_cases hq : must m c = true
    · rw [if_pos hq] at hx
      rcases List.mem_cons.1 hx with rfl | hx
      · exact ⟨by omega, has_big hm (by omega)⟩
      · rcases List.mem_cons.1 hx with rfl | hx
        · have hcc : c = 126 ∨ c = 125 ∨ c < 32 := by
            unfold must at hq
            rw [Bool.or_eq_true, decide_eq_true_iff] at hq
            rcases hq with (h | h) | h
            · exact .inl h
            · exact .inr (.inl h)
            · rcases Int.lt_or_le c 32 with h1 | h1
              · exact .inr (.inr h1)
              · rw [has_big hm h1] at h; cases h
          have ht := tn_eq hc
          have hv : 32 ≤ tn c ∧ tn c ≠ 126 := by
            rw [ht]
            split <;> omega
          exact ⟨hv.2, has_big hm hv.1⟩
        · exact stf_clean hm hb.tail x hx
    · rw [if_neg hq] at hx
      rcases List.mem_cons.1 hx with rfl | hx
      · unfold must at hq
        rw [Bool.or_eq_true, decide_eq_true_iff] at hq
        exact ⟨fun h => hq (.inl (.inl h)), by simpa using fun h => hq (.inr h)⟩
      · exact stf_clean hm hb.tail x hx
theorem stf_out (m : Int) : ∀ {b : List Int}, Bytes b → out false (stf m b) = b ∧ esc false (stf m b) = false
  | [], _ => ⟨rfl, rfl⟩
  | c :: t, hb => by
    obtain ⟨h1, h2⟩ := stf_out m hb.tail
    simp only [stf]
    by_cases hq : must m c = true
    · rw [if_pos hq]
      simp only [out, esc, if_true, h1, h2, tn_tn hb.head]
      exact ⟨trivial, trivial⟩
    · rw [if_neg hq]
      have hc : ¬ c = 125 := by
        rintro rfl
        exact hq (by simp [must])
      simp only [out, esc, if_neg hc, h1, h2]
      exact ⟨trivial, trivial⟩
theorem unst_stf {m n : Int} (hm : U32 m) {b : List Int} (hb : Bytes b) (hn : ∀ x, Byte x → has n x = true → has m x = true) : unst n (stf m b) = (b, 0) := by
  have hc := stf_clean hm hb
  unfold unst
  rw [if_neg (fun h => (hc 126 h).1 rfl)]
  have hl : left n (stf m b) = stf m b := by
    unfold left
    refine List.filter_eq_self.2 fun x hx => ?_
    have h1 := (hc x hx).2
    cases h2 : has n x with
    | false => rfl
    | true => rw [hn x (stf_bytes hb x hx) h2] at h1; cases h1
  obtain ⟨h1, h2⟩ := stf_out m hb
  rw [hl, h1, h2, if_neg Bool.false_ne_true]
theorem has_and {m n : Int} (hm : U32 m) (hn : U32 n) : U32 (Go.bits .and .u32 m n) ∧ ∀ x, Byte x → has (Go.bits .and .u32 m n) x = true → has m x = true := by
  obtain ⟨a, rfl⟩ := Int.eq_ofNat_of_zero_le hm.1
  obtain ⟨b, rfl⟩ := Int.eq_ofNat_of_zero_le hn.1
  have ha := hm.2; have hb := hn.2
  rw [u32_and_nat a b (by omega) (by omega)]
  have hle : a &&& b ≤ a := Nat.and_le_left
  refine ⟨⟨by omega, by omega⟩, fun x hx h => ?_⟩
  unfold has at h ⊢
  rw [decide_eq_true_iff] at h ⊢
  have key : ∀ n : Nat, (((n : Int) / 2 ^ x.toNat % 2 = 1) ↔ n.testBit x.toNat = true) := by
    intro n
    rw [Nat.testBit_eq_decide_div_mod_eq, decide_eq_true_iff]
    have e : ((n : Int) / 2 ^ x.toNat % 2) = ((n / 2 ^ x.toNat % 2 : Nat) : Int) := by
      rw [Int.natCast_emod, Int.natCast_ediv, Int.natCast_pow]; rfl
    rw [e]
    omega
  rw [key] at h ⊢
  rw [Nat.testBit_and, Bool.and_eq_true] at h
  exact h.1
theorem StuffBack : marlinelaw04_StuffBack.Pure := by
  intro m p b hm hp _ _ hb
  have hU : U32 m := u32_of_wf hm
  have hP : U32 p := u32_of_wf hp
  have hB := bytes_of_wf hb
  refine Ev.rounds ?_
  unfold marlinelaw04_StuffBack.f
  refine Ev.bind Speaks04 (Ev.pos rfl ?_)
  by_cases hq : (b.length : Int) > 400
  · exact Ev.step (fun k => by simp only [marlinelaw04_StuffBack.j0]; rw [if_pos (decide_eq_true hq)]) (Ev.bind Speaks04 (Ev.now _))
  have hL : Lim b := by unfold Lim; omega
  obtain ⟨l1, l2⟩ := stf_len m b
  have hLs : Lim (stf m b) := by unfold Lim; omega
  have hBs := stf_bytes (m := m) hB
  have hc := stf_clean hU hB
  obtain ⟨hA, hA2⟩ := has_and hU hP
  refine Ev.step (fun k => by simp only [marlinelaw04_StuffBack.j0]; rw [if_neg (by simpa using hq)]) (Ev.bind (StuffS m hU b hL hB) ?_)
  generalize hs : stf m b = s at *
  have three : ∀ (t : List Int) (i : Nat), [m, Go.bits .and .u32 m p, 0].drop i = t → (∀ n ∈ t, U32 n ∧ unst n s = (b, 0)) → Ev (fun k => marlinelaw04_StuffBack.l1 k b s [m, Go.bits .and .u32 m p, 0] (([m, Go.bits .and .u32 m p, 0] : List Int).length : Int) i) true := by
    intro t
    induction t with
    | nil =>
      intro i h _
      have h3 := drop_nil_len h
      refine Ev.step (fun k => by simp only [marlinelaw04_StuffBack.l1]; rw [if_neg (by omega)]) (Ev.pos (by omega) (Ev.end_ ?_))
      rw [w64 (by omega) (by omega)]
      simp; omega
    | cons n t ih =>
      intro i h hn
      obtain ⟨e1, e2, e3⟩ := rd_drop h
      simp only [List.length_cons, List.length_nil] at e3
      refine Ev.step (fun k => by simp only [marlinelaw04_StuffBack.l1]; rw [if_pos (by simp; omega), if_pos (by omega), if_pos (by simp; omega), e1, suc i (by omega)]) ?_
      have h1 := hn n (by simp)
      have hu := UnstS n h1.1 s hLs hBs
      rw [h1.2] at hu
      exact Ev.bind hu (Ev.pos rfl (Ev.bind (Equal b b hL) (Ev.pos (by simp) (ih (i + 1) e2 (fun x hx => hn x (by simp [hx]))))))
  have scan : ∀ (t : List Int) (i : Nat), s.drop i = t → Ev (fun k => marlinelaw04_StuffBack.l0 k m p b s s (s.length : Int) i) true := by
    intro t
    induction t with
    | nil =>
      intro i h
      have h3 := drop_nil_len h
      refine Ev.step (fun k => by simp only [marlinelaw04_StuffBack.l0]; rw [if_neg (by omega)]) (Ev.name ?_)
      refine three [m, Go.bits .and .u32 m p, 0] 0 rfl ?_
      intro n hn
      have z : has 0 = fun _ => false := by funext x; unfold has; simp
      rw [← hs]
      simp only [List.mem_cons, List.not_mem_nil, or_false] at hn
      rcases hn with rfl | rfl | rfl
      · exact ⟨hU, unst_stf hU hB (fun _ _ h => h)⟩
      · exact ⟨hA, unst_stf hU hB hA2⟩
      · exact ⟨⟨by omega, by omega⟩, unst_stf hU hB (fun x _ h => by rw [z] at h; cases h)⟩
    | cons c t ih =>
      intro i h
      obtain ⟨e1, e2, e3⟩ := rd_drop h
      have hm2 : c ∈ s := by rw [← List.take_append_drop i s, h]; simp
      have h1 := hc c hm2
      unfold Lim at hLs
      refine Ev.step (fun k => by simp only [marlinelaw04_StuffBack.l0]; rw [if_pos (by omega), if_pos (by omega), if_pos (by omega), e1, if_neg h1.1, suc i (by omega), HasA hU (hBs c hm2), Option.bind_some, h1.2]) ?_
      exact Ev.neg (by decide) (ih (i + 1) e2)
  exact scan s 0 rfl
theorem StuffJoin : marlinelaw04_StuffJoin.Pure := by
  intro m a b hm _ _ ha _ _ hb
  have hU : U32 m := u32_of_wf hm
  have hA := bytes_of_wf ha
  have hB := bytes_of_wf hb
  refine Ev.rounds ?_
  unfold marlinelaw04_StuffJoin.f
  have short : Ev (fun k => marlinelaw04_StuffJoin.j0 k m a b true) true :=
    Ev.step (fun k => by simp only [marlinelaw04_StuffJoin.j0]; rw [if_pos trivial]) (Ev.bind Speaks04 (Ev.now _))
  refine Ev.bind Speaks04 (Ev.pos rfl ?_)
  by_cases hq : (a.length : Int) > 400
  · exact Ev.pos hq short
  refine Ev.neg hq ?_
  by_cases hr : (b.length : Int) > 400
  · rw [decide_eq_true hr]; exact short
  rw [decide_eq_false hr]
  have hLa : Lim a := by unfold Lim; omega
  have hLb : Lim b := by unfold Lim; omega
  have hLab : Lim (a ++ b) := by unfold Lim; rw [List.length_append]; omega
  have hAB : Bytes (a ++ b) := hA.append hB
  have s1 := stf_len m a; have s2 := stf_len m b; have s3 := stf_len m (a ++ b)
  have u1 := unst_len m a; have u2 := unst_len m b; have u3 := unst_len m (a ++ b)
  rw [List.length_append] at s3 u3
  refine Ev.step (fun k => by simp only [marlinelaw04_StuffJoin.j0]; rw [if_neg (by decide)]) ?_
  refine Ev.name (Ev.pos (by simp only [List.length_nil]; omega) (Ev.name (Ev.pos (by simp only [List.nil_append]; omega) (Ev.name ?_))))
  simp only [List.nil_append]
  refine Ev.bind (StuffS m hU _ hLab hAB) (Ev.bind (StuffS m hU a hLa hA) (Ev.bind (StuffS m hU b hLb hB) (Ev.pos (by omega) (Ev.bind (Equal _ _ (by unfold Lim; omega)) (Ev.pos (by simp [stf_append]) ?_)))))
  refine Ev.bind (UnstS m hU a hLa hA) (Ev.bind (UnstS m hU b hLb hB) (Ev.bind (UnstS m hU _ hLab hAB) ?_))
  by_cases he : (unst m a).2 = 0
  · refine Ev.pos he ?_
    have key : unst m (a ++ b) = if (unst m b).2 = 0 then ((unst m a).1 ++ (unst m b).1, 0) else ([], (unst m b).2) := by
      unfold unst at he
      by_cases h1 : 126 ∈ a
      · rw [if_pos h1] at he; cases he
      rw [if_neg h1] at he
      by_cases h2 : esc false (left m a) = true
      · rw [if_pos h2] at he; cases he
      simp only [Bool.not_eq_true] at h2
      unfold unst
      rw [if_neg h1, h2, if_neg Bool.false_ne_true, left_append, esc_append, h2, out_append, h2]
      by_cases h3 : 126 ∈ b
      · rw [if_pos (by simp [h3]), if_pos h3]
        rfl
      · rw [if_neg (by simp [h1, h3]), if_neg h3]
        by_cases h4 : esc false (left m b) = true
        · simp only [if_pos h4]; rfl
        · simp only [if_neg h4]; rfl
    rw [key]
    by_cases hf : (unst m b).2 = 0
    · rw [if_pos hf]
      refine Ev.pos hf.symm (Ev.pos hf (Ev.name (Ev.pos (by simp only [List.length_nil]; omega) (Ev.name (Ev.pos (by simp only [List.nil_append]; omega) ?_)))))
      simp only [List.nil_append]
      exact Ev.bind (Equal _ _ (by unfold Lim; simp only [List.length_append]; omega)) (Ev.end_ (by simp))
    · rw [if_neg hf]
      exact Ev.pos rfl (Ev.neg hf (Ev.now _))
  · exact Ev.neg he (Ev.now _)
end Go.Proofs.Ytppfoopecdmblaa.Sp
