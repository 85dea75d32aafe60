/- Lists of options: what is written is read as it was, octets that are options are written so, comparing. No condition. -/
import Derived.Test.YtgjeahgagciagaaS12
namespace Go.Proofs.Ytgjeahgagciagaa.Sp
open Go.RowKit Go.Proofs.Ytgjeahgagciagaa.Print Go.Proofs.YtgjeahgagciagaaW.PrintWords Go.Proofs.YtgjeahgagciagaaW.PrintLast Go.Proofs.Ytgjeahgagciagaa.Pl
set_option linter.unusedVariables false
theorem rd_head (a : Int) (t : List Int) : rd (a :: t) 0 = a := rfl
theorem rd_second (a b : Int) (t : List Int) : rd (a :: b :: t) 1 = b := rfl
/-- What was written is read as it was. -/
theorem tget_tput : ∀ l : List AO, (tput l).2 = 0 → tget (tput l).1 = (l, 0)
  | [], _ => rfl
  | o :: t, h => by
    unfold tput at h ⊢
    by_cases h1 : 253 < o.f1.length
    · rw [if_pos h1] at h; cases h
    rw [if_neg h1] at h ⊢
    by_cases h2 : (tput t).2 = 0
    · rw [if_pos h2]
      have ih := tget_tput t h2
      have e : tnx (o.f0 :: ((o.f1.length : Int) + 2) :: (o.f1 ++ (tput t).1)) = (o.f0, o.f1, (tput t).1, 0) := by
        unfold tnx
        rw [rd_head, rd_second, if_neg (by simp), if_neg (by omega), if_neg (by simp; omega)]
        have e1 : ((o.f1.length : Int) + 2).toNat = o.f1.length + 2 := by omega
        rw [e1]
        simp
      rw [tget_step _ (by simp), e]
      simp only [if_true, ih]
    · rw [if_neg h2] at h; cases h
/-- Octets that are options are written so. -/
theorem tput_tget : ∀ (n : Nat) (l : List Int), l.length ≤ n → Bytes l → (tget l).2 = 0 → tput (tget l).1 = (l, 0)
  | n, [], _, _, _ => rfl
  | 0, c :: t, h1, _, _ => by simp at h1
  | n + 1, c :: t, h1, hb, h => by
    rw [tget_step (c :: t) (by simp)] at h ⊢
    by_cases h3 : (tnx (c :: t)).2.2.2 = 0
    · rw [if_pos h3] at h ⊢
      by_cases h5 : (tget (tnx (c :: t)).2.2.1).2 = 0
      · rw [if_pos h5]
        have h4 := rest_len h3
        have ih := tput_tget n (tnx (c :: t)).2.2.1 (by omega) (Bytes_rest hb) h5
        obtain ⟨h6, h7, h8, e⟩ := tnx_ok h3
        have hr := rdb hb 1
        rw [e] at ih ⊢
        simp only [] at ih ⊢
        have hlen : ((List.take (rd (c :: t) 1).toNat (c :: t)).drop 2).length = (rd (c :: t) 1).toNat - 2 := by rw [List.length_drop, List.length_take]; omega
        rw [tput, if_neg (by simp only [hlen]; omega), ih, if_pos rfl]
        simp only [hlen]
        refine Prod.ext ?_ rfl
        simp only []
        rw [show (((rd (c :: t) 1).toNat - 2 : Nat) : Int) + 2 = rd (c :: t) 1 by omega, ← List.drop_append_of_le_length (by rw [List.length_take]; omega), List.take_append_drop]
        match t, h6 with
        | d :: t', _ => rfl
        | [], h6 => simp at h6
      · rw [if_neg h5] at h; exact absurd h h5
    · rw [if_neg h3] at h; exact absurd h h3
/-- Octets behind octets that are options. -/
theorem tget_append : ∀ (n : Nat) (b d : List Int), b.length ≤ n → (tget b).2 = 0 → tget (b ++ d) = if (tget d).2 = 0 then ((tget b).1 ++ (tget d).1, 0) else ([], (tget d).2)
  | n, [], d, _, _ => by
    rw [List.nil_append, tget_nil]
    split
    · rename_i h; exact Prod.ext rfl h
    · rename_i h; exact Prod.ext (tget_err d.length d (Nat.le_refl _) h).1 rfl
  | 0, c :: t, d, h1, _ => by simp at h1
  | n + 1, c :: t, d, h1, h => by
    rw [tget_step (c :: t) (by simp)] at h ⊢
    by_cases h3 : (tnx (c :: t)).2.2.2 = 0
    · rw [if_pos h3] at h
      by_cases h5 : (tget (tnx (c :: t)).2.2.1).2 = 0
      · have h4 := rest_len h3
        have ih := tget_append n (tnx (c :: t)).2.2.1 d (by omega) h5
        obtain ⟨h6, h7, h8, e⟩ := tnx_ok h3
        have hr1 : rd ((c :: t) ++ d) 1 = rd (c :: t) 1 := by
          match t, h6 with
          | x :: t', _ => rfl
          | [], h6 => simp at h6
        have e2 : tnx ((c :: t) ++ d) = (rd (c :: t) 0, ((c :: t).take (rd (c :: t) 1).toNat).drop 2, (c :: t).drop (rd (c :: t) 1).toNat ++ d, 0) := by
          unfold tnx
          rw [hr1, if_neg (by rw [List.length_append]; omega), if_neg (by omega), if_neg (by rw [List.length_append]; omega), List.take_append_of_le_length (by omega), List.drop_append_of_le_length (by omega)]
          rfl
        rw [e] at ih h5
        simp only [] at ih h5
        rw [tget_step _ (by simp), e2, e]
        simp only [if_true, h5, ih]
        by_cases h9 : (tget d).2 = 0
        · simp [h9]
        · simp [h9]
      · rw [if_neg h5] at h; exact absurd h h5
    · rw [if_neg h3] at h; exact absurd h h3
/-! ### the same options -/
theorem ba_toList (s : ByteArray) : s.toList = s.data.toList := by
  have key : ∀ (n i : Nat) (r : List UInt8), s.size - i = n → ByteArray.toList.loop s i r = r.reverse ++ s.data.toList.drop i := by
    intro n
    induction n with
    | zero =>
      intro i r h
      unfold ByteArray.toList.loop
      rw [if_neg (by omega), List.drop_eq_nil_of_le (by show s.data.toList.length ≤ i; simp only [Array.length_toList]; have : s.data.size = s.size := rfl; omega), List.append_nil]
    | succ n ih =>
      intro i r h
      unfold ByteArray.toList.loop
      have hi : i < s.data.toList.length := by simp only [Array.length_toList]; have : s.data.size = s.size := rfl; omega
      rw [if_pos (by omega), ih (i + 1) _ (by omega), List.reverse_cons, List.append_assoc, List.drop_eq_getElem_cons hi]
      congr 1
      rw [List.singleton_append]
      congr 1
      show s.data[i]! = _
      rw [getElem!_pos s.data i (by simpa using hi)]
      simp
  have := key (s.size - 0) 0 [] rfl
  simpa [ByteArray.toList] using this
theorem octs_inj : ∀ {a b : List Int}, Bytes a → Bytes b → (a.map fun n => UInt8.ofNat n.toNat) = (b.map fun n => UInt8.ofNat n.toNat) → a = b
  | [], [], _, _, _ => rfl
  | [], _ :: _, _, _, h => by simp at h
  | _ :: _, [], _, _, h => by simp at h
  | x :: a, y :: b, ha, hb, h => by
    simp only [List.map_cons, List.cons.injEq] at h
    have e := octs_inj ha.tail hb.tail h.2
    have h1 := congrArg UInt8.toNat h.1
    have hx := ha.head; have hy := hb.head
    simp only [UInt8.toNat_ofNat'] at h1
    have hx0 := hx.1; have hx1 := hx.2; have hy0 := hy.1; have hy1 := hy.2
    rw [Nat.mod_eq_of_lt (by omega), Nat.mod_eq_of_lt (by omega)] at h1
    rw [e, show x = y by omega]
theorem sameOct {a b : List Int} (ha : Bytes a) (hb : Bytes b) : ((strOfNums a).toList == (strOfNums b).toList) = decide (a = b) := by
  rw [ba_toList, ba_toList]
  by_cases h : a = b
  · subst h; simp
  · have h2 : ¬ (strOfNums a).data.toList = (strOfNums b).data.toList := fun e => h (octs_inj ha hb (by simpa [strOfNums] using e))
    rw [decide_eq_false h, beq_eq_false_iff_ne]
    exact h2
theorem SameL : ∀ (a b : List AO), (∀ o ∈ a, Bytes o.f1) → (∀ o ∈ b, Bytes o.f1) → tlv_Same.f a b = some (decide (a = b)) := by
  intro a b ha hb
  unfold tlv_Same.f
  congr 1
  induction a generalizing b with
  | nil => cases b <;> simp
  | cons x a ih =>
    cases b with
    | nil => simp
    | cons y b =>
      have e := ih b (fun o ho => ha o (by simp [ho])) (fun o ho => hb o (by simp [ho]))
      have e1 : tlv_Same.one x y = decide (x = y) := by
        unfold tlv_Same.one
        rw [sameOct (ha x (by simp)) (hb y (by simp))]
        cases x; cases y
        rw [Bool.eq_iff_iff]
        simp
      simp only [List.length_cons, List.zip_cons_cons, List.all_cons, e1]
      rw [show ((a.length + 1 == b.length + 1) && (decide (x = y) && (a.zip b).all fun p => tlv_Same.one p.1 p.2)) = (decide (x = y) && ((a.length == b.length) && (a.zip b).all fun p => tlv_Same.one p.1 p.2)) by
        rw [show (a.length + 1 == b.length + 1) = (a.length == b.length) by simp]
        cases decide (x = y) <;> simp, e]
      simp
theorem rSame_l0 (a b : List RO) (hl : a.length = b.length) (ha : a.length ≤ 1000000) (hb : ∀ o ∈ a, Lim o.f1) : ∀ (t u : List RO) (i : Nat), a.drop i = t → b.drop i = u → Ev (fun k => marlineref12_Same.l0 k a b i) (decide (t = u))
  | [], u, i, h1, h2 => by
    have h3 := nil_len h1
    obtain rfl : u = [] := by rw [← h2]; exact List.drop_eq_nil_of_le (by omega)
    exact Ev.step (fun k => by simp only [marlineref12_Same.l0]; rw [if_neg (by omega)]; rfl) (Ev.now _)
  | x :: t, [], i, h1, h2 => by
    have := nil_len h2
    obtain ⟨_, _, h3⟩ := rdr h1
    omega
  | x :: t, y :: u, i, h1, h2 => by
    obtain ⟨e1, e2, e3⟩ := rdr h1
    obtain ⟨f1, f2, f3⟩ := rdr h2
    have hx : Lim x.f1 := hb x (by rw [← List.take_append_drop i a, h1]; simp)
    have step : ∀ k, marlineref12_Same.l0 (k + 1) a b i = if x.f0 = y.f0 then ((marlineref01_Equal.f k x.f1 y.f1).bind fun q => if q = true then marlineref12_Same.l0 k a b ((i + 1 : Nat) : Int) else some false) else some false := fun k => by
      simp only [marlineref12_Same.l0]
      rw [if_pos (by omega), if_pos (by omega), if_pos (by omega), e1, f1, sucB i (by omega)]
    refine Ev.step step ?_
    by_cases h3 : x.f0 = y.f0
    · simp only [if_pos h3]
      refine Ev.bind (Equal x.f1 y.f1 hx) ?_
      by_cases h4 : x.f1 = y.f1
      · simp only [h4, decide_true, if_true]
        have exy : x = y := by cases x; cases y; simp_all
        rw [show decide (x :: t = y :: u) = decide (t = u) by simp [exy]]
        exact rSame_l0 a b hl ha hb t u (i + 1) e2 f2
      · simp only [h4, decide_false, Bool.false_eq_true, if_false]
        rw [show decide (x :: t = y :: u) = false by simp; intro e; exact absurd (congrArg S56.f1 e) h4]
        exact Ev.now _
    · simp only [if_neg h3]
      rw [show decide (x :: t = y :: u) = false by simp; intro e; exact absurd (congrArg S56.f0 e) h3]
      exact Ev.now _
theorem rSameL (a b : List RO) (ha : a.length ≤ 1000000) (hb : ∀ o ∈ a, Lim o.f1) : Ev (fun k => marlineref12_Same.f k a b) (decide (a = b)) := by
  by_cases hl : a.length = b.length
  · exact Ev.congr (fun k => by unfold marlineref12_Same.f; rw [if_pos (by omega)]; rfl) (rSame_l0 a b hl ha hb a b 0 rfl rfl)
  · rw [show decide (a = b) = false by simp; rintro rfl; exact hl rfl]
    exact Ev.congr (fun k => by unfold marlineref12_Same.f; rw [if_neg (by omega)]) (Ev.now _)
/-! ### the laws -/
theorem Speaks12 : Ev (fun k => marlinelaw12_speaks.f k) true := by
  unfold marlinelaw12_speaks.f
  refine Ev.bind (PutL [⟨1, [5, 220]⟩] (by decide)) ?_
  refine Ev.pos (by decide) (Ev.bind (Equal _ [1, 4, 5, 220] (by unfold Lim; decide)) ?_)
  exact Ev.end_ (by decide)
theorem held_of {l : List RO} (h : (l.length ≤ 9223372036854775807 ∧ l.length * 32 ≤ 140737488351232) ∧ ∀ y0_ ∈ l, ((Lit.int .u8 y0_.f0).wf = true ∧ ((y0_.f1.length ≤ 9223372036854775807 ∧ y0_.f1.length * 1 ≤ 140737488351232) ∧ ∀ y1_ ∈ y0_.f1, (Lit.int .u8 y1_).wf = true))) : Held l :=
  ⟨h.1.2, fun o ho => ⟨u8_of_wf (h.2 o ho).1, by have := (h.2 o ho).2.1.2; omega, bytes_of_wf (h.2 o ho).2.2⟩⟩
theorem tot_mem : ∀ {l : List RO} {o : RO}, o ∈ l → o.f1.length ≤ tot l
  | x :: t, o, h => by
    simp only [tot]
    rcases List.mem_cons.1 h with rfl | h
    · omega
    · have := tot_mem h; omega
theorem bytes_tget : ∀ (n : Nat) (l : List Int), l.length ≤ n → Bytes l → ∀ o ∈ (tget l).1, Byte o.f0 ∧ Bytes o.f1
  | n, [], _, _, o, ho => by rw [tget_nil] at ho; simp at ho
  | 0, c :: t, h1, _, _, _ => by simp at h1
  | n + 1, c :: t, h1, hb, o, ho => by
    rw [tget_step (c :: t) (by simp)] at ho
    by_cases h3 : (tnx (c :: t)).2.2.2 = 0
    · rw [if_pos h3] at ho
      have h4 := rest_len h3
      by_cases h5 : (tget (tnx (c :: t)).2.2.1).2 = 0
      · rw [if_pos h5] at ho
        obtain ⟨h6, h7, h8, e⟩ := tnx_ok h3
        rcases List.mem_cons.1 ho with rfl | ho
        · rw [e]
          exact ⟨rdb hb 0, (hb.take _).drop _⟩
        · exact bytes_tget n _ (by omega) (Bytes_rest hb) o ho
      · rw [if_neg h5] at ho; simp at ho
    · rw [if_neg h3] at ho; simp at ho
theorem size_tget {l : List Int} (hb : Bytes l) (h : (tget l).2 = 0) : size (tget l).1 = l.length := by
  have e := tput_tget l.length l (Nat.le_refl _) hb h
  have := tput_length (tget l).1 (by rw [e])
  rw [e] at this
  exact this.symm
theorem bytes_tput : ∀ (l : List AO), (∀ o ∈ l, Byte o.f0 ∧ Bytes o.f1) → Bytes (tput l).1
  | [], _ => Bytes.nil
  | o :: t, h => by
    unfold tput
    split
    · exact Bytes.nil
    · rename_i h1
      split
      · have ho := h o (by simp)
        exact Bytes.cons ho.1 (Bytes.cons ⟨by omega, by omega⟩ (ho.2.append (bytes_tput t (fun o ho => h o (by simp [ho])))))
      · exact Bytes.nil
end Go.Proofs.Ytgjeahgagciagaa.Sp
