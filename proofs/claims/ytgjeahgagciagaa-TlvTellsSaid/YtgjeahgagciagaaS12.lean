/- What the printed functions of layer 12 (lists of options) and of its reference's comparing come to, in plain words. -/
import Derived.Test.YtgjeahgagciagaaS00
import Derived.Test.YtgjeahgagciagaaPrintTlvSize
import Derived.Test.YtgjeahgagciagaaPrintTlvPut
import Derived.Test.YtgjeahgagciagaaPrintTlvNext
import Derived.Test.YtgjeahgagciagaaPrintTlvGet
import Derived.Test.YtgjeahgagciagaaPrintTlvSame
import Derived.Test.YtgjeahgagciagaaPrintSlicesCloneByteByte
import Derived.Test.YtgjeahgagciagaaPrintMarlinelaw12Few
import Derived.Test.YtgjeahgagciagaaPrintMarlinelaw12Of
import Derived.Test.YtgjeahgagciagaaPrintMarlinelaw12To
import Derived.Test.YtgjeahgagciagaaPrintMarlinelaw12Speaks
import Derived.Test.YtgjeahgagciagaaPrintMarlineref12Same
namespace Go.Proofs.Ytgjeahgagciagaa.Sp
open Go.RowKit Go.Proofs.Ytgjeahgagciagaa.Print Go.Proofs.YtgjeahgagciagaaW.PrintWords Go.Proofs.YtgjeahgagciagaaW.PrintLast Go.Proofs.Ytgjeahgagciagaa.Pl
set_option linter.unusedVariables false
abbrev AO := S57
abbrev RO := S56
def ao (o : RO) : AO := ⟨o.f0, o.f1⟩
def ro (o : AO) : RO := ⟨o.f0, o.f1⟩
theorem ro_ao (o : RO) : ro (ao o) = o := rfl
theorem ao_ro (o : AO) : ao (ro o) = o := rfl
theorem map_ro_ao (l : List RO) : (l.map ao).map ro = l := by rw [List.map_map]; exact List.map_id l
theorem map_ao_ro (l : List AO) : (l.map ro).map ao = l := by rw [List.map_map]; exact List.map_id l
instance decAO : DecidableEq AO := fun a b => decidable_of_iff (a.f0 = b.f0 ∧ a.f1 = b.f1) (by cases a; cases b; simp)
instance decRO : DecidableEq RO := fun a b => decidable_of_iff (a.f0 = b.f0 ∧ a.f1 = b.f1) (by cases a; cases b; simp)
theorem drop_get {α : Type} {z : α} {xs : List α} {i : Nat} {b : α} {t : List α} (h : xs.drop i = b :: t) : xs.getD ((i : Int)).toNat z = b ∧ xs.drop (i + 1) = t ∧ i < xs.length := by
  have hlt : i < xs.length := by
    rcases Nat.lt_or_ge i xs.length with h1 | h1
    · exact h1
    · rw [List.drop_eq_nil_of_le h1] at h; cases h
  rw [List.drop_eq_getElem_cons hlt] at h
  injection h with h1 h2
  refine ⟨?_, h2, hlt⟩
  rw [Int.toNat_natCast, List.getD_eq_getElem?_getD, List.getElem?_eq_getElem hlt]
  exact h1
theorem rda {xs : List AO} {i : Nat} {b : AO} {t : List AO} (h : xs.drop i = b :: t) : rd_T57 xs (i : Int) = b ∧ xs.drop (i + 1) = t ∧ i < xs.length := drop_get h
theorem rdr {xs : List RO} {i : Nat} {b : RO} {t : List RO} (h : xs.drop i = b :: t) : rd_T56 xs (i : Int) = b ∧ xs.drop (i + 1) = t ∧ i < xs.length := drop_get h
theorem nil_len {α : Type} {xs : List α} {i : Nat} (h : xs.drop i = []) : xs.length ≤ i := List.drop_eq_nil_iff.1 h
theorem sucB (i : Nat) (h : i ≤ 4611686018427387904) : wrap64 ((i : Int) + 1) = ((i + 1 : Nat) : Int) := by rw [w64 (by omega) (by omega)]; omega

/-! ### few options -/
def tot : List RO → Nat
  | [] => 0
  | o :: t => o.f1.length + tot t
def Held (l : List RO) : Prop := l.length * 32 ≤ 140737488351232 ∧ ∀ o ∈ l, Byte o.f0 ∧ o.f1.length ≤ 140737488351232 ∧ Bytes o.f1
theorem tot_le : ∀ (t : List RO), (∀ o ∈ t, o.f1.length ≤ 140737488351232) → tot t ≤ t.length * 140737488351232
  | [], _ => by simp [tot]
  | o :: t, h => by
    have := tot_le t (fun o ho => h o (by simp [ho]))
    have := h o (by simp)
    simp only [tot, List.length_cons]
    omega
theorem Few_l0 (l : List RO) (hl : l.length ≤ 4398046511104) (hd : ∀ o ∈ l, o.f1.length ≤ 140737488351232) : ∀ (t : List RO) (i : Nat) (x : Int), l.drop i = t →
    ∃ y : Int, Ev (fun k => marlinelaw12_Few.l0 k l x l (l.length : Int) i) (if (l.length : Int) ≤ 60 then decide (y ≤ 1000) else false) ∧ (l.length ≤ 60 → 0 ≤ x → x + tot t ≤ 4611686018427387904 → y = x + tot t)
  | [], i, x, h => by
    have h3 := nil_len h
    refine ⟨x, ?_, fun _ _ _ => by simp [tot]⟩
    by_cases h6 : (l.length : Int) ≤ 60
    · rw [if_pos h6]
      exact Ev.step (fun k => by simp only [marlinelaw12_Few.l0]; rw [if_neg (by omega), if_pos h6]) (Ev.now _)
    · rw [if_neg h6]
      exact Ev.step (fun k => by simp only [marlinelaw12_Few.l0]; rw [if_neg (by omega), if_neg h6]) (Ev.now _)
  | o :: t, i, x, h => by
    obtain ⟨e1, e2, e3⟩ := rdr h
    obtain ⟨y, ih, hy⟩ := Few_l0 l hl hd t (i + 1) (wrap64 (x + (o.f1.length : Int))) e2
    refine ⟨y, Ev.step (fun k => ?_) ih, fun h6 h0 hx => ?_⟩
    · simp only [marlinelaw12_Few.l0]
      rw [if_pos (by omega), if_pos (by omega), if_pos (by omega), e1, sucB i (by omega)]
    · simp only [tot, Int.natCast_add] at hx ⊢
      have e : wrap64 (x + (o.f1.length : Int)) = x + o.f1.length := w64 (by omega) (by omega)
      rw [e] at hy
      rw [hy h6 (by omega) (by omega)]
      omega
theorem FewL (l : List RO) (hl : Held l) : Ev (fun k => marlinelaw12_Few.f k l) (decide (l.length ≤ 60 ∧ tot l ≤ 1000)) := by
  unfold marlinelaw12_Few.f
  have hd : ∀ o ∈ l, o.f1.length ≤ 140737488351232 := fun o ho => (hl.2 o ho).2.1
  have h1 := hl.1
  obtain ⟨y, hE, hy⟩ := Few_l0 l (by omega) hd l 0 0 rfl
  have ht := tot_le l hd
  have e : (if (l.length : Int) ≤ 60 then decide (y ≤ 1000) else false) = decide (l.length ≤ 60 ∧ tot l ≤ 1000) := by
    by_cases h6 : l.length ≤ 60
    · rw [if_pos (by omega), hy h6 (by omega) (by omega)]
      simp only [h6, true_and, decide_eq_decide]
      omega
    · rw [if_neg (by omega)]
      simp [h6]
  rw [← e]
  exact hE
/-! ### from the document's and to it -/
theorem Of_l0 (l : List RO) (hl : l.length ≤ 1000000) : ∀ (t : List RO) (i : Nat) (x : List AO), l.drop i = t → x.length + t.length ≤ 1000000 →
    Ev (fun k => marlinelaw12_Of.l0 k x l (l.length : Int) i) (x ++ t.map ao)
  | [], i, x, h, _ => by
    have h3 := nil_len h
    rw [List.map_nil, List.append_nil]
    exact Ev.step (fun k => by simp only [marlinelaw12_Of.l0]; rw [if_neg (by omega)]) (Ev.now _)
  | o :: t, i, x, h, hx => by
    obtain ⟨e1, e2, e3⟩ := rdr h
    simp only [List.length_cons] at hx
    have ih := Of_l0 l hl t (i + 1) (x ++ [ao o]) e2 (by simp; omega)
    rw [List.map_cons, show x ++ ao o :: t.map ao = (x ++ [ao o]) ++ t.map ao by simp]
    refine Ev.step (fun k => ?_) ih
    simp only [marlinelaw12_Of.l0]
    rw [if_pos (by omega), if_pos (by omega), if_pos (by omega), if_pos (by omega), e1, sucB i (by omega)]
    rfl
theorem OfL (l : List RO) (hl : l.length ≤ 1000000) : Ev (fun k => marlinelaw12_Of.f k l) (l.map ao) := Of_l0 l hl l 0 [] rfl (by simpa using hl)
theorem To_l0 (l : List AO) (hl : l.length ≤ 1000000) : ∀ (t : List AO) (i : Nat) (x : List RO), l.drop i = t → x.length + t.length ≤ 1000000 →
    Ev (fun k => marlinelaw12_To.l0 k x l (l.length : Int) i) (x ++ t.map ro)
  | [], i, x, h, _ => by
    have h3 := nil_len h
    rw [List.map_nil, List.append_nil]
    exact Ev.step (fun k => by simp only [marlinelaw12_To.l0]; rw [if_neg (by omega)]) (Ev.now _)
  | o :: t, i, x, h, hx => by
    obtain ⟨e1, e2, e3⟩ := rda h
    simp only [List.length_cons] at hx
    have ih := To_l0 l hl t (i + 1) (x ++ [ro o]) e2 (by simp; omega)
    rw [List.map_cons, show x ++ ro o :: t.map ro = (x ++ [ro o]) ++ t.map ro by simp]
    refine Ev.step (fun k => ?_) ih
    simp only [marlinelaw12_To.l0]
    rw [if_pos (by omega), if_pos (by omega), if_pos (by omega), if_pos (by omega), e1, sucB i (by omega)]
    rfl
theorem ToL (l : List AO) (hl : l.length ≤ 1000000) : Ev (fun k => marlinelaw12_To.f k l) (l.map ro) := To_l0 l hl l 0 [] rfl (by simpa using hl)
/-! ### how many octets -/
def size : List AO → Nat
  | [] => 0
  | o :: t => 2 + o.f1.length + size t
theorem size_append (a b : List AO) : size (a ++ b) = size a + size b := by
  induction a with
  | nil => simp [size]
  | cons o t ih => simp only [List.cons_append, size, ih]; omega
theorem len_size (l : List AO) : l.length ≤ size l := by
  induction l with
  | nil => simp
  | cons o t ih => simp only [List.length_cons, size]; omega
theorem size_ao (l : List RO) : size (l.map ao) = 2 * l.length + tot l := by
  induction l with
  | nil => rfl
  | cons o t ih => simp only [List.map_cons, size, ih, List.length_cons, tot, ao]; omega
theorem Size_l0 (l : List AO) (hl : l.length ≤ 1000000) : ∀ (t : List AO) (i : Nat) (x : Int), l.drop i = t → 0 ≤ x → x + size t ≤ 100000000 → Ev (fun k => tlv_Size.l0 k x l (l.length : Int) i) (x + size t)
  | [], i, x, h, _, _ => by
    have h3 := nil_len h
    rw [size, Int.natCast_zero, Int.add_zero]
    exact Ev.step (fun k => by simp only [tlv_Size.l0]; rw [if_neg (by omega)]) (Ev.now _)
  | o :: t, i, x, h, h0, hx => by
    obtain ⟨e1, e2, e3⟩ := rda h
    simp only [size, Int.natCast_add] at hx
    have ih := Size_l0 l hl t (i + 1) (x + (2 + (o.f1.length : Int))) e2 (by omega) (by omega)
    rw [show x + ((size (o :: t) : Nat) : Int) = x + (2 + (o.f1.length : Int)) + size t by simp only [size, Int.natCast_add]; omega]
    refine Ev.step (fun k => ?_) ih
    simp only [tlv_Size.l0]
    rw [if_pos (by omega), if_pos (by omega), if_pos (by omega), e1, sucB i (by omega), w64 (x := 2 + (o.f1.length : Int)) (by omega) (by omega), w64 (x := x + (2 + (o.f1.length : Int))) (by omega) (by omega)]
theorem SizeL (l : List AO) (hs : size l ≤ 1000000) : Ev (fun k => tlv_Size.f k l) (size l : Int) := by
  have h := Size_l0 l (by have := len_size l; omega) l 0 0 rfl (by omega) (by omega)
  rw [Int.zero_add] at h
  exact h
/-! ### written -/
def tput : List AO → List Int × Int
  | [] => ([], 0)
  | o :: t => if 253 < o.f1.length then ([], 3) else if (tput t).2 = 0 then (o.f0 :: ((o.f1.length : Int) + 2) :: (o.f1 ++ (tput t).1), 0) else ([], 3)
theorem tput_err (l : List AO) (h : (tput l).2 ≠ 0) : tput l = ([], 3) := by
  cases l with
  | nil => exact absurd rfl h
  | cons o t =>
    unfold tput at h ⊢
    split
    · rfl
    · rename_i h1
      rw [if_neg h1] at h
      split
      · rename_i h2
        rw [if_pos h2] at h
        exact absurd rfl h
      · rfl
theorem tput_length (l : List AO) (h : (tput l).2 = 0) : (tput l).1.length = size l := by
  induction l with
  | nil => rfl
  | cons o t ih =>
    unfold tput at h ⊢
    split
    · rename_i h1; rw [if_pos h1] at h; cases h
    · rename_i h1; rw [if_neg h1] at h
      split
      · rename_i h2
        simp only [List.length_cons, List.length_append, ih h2, size]
        omega
      · rename_i h2; rw [if_neg h2] at h; cases h
theorem tput_append (a b : List AO) : tput (a ++ b) = if (tput a).2 = 0 ∧ (tput b).2 = 0 then ((tput a).1 ++ (tput b).1, 0) else ([], 3) := by
  induction a with
  | nil =>
    simp only [List.nil_append, tput, true_and]
    split
    · rename_i h; exact Prod.ext rfl h
    · rename_i h; exact tput_err b h
  | cons o t ih =>
    simp only [List.cons_append, tput, ih]
    by_cases h1 : 253 < o.f1.length
    · simp [h1]
    · simp only [if_neg h1]
      by_cases h2 : (tput t).2 = 0
      · by_cases h3 : (tput b).2 = 0
        · simp [h2, h3]
        · simp [h2, h3]
      · simp [h2]
theorem TPut_l0 (l : List AO) (hl : l.length ≤ 1000000) : ∀ (t : List AO) (i : Nat) (x : List Int), l.drop i = t → x.length + size t ≤ 100000000 →
    Ev (fun k => tlv_Put.l0 k x l (l.length : Int) i) (if (tput t).2 = 0 then (x ++ (tput t).1, 0) else ([], 3))
  | [], i, x, h, _ => by
    have h3 := nil_len h
    rw [tput, if_pos rfl, List.append_nil]
    exact Ev.step (fun k => by simp only [tlv_Put.l0]; rw [if_neg (by omega)]) (Ev.now _)
  | o :: t, i, x, h, hx => by
    obtain ⟨e1, e2, e3⟩ := rda h
    simp only [size] at hx
    by_cases h1 : 253 < o.f1.length
    · rw [show tput (o :: t) = ([], 3) by rw [tput, if_pos h1], if_neg (by decide)]
      exact Ev.step (fun k => by simp only [tlv_Put.l0]; rw [if_pos (by omega), if_pos (by omega), if_pos (by omega), e1, if_pos (by omega)]) (Ev.now _)
    · have ih := TPut_l0 l hl t (i + 1) (x ++ [o.f0, (o.f1.length : Int) + 2] ++ o.f1) e2 (by simp; omega)
      have e : (if (tput (o :: t)).2 = 0 then (x ++ (tput (o :: t)).1, (0 : Int)) else ([], 3)) = if (tput t).2 = 0 then ((x ++ [o.f0, (o.f1.length : Int) + 2] ++ o.f1) ++ (tput t).1, 0) else ([], 3) := by
        rw [tput, if_neg h1]
        by_cases h2 : (tput t).2 = 0
        · simp [h2]
        · simp [h2]
      rw [e]
      refine Ev.step (fun k => ?_) ih
      simp only [tlv_Put.l0]
      rw [if_pos (by omega), if_pos (by omega), if_pos (by omega), e1, if_neg (by omega), Option.bind_some, w64 (x := (o.f1.length : Int) + 2) (by omega) (by omega), Int.emod_eq_of_lt (by omega) (by omega), if_pos (by simp; omega), Option.bind_some, if_pos (by simp; omega), sucB i (by omega)]
theorem PutL (l : List AO) (hs : size l ≤ 1000000) : Ev (fun k => tlv_Put.f k l) (tput l) := by
  unfold tlv_Put.f
  refine Ev.bind (SizeL l hs) (Ev.pos (by omega) (Ev.pos (by omega) ?_))
  have h := TPut_l0 l (by have := len_size l; omega) l 0 [] rfl (by simp; omega)
  have e : (if (tput l).2 = 0 then ([] ++ (tput l).1, (0 : Int)) else ([], 3)) = tput l := by
    split
    · rename_i h; exact Prod.ext rfl h.symm
    · rename_i h; exact (tput_err l h).symm
  rw [e] at h
  exact h
/-! ### read -/
def tnx (l : List Int) : Int × List Int × List Int × Int :=
  if l.length < 2 then (0, [], [], 2) else if rd l 1 < 2 then (0, [], [], 4) else if rd l 1 > l.length then (0, [], [], 2) else (rd l 0, (l.take (rd l 1).toNat).drop 2, l.drop (rd l 1).toNat, 0)
theorem rdb {l : List Int} (hb : Bytes l) (i : Int) : 0 ≤ rd l i ∧ rd l i < 256 := by
  unfold rd
  rw [List.getD_eq_getElem?_getD]
  by_cases h : i.toNat < l.length
  · rw [List.getElem?_eq_getElem h]
    exact hb _ (List.getElem_mem h)
  · rw [List.getElem?_eq_none (by omega)]
    simp
theorem CloneL (l : List Int) (hl : Lim l) : slices_Clone_byte_byte.f l = some l := by
  unfold slices_Clone_byte_byte.f; unfold Lim at hl; rw [if_pos (by omega)]
theorem NextL (l : List Int) (hb : Bytes l) (hl : Lim l) : tlv_next.f l = some (tnx l) := by
  unfold tlv_next.f tnx
  have h1 := rdb hb 1
  have hl' := hl
  unfold Lim at hl
  rw [w64 (x := rd l 1) (by omega) (by omega)]
  by_cases h : l.length < 2
  · rw [if_pos h, if_pos (by omega)]
  rw [if_neg h, if_neg (by omega), if_pos (by omega)]
  by_cases h2 : rd l 1 < 2
  · rw [if_pos h2, if_pos h2]
  rw [if_neg h2, if_neg h2]
  by_cases h3 : rd l 1 > l.length
  · rw [if_pos h3, if_pos h3]
  rw [if_neg h3, if_neg h3, if_pos (by omega), if_pos (by omega), if_pos (by omega), CloneL _ (by unfold Lim; rw [List.length_drop, List.length_take]; omega), Option.bind_some, if_pos (by omega)]
theorem tnx_ok {l : List Int} (h : (tnx l).2.2.2 = 0) : 2 ≤ l.length ∧ 2 ≤ rd l 1 ∧ rd l 1 ≤ l.length ∧ tnx l = (rd l 0, (l.take (rd l 1).toNat).drop 2, l.drop (rd l 1).toNat, 0) := by
  unfold tnx at h ⊢
  split at h <;> rename_i h1
  · cases h
  · split at h <;> rename_i h2
    · cases h
    · split at h <;> rename_i h3
      · cases h
      · rw [if_neg h1, if_neg h2, if_neg h3]
        exact ⟨by omega, by omega, by omega, rfl⟩
def tg : Nat → List Int → List AO × Int
  | 0, _ => ([], 0)
  | n + 1, l => if l = [] then ([], 0) else if (tnx l).2.2.2 = 0 then (if (tg n (tnx l).2.2.1).2 = 0 then (⟨(tnx l).1, (tnx l).2.1⟩ :: (tg n (tnx l).2.2.1).1, 0) else ([], (tg n (tnx l).2.2.1).2)) else ([], (tnx l).2.2.2)
theorem rest_len {l : List Int} (h : (tnx l).2.2.2 = 0) : (tnx l).2.2.1.length + 2 ≤ l.length := by
  obtain ⟨h1, h2, h3, e⟩ := tnx_ok h
  rw [e]
  simp only [List.length_drop]
  omega
theorem tg_fuel : ∀ (n m : Nat) (l : List Int), l.length ≤ n → l.length ≤ m → tg n l = tg m l
  | 0, m, l, h1, h2 => by
    obtain rfl : l = [] := List.eq_nil_of_length_eq_zero (by omega)
    cases m <;> simp [tg]
  | n + 1, 0, l, h1, h2 => by
    obtain rfl : l = [] := List.eq_nil_of_length_eq_zero (by omega)
    simp [tg]
  | n + 1, m + 1, l, h1, h2 => by
    unfold tg
    by_cases h : l = []
    · simp [h]
    · rw [if_neg h, if_neg h]
      by_cases h3 : (tnx l).2.2.2 = 0
      · have h4 := rest_len h3
        rw [if_pos h3, if_pos h3, tg_fuel n m _ (by omega) (by omega)]
      · rw [if_neg h3, if_neg h3]
def tget (l : List Int) : List AO × Int := tg l.length l
theorem tget_nil : tget [] = ([], 0) := rfl
theorem tget_step (l : List Int) (h : l ≠ []) : tget l = if (tnx l).2.2.2 = 0 then (if (tget (tnx l).2.2.1).2 = 0 then (⟨(tnx l).1, (tnx l).2.1⟩ :: (tget (tnx l).2.2.1).1, 0) else ([], (tget (tnx l).2.2.1).2)) else ([], (tnx l).2.2.2) := by
  have hp := List.length_pos_iff.2 h
  unfold tget
  obtain ⟨n, hn⟩ : ∃ n, l.length = n + 1 := ⟨l.length - 1, by omega⟩
  rw [hn]
  conv => lhs; unfold tg
  rw [if_neg h]
  by_cases h3 : (tnx l).2.2.2 = 0
  · have h4 := rest_len h3
    rw [if_pos h3, if_pos h3, tg_fuel n (tnx l).2.2.1.length _ (by omega) (by omega)]
  · rw [if_neg h3, if_neg h3]
theorem tget_err : ∀ (n : Nat) (l : List Int), l.length ≤ n → (tget l).2 ≠ 0 → (tget l).1 = [] ∧ ((tget l).2 = 2 ∨ (tget l).2 = 4)
  | 0, l, h1, h => by
    obtain rfl : l = [] := List.eq_nil_of_length_eq_zero (by omega)
    exact absurd rfl h
  | n + 1, l, h1, h => by
    by_cases h0 : l = []
    · subst h0; exact absurd rfl h
    rw [tget_step l h0] at h ⊢
    by_cases h3 : (tnx l).2.2.2 = 0
    · rw [if_pos h3] at h ⊢
      have h4 := rest_len h3
      by_cases h5 : (tget (tnx l).2.2.1).2 = 0
      · rw [if_pos h5] at h; exact absurd rfl h
      · rw [if_neg h5]
        exact ⟨rfl, (tget_err n _ (by omega) h5).2⟩
    · rw [if_neg h3]
      refine ⟨rfl, ?_⟩
      unfold tnx at h3 ⊢
      split
      · simp
      · split
        · simp
        · split
          · simp
          · rename_i h6 h7 h8; rw [if_neg h6, if_neg h7, if_neg h8] at h3; exact absurd rfl h3
theorem Bytes_rest {l : List Int} (hb : Bytes l) : Bytes (tnx l).2.2.1 := by
  unfold tnx
  split
  · exact Bytes.nil
  · split
    · exact Bytes.nil
    · split
      · exact Bytes.nil
      · exact hb.drop _
theorem Get_l0' : ∀ (n : Nat) (l : List Int) (x : List AO), l.length ≤ n → Bytes l → Lim l → x.length + n ≤ 3000000 →
    Ev (fun k => tlv_Get.l0 k l x) (if (tget l).2 = 0 then (x ++ (tget l).1, 0) else ([], (tget l).2))
  | n, [], x, h1, hb, hl, hx => by
    rw [tget_nil, if_pos rfl, List.append_nil]
    exact Ev.step (fun k => by simp only [tlv_Get.l0]; rw [if_neg (by simp)]) (Ev.now _)
  | 0, c :: t, x, h1, hb, hl, hx => by simp at h1
  | n + 1, c :: t, x, h1, hb, hl, hx => by
    rw [tget_step (c :: t) (by simp)]
    by_cases h3 : (tnx (c :: t)).2.2.2 = 0
    · have h4 := rest_len h3
      have ih := Get_l0' n (tnx (c :: t)).2.2.1 (x ++ [⟨(tnx (c :: t)).1, (tnx (c :: t)).2.1⟩]) (by omega) (Bytes_rest hb) (by unfold Lim at hl ⊢; omega) (by simp; omega)
      have e : (if (if (tnx (c :: t)).2.2.2 = 0 then (if (tget (tnx (c :: t)).2.2.1).2 = 0 then ((⟨(tnx (c :: t)).1, (tnx (c :: t)).2.1⟩ : AO) :: (tget (tnx (c :: t)).2.2.1).1, (0 : Int)) else ([], (tget (tnx (c :: t)).2.2.1).2)) else ([], (tnx (c :: t)).2.2.2)).2 = 0 then (x ++ (if (tnx (c :: t)).2.2.2 = 0 then (if (tget (tnx (c :: t)).2.2.1).2 = 0 then ((⟨(tnx (c :: t)).1, (tnx (c :: t)).2.1⟩ : AO) :: (tget (tnx (c :: t)).2.2.1).1, (0 : Int)) else ([], (tget (tnx (c :: t)).2.2.1).2)) else ([], (tnx (c :: t)).2.2.2)).1, (0 : Int)) else ([], (if (tnx (c :: t)).2.2.2 = 0 then (if (tget (tnx (c :: t)).2.2.1).2 = 0 then ((⟨(tnx (c :: t)).1, (tnx (c :: t)).2.1⟩ : AO) :: (tget (tnx (c :: t)).2.2.1).1, (0 : Int)) else ([], (tget (tnx (c :: t)).2.2.1).2)) else ([], (tnx (c :: t)).2.2.2)).2)) = if (tget (tnx (c :: t)).2.2.1).2 = 0 then ((x ++ [⟨(tnx (c :: t)).1, (tnx (c :: t)).2.1⟩]) ++ (tget (tnx (c :: t)).2.2.1).1, 0) else ([], (tget (tnx (c :: t)).2.2.1).2) := by
        rw [if_pos h3]
        by_cases h5 : (tget (tnx (c :: t)).2.2.1).2 = 0
        · simp [h5]
        · simp [h5]
      rw [e]
      refine Ev.step (fun k => ?_) ih
      simp only [tlv_Get.l0]
      rw [if_pos (by simp), NextL _ hb hl, Option.bind_some, if_pos h3, if_pos (by omega)]
    · rw [if_neg h3]
      simp only [if_neg h3]
      exact Ev.step (fun k => by simp only [tlv_Get.l0]; rw [if_pos (by simp), NextL _ hb hl, Option.bind_some, if_neg h3]) (Ev.now _)
theorem GetL (l : List Int) (hb : Bytes l) (hl : Lim l) : Ev (fun k => tlv_Get.f k l) (tget l) := by
  have h := Get_l0' l.length l [] (Nat.le_refl _) hb hl (by unfold Lim at hl; simp; omega)
  have e : (if (tget l).2 = 0 then (([] : List AO) ++ (tget l).1, (0 : Int)) else ([], (tget l).2)) = tget l := by
    split
    · rename_i h; exact Prod.ext rfl h.symm
    · rename_i h; exact Prod.ext (tget_err l.length l (Nat.le_refl _) h).1.symm rfl
  rw [e] at h
  exact h
end Go.Proofs.Ytgjeahgagciagaa.Sp
