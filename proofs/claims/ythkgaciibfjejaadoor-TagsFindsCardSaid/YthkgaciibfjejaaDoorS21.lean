/- What the printed functions of layer 21 (tags), of its reference and of the law come to, in plain words. -/
import Derived.Test.YthkgaciibfjejaaDoorS21w
import Derived.Test.YthkgaciibfjejaaDoorPrintTagsPut
import Derived.Test.YthkgaciibfjejaaDoorPrintTagsGet
import Derived.Test.YthkgaciibfjejaaDoorPrintTagsName
import Derived.Test.YthkgaciibfjejaaDoorPrintBytesClone
import Derived.Test.YthkgaciibfjejaaDoorPrintMarlinelaw21Few
import Derived.Test.YthkgaciibfjejaaDoorPrintMarlinelaw21Of
import Derived.Test.YthkgaciibfjejaaDoorPrintMarlinelaw21To
import Derived.Test.YthkgaciibfjejaaDoorPrintMarlinelaw21Speaks
import Derived.Test.YthkgaciibfjejaaDoorPrintMarlineref21Same
import Derived.Test.YthkgaciibfjejaaDoorPrintMarlineref21Put
import Derived.Test.YthkgaciibfjejaaDoorPrintMarlineref21Get
import Derived.Test.YthkgaciibfjejaaDoorPrintMarlineref21Name
namespace Go.Proofs.YthkgaciibfjejaaDoor.Sp
open Go.RowKit Go.Proofs.YthkgaciibfjejaaDoor.Print Go.Proofs.YthkgaciibfjejaaDoorW.PrintWords Go.Proofs.YthkgaciibfjejaaDoorW.PrintLast Go.Proofs.YthkgaciibfjejaaDoor.Pl
set_option linter.unusedVariables false
def U16 (x : Int) : Prop := 0 ≤ x ∧ x < 65536
abbrev AO := S50
abbrev RO := S32
def ao (o : RO) : AO := ⟨o.f0, o.f1⟩
def ro (o : AO) : RO := ⟨o.f0, o.f1⟩
theorem ro_ao (o : RO) : ro (ao o) = o := rfl
theorem ao_ro (o : AO) : ao (ro o) = o := rfl
theorem map_ro_ao (l : List RO) : (l.map ao).map ro = l := by rw [List.map_map]; exact List.map_id l
theorem map_ao_ro (l : List AO) : (l.map ro).map ao = l := by rw [List.map_map]; exact List.map_id l
instance decAO : DecidableEq AO := fun a b => decidable_of_iff (a.f0 = b.f0 ∧ a.f1 = b.f1) (by cases a; cases b; simp)
instance decRO : DecidableEq RO := fun a b => decidable_of_iff (a.f0 = b.f0 ∧ a.f1 = b.f1) (by cases a; cases b; simp)
theorem drop_get {α : Type} {z : α} {xs : List α} {i : Nat} {b : α} {t : List α} (h : xs.drop i = b :: t) : xs.getD ((i : Int)).toNat z = b ∧ xs.drop (i + 1) = t ∧ i < xs.length := by
  have hlt : i < xs.length := by
    rcases Nat.lt_or_ge i xs.length with h1 | h1
    · exact h1
    · rw [List.drop_eq_nil_of_le h1] at h; cases h
  rw [List.drop_eq_getElem_cons hlt] at h
  injection h with h1 h2
  refine ⟨?_, h2, hlt⟩
  rw [Int.toNat_natCast, List.getD_eq_getElem?_getD, List.getElem?_eq_getElem hlt]
  exact h1
theorem rda {xs : List AO} {i : Nat} {b : AO} {t : List AO} (h : xs.drop i = b :: t) : rd_T50 xs (i : Int) = b ∧ xs.drop (i + 1) = t ∧ i < xs.length := drop_get h
theorem rdr {xs : List RO} {i : Nat} {b : RO} {t : List RO} (h : xs.drop i = b :: t) : rd_T32 xs (i : Int) = b ∧ xs.drop (i + 1) = t ∧ i < xs.length := drop_get h
theorem nil_len {α : Type} {xs : List α} {i : Nat} (h : xs.drop i = []) : xs.length ≤ i := List.drop_eq_nil_iff.1 h
theorem sucB (i : Nat) (h : i ≤ 4611686018427387904) : wrap64 ((i : Int) + 1) = ((i + 1 : Nat) : Int) := by rw [w64 (by omega) (by omega)]; omega

/-! ### few options -/
def tot : List RO → Nat
  | [] => 0
  | o :: t => o.f1.length + tot t
def Held (l : List RO) : Prop := l.length * 32 ≤ 140737488351232 ∧ ∀ o ∈ l, U16 o.f0 ∧ o.f1.length ≤ 140737488351232 ∧ Bytes o.f1
theorem tot_le : ∀ (t : List RO), (∀ o ∈ t, o.f1.length ≤ 140737488351232) → tot t ≤ t.length * 140737488351232
  | [], _ => by simp [tot]
  | o :: t, h => by
    have := tot_le t (fun o ho => h o (by simp [ho]))
    have := h o (by simp)
    simp only [tot, List.length_cons]
    omega
theorem Few_l0 (l : List RO) (hl : l.length ≤ 4398046511104) (hd : ∀ o ∈ l, o.f1.length ≤ 140737488351232) : ∀ (t : List RO) (i : Nat) (x : Int), l.drop i = t →
    ∃ y : Int, Ev (fun k => marlinelaw21_Few.l0 k l x l (l.length : Int) i) (if (l.length : Int) ≤ 60 then decide (y ≤ 1000) else false) ∧ (l.length ≤ 60 → 0 ≤ x → x + tot t ≤ 4611686018427387904 → y = x + tot t)
  | [], i, x, h => by
    have h3 := nil_len h
    refine ⟨x, ?_, fun _ _ _ => by simp [tot]⟩
    by_cases h6 : (l.length : Int) ≤ 60
    · rw [if_pos h6]
      exact Ev.step (fun k => by simp only [marlinelaw21_Few.l0]; rw [if_neg (by omega), if_pos h6]) (Ev.now _)
    · rw [if_neg h6]
      exact Ev.step (fun k => by simp only [marlinelaw21_Few.l0]; rw [if_neg (by omega), if_neg h6]) (Ev.now _)
  | o :: t, i, x, h => by
    obtain ⟨e1, e2, e3⟩ := rdr h
    obtain ⟨y, ih, hy⟩ := Few_l0 l hl hd t (i + 1) (wrap64 (x + (o.f1.length : Int))) e2
    refine ⟨y, Ev.step (fun k => ?_) ih, fun h6 h0 hx => ?_⟩
    · simp only [marlinelaw21_Few.l0]
      rw [if_pos (by omega), if_pos (by omega), if_pos (by omega), e1, sucB i (by omega)]
    · simp only [tot, Int.natCast_add] at hx ⊢
      have e : wrap64 (x + (o.f1.length : Int)) = x + o.f1.length := w64 (by omega) (by omega)
      rw [e] at hy
      rw [hy h6 (by omega) (by omega)]
      omega
theorem FewL (l : List RO) (hl : Held l) : Ev (fun k => marlinelaw21_Few.f k l) (decide (l.length ≤ 60 ∧ tot l ≤ 1000)) := by
  unfold marlinelaw21_Few.f
  have hd : ∀ o ∈ l, o.f1.length ≤ 140737488351232 := fun o ho => (hl.2 o ho).2.1
  have h1 := hl.1
  obtain ⟨y, hE, hy⟩ := Few_l0 l (by omega) hd l 0 0 rfl
  have ht := tot_le l hd
  have e : (if (l.length : Int) ≤ 60 then decide (y ≤ 1000) else false) = decide (l.length ≤ 60 ∧ tot l ≤ 1000) := by
    by_cases h6 : l.length ≤ 60
    · rw [if_pos (by omega), hy h6 (by omega) (by omega)]
      simp only [h6, true_and, decide_eq_decide]
      omega
    · rw [if_neg (by omega)]
      simp [h6]
  rw [← e]
  exact hE
/-! ### from the document's and to it -/
theorem Of_l0 (l : List RO) (hl : l.length ≤ 1000000) : ∀ (t : List RO) (i : Nat) (x : List AO), l.drop i = t → x.length + t.length ≤ 1000000 →
    Ev (fun k => marlinelaw21_Of.l0 k x l (l.length : Int) i) (x ++ t.map ao)
  | [], i, x, h, _ => by
    have h3 := nil_len h
    rw [List.map_nil, List.append_nil]
    exact Ev.step (fun k => by simp only [marlinelaw21_Of.l0]; rw [if_neg (by omega)]) (Ev.now _)
  | o :: t, i, x, h, hx => by
    obtain ⟨e1, e2, e3⟩ := rdr h
    simp only [List.length_cons] at hx
    have ih := Of_l0 l hl t (i + 1) (x ++ [ao o]) e2 (by simp; omega)
    rw [List.map_cons, show x ++ ao o :: t.map ao = (x ++ [ao o]) ++ t.map ao by simp]
    refine Ev.step (fun k => ?_) ih
    simp only [marlinelaw21_Of.l0]
    rw [if_pos (by omega), if_pos (by omega), if_pos (by omega), if_pos (by omega), e1, sucB i (by omega)]
    rfl
theorem OfL (l : List RO) (hl : l.length ≤ 1000000) : Ev (fun k => marlinelaw21_Of.f k l) (l.map ao) := Of_l0 l hl l 0 [] rfl (by simpa using hl)
theorem To_l0 (l : List AO) (hl : l.length ≤ 1000000) : ∀ (t : List AO) (i : Nat) (x : List RO), l.drop i = t → x.length + t.length ≤ 1000000 →
    Ev (fun k => marlinelaw21_To.l0 k x l (l.length : Int) i) (x ++ t.map ro)
  | [], i, x, h, _ => by
    have h3 := nil_len h
    rw [List.map_nil, List.append_nil]
    exact Ev.step (fun k => by simp only [marlinelaw21_To.l0]; rw [if_neg (by omega)]) (Ev.now _)
  | o :: t, i, x, h, hx => by
    obtain ⟨e1, e2, e3⟩ := rda h
    simp only [List.length_cons] at hx
    have ih := To_l0 l hl t (i + 1) (x ++ [ro o]) e2 (by simp; omega)
    rw [List.map_cons, show x ++ ro o :: t.map ro = (x ++ [ro o]) ++ t.map ro by simp]
    refine Ev.step (fun k => ?_) ih
    simp only [marlinelaw21_To.l0]
    rw [if_pos (by omega), if_pos (by omega), if_pos (by omega), if_pos (by omega), e1, sucB i (by omega)]
    rfl
theorem ToL (l : List AO) (hl : l.length ≤ 1000000) : Ev (fun k => marlinelaw21_To.f k l) (l.map ro) := To_l0 l hl l 0 [] rfl (by simpa using hl)
/-! ### the same tags -/
theorem ba_toList (s : ByteArray) : s.toList = s.data.toList := by
  have key : ∀ (n i : Nat) (r : List UInt8), s.size - i = n → ByteArray.toList.loop s i r = r.reverse ++ s.data.toList.drop i := by
    intro n
    induction n with
    | zero =>
      intro i r h
      unfold ByteArray.toList.loop
      rw [if_neg (by omega), List.drop_eq_nil_of_le (by show s.data.toList.length ≤ i; simp only [Array.length_toList]; have : s.data.size = s.size := rfl; omega), List.append_nil]
    | succ n ih =>
      intro i r h
      unfold ByteArray.toList.loop
      have hi : i < s.data.toList.length := by simp only [Array.length_toList]; have : s.data.size = s.size := rfl; omega
      rw [if_pos (by omega), ih (i + 1) _ (by omega), List.reverse_cons, List.append_assoc, List.drop_eq_getElem_cons hi]
      congr 1
      rw [List.singleton_append]
      congr 1
      show s.data[i]! = _
      rw [getElem!_pos s.data i (by simpa using hi)]
      simp
  have := key (s.size - 0) 0 [] rfl
  simpa [ByteArray.toList] using this
theorem octs_inj : ∀ {a b : List Int}, Bytes a → Bytes b → (a.map fun n => UInt8.ofNat n.toNat) = (b.map fun n => UInt8.ofNat n.toNat) → a = b
  | [], [], _, _, _ => rfl
  | [], _ :: _, _, _, h => by simp at h
  | _ :: _, [], _, _, h => by simp at h
  | x :: a, y :: b, ha, hb, h => by
    simp only [List.map_cons, List.cons.injEq] at h
    have e := octs_inj ha.tail hb.tail h.2
    have h1 := congrArg UInt8.toNat h.1
    have hx := ha.head; have hy := hb.head
    simp only [UInt8.toNat_ofNat'] at h1
    have hx0 := hx.1; have hx1 := hx.2; have hy0 := hy.1; have hy1 := hy.2
    rw [Nat.mod_eq_of_lt (by omega), Nat.mod_eq_of_lt (by omega)] at h1
    rw [e, show x = y by omega]
theorem sameOct {a b : List Int} (ha : Bytes a) (hb : Bytes b) : ((strOfNums a).toList == (strOfNums b).toList) = decide (a = b) := by
  rw [ba_toList, ba_toList]
  by_cases h : a = b
  · subst h; simp
  · have h2 : ¬ (strOfNums a).data.toList = (strOfNums b).data.toList := fun e => h (octs_inj ha hb (by simpa [strOfNums] using e))
    rw [decide_eq_false h, beq_eq_false_iff_ne]
    exact h2
theorem rSame_l0 (a b : List RO) (hl : a.length = b.length) (ha : a.length ≤ 1000000) (hA : ∀ o ∈ a, Bytes o.f1) (hB : ∀ o ∈ b, Bytes o.f1) : ∀ (t u : List RO) (i : Nat), a.drop i = t → b.drop i = u → Ev (fun k => marlineref21_Same.l0 k a b i) (decide (t = u))
  | [], u, i, h1, h2 => by
    have h3 := nil_len h1
    obtain rfl : u = [] := by rw [← h2]; exact List.drop_eq_nil_of_le (by omega)
    exact Ev.step (fun k => by simp only [marlineref21_Same.l0]; rw [if_neg (by omega)]; rfl) (Ev.now _)
  | x :: t, [], i, h1, h2 => by
    have := nil_len h2
    obtain ⟨_, _, h3⟩ := rdr h1
    omega
  | x :: t, y :: u, i, h1, h2 => by
    obtain ⟨e1, e2, e3⟩ := rdr h1
    obtain ⟨f1, f2, f3⟩ := rdr h2
    have hx : Bytes x.f1 := hA x (by rw [← List.take_append_drop i a, h1]; simp)
    have hy : Bytes y.f1 := hB y (by rw [← List.take_append_drop i b, h2]; simp)
    have hs := sameOct hx hy
    refine Ev.step (fun k => by simp only [marlineref21_Same.l0]; rw [if_pos (by omega), if_pos (by omega), if_pos (by omega), e1, f1, sucB i (by omega)]) ?_
    by_cases h3 : x.f0 = y.f0
    · refine Ev.pos h3 ?_
      by_cases h4 : x.f1 = y.f1
      · have exy : x = y := by cases x; cases y; simp_all
        refine Ev.pos (by rw [h4]) ?_
        rw [show decide (x :: t = y :: u) = decide (t = u) by simp [exy]]
        exact rSame_l0 a b hl ha hA hB t u (i + 1) e2 f2
      · refine Ev.neg (fun e => ?_) ?_
        · rw [decide_eq_false h4, beq_eq_false_iff_ne] at hs
          exact hs e
        · rw [show decide (x :: t = y :: u) = false by simp; intro e; exact absurd (congrArg S32.f1 e) h4]
          exact Ev.now _
    · refine Ev.neg h3 ?_
      rw [show decide (x :: t = y :: u) = false by simp; intro e; exact absurd (congrArg S32.f0 e) h3]
      exact Ev.now _
theorem rSameL (a b : List RO) (ha : a.length ≤ 1000000) (hA : ∀ o ∈ a, Bytes o.f1) (hB : ∀ o ∈ b, Bytes o.f1) : Ev (fun k => marlineref21_Same.f k a b) (decide (a = b)) := by
  by_cases hl : a.length = b.length
  · exact Ev.congr (fun k => by unfold marlineref21_Same.f; rw [if_pos (by omega)]; rfl) (rSame_l0 a b hl ha hA hB a b 0 rfl rfl)
  · rw [show decide (a = b) = false by simp; rintro rfl; exact hl rfl]
    exact Ev.congr (fun k => by unfold marlineref21_Same.f; rw [if_neg (by omega)]) (Ev.now _)
/-! ### how many octets -/
def size : List AO → Nat
  | [] => 0
  | o :: t => 4 + o.f1.length + size t
theorem len_size (l : List AO) : l.length ≤ size l := by
  induction l with
  | nil => simp
  | cons o t ih => simp only [List.length_cons, size]; omega
theorem size_ao (l : List RO) : size (l.map ao) = 4 * l.length + tot l := by
  induction l with
  | nil => rfl
  | cons o t ih => simp only [List.map_cons, size, ih, List.length_cons, tot, ao]; omega
/-! ### written -/
def gput : List AO → List Int × Int
  | [] => ([], 0)
  | o :: t => if o.f0 = 0 then ([], 8) else if 65535 < o.f1.length then ([], 3) else if (gput t).2 = 0 then (be 2 o.f0 ++ be 2 o.f1.length ++ o.f1 ++ (gput t).1, 0) else ([], (gput t).2)
theorem gput_err (l : List AO) (h : (gput l).2 ≠ 0) : (gput l).1 = [] := by
  cases l with
  | nil => exact absurd rfl h
  | cons o t =>
    unfold gput at h ⊢
    split
    · rfl
    · rename_i h0
      rw [if_neg h0] at h
      split
      · rfl
      · rename_i h1
        rw [if_neg h1] at h
        split
        · rename_i h2; rw [if_pos h2] at h; exact absurd rfl h
        · rfl
theorem gput_length (l : List AO) (h : (gput l).2 = 0) : (gput l).1.length = size l := by
  induction l with
  | nil => rfl
  | cons o t ih =>
    unfold gput at h ⊢
    split
    · rename_i h0; rw [if_pos h0] at h; cases h
    · rename_i h0
      rw [if_neg h0] at h
      split
      · rename_i h1; rw [if_pos h1] at h; cases h
      · rename_i h1
        rw [if_neg h1] at h
        split
        · rename_i h2
          simp only [List.length_append, be_length, ih h2, size]
        · rename_i h2; rw [if_neg h2] at h; exact absurd h h2
theorem GPut_l0 (l : List AO) (hl : l.length ≤ 1000000) (hu : ∀ o ∈ l, U16 o.f0) : ∀ (t : List AO) (i : Nat) (x : List Int), l.drop i = t → x.length + size t ≤ 1900000 →
    Ev (fun k => tags_Put.l0 k x l (l.length : Int) i) (if (gput t).2 = 0 then (x ++ (gput t).1, 0) else ([], (gput t).2))
  | [], i, x, h, _ => by
    have h3 := nil_len h
    rw [gput, if_pos rfl, List.append_nil]
    exact Ev.step (fun k => by simp only [tags_Put.l0]; rw [if_neg (by omega)]) (Ev.now _)
  | o :: t, i, x, h, hx => by
    obtain ⟨e1, e2, e3⟩ := rda h
    simp only [size] at hx
    have ho : U16 o.f0 := hu o (by rw [← List.take_append_drop i l, h]; simp)
    have ho0 := ho.1
    have ho1 := ho.2
    by_cases h0 : o.f0 = 0
    · rw [show gput (o :: t) = ([], 8) by rw [gput, if_pos h0], if_neg (by decide)]
      exact Ev.step (fun k => by simp only [tags_Put.l0]; rw [if_pos (by omega), if_pos (by omega), if_pos (by omega), e1, if_pos h0]) (Ev.now _)
    by_cases h1 : 65535 < o.f1.length
    · rw [show gput (o :: t) = ([], 3) by rw [gput, if_neg h0, if_pos h1], if_neg (by decide)]
      exact Ev.step (fun k => by simp only [tags_Put.l0]; rw [if_pos (by omega), if_pos (by omega), if_pos (by omega), e1, if_neg h0, if_pos (by omega)]) (Ev.now _)
    · have ih := GPut_l0 l hl hu t (i + 1) (x ++ be 2 o.f0 ++ be 2 o.f1.length ++ o.f1) e2 (by simp only [List.length_append, be_length]; omega)
      have e : (if (gput (o :: t)).2 = 0 then (x ++ (gput (o :: t)).1, (0 : Int)) else ([], (gput (o :: t)).2)) = if (gput t).2 = 0 then ((x ++ be 2 o.f0 ++ be 2 o.f1.length ++ o.f1) ++ (gput t).1, 0) else ([], (gput t).2) := by
        rw [gput, if_neg h0, if_neg h1]
        by_cases h2 : (gput t).2 = 0
        · simp [h2]
        · simp [h2]
      rw [e]
      refine Ev.step (fun k => by simp only [tags_Put.l0]; rw [if_pos (by omega), if_pos (by omega), if_pos (by omega), e1, if_neg h0, if_neg (by omega), wu64 (x := o.f0) (by omega) (by omega), wu64 (x := (o.f1.length : Int)) (by omega) (by omega), sucB i (by omega)]) ?_
      refine Ev.bind (WPut x o.f0 ho0 2 (by omega) (by omega)) (Ev.bind (WPut _ (o.f1.length : Int) (by omega) 2 (by omega) (by simp only [List.length_append, be_length]; omega)) (Ev.pos (by simp only [List.length_append, be_length]; omega) ih))
theorem GPutL (l : List AO) (hs : size l ≤ 1000000) (hu : ∀ o ∈ l, U16 o.f0) : Ev (fun k => tags_Put.f k l) (gput l) := by
  unfold tags_Put.f
  have h := GPut_l0 l (by have := len_size l; omega) hu l 0 [] rfl (by simp; omega)
  have e : (if (gput l).2 = 0 then ([] ++ (gput l).1, (0 : Int)) else ([], (gput l).2)) = gput l := by
    split
    · rename_i h; exact Prod.ext rfl h.symm
    · rename_i h; exact Prod.ext (gput_err l h).symm rfl
  rw [e] at h
  exact h
theorem rPut_l0 (l : List RO) (hl : l.length ≤ 1000000) (hu : ∀ o ∈ l, U16 o.f0) : ∀ (t : List RO) (i : Nat) (x : List Int), l.drop i = t → x.length + size (t.map ao) ≤ 1900000 →
    Ev (fun k => marlineref21_Put.l0 k l x i) (if (gput (t.map ao)).2 = 0 then (x ++ (gput (t.map ao)).1, 0) else ([], (gput (t.map ao)).2))
  | [], i, x, h, _ => by
    have h3 := nil_len h
    rw [List.map_nil, gput, if_pos rfl, List.append_nil]
    exact Ev.step (fun k => by simp only [marlineref21_Put.l0]; rw [if_neg (by omega)]) (Ev.now _)
  | o :: t, i, x, h, hx => by
    obtain ⟨e1, e2, e3⟩ := rdr h
    simp only [List.map_cons, size] at hx
    have ef : (ao o).f1 = o.f1 := rfl
    have ef0 : (ao o).f0 = o.f0 := rfl
    rw [ef] at hx
    have ho : U16 o.f0 := hu o (by rw [← List.take_append_drop i l, h]; simp)
    have ho0 := ho.1
    have ho1 := ho.2
    by_cases h0 : o.f0 = 0
    · rw [show gput ((o :: t).map ao) = ([], 8) by rw [List.map_cons, gput, if_pos (by rw [ef0]; exact h0)], if_neg (by decide)]
      exact Ev.step (fun k => by simp only [marlineref21_Put.l0]; rw [if_pos (by omega), if_pos (by omega), e1, if_pos h0]) (Ev.now _)
    by_cases h1 : 65535 < o.f1.length
    · rw [show gput ((o :: t).map ao) = ([], 3) by rw [List.map_cons, gput, if_neg (by rw [ef0]; exact h0), if_pos (by rw [ef]; exact h1)], if_neg (by decide)]
      exact Ev.step (fun k => by simp only [marlineref21_Put.l0]; rw [if_pos (by omega), if_pos (by omega), e1, if_neg h0, if_pos (by omega)]) (Ev.now _)
    · have ih := rPut_l0 l hl hu t (i + 1) (x ++ (be 2 o.f0 ++ be 2 o.f1.length) ++ o.f1) e2 (by simp only [List.length_append, be_length]; omega)
      have e : (if (gput ((o :: t).map ao)).2 = 0 then (x ++ (gput ((o :: t).map ao)).1, (0 : Int)) else ([], (gput ((o :: t).map ao)).2)) = if (gput (t.map ao)).2 = 0 then ((x ++ (be 2 o.f0 ++ be 2 o.f1.length) ++ o.f1) ++ (gput (t.map ao)).1, 0) else ([], (gput (t.map ao)).2) := by
        rw [List.map_cons, gput, ef, ef0, if_neg h0, if_neg h1]
        by_cases h2 : (gput (t.map ao)).2 = 0
        · simp [h2]
        · simp [h2]
      rw [e]
      have eb : [(IntKind.u16.wrap (Int.tdiv o.f0 256)) % 256, (Int.tmod o.f0 256) % 256, (wrap64 ((o.f1.length : Int) / 256)) % 256, (o.f1.length : Int) % 256] = be 2 o.f0 ++ be 2 o.f1.length := by
        rw [be2, be2, IntKind.wrap_u16, Int.tdiv_eq_ediv_of_nonneg ho0, Int.tmod_eq_emod_of_nonneg ho0, w64 (by omega) (by omega), show o.f0 / 256 % 65536 = o.f0 / 256 by omega, Int.emod_emod]
        rfl
      refine Ev.step (fun k => by simp only [marlineref21_Put.l0]; rw [if_pos (by omega), if_pos (by omega), e1, if_neg h0, if_neg (by omega), Option.bind_some, eb, if_pos (by simp only [List.length_append, be_length]; omega), Option.bind_some, if_pos (by simp only [List.length_append, be_length]; omega), sucB i (by omega)]) ih
theorem rPutL (l : List RO) (hs : size (l.map ao) ≤ 1000000) (hu : ∀ o ∈ l, U16 o.f0) : Ev (fun k => marlineref21_Put.f k l) (gput (l.map ao)) := by
  unfold marlineref21_Put.f
  have h := rPut_l0 l (by have := len_size (l.map ao); rw [List.length_map] at this; omega) hu l 0 [] rfl (by simp; omega)
  have e : (if (gput (l.map ao)).2 = 0 then ([] ++ (gput (l.map ao)).1, (0 : Int)) else ([], (gput (l.map ao)).2)) = gput (l.map ao) := by
    split
    · rename_i h; exact Prod.ext rfl h.symm
    · rename_i h; exact Prod.ext (gput_err _ h).symm rfl
  rw [e] at h
  exact h
end Go.Proofs.YthkgaciibfjejaaDoor.Sp
