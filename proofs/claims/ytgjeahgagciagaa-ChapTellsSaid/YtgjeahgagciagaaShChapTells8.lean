/- Texts of this claim, several in one, told shortly by a program of this claim (wip/x/shrink.py): what Go functions come to, and plain words on it. -/
import Derived.Test.YtgjeahgagciagaaShChapTells6
import Derived.Test.YtgjeahgagciagaaShChapTells7
namespace Go.Proofs.Ytgjeahgagciagaa.Sp
open Go.RowKit Go.Proofs.Ytgjeahgagciagaa.Print Go.Proofs.YtgjeahgagciagaaW.PrintWords Go.Proofs.YtgjeahgagciagaaW.PrintLast Go.Proofs.Ytgjeahgagciagaa.Pl
set_option linter.unusedVariables false
theorem Ev.pos {α : Type} {c : Prop} [Decidable c] {g h : Nat → Option α} {r : α} (hc : c) (k : Ev g r) : Ev (fun n => if c then g n else h n) r :=
 Ev.congr (fun n => if_pos hc) k
theorem Ev.neg {α : Type} {c : Prop} [Decidable c] {g h : Nat → Option α} {r : α} (hc : ¬ c) (k : Ev h r) : Ev (fun n => if c then g n else h n) r :=
 Ev.congr (fun n => if_neg hc) k
theorem Ev.end_ {α : Type} {x r : α} (h : x = r) : Ev (fun _ => some x) r := h ▸ Ev.now _
theorem Ev.name {α β : Type} {x : β} {g : Nat → β → Option α} {r : α} (h : Ev (fun n => g n x) r) : Ev (fun n => (some x).bind (g n)) r := Ev.congr (fun n => Option.bind_some _ _) h
def Lim (l : List Int) : Prop := l.length ≤ 1000000
theorem suc (i : Nat) (h : i ≤ 2000000) : wrap64 ((i : Int) + 1) = ((i + 1 : Nat) : Int) := by rw [w64 (by omega) (by omega)]; omega
theorem Equal_l0 (a b : List Int) (hl : a.length = b.length) (ha : Lim a) : ∀ (t u : List Int) (i : Nat), a.drop i = t → b.drop i = u → Ev (fun k => marlineref01_Equal.l0 k a b i) (decide (t = u))
 | [], u, i, h1, h2 => by
  have h3 := drop_nil_len h1
  have h4 := drop_len h2
  obtain rfl : u = [] := List.eq_nil_of_length_eq_zero (by omega)
  exact Ev.step (fun k => by simp only [marlineref01_Equal.l0]; rw [if_neg (by omega)]; rfl) (Ev.now _)
 | x :: t, u, i, h1, h2 => by
  obtain ⟨e1, e2, e3⟩ := rd_drop h1
  cases u with
  | nil => have := drop_nil_len h2; omega
  | cons y u =>
   obtain ⟨f1, f2, f3⟩ := rd_drop h2
   unfold Lim at ha
   by_cases hxy : x = y
   · subst hxy
     have ih := Equal_l0 a b hl ha t u (i + 1) e2 f2
     rw [show decide (x :: t = x :: u) = decide (t = u) by simp]
     exact Ev.step (fun k => by simp only [marlineref01_Equal.l0]; rw [if_pos (by omega), if_pos (by omega), if_pos (by omega), e1, f1, if_pos rfl, suc i (by omega)]) ih
   · rw [show decide (x :: t = y :: u) = false by simp [hxy]]
     exact Ev.step (fun k => by simp only [marlineref01_Equal.l0]; rw [if_pos (by omega), if_pos (by omega), if_pos (by omega), e1, f1, if_neg hxy]) (Ev.now _)
theorem Equal (a b : List Int) (ha : Lim a) : Ev (fun k => marlineref01_Equal.f k a b) (decide (a = b)) := by
 by_cases hl : a.length = b.length
 · exact Ev.congr (fun k => by unfold marlineref01_Equal.f; rw [if_pos (by omega)]; rfl) (Equal_l0 a b hl ha a b 0 rfl rfl)
 · rw [show decide (a = b) = false by simp; rintro rfl; exact hl rfl]
   exact Ev.congr (fun k => by unfold marlineref01_Equal.f; rw [if_neg (by omega)]) (Ev.now _)
end Go.Proofs.Ytgjeahgagciagaa.Sp
namespace Go.Proofs.Ytgjeahgagciagaa.Sp
open Go.RowKit Go.Proofs.Ytgjeahgagciagaa.Print Go.Proofs.YtgjeahgagciagaaW.PrintWords Go.Proofs.YtgjeahgagciagaaW.PrintLast Go.Proofs.Ytgjeahgagciagaa.Pl
set_option linter.unusedVariables false
abbrev AO := S57
abbrev RO := S56
def ao (o : RO) : AO := ⟨o.f0, o.f1⟩
def ro (o : AO) : RO := ⟨o.f0, o.f1⟩
instance decRO : DecidableEq RO := fun a b => decidable_of_iff (a.f0 = b.f0 ∧ a.f1 = b.f1) (by cases a; cases b; simp)
theorem drop_get {α : Type} {z : α} {xs : List α} {i : Nat} {b : α} {t : List α} (h : xs.drop i = b :: t) : xs.getD ((i : Int)).toNat z = b ∧ xs.drop (i + 1) = t ∧ i < xs.length := by
 have hlt : i < xs.length := by
  rcases Nat.lt_or_ge i xs.length with h1 | h1
  · exact h1
  · rw [List.drop_eq_nil_of_le h1] at h; cases h
 rw [List.drop_eq_getElem_cons hlt] at h
 injection h with h1 h2
 refine ⟨?_, h2, hlt⟩
 rw [Int.toNat_natCast, List.getD_eq_getElem?_getD, List.getElem?_eq_getElem hlt]
 exact h1
theorem rda {xs : List AO} {i : Nat} {b : AO} {t : List AO} (h : xs.drop i = b :: t) : rd_T57 xs (i : Int) = b ∧ xs.drop (i + 1) = t ∧ i < xs.length := drop_get h
theorem rdr {xs : List RO} {i : Nat} {b : RO} {t : List RO} (h : xs.drop i = b :: t) : rd_T56 xs (i : Int) = b ∧ xs.drop (i + 1) = t ∧ i < xs.length := drop_get h
theorem nil_len {α : Type} {xs : List α} {i : Nat} (h : xs.drop i = []) : xs.length ≤ i := List.drop_eq_nil_iff.1 h
theorem sucB (i : Nat) (h : i ≤ 4611686018427387904) : wrap64 ((i : Int) + 1) = ((i + 1 : Nat) : Int) := by rw [w64 (by omega) (by omega)]; omega
def tot : List RO → Nat
 | [] => 0
 | o :: t => o.f1.length + tot t
def Held (l : List RO) : Prop := l.length * 32 ≤ 140737488351232 ∧ ∀ o ∈ l, Byte o.f0 ∧ o.f1.length ≤ 140737488351232 ∧ Bytes o.f1
theorem tot_le : ∀ (t : List RO), (∀ o ∈ t, o.f1.length ≤ 140737488351232) → tot t ≤ t.length * 140737488351232
 | [], _ => by simp [tot]
 | o :: t, h => by
  have := tot_le t (fun o ho => h o (by simp [ho]))
  have := h o (by simp)
  simp only [tot, List.length_cons]
  omega
theorem Few_l0 (l : List RO) (hl : l.length ≤ 4398046511104) (hd : ∀ o ∈ l, o.f1.length ≤ 140737488351232) : ∀ (t : List RO) (i : Nat) (x : Int), l.drop i = t →
 ∃ y : Int, Ev (fun k => marlinelaw12_Few.l0 k l x l (l.length : Int) i) (if (l.length : Int) ≤ 60 then decide (y ≤ 1000) else false) ∧ (l.length ≤ 60 → 0 ≤ x → x + tot t ≤ 4611686018427387904 → y = x + tot t)
 | [], i, x, h => by
  have h3 := nil_len h
  refine ⟨x, ?_, fun _ _ _ => by simp [tot]⟩
  by_cases h6 : (l.length : Int) ≤ 60
  · rw [if_pos h6]
    exact Ev.step (fun k => by simp only [marlinelaw12_Few.l0]; rw [if_neg (by omega), if_pos h6]) (Ev.now _)
  · rw [if_neg h6]
    exact Ev.step (fun k => by simp only [marlinelaw12_Few.l0]; rw [if_neg (by omega), if_neg h6]) (Ev.now _)
 | o :: t, i, x, h => by
  obtain ⟨e1, e2, e3⟩ := rdr h
  obtain ⟨y, ih, hy⟩ := Few_l0 l hl hd t (i + 1) (wrap64 (x + (o.f1.length : Int))) e2
  refine ⟨y, Ev.step (fun k => ?_) ih, fun h6 h0 hx => ?_⟩
  · simp only [marlinelaw12_Few.l0]
    rw [if_pos (by omega), if_pos (by omega), if_pos (by omega), e1, sucB i (by omega)]
  · simp only [tot, Int.natCast_add] at hx ⊢
    have e : wrap64 (x + (o.f1.length : Int)) = x + o.f1.length := w64 (by omega) (by omega)
    rw [e] at hy
    rw [hy h6 (by omega) (by omega)]
    omega
theorem FewL (l : List RO) (hl : Held l) : Ev (fun k => marlinelaw12_Few.f k l) (decide (l.length ≤ 60 ∧ tot l ≤ 1000)) := by
 unfold marlinelaw12_Few.f
 have hd : ∀ o ∈ l, o.f1.length ≤ 140737488351232 := fun o ho => (hl.2 o ho).2.1
 have h1 := hl.1
 obtain ⟨y, hE, hy⟩ := Few_l0 l (by omega) hd l 0 0 rfl
 have ht := tot_le l hd
 have e : (if (l.length : Int) ≤ 60 then decide (y ≤ 1000) else false) = decide (l.length ≤ 60 ∧ tot l ≤ 1000) := by
  by_cases h6 : l.length ≤ 60
  · rw [if_pos (by omega), hy h6 (by omega) (by omega)]
    simp only [h6, true_and, decide_eq_decide]
    omega
  · rw [if_neg (by omega)]
    simp [h6]
 rw [← e]
 exact hE
theorem Of_l0 (l : List RO) (hl : l.length ≤ 1000000) : ∀ (t : List RO) (i : Nat) (x : List AO), l.drop i = t → x.length + t.length ≤ 1000000 →
 Ev (fun k => marlinelaw12_Of.l0 k x l (l.length : Int) i) (x ++ t.map ao)
 | [], i, x, h, _ => by
  have h3 := nil_len h
  rw [List.map_nil, List.append_nil]
  exact Ev.step (fun k => by simp only [marlinelaw12_Of.l0]; rw [if_neg (by omega)]) (Ev.now _)
 | o :: t, i, x, h, hx => by
  obtain ⟨e1, e2, e3⟩ := rdr h
  simp only [List.length_cons] at hx
  have ih := Of_l0 l hl t (i + 1) (x ++ [ao o]) e2 (by simp; omega)
  rw [List.map_cons, show x ++ ao o :: t.map ao = (x ++ [ao o]) ++ t.map ao by simp]
  refine Ev.step (fun k => ?_) ih
  simp only [marlinelaw12_Of.l0]
  rw [if_pos (by omega), if_pos (by omega), if_pos (by omega), if_pos (by omega), e1, sucB i (by omega)]
  rfl
theorem OfL (l : List RO) (hl : l.length ≤ 1000000) : Ev (fun k => marlinelaw12_Of.f k l) (l.map ao) := Of_l0 l hl l 0 [] rfl (by simpa using hl)
theorem To_l0 (l : List AO) (hl : l.length ≤ 1000000) : ∀ (t : List AO) (i : Nat) (x : List RO), l.drop i = t → x.length + t.length ≤ 1000000 →
 Ev (fun k => marlinelaw12_To.l0 k x l (l.length : Int) i) (x ++ t.map ro)
 | [], i, x, h, _ => by
  have h3 := nil_len h
  rw [List.map_nil, List.append_nil]
  exact Ev.step (fun k => by simp only [marlinelaw12_To.l0]; rw [if_neg (by omega)]) (Ev.now _)
 | o :: t, i, x, h, hx => by
  obtain ⟨e1, e2, e3⟩ := rda h
  simp only [List.length_cons] at hx
  have ih := To_l0 l hl t (i + 1) (x ++ [ro o]) e2 (by simp; omega)
  rw [List.map_cons, show x ++ ro o :: t.map ro = (x ++ [ro o]) ++ t.map ro by simp]
  refine Ev.step (fun k => ?_) ih
  simp only [marlinelaw12_To.l0]
  rw [if_pos (by omega), if_pos (by omega), if_pos (by omega), if_pos (by omega), e1, sucB i (by omega)]
  rfl
theorem ToL (l : List AO) (hl : l.length ≤ 1000000) : Ev (fun k => marlinelaw12_To.f k l) (l.map ro) := To_l0 l hl l 0 [] rfl (by simpa using hl)
def size : List AO → Nat
 | [] => 0
 | o :: t => 2 + o.f1.length + size t
theorem size_append (a b : List AO) : size (a ++ b) = size a + size b := by
 induction a with
 | nil => simp [size]
 | cons o t ih => simp only [List.cons_append, size, ih]; omega
theorem CloneL (l : List Int) (hl : Lim l) : slices_Clone_byte_byte.f l = some l := by
 unfold slices_Clone_byte_byte.f; unfold Lim at hl; rw [if_pos (by omega)]
end Go.Proofs.Ytgjeahgagciagaa.Sp
namespace Go.Proofs.Ytgjeahgagciagaa.Sp
open Go.RowKit Go.Proofs.Ytgjeahgagciagaa.Print Go.Proofs.YtgjeahgagciagaaW.PrintWords Go.Proofs.YtgjeahgagciagaaW.PrintLast Go.Proofs.Ytgjeahgagciagaa.Pl
set_option linter.unusedVariables false
theorem rSame_l0 (a b : List RO) (hl : a.length = b.length) (ha : a.length ≤ 1000000) (hb : ∀ o ∈ a, Lim o.f1) : ∀ (t u : List RO) (i : Nat), a.drop i = t → b.drop i = u → Ev (fun k => marlineref12_Same.l0 k a b i) (decide (t = u))
 | [], u, i, h1, h2 => by
  have h3 := nil_len h1
  obtain rfl : u = [] := by rw [← h2]; exact List.drop_eq_nil_of_le (by omega)
  exact Ev.step (fun k => by simp only [marlineref12_Same.l0]; rw [if_neg (by omega)]; rfl) (Ev.now _)
 | x :: t, [], i, h1, h2 => by
  have := nil_len h2
  obtain ⟨_, _, h3⟩ := rdr h1
  omega
 | x :: t, y :: u, i, h1, h2 => by
  obtain ⟨e1, e2, e3⟩ := rdr h1
  obtain ⟨f1, f2, f3⟩ := rdr h2
  have hx : Lim x.f1 := hb x (by rw [← List.take_append_drop i a, h1]; simp)
  have step : ∀ k, marlineref12_Same.l0 (k + 1) a b i = if x.f0 = y.f0 then ((marlineref01_Equal.f k x.f1 y.f1).bind fun q => if q = true then marlineref12_Same.l0 k a b ((i + 1 : Nat) : Int) else some false) else some false := fun k => by
   simp only [marlineref12_Same.l0]
   rw [if_pos (by omega), if_pos (by omega), if_pos (by omega), e1, f1, sucB i (by omega)]
  refine Ev.step step ?_
  by_cases h3 : x.f0 = y.f0
  · simp only [if_pos h3]
    refine Ev.bind (Equal x.f1 y.f1 hx) ?_
    by_cases h4 : x.f1 = y.f1
    · simp only [h4, decide_true, if_true]
      have exy : x = y := by cases x; cases y; simp_all
      rw [show decide (x :: t = y :: u) = decide (t = u) by simp [exy]]
      exact rSame_l0 a b hl ha hb t u (i + 1) e2 f2
    · simp only [h4, decide_false, Bool.false_eq_true, if_false]
      rw [show decide (x :: t = y :: u) = false by simp; intro e; exact absurd (congrArg S56.f1 e) h4]
      exact Ev.now _
  · simp only [if_neg h3]
    rw [show decide (x :: t = y :: u) = false by simp; intro e; exact absurd (congrArg S56.f0 e) h3]
    exact Ev.now _
theorem rSameL (a b : List RO) (ha : a.length ≤ 1000000) (hb : ∀ o ∈ a, Lim o.f1) : Ev (fun k => marlineref12_Same.f k a b) (decide (a = b)) := by
 by_cases hl : a.length = b.length
 · exact Ev.congr (fun k => by unfold marlineref12_Same.f; rw [if_pos (by omega)]; rfl) (rSame_l0 a b hl ha hb a b 0 rfl rfl)
 · rw [show decide (a = b) = false by simp; rintro rfl; exact hl rfl]
   exact Ev.congr (fun k => by unfold marlineref12_Same.f; rw [if_neg (by omega)]) (Ev.now _)
theorem held_of {l : List RO} (h : (l.length ≤ 9223372036854775807 ∧ l.length * 32 ≤ 140737488351232) ∧ ∀ y0_ ∈ l, ((Lit.int .u8 y0_.f0).wf = true ∧ ((y0_.f1.length ≤ 9223372036854775807 ∧ y0_.f1.length * 1 ≤ 140737488351232) ∧ ∀ y1_ ∈ y0_.f1, (Lit.int .u8 y1_).wf = true))) : Held l :=
 ⟨h.1.2, fun o ho => ⟨u8_of_wf (h.2 o ho).1, by have := (h.2 o ho).2.1.2; omega, bytes_of_wf (h.2 o ho).2.2⟩⟩
end Go.Proofs.Ytgjeahgagciagaa.Sp
namespace Go.Proofs.Ytgjeahgagciagaa.Sp
open Go.RowKit Go.Proofs.Ytgjeahgagciagaa.Print Go.Proofs.YtgjeahgagciagaaW.PrintWords Go.Proofs.YtgjeahgagciagaaW.PrintLast Go.Proofs.Ytgjeahgagciagaa.Pl
set_option linter.unusedVariables false
def few15 (o : List RO) (l6 l7 l8 l9 : List Int) : Bool := decide ((o.length ≤ 60 ∧ tot o ≤ 1000) ∧ l6.length ≤ 600 ∧ l7.length ≤ 600 ∧ l8.length ≤ 600 ∧ l9.length ≤ 40)
theorem FewP (a0 a1 a2 : Int) (o : List RO) (a4 a5 : Int) (l6 l7 l8 l9 : List Int) (ho : Held o) : Ev (fun k => marlinelaw15_Few.f k a0 a1 a2 o a4 a5 l6 l7 l8 l9) (few15 o l6 l7 l8 l9) := by
 unfold marlinelaw15_Few.f few15
 refine Ev.bind (FewL o ho) ?_
 by_cases h : o.length ≤ 60 ∧ tot o ≤ 1000
 · refine Ev.pos (by simp [h]) ?_
   by_cases h6 : (l6.length : Int) ≤ 600
   · refine Ev.pos h6 ?_
     by_cases h7 : (l7.length : Int) ≤ 600
     · refine Ev.pos h7 ?_
       by_cases h8 : (l8.length : Int) ≤ 600
       · refine Ev.pos h8 (Ev.end_ ?_)
         simp only [decide_eq_decide]
         omega
       · exact Ev.neg h8 (Ev.end_ (by rw [eq_comm, decide_eq_false_iff_not]; omega))
     · exact Ev.neg h7 (Ev.end_ (by rw [eq_comm, decide_eq_false_iff_not]; omega))
   · exact Ev.neg h6 (Ev.end_ (by rw [eq_comm, decide_eq_false_iff_not]; omega))
 · exact Ev.neg (by simpa using h) (Ev.end_ (by rw [eq_comm, decide_eq_false_iff_not]; exact fun h2 => h h2.1))
theorem OfP (a0 a1 a2 : Int) (o : List RO) (a4 a5 : Int) (l6 l7 l8 l9 : List Int) (ho : o.length ≤ 1000000) : Ev (fun k => marlinelaw15_Of.f k a0 a1 a2 o a4 a5 l6 l7 l8 l9) (a0, a1, a2, o.map ao, a4, a5, l6, l7, l8, l9) := by
 unfold marlinelaw15_Of.f
 exact Ev.bind (OfL o ho) (Ev.now _)
theorem ToP (a0 a1 a2 : Int) (o : List AO) (a4 a5 : Int) (l6 l7 l8 l9 : List Int) (ho : o.length ≤ 1000000) : Ev (fun k => marlinelaw15_To.f k a0 a1 a2 o a4 a5 l6 l7 l8 l9) (a0, a1, a2, o.map ro, a4, a5, l6, l7, l8, l9) := by
 unfold marlinelaw15_To.f
 exact Ev.bind (ToL o ho) (Ev.now _)
theorem SameP_l0 (a0 a1 a2 : Int) (o : List RO) (a4 a5 : Int) (l6 l7 l8 l9 : List Int) (ho : o.length ≤ 1000000) (hd : ∀ x ∈ o, Lim x.f1) (h6 : Lim l6) (h7 : Lim l7) (h8 : Lim l8) (h9 : Lim l9) : ∀ (t : List Int) (i : Nat), l9.drop i = t →
 Ev (fun k => marlineref15_Same.l0 k i a0 a1 a2 o a4 a5 l6 l7 l8 l9 a0 a1 a2 o a4 a5 l6 l7 l8 l9) true
 | [], i, h => by
  have h3 := nil_len h
  refine Ev.step (fun k => by simp only [marlineref15_Same.l0]; rw [if_neg (by omega)]) ?_
  refine Ev.bind (rSameL o o ho hd) (Ev.pos (by simp) (Ev.bind (Equal l6 l6 h6) (Ev.pos (by simp) (Ev.bind (Equal l7 l7 h7) (Ev.pos (by simp) (Ev.bind (Equal l8 l8 h8) ?_))))))
  exact Ev.end_ (by simp)
 | c :: t, i, h => by
  obtain ⟨e1, e2, e3⟩ := rd_drop h
  unfold Lim at h9
  have ih := SameP_l0 a0 a1 a2 o a4 a5 l6 l7 l8 l9 ho hd h6 h7 h8 h9 t (i + 1) e2
  exact Ev.step (fun k => by simp only [marlineref15_Same.l0]; rw [if_pos (by omega), if_pos (by omega), if_pos (by omega), if_pos trivial, suc i (by omega)]) ih
theorem SameP (a0 a1 a2 : Int) (o : List RO) (a4 a5 : Int) (l6 l7 l8 l9 : List Int) (ho : o.length ≤ 1000000) (hd : ∀ x ∈ o, Lim x.f1) (h6 : Lim l6) (h7 : Lim l7) (h8 : Lim l8) (h9 : Lim l9) :
 Ev (fun k => marlineref15_Same.f k a0 a1 a2 o a4 a5 l6 l7 l8 l9 a0 a1 a2 o a4 a5 l6 l7 l8 l9) true := by
 unfold marlineref15_Same.f
 refine Ev.pos rfl (Ev.pos rfl (Ev.pos rfl (Ev.pos rfl (Ev.pos rfl ?_))))
 refine Ev.step (fun k => by simp only [marlineref15_Same.j0]; rw [if_neg (by simp)]) ?_
 exact SameP_l0 a0 a1 a2 o a4 a5 l6 l7 l8 l9 ho hd h6 h7 h8 h9 l9 0 rfl
end Go.Proofs.Ytgjeahgagciagaa.Sp
namespace Go.Proofs.Ytgjeahgagciagaa.Sp
open Go.RowKit Go.Proofs.Ytgjeahgagciagaa.Print Go.Proofs.YtgjeahgagciagaaW.PrintWords Go.Proofs.YtgjeahgagciagaaW.PrintLast Go.Proofs.Ytgjeahgagciagaa.Pl
set_option linter.unusedVariables false
def be : Nat → Int → List Int
 | 0, _ => []
 | s + 1, n => n / 256 ^ s % 256 :: be s n
theorem be_length (s : Nat) (n : Int) : (be s n).length = s := by
 induction s with
 | zero => rfl
 | succ s ih => simp [be, ih]
theorem Put_l0 (n : Int) (hn : 0 ≤ n) : ∀ (s : Nat) (x : List Int), s ≤ 8 → x.length + s ≤ 3000000 → Ev (fun k => wire_Put.l0 k x n ((s : Int) - 1)) (x ++ be s n)
 | 0, x, h1, h2 => by
  rw [be, List.append_nil]
  exact Ev.step (fun k => by simp only [wire_Put.l0]; rw [if_neg (by omega)]) (Ev.now _)
 | s + 1, x, h1, h2 => by
  have ih := Put_l0 n hn s (x ++ [n / 256 ^ s % 256]) (by omega) (by simp; omega)
  rw [be, show x ++ n / 256 ^ s % 256 :: be s n = (x ++ [n / 256 ^ s % 256]) ++ be s n by simp]
  refine Ev.step (fun k => ?_) ih
  have e : shr .u64 n (8 * (s : Int)) = n / 256 ^ s := by
   unfold shr
   have h3 : (8 * (s : Int)).toNat = 8 * s := by omega
   rw [h3, Nat.min_eq_left (by simp [IntKind.bits]; omega), Int.pow_mul]
   rfl
  simp only [wire_Put.l0]
  rw [show (((s + 1 : Nat) : Int) - 1) = (s : Int) by omega, if_pos (by omega), w64 (x := 8 * (s : Int)) (by omega) (by omega), if_pos (by omega), if_pos (by omega), e, w64 (x := (s : Int) - 1) (by omega) (by omega)]
theorem WPut (x : List Int) (n : Int) (hn : 0 ≤ n) (s : Nat) (hs : s ≤ 8) (hx : x.length ≤ 2000000) : Ev (fun k => wire_Put.f k x n s) (x ++ be s n) := by
 unfold wire_Put.f
 simp only [w64 (x := (s : Int) - 1) (by omega) (by omega)]
 exact Put_l0 n hn s x hs (by omega)
def num : Int → List Int → Int
 | a, [] => a
 | a, c :: t => num (a * 256 + c) t
theorem Get_l0 (l : List Int) (hl : l.length ≤ 8) (hb : Bytes l) : ∀ (t : List Int) (i : Nat) (a : Int), l.drop i = t → 0 ≤ a → a < 256 ^ i → Ev (fun k => wire_Get.l0 k a l (l.length : Int) i) (num a t)
 | [], i, a, h1, h0, ha => by
  have h3 := drop_nil_len h1
  rw [num]
  exact Ev.step (fun k => by simp only [wire_Get.l0]; rw [if_neg (by omega)]) (Ev.now _)
 | c :: t, i, a, h1, h0, ha => by
  obtain ⟨e1, e2, e3⟩ := rd_drop h1
  have hc : Byte c := by
   have h4 := hb.drop i
   rw [h1] at h4
   exact h4.head
  have hc0 := hc.1; have hc1 := hc.2
  have hi7 : (256 : Int) ^ i ≤ 256 ^ 7 := by
   have h9 : (256 : Nat) ^ i ≤ 256 ^ 7 := Nat.pow_le_pow_right (by omega) (by omega)
   have h8 := Int.ofNat_le.2 h9
   rw [Int.natCast_pow, Int.natCast_pow] at h8
   exact h8
  have h7 : (256 : Int) ^ 7 = 72057594037927936 := by decide
  have ih := Get_l0 l hl hb t (i + 1) (a * 256 + c) e2 (by omega) (by rw [Int.pow_succ]; omega)
  rw [num]
  refine Ev.step (fun k => ?_) ih
  have eo : Go.bits .or .u64 (a * 256) c = a * 256 + c := by
   obtain ⟨m, rfl⟩ := Int.eq_ofNat_of_zero_le h0
   obtain ⟨q, rfl⟩ := Int.eq_ofNat_of_zero_le hc0
   have h5 := u64_or_nat (m * 256) q (by omega) (by omega)
   have h6 := nat_join 8 (m * 256) q (by omega) (by omega)
   rw [h6, Int.natCast_mul, Int.natCast_add, Int.natCast_mul] at h5
   exact h5
  simp only [wire_Get.l0]
  rw [if_pos (by omega), if_pos (by omega), if_pos (by omega), e1, wu64 (x := a * 256) (by omega) (by omega), wu64 (x := c) (by omega) (by omega), eo, suc i (by omega)]
theorem WGet (l : List Int) (s : Nat) (hs : s ≤ 8) (hl : s ≤ l.length) (hb : Bytes l) : Ev (fun k => wire_Get.f k l s) (num 0 (l.take s)) := by
 unfold wire_Get.f
 refine Ev.pos (by omega) (Ev.pos (by omega) ?_)
 rw [Int.toNat_natCast]
 exact Get_l0 (l.take s) (by rw [List.length_take]; omega) (hb.take s) (l.take s) 0 0 rfl (by omega) (by simp)
theorem Clone (l : List Int) (hl : Lim l) : slices_Clone_byte_byte.f l = some l := by
 unfold slices_Clone_byte_byte.f; unfold Lim at hl; rw [if_pos (by omega)]
def ctlN (l : List Int) : Int := 256 * rd l 2 + rd l 3
def ctlPut (a b : Int) (d : List Int) : List Int × Int := if d.length + 4 > 65535 then ([], 3) else ([a, b] ++ be 2 (d.length + 4) ++ d, 0)
def ctlSize (l : List Int) : Int × Int := if l.length < 4 then (0, 2) else if ctlN l < 4 then (0, 4) else if ctlN l > l.length then (0, 2) else (ctlN l, 0)
def ctlGet (l : List Int) : Int × Int × List Int × Int := if (ctlSize l).2 = 0 then (rd l 0, rd l 1, (l.take (ctlN l).toNat).drop 4, 0) else (0, 0, [], (ctlSize l).2)
def ctlPad (l : List Int) : Int := if (ctlSize l).2 = 0 then l.length - ctlN l else 0
theorem CPut (a b : Int) (d : List Int) (hd : Lim d) : Ev (fun k => ctl_Put.f k a b d) (ctlPut a b d) := by
 unfold ctl_Put.f ctlPut
 unfold Lim at hd
 by_cases h : d.length + 4 > 65535
 · rw [if_pos h]
   exact Ev.pos (by rw [w64 (by omega) (by omega)]; omega) (Ev.now _)
 · rw [if_neg h]
   simp only [w64 (x := (d.length : Int) + 4) (by omega) (by omega), wu64 (x := (d.length : Int) + 4) (by omega) (by omega)]
   refine Ev.neg (by omega) (Ev.bind (WPut [a, b] ((d.length : Int) + 4) (by omega) 2 (by omega) (by simp)) ?_)
   exact Ev.pos (by simp [be_length]; omega) (Ev.now _)
theorem rd_bd {l : List Int} (hb : Bytes l) (i : Int) : 0 ≤ rd l i ∧ rd l i < 256 := by
 unfold rd
 rw [List.getD_eq_getElem?_getD]
 by_cases h : i.toNat < l.length
 · rw [List.getElem?_eq_getElem h]
   exact hb _ (List.getElem_mem h)
 · rw [List.getElem?_eq_none (by omega)]
   simp
theorem ctlN_bd {l : List Int} (hb : Bytes l) : 0 ≤ ctlN l ∧ ctlN l < 65536 := by
 have := rd_bd hb 2; have := rd_bd hb 3
 unfold ctlN; omega
theorem CSize (l : List Int) (hl : Lim l) (hb : Bytes l) : Ev (fun k => ctl_size.f k l) (ctlSize l) := by
 unfold ctl_size.f ctlSize
 unfold Lim at hl
 have hn := ctlN_bd hb
 by_cases h : l.length < 4
 · rw [if_pos h]
   exact Ev.pos (by omega) (Ev.now _)
 rw [if_neg h]
 refine Ev.neg (by omega) (Ev.pos (by omega) (Ev.bind (WGet (l.drop 2) 2 (by omega) (by rw [List.length_drop]; omega) (hb.drop 2)) ?_))
 have e : num 0 ((l.drop 2).take 2) = ctlN l := by
  match l, h with
  | a :: b :: c :: d :: t, _ => simp [num, ctlN, rd]; omega
  | [], h | [_], h | [_, _], h | [_, _, _], h => simp at h
 rw [e, w64 (by omega) (by omega)]
 by_cases h1 : ctlN l < 4
 · simp only [if_pos h1]; exact Ev.now _
 simp only [if_neg h1]
 by_cases h2 : ctlN l > l.length
 · simp only [if_pos h2]; exact Ev.now _
 · simp only [if_neg h2]; exact Ev.now _
theorem ctlSize_ok {l : List Int} (h : (ctlSize l).2 = 0) : 4 ≤ l.length ∧ 4 ≤ ctlN l ∧ ctlN l ≤ l.length ∧ (ctlSize l).1 = ctlN l := by
 unfold ctlSize at h ⊢
 split at h <;> rename_i h1
 · simp at h
 · split at h <;> rename_i h2
   · simp at h
   · split at h <;> rename_i h3
     · simp at h
     · rw [if_neg h1, if_neg h2, if_neg h3]
       exact ⟨by omega, by omega, by omega, rfl⟩
theorem CGet (l : List Int) (hl : Lim l) (hb : Bytes l) : Ev (fun k => ctl_Get.f k l) (ctlGet l) := by
 unfold ctl_Get.f ctlGet
 refine Ev.bind (CSize l hl hb) ?_
 by_cases h : (ctlSize l).2 = 0
 · obtain ⟨h1, h2, h3, h4⟩ := ctlSize_ok h
   have hc : Lim ((l.take (ctlN l).toNat).drop 4) := by unfold Lim at hl ⊢; rw [List.length_drop, List.length_take]; omega
   simp only [if_pos h, h4]
   refine Ev.pos (by omega) (Ev.pos (by omega) (Ev.pos (by omega) (Ev.pos (by omega) ?_)))
   rw [Clone _ hc]
   exact Ev.name (Ev.now _)
 · simp only [if_neg h]
   exact Ev.now _
theorem be2 (n : Int) (h0 : 0 ≤ n) (h1 : n < 65536) : be 2 n = [n / 256, n % 256] := by
 simp only [be, Int.pow_zero, Int.ediv_one, Int.pow_succ, Int.one_mul]
 rw [Int.emod_eq_of_lt (by omega) (by omega)]
theorem rCPut (a b : Int) (d : List Int) (hd : Lim d) : marlineref13_Put.f a b d = some (ctlPut a b d) := by
 unfold marlineref13_Put.f ctlPut
 unfold Lim at hd
 rw [w64 (x := (d.length : Int) + 4) (by omega) (by omega)]
 by_cases h : d.length + 4 > 65535
 · rw [if_pos h, if_pos (by omega)]
 · rw [if_neg h, if_neg (by omega), Option.bind_some, if_pos (by simp; omega)]
   rw [Int.tdiv_eq_ediv_of_nonneg (by omega), Int.tmod_eq_emod_of_nonneg (by omega), w64 (by omega) (by omega), be2 _ (by omega) (by omega), Int.emod_eq_of_lt (a := ((d.length : Int) + 4) / 256) (by omega) (by omega), Int.emod_eq_of_lt (a := ((d.length : Int) + 4) % 256) (by omega) (by omega)]
   rfl
theorem rCGet (l : List Int) (hl : Lim l) (hb : Bytes l) : marlineref13_Get.f l = some ((ctlGet l).1, (ctlGet l).2.1, (ctlGet l).2.2.1, ctlPad l, (ctlGet l).2.2.2) := by
 unfold marlineref13_Get.f
 unfold Lim at hl
 have hn := ctlN_bd hb
 have h2 := rd_bd hb 2; have h3 := rd_bd hb 3
 have e : wrap64 (wrap64 (256 * wrap64 (rd l 2)) + wrap64 (rd l 3)) = ctlN l := by
  rw [w64 (x := rd l 2) (by omega) (by omega), w64 (x := rd l 3) (by omega) (by omega), w64 (x := 256 * rd l 2) (by omega) (by omega), w64 (by omega) (by omega)]
  rfl
 rw [e]
 unfold ctlGet ctlPad ctlSize
 by_cases h : l.length < 4
 · rw [if_pos (by omega), if_pos h]; rfl
 rw [if_neg (by omega), if_pos (by omega), if_pos (by omega), if_neg h]
 by_cases h1 : ctlN l < 4
 · rw [if_pos h1, if_pos h1]; rfl
 rw [if_neg h1, if_neg h1]
 by_cases h2 : ctlN l > l.length
 · rw [if_pos h2, if_pos h2]; rfl
 · rw [if_neg h2, if_neg h2, if_pos (by omega), if_pos (by omega), if_pos (by omega), if_pos (by omega), w64 (by omega) (by omega)]
   rfl
end Go.Proofs.Ytgjeahgagciagaa.Sp
namespace Go.Proofs.Ytgjeahgagciagaa.Sp
open Go.RowKit Go.Proofs.Ytgjeahgagciagaa.Print Go.Proofs.YtgjeahgagciagaaW.PrintWords Go.Proofs.YtgjeahgagciagaaW.PrintLast Go.Proofs.Ytgjeahgagciagaa.Pl
set_option linter.unusedVariables false
def valued (c : Int) : Bool := decide (c = 1 ∨ c = 2)
theorem Valued (c : Int) : chap_valued.f c = some (valued c) := by
 unfold chap_valued.f valued
 by_cases h : c = 1
 · simp [h]
 · rw [if_neg h]
   congr 1
   rw [Bool.eq_iff_iff]
   simp [h]
def wrong18 {α : Type} (v : Bool) (o : List α) (a4 a5 : Int) (l6 l7 l8 l9 : List Int) : Bool :=
 decide (o.length + l9.length + (if v then l8.length else l6.length + l7.length) > 0 ∨ a4 ≠ 0 ∨ a5 ≠ 0)
def cput {α : Type} (a0 a1 a2 : Int) (o : List α) (a4 a5 : Int) (l6 l7 l8 l9 : List Int) : List Int × Int :=
 if a0 = 49699 then
  if wrong18 (valued a1) o a4 a5 l6 l7 l8 l9 = true then ([], 9)
  else if valued a1 = true then (if l6.length = 0 then ([], 4) else if l6.length > 255 then ([], 3) else ctlPut a1 a2 ((l6.length : Int) :: (l6 ++ l7)))
  else ctlPut a1 a2 l8
 else ([], 8)
theorem Concat3 (a b c : List Int) (ha : Lim a) (hb : Lim b) (hc : Lim c) : Ev (fun k => slices_Concat_byte_byte.f k [a, b, c]) (a ++ b ++ c) := by
 unfold Lim at ha hb hc
 unfold slices_Concat_byte_byte.f
 have r0 : rd_L1 [a, b, c] 0 = a := rfl
 have r1 : rd_L1 [a, b, c] 1 = b := rfl
 have r2 : rd_L1 [a, b, c] 2 = c := rfl
 have w0 : wrap64 (0 + (a.length : Int)) = a.length := w64 (by omega) (by omega) |>.trans (by omega)
 have w1 : wrap64 ((a.length : Int) + b.length) = a.length + b.length := w64 (by omega) (by omega)
 have w2 : wrap64 ((a.length : Int) + b.length + c.length) = a.length + b.length + c.length := w64 (by omega) (by omega)
 have v0 : wrap64 (0 + 1 : Int) = 1 := w64 (by omega) (by omega)
 have v1 : wrap64 (1 + 1 : Int) = 2 := w64 (by omega) (by omega)
 have v2 : wrap64 (2 + 1 : Int) = 3 := w64 (by omega) (by omega)
 refine Ev.step (fun k => by simp only [slices_Concat_byte_byte.l0]; rw [if_pos (by simp), if_pos (by omega), if_pos (by simp), r0, w0, if_neg (by omega), v0]) ?_
 refine Ev.step (fun k => by simp only [slices_Concat_byte_byte.l0]; rw [if_pos (by simp), if_pos (by omega), if_pos (by simp), r1, w1, if_neg (by omega), v1]) ?_
 refine Ev.step (fun k => by simp only [slices_Concat_byte_byte.l0]; rw [if_pos (by simp), if_pos (by omega), if_pos (by simp), r2, w2, if_neg (by omega), v2]) ?_
 refine Ev.step (fun k => by simp only [slices_Concat_byte_byte.l0]; rw [if_neg (by simp)]) ?_
 have hg : slices_Grow_byte_byte.f ([] : List Int) ((a.length : Int) + b.length + c.length) = some [] := by
  unfold slices_Grow_byte_byte.f
  rw [if_pos (by omega), if_pos (by omega)]
 rw [hg]
 refine Ev.name ?_
 refine Ev.step (fun k => by simp only [slices_Concat_byte_byte.l1]; rw [if_pos (by simp), if_pos (by omega), if_pos (by simp), r0, if_pos (by simp only [List.length_nil]; omega), v0, List.nil_append]) ?_
 refine Ev.step (fun k => by simp only [slices_Concat_byte_byte.l1]; rw [if_pos (by simp), if_pos (by omega), if_pos (by simp), r1, if_pos (by omega), v1]) ?_
 refine Ev.step (fun k => by simp only [slices_Concat_byte_byte.l1]; rw [if_pos (by simp), if_pos (by omega), if_pos (by simp), r2, if_pos (by rw [List.length_append]; omega), v2]) ?_
 exact Ev.step (fun k => by simp only [slices_Concat_byte_byte.l1]; rw [if_neg (by simp)]) (Ev.now _)
theorem chapj1 (a0 a1 a2 : Int) (o : List AO) (a4 a5 : Int) (l6 l7 l8 l9 : List Int) (h6 : l6.length ≤ 100000) (h7 : l7.length ≤ 100000) (h8 : Lim l8) (w : Bool) :
 Ev (fun k => chap_Put.j1 k w a0 a1 a2 o a4 a5 l6 l7 l8 l9) (if w = true then ([], 9) else if valued a1 = true then (if l6.length = 0 then ([], 4) else if l6.length > 255 then ([], 3) else ctlPut a1 a2 ((l6.length : Int) :: (l6 ++ l7))) else ctlPut a1 a2 l8) := by
 cases w with
 | true => exact Ev.step (fun k => by simp only [chap_Put.j1]; rw [if_pos trivial]) (Ev.end_ (by rw [if_pos rfl]))
 | false =>
  rw [if_neg (by decide)]
  refine Ev.step (fun k => by simp only [chap_Put.j1]; rw [if_neg (by decide), Valued, Option.bind_some]) ?_
  by_cases hv : valued a1 = true
  · simp only [hv, if_true]
    by_cases h0 : l6.length = 0
    · rw [if_pos h0]
      exact Ev.pos (by omega) (Ev.now _)
    · rw [if_neg h0]
      refine Ev.neg (by omega) ?_
      by_cases h5 : l6.length > 255
      · rw [if_pos h5]
        exact Ev.pos (by omega) (Ev.now _)
      · rw [if_neg h5]
        refine Ev.neg (by omega) ?_
        rw [Int.emod_eq_of_lt (by omega) (by omega)]
        refine Ev.bind (Concat3 _ l6 l7 (by unfold Lim; simp) (by unfold Lim; omega) (by unfold Lim; omega)) ?_
        refine Ev.bind (CPut a1 a2 _ (by unfold Lim; simp; omega)) ?_
        exact Ev.now _
  · simp only [Bool.not_eq_true] at hv
    simp only [hv, Bool.false_eq_true, if_false]
    refine Ev.bind (CPut a1 a2 l8 h8) ?_
    exact Ev.now _
theorem ChapPut (a0 a1 a2 : Int) (o : List AO) (a4 a5 : Int) (l6 l7 l8 l9 : List Int) (ho : o.length ≤ 100000) (h6 : l6.length ≤ 100000) (h7 : l7.length ≤ 100000) (h8 : l8.length ≤ 100000) (h9 : l9.length ≤ 100000) :
 Ev (fun k => chap_Put.f k a0 a1 a2 o a4 a5 l6 l7 l8 l9) (cput a0 a1 a2 o a4 a5 l6 l7 l8 l9) := by
 have j0 : ∀ x : Int, 0 ≤ x → (∀ w, wrong18 (valued a1) o a4 a5 l6 l7 l8 l9 = w → w = decide (x > 0 ∨ a4 ≠ 0 ∨ a5 ≠ 0)) → Ev (fun k => chap_Put.j0 k x a0 a1 a2 o a4 a5 l6 l7 l8 l9) (cput a0 a1 a2 o a4 a5 l6 l7 l8 l9) := by
  intro x hx hw
  have hw := hw _ rfl
  unfold cput
  have J := chapj1 a0 a1 a2 o a4 a5 l6 l7 l8 l9 h6 h7 (by unfold Lim; omega)
  by_cases h0 : a0 = 49699
  · rw [if_pos h0, hw]
    by_cases hx0 : x > 0
    · refine Ev.step (fun k => by simp only [chap_Put.j0]; rw [if_pos h0, if_pos hx0]) ?_
      have e : decide (x > 0 ∨ a4 ≠ 0 ∨ a5 ≠ 0) = true := by simp [hx0]
      rw [e]
      exact J true
    · by_cases h4 : a4 = 0
      · refine Ev.step (fun k => by simp only [chap_Put.j0]; rw [if_pos h0, if_neg hx0, if_pos h4]) ?_
        have e : decide (x > 0 ∨ a4 ≠ 0 ∨ a5 ≠ 0) = (a5 != 0) := by
         rw [Bool.eq_iff_iff]
         simp [hx0, h4]
        rw [e]
        exact J _
      · refine Ev.step (fun k => by simp only [chap_Put.j0]; rw [if_pos h0, if_neg hx0, if_neg h4]) ?_
        have e : decide (x > 0 ∨ a4 ≠ 0 ∨ a5 ≠ 0) = true := by simp [h4]
        rw [e]
        exact J true
  · rw [if_neg h0]
    exact Ev.step (fun k => by simp only [chap_Put.j0]; rw [if_neg h0]) (Ev.now _)
 unfold chap_Put.f
 rw [Valued]
 refine Ev.name ?_
 by_cases hv : valued a1 = true
 · refine Ev.pos hv ?_
   rw [w64 (x := (o.length : Int) + l9.length) (by omega) (by omega), w64 (by omega) (by omega)]
   refine j0 _ (by omega) (fun w hw => ?_)
   rw [← hw]
   unfold wrong18
   rw [if_pos hv, decide_eq_decide]
   omega
 · refine Ev.neg hv ?_
   rw [w64 (x := (o.length : Int) + l9.length) (by omega) (by omega), w64 (x := (l6.length : Int) + l7.length) (by omega) (by omega), w64 (by omega) (by omega)]
   refine j0 _ (by omega) (fun w hw => ?_)
   rw [← hw]
   unfold wrong18
   rw [if_neg hv, decide_eq_decide]
   omega
theorem rchapj1 (a0 a1 a2 : Int) (o : List RO) (a4 a5 : Int) (l6 l7 l8 l9 : List Int) (h6 : l6.length ≤ 100000) (h7 : l7.length ≤ 100000) (h8 : l8.length ≤ 100000) (v w : Bool) (hw : w = false → (v = true → l8 = []) ∧ (v = false → l6 = [] ∧ l7 = [])) :
 Ev (fun k => marlineref18_Put.j1 k v w a0 a1 a2 o a4 a5 l6 l7 l8 l9) (if w = true then ([], 9) else if v = true then (if l6.length = 0 then ([], 4) else if l6.length > 255 then ([], 3) else ctlPut a1 a2 ((l6.length : Int) :: (l6 ++ l7))) else ctlPut a1 a2 l8) := by
 cases w with
 | true => exact Ev.step (fun k => by simp only [marlineref18_Put.j1]; rw [if_pos trivial]) (Ev.end_ (by rw [if_pos rfl]))
 | false =>
  rw [if_neg (by decide)]
  obtain ⟨hv1, hv2⟩ := hw rfl
  cases v with
  | true =>
   obtain rfl := hv1 rfl
   rw [if_pos rfl]
   refine Ev.step (fun k => by simp only [marlineref18_Put.j1]; rw [if_neg (by decide), if_pos trivial]) ?_
   by_cases h0 : l6.length = 0
   · rw [if_pos h0]
     exact Ev.step (fun k => by simp only [marlineref18_Put.j2]; rw [if_pos (by simpa using h0)]) (Ev.now _)
   · rw [if_neg h0]
     by_cases h5 : l6.length > 255
     · rw [if_pos h5]
       exact Ev.step (fun k => by simp only [marlineref18_Put.j2]; rw [if_neg (by simpa using h0), if_pos (by omega)]) (Ev.now _)
     · rw [if_neg h5]
       refine Ev.step (fun k => by simp only [marlineref18_Put.j2]; rw [if_neg (by simpa using h0), if_neg (by omega), Option.bind_some, if_pos (by simp), Option.bind_some, if_pos trivial, if_pos (by simp), Option.bind_some, if_pos (by simp; omega), Option.bind_some, if_pos (by simp; omega), Int.emod_eq_of_lt (by omega) (by omega)]) ?_
       rw [show (([] ++ []) ++ [(l6.length : Int)] ++ l6) ++ l7 = (l6.length : Int) :: (l6 ++ l7) by simp]
       refine Ev.step (fun k => by simp only [marlineref18_Put.j3]; rw [rCPut a1 a2 _ (by unfold Lim; simp; omega), Option.bind_some]) (Ev.now _)
  | false =>
   obtain ⟨rfl, rfl⟩ := hv2 rfl
   rw [if_neg (by decide)]
   refine Ev.step (fun k => by simp only [marlineref18_Put.j1]; rw [if_neg (by decide), if_neg (by decide)]) ?_
   refine Ev.step (fun k => by simp only [marlineref18_Put.j2]; rw [if_neg (by decide), if_neg (by simp), Option.bind_some, if_pos (by simp; omega), Option.bind_some, if_neg (by decide), List.nil_append]) ?_
   refine Ev.step (fun k => by simp only [marlineref18_Put.j3]; rw [rCPut a1 a2 _ (by unfold Lim; omega), Option.bind_some]) (Ev.now _)
theorem rChapPut (a0 a1 a2 : Int) (o : List RO) (a4 a5 : Int) (l6 l7 l8 l9 : List Int) (h6 : l6.length ≤ 100000) (h7 : l7.length ≤ 100000) (h8 : l8.length ≤ 100000) :
 Ev (fun k => marlineref18_Put.f k a0 a1 a2 o a4 a5 l6 l7 l8 l9) (cput a0 a1 a2 o a4 a5 l6 l7 l8 l9) := by
 have key : ∀ v : Bool, v = valued a1 → a0 = 49699 → Ev (fun k => marlineref18_Put.j0 k v a0 a1 a2 o a4 a5 l6 l7 l8 l9) (cput a0 a1 a2 o a4 a5 l6 l7 l8 l9) := by
  intro v hv h0
  unfold cput
  rw [if_pos h0, ← hv]
  have J := fun w hw => rchapj1 a0 a1 a2 o a4 a5 l6 l7 l8 l9 h6 h7 h8 v w hw
  have W : ∀ w : Bool, wrong18 v o a4 a5 l6 l7 l8 l9 = w → ((w = false → (v = true → l8 = []) ∧ (v = false → l6 = [] ∧ l7 = []))) := by
   intro w hw hf
   rw [hf] at hw
   unfold wrong18 at hw
   rw [decide_eq_false_iff_not] at hw
   refine ⟨fun h => ?_, fun h => ?_⟩
   · rw [if_pos h] at hw
     exact List.eq_nil_of_length_eq_zero (by omega)
   · rw [if_neg (by simp [h])] at hw
     exact ⟨List.eq_nil_of_length_eq_zero (by omega), List.eq_nil_of_length_eq_zero (by omega)⟩
  by_cases c1 : (o.length : Int) > 0
  · have e : wrong18 v o a4 a5 l6 l7 l8 l9 = true := by unfold wrong18; rw [decide_eq_true_iff]; omega
    rw [e]
    exact Ev.step (fun k => by simp only [marlineref18_Put.j0]; rw [if_pos c1]) (J true (fun h => by cases h))
  by_cases c2 : a4 = 0
  rotate_left
  · have e : wrong18 v o a4 a5 l6 l7 l8 l9 = true := by unfold wrong18; rw [decide_eq_true_iff]; omega
    rw [e]
    exact Ev.step (fun k => by simp only [marlineref18_Put.j0]; rw [if_neg c1, if_neg c2]) (J true (fun h => by cases h))
  by_cases c3 : a5 = 0
  rotate_left
  · have e : wrong18 v o a4 a5 l6 l7 l8 l9 = true := by unfold wrong18; rw [decide_eq_true_iff]; omega
    rw [e]
    exact Ev.step (fun k => by simp only [marlineref18_Put.j0]; rw [if_neg c1, if_pos c2, if_neg c3]) (J true (fun h => by cases h))
  by_cases c4 : (l9.length : Int) > 0
  · have e : wrong18 v o a4 a5 l6 l7 l8 l9 = true := by unfold wrong18; rw [decide_eq_true_iff]; omega
    rw [e]
    exact Ev.step (fun k => by simp only [marlineref18_Put.j0]; rw [if_neg c1, if_pos c2, if_pos c3, if_pos c4]) (J true (fun h => by cases h))
  by_cases c5 : v = true
  · by_cases c6 : (l8.length : Int) > 0
    · have e : wrong18 v o a4 a5 l6 l7 l8 l9 = true := by unfold wrong18; rw [decide_eq_true_iff, if_pos c5]; omega
      rw [e]
      exact Ev.step (fun k => by simp only [marlineref18_Put.j0]; rw [if_neg c1, if_pos c2, if_pos c3, if_neg c4, if_pos c5, if_pos c6]) (J true (fun h => by cases h))
    · have e : wrong18 v o a4 a5 l6 l7 l8 l9 = false := by unfold wrong18; rw [decide_eq_false_iff_not, if_pos c5]; omega
      have Jf := J false (W false e)
      rw [e]
      exact Ev.step (fun k => by simp only [marlineref18_Put.j0]; rw [if_neg c1, if_pos c2, if_pos c3, if_neg c4, if_pos c5, if_neg c6]) Jf
  · by_cases c6 : (l6.length : Int) > 0
    · have e : wrong18 v o a4 a5 l6 l7 l8 l9 = true := by unfold wrong18; rw [decide_eq_true_iff, if_neg c5]; omega
      rw [e]
      exact Ev.step (fun k => by simp only [marlineref18_Put.j0]; rw [if_neg c1, if_pos c2, if_pos c3, if_neg c4, if_neg c5, if_pos c6]) (J true (fun h => by cases h))
    · have e : wrong18 v o a4 a5 l6 l7 l8 l9 = decide ((l7.length : Int) > 0) := by unfold wrong18; rw [decide_eq_decide, if_neg c5]; omega
      have Jf := J _ (W _ e)
      rw [e]
      exact Ev.step (fun k => by simp only [marlineref18_Put.j0]; rw [if_neg c1, if_pos c2, if_pos c3, if_neg c4, if_neg c5, if_neg c6]) Jf
 unfold marlineref18_Put.f
 by_cases h0 : a0 = 49699
 · refine Ev.pos h0 ?_
   by_cases h1 : a1 = 1
   · exact Ev.pos h1 (key true (by simp [valued, h1]) h0)
   · refine Ev.neg h1 (key _ ?_ h0)
     unfold valued
     rw [Bool.eq_iff_iff]
     simp [h1]
 · refine Ev.neg h0 ?_
   unfold cput
   rw [if_neg h0]
   exact Ev.now _
abbrev Pk (α : Type) := Int × Int × Int × List α × Int × Int × List Int × List Int × List Int × List Int × Int
def perr {α : Type} (e : Int) : Pk α := (0, 0, 0, [], 0, 0, [], [], [], [], e)
def cgetd {α : Type} (c i : Int) (d : List Int) : Pk α :=
 if valued c = true then (if d.length = 0 then perr 2 else if rd d 0 = 0 then perr 4 else if 1 + rd d 0 > d.length then perr 2 else (49699, c, i, [], 0, 0, (d.take (1 + rd d 0).toNat).drop 1, d.drop (1 + rd d 0).toNat, [], [], 0))
 else (49699, c, i, [], 0, 0, [], [], d, [], 0)
def cget {α : Type} (l : List Int) : Pk α :=
 if (ctlGet l).2.2.2 = 0 then cgetd (ctlGet l).1 (ctlGet l).2.1 (ctlGet l).2.2.1 else perr (ctlGet l).2.2.2
theorem ctlGet_data {l : List Int} (hb : Bytes l) (hl : Lim l) : Bytes (ctlGet l).2.2.1 ∧ Lim (ctlGet l).2.2.1 ∧ (ctlGet l).2.2.1.length ≤ l.length := by
 unfold ctlGet
 unfold Lim at hl ⊢
 split
 · exact ⟨(hb.take _).drop _, by simp only [List.length_drop, List.length_take]; omega, by simp only [List.length_drop, List.length_take]; omega⟩
 · exact ⟨Bytes.nil, by simp, by simp⟩
theorem ChapGet (l : List Int) (hb : Bytes l) (hl : Lim l) : Ev (fun k => chap_Get.f k l) (cget l) := by
 unfold chap_Get.f cget
 obtain ⟨hd, hL, _⟩ := ctlGet_data hb hl
 refine Ev.bind (CGet l hl hb) ?_
 generalize ctlGet l = g at hd hL
 obtain ⟨c, i, d, e⟩ := g
 simp only at hd hL ⊢
 have h0 := rd_bd hd 0
 unfold Lim at hL
 by_cases he : e = 0
 · simp only [if_pos he]
   rw [Valued]
   refine Ev.name ?_
   unfold cgetd
   by_cases hv : valued c = true
   · simp only [if_pos hv]
     by_cases h1 : d.length = 0
     · simp only [if_pos h1]
       exact Ev.pos (by omega) (Ev.now _)
     · simp only [if_neg h1]
       refine Ev.neg (by omega) (Ev.pos (by omega) ?_)
       by_cases h2 : rd d 0 = 0
       · simp only [if_pos h2]
         exact Ev.now _
       · simp only [if_neg h2, w64 (x := rd d 0) (by omega) (by omega), w64 (x := 1 + rd d 0) (by omega) (by omega)]
         by_cases h3 : 1 + rd d 0 > d.length
         · simp only [if_pos h3]
           exact Ev.now _
         · simp only [if_neg h3]
           refine Ev.pos (by omega) (Ev.pos (by omega) ?_)
           rw [CloneL _ (by unfold Lim; simp only [List.length_drop, List.length_take]; omega), CloneL _ (by unfold Lim; simp only [List.length_drop]; omega)]
           exact Ev.name (Ev.pos (by omega) (Ev.name (Ev.now _)))
   · simp only [if_neg hv]
     exact Ev.now _
 · simp only [if_neg he]
   exact Ev.now _
theorem Text0 (d : List Int) (hb : Bytes d) (hl : Lim d) : marlineref17_Text.f d 0 = some (if d.length = 0 then ([], -1) else if 1 + rd d 0 > d.length then ([], -1) else ((d.take (1 + rd d 0).toNat).drop 1, 1 + rd d 0)) := by
 unfold marlineref17_Text.f
 have h0 := rd_bd hb 0
 unfold Lim at hl
 rw [w64 (x := (0 : Int) + 1) (by omega) (by omega), w64 (x := rd d 0) (by omega) (by omega), w64 (x := (0 : Int) + 1 + rd d 0) (by omega) (by omega)]
 by_cases h1 : d.length = 0
 · rw [if_pos h1, if_pos (by omega)]
 rw [if_neg h1, if_neg (by omega), if_pos (by omega), if_pos (by omega)]
 simp only [Int.zero_add]
 by_cases h2 : 1 + rd d 0 > d.length
 · rw [if_pos h2, if_pos h2]
 · rw [if_neg h2, if_neg h2, if_pos (by omega), if_pos (by omega), if_pos (by omega)]
   rfl
theorem rChapGet (l : List Int) (hb : Bytes l) (hl : Lim l) : Ev (fun k => marlineref18_Get.f k l) (cget l) := by
 unfold marlineref18_Get.f cget
 obtain ⟨hd, hL, _⟩ := ctlGet_data hb hl
 rw [rCGet l hl hb]
 refine Ev.name ?_
 generalize ctlGet l = g at hd hL
 obtain ⟨c, i, d, e⟩ := g
 simp only at hd hL ⊢
 have h0 := rd_bd hd 0
 have hL' := hL
 unfold Lim at hL
 by_cases he : e = 0
 · simp only [if_pos he]
   have key : ∀ w : Bool, w = !valued c → Ev (fun k => marlineref18_Get.j0 k d w 49699 c i 0 0) (cgetd c i d) := by
    intro w hw
    unfold cgetd
    cases w with
    | true =>
     have hv : valued c = false := by cases h : valued c <;> simp_all
     rw [hv, if_neg (by decide)]
     exact Ev.step (fun k => by simp only [marlineref18_Get.j0]; rw [if_pos trivial]) (Ev.now _)
    | false =>
     have hv : valued c = true := by cases h : valued c <;> simp_all
     rw [if_pos hv]
     have J : ∀ b : Bool, b = decide (¬ d.length = 0 ∧ rd d 0 = 0) → Ev (fun k => marlineref18_Get.j1 k d b 49699 c i 0 0) (if d.length = 0 then perr 2 else if rd d 0 = 0 then perr 4 else if 1 + rd d 0 > d.length then perr 2 else (49699, c, i, [], 0, 0, (d.take (1 + rd d 0).toNat).drop 1, d.drop (1 + rd d 0).toNat, [], [], 0)) := by
      intro b hb2
      cases b with
      | true =>
       obtain ⟨h1, h2⟩ := of_decide_eq_true hb2.symm
       rw [if_neg h1, if_pos h2]
       exact Ev.step (fun k => by simp only [marlineref18_Get.j1]; rw [if_pos trivial]; rfl) (Ev.now (perr 4))
      | false =>
       have h3 := of_decide_eq_false hb2.symm
       refine Ev.step (fun k => by simp only [marlineref18_Get.j1]; rw [if_neg (by decide), Text0 d hd hL', Option.bind_some]) ?_
       by_cases h1 : d.length = 0
       · simp only [if_pos h1]
         exact Ev.pos (by decide) (Ev.now _)
       · have h2 : ¬ rd d 0 = 0 := fun h => h3 ⟨h1, h⟩
         simp only [if_neg h1, if_neg h2]
         by_cases h4 : 1 + rd d 0 > d.length
         · simp only [if_pos h4]
           exact Ev.pos (by decide) (Ev.now _)
         · simp only [if_neg h4]
           exact Ev.neg (by omega) (Ev.pos (by omega) (Ev.pos (by omega) (Ev.now _)))
     by_cases h1 : (d.length : Int) > 0
     · refine Ev.step (fun k => by simp only [marlineref18_Get.j0]; rw [if_neg (by decide), if_pos h1, if_pos (by omega)]) (J _ ?_)
       rw [Bool.eq_iff_iff]
       simp only [beq_iff_eq, decide_eq_true_eq]
       omega
     · refine Ev.step (fun k => by simp only [marlineref18_Get.j0]; rw [if_neg (by decide), if_neg h1]) (J _ ?_)
       rw [eq_comm, decide_eq_false_iff_not]
       omega
   by_cases h1 : c = 1
   · exact Ev.pos h1 (key false (by simp [valued, h1]))
   · refine Ev.neg h1 (key _ ?_)
     unfold valued
     rw [Bool.eq_iff_iff]
     simp [h1]
 · simp only [if_neg he]
   exact Ev.now _
def answers (a0 a1 a2 b0 b1 b2 : Int) : Bool := decide (a0 = 49699 ∧ b0 = 49699 ∧ a2 = b2 ∧ (a1 = 2 ∧ b1 = 1 ∨ (a1 = 3 ∨ a1 = 4) ∧ b1 = 2))
theorem Answers (a0 a1 a2 : Int) (o : List AO) (a4 a5 : Int) (l6 l7 l8 l9 : List Int) (b0 b1 b2 : Int) (o' : List AO) (b4 b5 : Int) (m6 m7 m8 m9 : List Int) :
 Ev (fun k => chap_Answers.f k a0 a1 a2 o a4 a5 l6 l7 l8 l9 b0 b1 b2 o' b4 b5 m6 m7 m8 m9) (answers a0 a1 a2 b0 b1 b2) := by
 unfold chap_Answers.f
 have j1 : ∀ w : Bool, Ev (fun k => chap_Answers.j1 k w b0 b1 b2 o' b4 b5 m6 m7 m8 m9) (w && b1 == 2) := by
  intro w
  cases w with
  | true => exact Ev.step (fun k => by simp only [chap_Answers.j1]; rw [if_pos trivial]) (Ev.end_ (by simp))
  | false => exact Ev.step (fun k => by simp only [chap_Answers.j1]; rw [if_neg (by decide)]) (Ev.end_ (by simp))
 have j0 : ∀ w : Bool, Ev (fun k => chap_Answers.j0 k w a0 a1 a2 o a4 a5 l6 l7 l8 l9 b0 b1 b2 o' b4 b5 m6 m7 m8 m9) (!w && decide (a1 = 2 ∧ b1 = 1 ∨ (a1 = 3 ∨ a1 = 4) ∧ b1 = 2)) := by
  intro w
  cases w with
  | true => exact Ev.step (fun k => by simp only [chap_Answers.j0]; rw [if_pos trivial]) (Ev.end_ (by simp))
  | false =>
   by_cases h2 : a1 = 2
   · refine Ev.step (fun k => by simp only [chap_Answers.j0]; rw [if_neg (by decide), if_pos h2]) (Ev.end_ ?_)
     rw [Bool.eq_iff_iff]
     simp [h2]
   · by_cases h3 : a1 = 3
     · refine Ev.step (fun k => by simp only [chap_Answers.j0]; rw [if_neg (by decide), if_neg h2, if_pos h3]) ?_
       have e : (!false && decide (a1 = 2 ∧ b1 = 1 ∨ (a1 = 3 ∨ a1 = 4) ∧ b1 = 2)) = ((a1 == 3) && b1 == 2) := by
        rw [Bool.eq_iff_iff]; simp [h3]
       rw [e]
       exact j1 _
     · refine Ev.step (fun k => by simp only [chap_Answers.j0]; rw [if_neg (by decide), if_neg h2, if_neg h3]) ?_
       have e : (!false && decide (a1 = 2 ∧ b1 = 1 ∨ (a1 = 3 ∨ a1 = 4) ∧ b1 = 2)) = ((a1 == 4) && b1 == 2) := by
        rw [Bool.eq_iff_iff]; simp [h2, h3]
       rw [e]
       exact j1 _
 by_cases h0 : a0 = 49699
 · refine Ev.pos h0 ?_
   by_cases h1 : b0 = 49699
   · refine Ev.pos h1 ?_
     have e : answers a0 a1 a2 b0 b1 b2 = (!(a2 != b2) && decide (a1 = 2 ∧ b1 = 1 ∨ (a1 = 3 ∨ a1 = 4) ∧ b1 = 2)) := by
      unfold answers; rw [Bool.eq_iff_iff]; simp [h0, h1]
     rw [e]
     exact j0 _
   · refine Ev.neg h1 ?_
     have e : answers a0 a1 a2 b0 b1 b2 = (!true && decide (a1 = 2 ∧ b1 = 1 ∨ (a1 = 3 ∨ a1 = 4) ∧ b1 = 2)) := by
      unfold answers; rw [Bool.eq_iff_iff]; simp [h1]
     rw [e]
     exact j0 _
 · refine Ev.neg h0 ?_
   have e : answers a0 a1 a2 b0 b1 b2 = (!true && decide (a1 = 2 ∧ b1 = 1 ∨ (a1 = 3 ∨ a1 = 4) ∧ b1 = 2)) := by
    unfold answers; rw [Bool.eq_iff_iff]; simp [h0]
   rw [e]
   exact j0 _
theorem rAnswers (a0 a1 a2 : Int) (o : List RO) (a4 a5 : Int) (l6 l7 l8 l9 : List Int) (b0 b1 b2 : Int) (o' : List RO) (b4 b5 : Int) (m6 m7 m8 m9 : List Int) :
 marlineref18_Answers.f a0 a1 a2 o a4 a5 l6 l7 l8 l9 b0 b1 b2 o' b4 b5 m6 m7 m8 m9 = some (answers a0 a1 a2 b0 b1 b2) := by
 unfold marlineref18_Answers.f answers
 repeat' split
 all_goals (congr 1; rw [Bool.eq_iff_iff]; simp_all)
theorem Speaks18 : Ev (fun k => marlinelaw18_speaks.f k) true := by
 unfold marlinelaw18_speaks.f
 refine Ev.bind (ChapPut 49699 1 0 [] 0 0 [7] [97] [] [] (by decide) (by decide) (by decide) (by decide) (by decide)) ?_
 refine Ev.pos (by decide) ?_
 have h := Equal (cput 49699 1 0 ([] : List AO) 0 0 [7] [97] [] []).1 [1, 0, 0, 7, 1, 7, 97] (by unfold Lim; decide)
 rw [show decide ((cput 49699 1 0 ([] : List AO) 0 0 [7] [97] [] []).1 = [1, 0, 0, 7, 1, 7, 97]) = true by decide] at h
 exact h
end Go.Proofs.Ytgjeahgagciagaa.Sp
namespace Go.Proofs.Ytgjeahgagciagaa.Sp
open Go.RowKit Go.Proofs.Ytgjeahgagciagaa.Print Go.Proofs.YtgjeahgagciagaaW.PrintWords Go.Proofs.YtgjeahgagciagaaW.PrintLast Go.Proofs.Ytgjeahgagciagaa.Pl
set_option linter.unusedVariables false
theorem cput_map (a0 a1 a2 : Int) (o : List RO) (a4 a5 : Int) (l6 l7 l8 l9 : List Int) : cput a0 a1 a2 (o.map ao) a4 a5 l6 l7 l8 l9 = cput a0 a1 a2 o a4 a5 l6 l7 l8 l9 := by
 have e : wrong18 (valued a1) (o.map ao) a4 a5 l6 l7 l8 l9 = wrong18 (valued a1) o a4 a5 l6 l7 l8 l9 := by unfold wrong18; rw [decide_eq_decide, List.length_map]
 unfold cput
 rw [e]
theorem ctlPut_len (a b : Int) (d : List Int) : (ctlPut a b d).1.length ≤ d.length + 4 := by
 unfold ctlPut
 split
 · simp
 · simp [be_length]; omega
theorem cput_len {α : Type} (a0 a1 a2 : Int) (o : List α) (a4 a5 : Int) (l6 l7 l8 l9 : List Int) : (cput a0 a1 a2 o a4 a5 l6 l7 l8 l9).1.length ≤ l6.length + l7.length + l8.length + 5 := by
 have h1 := ctlPut_len a1 a2 ((l6.length : Int) :: (l6 ++ l7))
 have h2 := ctlPut_len a1 a2 l8
 simp only [List.length_cons, List.length_append] at h1
 unfold cput
 repeat' split
 all_goals first | (simp only [List.length_nil]; omega) | omega
theorem cget_both (l : List Int) (hb : Bytes l) (hl : Lim l) : ∃ (a0 a1 a2 a4 a5 : Int) (l6 l7 l8 l9 : List Int) (e : Int), (cget l : Pk AO) = (a0, a1, a2, [], a4, a5, l6, l7, l8, l9, e) ∧ (cget l : Pk RO) = (a0, a1, a2, [], a4, a5, l6, l7, l8, l9, e) ∧ Lim l6 ∧ Lim l7 ∧ Lim l8 ∧ Lim l9 := by
 obtain ⟨hd, hL, _⟩ := ctlGet_data hb hl
 have L0 : Lim ([] : List Int) := by unfold Lim; simp
 unfold cget cgetd
 generalize ctlGet l = g at hd hL
 obtain ⟨c, i, d, e⟩ := g
 simp only at hd hL ⊢
 repeat' split
 all_goals first
  | exact ⟨_, _, _, _, _, _, _, _, _, _, rfl, rfl, L0, L0, L0, L0⟩
  | exact ⟨_, _, _, _, _, _, _, _, _, _, rfl, rfl, L0, L0, hL, L0⟩
  | exact ⟨_, _, _, _, _, _, _, _, _, _, rfl, rfl, by unfold Lim at hL ⊢; simp only [List.length_drop, List.length_take]; omega, by unfold Lim at hL ⊢; simp only [List.length_drop]; omega, L0, L0⟩
theorem ChapTells : marlinelaw18_ChapTells.Pure := by
 intro a0 a1 a2 o a4 a5 l6 l7 l8 l9 b0 b1 b2 p b4 b5 m6 m7 m8 m9 z _ _ _ ho _ _ h6 h7 h8 h9 _ _ _ hp _ _ g6 g7 g8 g9 _ _ hz
 have Ho := held_of ho
 have Hp := held_of hp
 have hzb := bytes_of_wf hz
 refine Ev.rounds ?_
 unfold marlinelaw18_ChapTells.f
 have out : Ev (fun k => marlinelaw18_ChapTells.j0 k z true a0 a1 a2 o a4 a5 l6 l7 l8 l9 b0 b1 b2 p b4 b5 m6 m7 m8 m9) true :=
  Ev.step (fun k => by simp only [marlinelaw18_ChapTells.j0]; rw [if_pos trivial]) (Ev.bind Speaks18 (Ev.now _))
 refine Ev.bind Speaks18 (Ev.pos rfl (Ev.bind (FewP a0 a1 a2 o a4 a5 l6 l7 l8 l9 Ho) ?_))
 by_cases hF : few15 o l6 l7 l8 l9 = true
 · refine Ev.pos hF (Ev.bind (FewP b0 b1 b2 p b4 b5 m6 m7 m8 m9 Hp) ?_)
   by_cases hG : few15 p m6 m7 m8 m9 = true
   · refine Ev.pos hG ?_
     by_cases hq : (z.length : Int) > 600
     · rw [decide_eq_true hq]; exact out
     rw [decide_eq_false hq]
     have F := of_decide_eq_true hF
     have G := of_decide_eq_true hG
     have hzl : Lim z := by unfold Lim; omega
     have Lp := cput_len a0 a1 a2 o a4 a5 l6 l7 l8 l9
     refine Ev.step (fun k => by simp only [marlinelaw18_ChapTells.j0]; rw [if_neg (by decide)]) (Ev.bind (OfP a0 a1 a2 o a4 a5 l6 l7 l8 l9 (by omega)) ?_)
     refine Ev.bind (ChapPut a0 a1 a2 (o.map ao) a4 a5 l6 l7 l8 l9 (by rw [List.length_map]; omega) (by omega) (by omega) (by omega) (by omega)) ?_
     rw [cput_map]
     refine Ev.bind (rChapPut a0 a1 a2 o a4 a5 l6 l7 l8 l9 (by omega) (by omega) (by omega)) ?_
     obtain ⟨c0, c1, c2, c4, c5, d6, d7, d8, d9, e, E1, E2, L6, L7, L8, L9⟩ := cget_both z hzb hzl
     have G1 := ChapGet z hzb hzl
     have G2 := rChapGet z hzb hzl
     rw [E1] at G1
     rw [E2] at G2
     refine Ev.bind G1 (Ev.bind G2 (Ev.pos rfl (Ev.bind (Equal _ _ (by unfold Lim; omega)) (Ev.pos (by simp) (Ev.pos rfl ?_)))))
     refine Ev.bind (ToP c0 c1 c2 [] c4 c5 d6 d7 d8 d9 (by simp)) ?_
     refine Ev.bind (SameP c0 c1 c2 [] c4 c5 d6 d7 d8 d9 (by simp) (by simp) L6 L7 L8 L9) (Ev.pos rfl ?_)
     refine Ev.bind (OfP a0 a1 a2 o a4 a5 l6 l7 l8 l9 (by omega)) (Ev.bind (OfP b0 b1 b2 p b4 b5 m6 m7 m8 m9 (by omega)) ?_)
     refine Ev.bind (Answers a0 a1 a2 (o.map ao) a4 a5 l6 l7 l8 l9 b0 b1 b2 (p.map ao) b4 b5 m6 m7 m8 m9) ?_
     rw [rAnswers]
     exact Ev.name (Ev.end_ (by simp))
   · exact Ev.neg hG out
 · exact Ev.neg hF out
end Go.Proofs.Ytgjeahgagciagaa.Sp
namespace Go.Proofs.Ytgjeahgagciagaa.Pure
open Go.Proofs.Ytgjeahgagciagaa.Print
theorem ChapTells : marlinelaw18_ChapTells.Pure := Go.Proofs.Ytgjeahgagciagaa.Sp.ChapTells
end Go.Proofs.Ytgjeahgagciagaa.Pure
