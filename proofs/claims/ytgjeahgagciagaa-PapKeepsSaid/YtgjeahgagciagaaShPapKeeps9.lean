/- Texts of this claim, several in one, told shortly by a program of this claim (wip/x/shrink.py): what Go functions come to, and plain words on it. -/
import Derived.Test.YtgjeahgagciagaaShPapKeeps7
import Derived.Test.YtgjeahgagciagaaShPapKeeps8
namespace Go.Proofs.Ytgjeahgagciagaa.Sp
open Go.RowKit Go.Proofs.Ytgjeahgagciagaa.Print Go.Proofs.YtgjeahgagciagaaW.PrintWords Go.Proofs.YtgjeahgagciagaaW.PrintLast Go.Proofs.Ytgjeahgagciagaa.Pl
set_option linter.unusedVariables false
theorem Ev.pos {α : Type} {c : Prop} [Decidable c] {g h : Nat → Option α} {r : α} (hc : c) (k : Ev g r) : Ev (fun n => if c then g n else h n) r :=
 Ev.congr (fun n => if_pos hc) k
theorem Ev.neg {α : Type} {c : Prop} [Decidable c] {g h : Nat → Option α} {r : α} (hc : ¬ c) (k : Ev h r) : Ev (fun n => if c then g n else h n) r :=
 Ev.congr (fun n => if_neg hc) k
theorem Ev.end_ {α : Type} {x r : α} (h : x = r) : Ev (fun _ => some x) r := h ▸ Ev.now _
theorem Ev.name {α β : Type} {x : β} {g : Nat → β → Option α} {r : α} (h : Ev (fun n => g n x) r) : Ev (fun n => (some x).bind (g n)) r := Ev.congr (fun n => Option.bind_some _ _) h
def Lim (l : List Int) : Prop := l.length ≤ 1000000
theorem suc (i : Nat) (h : i ≤ 2000000) : wrap64 ((i : Int) + 1) = ((i + 1 : Nat) : Int) := by rw [w64 (by omega) (by omega)]; omega
theorem Equal_l0 (a b : List Int) (hl : a.length = b.length) (ha : Lim a) : ∀ (t u : List Int) (i : Nat), a.drop i = t → b.drop i = u → Ev (fun k => marlineref01_Equal.l0 k a b i) (decide (t = u))
 | [], u, i, h1, h2 => by
  have h3 := drop_nil_len h1
  have h4 := drop_len h2
  obtain rfl : u = [] := List.eq_nil_of_length_eq_zero (by omega)
  exact Ev.step (fun k => by simp only [marlineref01_Equal.l0]; rw [if_neg (by omega)]; rfl) (Ev.now _)
 | x :: t, u, i, h1, h2 => by
  obtain ⟨e1, e2, e3⟩ := rd_drop h1
  cases u with
  | nil => have := drop_nil_len h2; omega
  | cons y u =>
   obtain ⟨f1, f2, f3⟩ := rd_drop h2
   unfold Lim at ha
   by_cases hxy : x = y
   · subst hxy
     have ih := Equal_l0 a b hl ha t u (i + 1) e2 f2
     rw [show decide (x :: t = x :: u) = decide (t = u) by simp]
     exact Ev.step (fun k => by simp only [marlineref01_Equal.l0]; rw [if_pos (by omega), if_pos (by omega), if_pos (by omega), e1, f1, if_pos rfl, suc i (by omega)]) ih
   · rw [show decide (x :: t = y :: u) = false by simp [hxy]]
     exact Ev.step (fun k => by simp only [marlineref01_Equal.l0]; rw [if_pos (by omega), if_pos (by omega), if_pos (by omega), e1, f1, if_neg hxy]) (Ev.now _)
theorem Equal (a b : List Int) (ha : Lim a) : Ev (fun k => marlineref01_Equal.f k a b) (decide (a = b)) := by
 by_cases hl : a.length = b.length
 · exact Ev.congr (fun k => by unfold marlineref01_Equal.f; rw [if_pos (by omega)]; rfl) (Equal_l0 a b hl ha a b 0 rfl rfl)
 · rw [show decide (a = b) = false by simp; rintro rfl; exact hl rfl]
   exact Ev.congr (fun k => by unfold marlineref01_Equal.f; rw [if_neg (by omega)]) (Ev.now _)
end Go.Proofs.Ytgjeahgagciagaa.Sp
namespace Go.Proofs.Ytgjeahgagciagaa.Sp
open Go.RowKit Go.Proofs.Ytgjeahgagciagaa.Print Go.Proofs.YtgjeahgagciagaaW.PrintWords Go.Proofs.YtgjeahgagciagaaW.PrintLast Go.Proofs.Ytgjeahgagciagaa.Pl
set_option linter.unusedVariables false
abbrev AO := S57
abbrev RO := S56
def ao (o : RO) : AO := ⟨o.f0, o.f1⟩
def ro (o : AO) : RO := ⟨o.f0, o.f1⟩
theorem map_ro_ao (l : List RO) : (l.map ao).map ro = l := by rw [List.map_map]; exact List.map_id l
instance decRO : DecidableEq RO := fun a b => decidable_of_iff (a.f0 = b.f0 ∧ a.f1 = b.f1) (by cases a; cases b; simp)
theorem drop_get {α : Type} {z : α} {xs : List α} {i : Nat} {b : α} {t : List α} (h : xs.drop i = b :: t) : xs.getD ((i : Int)).toNat z = b ∧ xs.drop (i + 1) = t ∧ i < xs.length := by
 have hlt : i < xs.length := by
  rcases Nat.lt_or_ge i xs.length with h1 | h1
  · exact h1
  · rw [List.drop_eq_nil_of_le h1] at h; cases h
 rw [List.drop_eq_getElem_cons hlt] at h
 injection h with h1 h2
 refine ⟨?_, h2, hlt⟩
 rw [Int.toNat_natCast, List.getD_eq_getElem?_getD, List.getElem?_eq_getElem hlt]
 exact h1
theorem rda {xs : List AO} {i : Nat} {b : AO} {t : List AO} (h : xs.drop i = b :: t) : rd_T57 xs (i : Int) = b ∧ xs.drop (i + 1) = t ∧ i < xs.length := drop_get h
theorem rdr {xs : List RO} {i : Nat} {b : RO} {t : List RO} (h : xs.drop i = b :: t) : rd_T56 xs (i : Int) = b ∧ xs.drop (i + 1) = t ∧ i < xs.length := drop_get h
theorem nil_len {α : Type} {xs : List α} {i : Nat} (h : xs.drop i = []) : xs.length ≤ i := List.drop_eq_nil_iff.1 h
theorem sucB (i : Nat) (h : i ≤ 4611686018427387904) : wrap64 ((i : Int) + 1) = ((i + 1 : Nat) : Int) := by rw [w64 (by omega) (by omega)]; omega
def tot : List RO → Nat
 | [] => 0
 | o :: t => o.f1.length + tot t
def Held (l : List RO) : Prop := l.length * 32 ≤ 140737488351232 ∧ ∀ o ∈ l, Byte o.f0 ∧ o.f1.length ≤ 140737488351232 ∧ Bytes o.f1
theorem tot_le : ∀ (t : List RO), (∀ o ∈ t, o.f1.length ≤ 140737488351232) → tot t ≤ t.length * 140737488351232
 | [], _ => by simp [tot]
 | o :: t, h => by
  have := tot_le t (fun o ho => h o (by simp [ho]))
  have := h o (by simp)
  simp only [tot, List.length_cons]
  omega
theorem Few_l0 (l : List RO) (hl : l.length ≤ 4398046511104) (hd : ∀ o ∈ l, o.f1.length ≤ 140737488351232) : ∀ (t : List RO) (i : Nat) (x : Int), l.drop i = t →
 ∃ y : Int, Ev (fun k => marlinelaw12_Few.l0 k l x l (l.length : Int) i) (if (l.length : Int) ≤ 60 then decide (y ≤ 1000) else false) ∧ (l.length ≤ 60 → 0 ≤ x → x + tot t ≤ 4611686018427387904 → y = x + tot t)
 | [], i, x, h => by
  have h3 := nil_len h
  refine ⟨x, ?_, fun _ _ _ => by simp [tot]⟩
  by_cases h6 : (l.length : Int) ≤ 60
  · rw [if_pos h6]
    exact Ev.step (fun k => by simp only [marlinelaw12_Few.l0]; rw [if_neg (by omega), if_pos h6]) (Ev.now _)
  · rw [if_neg h6]
    exact Ev.step (fun k => by simp only [marlinelaw12_Few.l0]; rw [if_neg (by omega), if_neg h6]) (Ev.now _)
 | o :: t, i, x, h => by
  obtain ⟨e1, e2, e3⟩ := rdr h
  obtain ⟨y, ih, hy⟩ := Few_l0 l hl hd t (i + 1) (wrap64 (x + (o.f1.length : Int))) e2
  refine ⟨y, Ev.step (fun k => ?_) ih, fun h6 h0 hx => ?_⟩
  · simp only [marlinelaw12_Few.l0]
    rw [if_pos (by omega), if_pos (by omega), if_pos (by omega), e1, sucB i (by omega)]
  · simp only [tot, Int.natCast_add] at hx ⊢
    have e : wrap64 (x + (o.f1.length : Int)) = x + o.f1.length := w64 (by omega) (by omega)
    rw [e] at hy
    rw [hy h6 (by omega) (by omega)]
    omega
theorem FewL (l : List RO) (hl : Held l) : Ev (fun k => marlinelaw12_Few.f k l) (decide (l.length ≤ 60 ∧ tot l ≤ 1000)) := by
 unfold marlinelaw12_Few.f
 have hd : ∀ o ∈ l, o.f1.length ≤ 140737488351232 := fun o ho => (hl.2 o ho).2.1
 have h1 := hl.1
 obtain ⟨y, hE, hy⟩ := Few_l0 l (by omega) hd l 0 0 rfl
 have ht := tot_le l hd
 have e : (if (l.length : Int) ≤ 60 then decide (y ≤ 1000) else false) = decide (l.length ≤ 60 ∧ tot l ≤ 1000) := by
  by_cases h6 : l.length ≤ 60
  · rw [if_pos (by omega), hy h6 (by omega) (by omega)]
    simp only [h6, true_and, decide_eq_decide]
    omega
  · rw [if_neg (by omega)]
    simp [h6]
 rw [← e]
 exact hE
theorem Of_l0 (l : List RO) (hl : l.length ≤ 1000000) : ∀ (t : List RO) (i : Nat) (x : List AO), l.drop i = t → x.length + t.length ≤ 1000000 →
 Ev (fun k => marlinelaw12_Of.l0 k x l (l.length : Int) i) (x ++ t.map ao)
 | [], i, x, h, _ => by
  have h3 := nil_len h
  rw [List.map_nil, List.append_nil]
  exact Ev.step (fun k => by simp only [marlinelaw12_Of.l0]; rw [if_neg (by omega)]) (Ev.now _)
 | o :: t, i, x, h, hx => by
  obtain ⟨e1, e2, e3⟩ := rdr h
  simp only [List.length_cons] at hx
  have ih := Of_l0 l hl t (i + 1) (x ++ [ao o]) e2 (by simp; omega)
  rw [List.map_cons, show x ++ ao o :: t.map ao = (x ++ [ao o]) ++ t.map ao by simp]
  refine Ev.step (fun k => ?_) ih
  simp only [marlinelaw12_Of.l0]
  rw [if_pos (by omega), if_pos (by omega), if_pos (by omega), if_pos (by omega), e1, sucB i (by omega)]
  rfl
theorem OfL (l : List RO) (hl : l.length ≤ 1000000) : Ev (fun k => marlinelaw12_Of.f k l) (l.map ao) := Of_l0 l hl l 0 [] rfl (by simpa using hl)
theorem To_l0 (l : List AO) (hl : l.length ≤ 1000000) : ∀ (t : List AO) (i : Nat) (x : List RO), l.drop i = t → x.length + t.length ≤ 1000000 →
 Ev (fun k => marlinelaw12_To.l0 k x l (l.length : Int) i) (x ++ t.map ro)
 | [], i, x, h, _ => by
  have h3 := nil_len h
  rw [List.map_nil, List.append_nil]
  exact Ev.step (fun k => by simp only [marlinelaw12_To.l0]; rw [if_neg (by omega)]) (Ev.now _)
 | o :: t, i, x, h, hx => by
  obtain ⟨e1, e2, e3⟩ := rda h
  simp only [List.length_cons] at hx
  have ih := To_l0 l hl t (i + 1) (x ++ [ro o]) e2 (by simp; omega)
  rw [List.map_cons, show x ++ ro o :: t.map ro = (x ++ [ro o]) ++ t.map ro by simp]
  refine Ev.step (fun k => ?_) ih
  simp only [marlinelaw12_To.l0]
  rw [if_pos (by omega), if_pos (by omega), if_pos (by omega), if_pos (by omega), e1, sucB i (by omega)]
  rfl
theorem ToL (l : List AO) (hl : l.length ≤ 1000000) : Ev (fun k => marlinelaw12_To.f k l) (l.map ro) := To_l0 l hl l 0 [] rfl (by simpa using hl)
def size : List AO → Nat
 | [] => 0
 | o :: t => 2 + o.f1.length + size t
end Go.Proofs.Ytgjeahgagciagaa.Sp
namespace Go.Proofs.Ytgjeahgagciagaa.Sp
open Go.RowKit Go.Proofs.Ytgjeahgagciagaa.Print Go.Proofs.YtgjeahgagciagaaW.PrintWords Go.Proofs.YtgjeahgagciagaaW.PrintLast Go.Proofs.Ytgjeahgagciagaa.Pl
set_option linter.unusedVariables false
theorem rSame_l0 (a b : List RO) (hl : a.length = b.length) (ha : a.length ≤ 1000000) (hb : ∀ o ∈ a, Lim o.f1) : ∀ (t u : List RO) (i : Nat), a.drop i = t → b.drop i = u → Ev (fun k => marlineref12_Same.l0 k a b i) (decide (t = u))
 | [], u, i, h1, h2 => by
  have h3 := nil_len h1
  obtain rfl : u = [] := by rw [← h2]; exact List.drop_eq_nil_of_le (by omega)
  exact Ev.step (fun k => by simp only [marlineref12_Same.l0]; rw [if_neg (by omega)]; rfl) (Ev.now _)
 | x :: t, [], i, h1, h2 => by
  have := nil_len h2
  obtain ⟨_, _, h3⟩ := rdr h1
  omega
 | x :: t, y :: u, i, h1, h2 => by
  obtain ⟨e1, e2, e3⟩ := rdr h1
  obtain ⟨f1, f2, f3⟩ := rdr h2
  have hx : Lim x.f1 := hb x (by rw [← List.take_append_drop i a, h1]; simp)
  have step : ∀ k, marlineref12_Same.l0 (k + 1) a b i = if x.f0 = y.f0 then ((marlineref01_Equal.f k x.f1 y.f1).bind fun q => if q = true then marlineref12_Same.l0 k a b ((i + 1 : Nat) : Int) else some false) else some false := fun k => by
   simp only [marlineref12_Same.l0]
   rw [if_pos (by omega), if_pos (by omega), if_pos (by omega), e1, f1, sucB i (by omega)]
  refine Ev.step step ?_
  by_cases h3 : x.f0 = y.f0
  · simp only [if_pos h3]
    refine Ev.bind (Equal x.f1 y.f1 hx) ?_
    by_cases h4 : x.f1 = y.f1
    · simp only [h4, decide_true, if_true]
      have exy : x = y := by cases x; cases y; simp_all
      rw [show decide (x :: t = y :: u) = decide (t = u) by simp [exy]]
      exact rSame_l0 a b hl ha hb t u (i + 1) e2 f2
    · simp only [h4, decide_false, Bool.false_eq_true, if_false]
      rw [show decide (x :: t = y :: u) = false by simp; intro e; exact absurd (congrArg S56.f1 e) h4]
      exact Ev.now _
  · simp only [if_neg h3]
    rw [show decide (x :: t = y :: u) = false by simp; intro e; exact absurd (congrArg S56.f0 e) h3]
    exact Ev.now _
theorem rSameL (a b : List RO) (ha : a.length ≤ 1000000) (hb : ∀ o ∈ a, Lim o.f1) : Ev (fun k => marlineref12_Same.f k a b) (decide (a = b)) := by
 by_cases hl : a.length = b.length
 · exact Ev.congr (fun k => by unfold marlineref12_Same.f; rw [if_pos (by omega)]; rfl) (rSame_l0 a b hl ha hb a b 0 rfl rfl)
 · rw [show decide (a = b) = false by simp; rintro rfl; exact hl rfl]
   exact Ev.congr (fun k => by unfold marlineref12_Same.f; rw [if_neg (by omega)]) (Ev.now _)
theorem held_of {l : List RO} (h : (l.length ≤ 9223372036854775807 ∧ l.length * 32 ≤ 140737488351232) ∧ ∀ y0_ ∈ l, ((Lit.int .u8 y0_.f0).wf = true ∧ ((y0_.f1.length ≤ 9223372036854775807 ∧ y0_.f1.length * 1 ≤ 140737488351232) ∧ ∀ y1_ ∈ y0_.f1, (Lit.int .u8 y1_).wf = true))) : Held l :=
 ⟨h.1.2, fun o ho => ⟨u8_of_wf (h.2 o ho).1, by have := (h.2 o ho).2.1.2; omega, bytes_of_wf (h.2 o ho).2.2⟩⟩
theorem tot_mem : ∀ {l : List RO} {o : RO}, o ∈ l → o.f1.length ≤ tot l
 | x :: t, o, h => by
  simp only [tot]
  rcases List.mem_cons.1 h with rfl | h
  · omega
  · have := tot_mem h; omega
end Go.Proofs.Ytgjeahgagciagaa.Sp
namespace Go.Proofs.Ytgjeahgagciagaa.Sp
open Go.RowKit Go.Proofs.Ytgjeahgagciagaa.Print Go.Proofs.YtgjeahgagciagaaW.PrintWords Go.Proofs.YtgjeahgagciagaaW.PrintLast Go.Proofs.Ytgjeahgagciagaa.Pl
set_option linter.unusedVariables false
def few15 (o : List RO) (l6 l7 l8 l9 : List Int) : Bool := decide ((o.length ≤ 60 ∧ tot o ≤ 1000) ∧ l6.length ≤ 600 ∧ l7.length ≤ 600 ∧ l8.length ≤ 600 ∧ l9.length ≤ 40)
theorem FewP (a0 a1 a2 : Int) (o : List RO) (a4 a5 : Int) (l6 l7 l8 l9 : List Int) (ho : Held o) : Ev (fun k => marlinelaw15_Few.f k a0 a1 a2 o a4 a5 l6 l7 l8 l9) (few15 o l6 l7 l8 l9) := by
 unfold marlinelaw15_Few.f few15
 refine Ev.bind (FewL o ho) ?_
 by_cases h : o.length ≤ 60 ∧ tot o ≤ 1000
 · refine Ev.pos (by simp [h]) ?_
   by_cases h6 : (l6.length : Int) ≤ 600
   · refine Ev.pos h6 ?_
     by_cases h7 : (l7.length : Int) ≤ 600
     · refine Ev.pos h7 ?_
       by_cases h8 : (l8.length : Int) ≤ 600
       · refine Ev.pos h8 (Ev.end_ ?_)
         simp only [decide_eq_decide]
         omega
       · exact Ev.neg h8 (Ev.end_ (by rw [eq_comm, decide_eq_false_iff_not]; omega))
     · exact Ev.neg h7 (Ev.end_ (by rw [eq_comm, decide_eq_false_iff_not]; omega))
   · exact Ev.neg h6 (Ev.end_ (by rw [eq_comm, decide_eq_false_iff_not]; omega))
 · exact Ev.neg (by simpa using h) (Ev.end_ (by rw [eq_comm, decide_eq_false_iff_not]; exact fun h2 => h h2.1))
theorem OfP (a0 a1 a2 : Int) (o : List RO) (a4 a5 : Int) (l6 l7 l8 l9 : List Int) (ho : o.length ≤ 1000000) : Ev (fun k => marlinelaw15_Of.f k a0 a1 a2 o a4 a5 l6 l7 l8 l9) (a0, a1, a2, o.map ao, a4, a5, l6, l7, l8, l9) := by
 unfold marlinelaw15_Of.f
 exact Ev.bind (OfL o ho) (Ev.now _)
theorem ToP (a0 a1 a2 : Int) (o : List AO) (a4 a5 : Int) (l6 l7 l8 l9 : List Int) (ho : o.length ≤ 1000000) : Ev (fun k => marlinelaw15_To.f k a0 a1 a2 o a4 a5 l6 l7 l8 l9) (a0, a1, a2, o.map ro, a4, a5, l6, l7, l8, l9) := by
 unfold marlinelaw15_To.f
 exact Ev.bind (ToL o ho) (Ev.now _)
theorem SameP_l0 (a0 a1 a2 : Int) (o : List RO) (a4 a5 : Int) (l6 l7 l8 l9 : List Int) (ho : o.length ≤ 1000000) (hd : ∀ x ∈ o, Lim x.f1) (h6 : Lim l6) (h7 : Lim l7) (h8 : Lim l8) (h9 : Lim l9) : ∀ (t : List Int) (i : Nat), l9.drop i = t →
 Ev (fun k => marlineref15_Same.l0 k i a0 a1 a2 o a4 a5 l6 l7 l8 l9 a0 a1 a2 o a4 a5 l6 l7 l8 l9) true
 | [], i, h => by
  have h3 := nil_len h
  refine Ev.step (fun k => by simp only [marlineref15_Same.l0]; rw [if_neg (by omega)]) ?_
  refine Ev.bind (rSameL o o ho hd) (Ev.pos (by simp) (Ev.bind (Equal l6 l6 h6) (Ev.pos (by simp) (Ev.bind (Equal l7 l7 h7) (Ev.pos (by simp) (Ev.bind (Equal l8 l8 h8) ?_))))))
  exact Ev.end_ (by simp)
 | c :: t, i, h => by
  obtain ⟨e1, e2, e3⟩ := rd_drop h
  unfold Lim at h9
  have ih := SameP_l0 a0 a1 a2 o a4 a5 l6 l7 l8 l9 ho hd h6 h7 h8 h9 t (i + 1) e2
  exact Ev.step (fun k => by simp only [marlineref15_Same.l0]; rw [if_pos (by omega), if_pos (by omega), if_pos (by omega), if_pos trivial, suc i (by omega)]) ih
theorem SameP (a0 a1 a2 : Int) (o : List RO) (a4 a5 : Int) (l6 l7 l8 l9 : List Int) (ho : o.length ≤ 1000000) (hd : ∀ x ∈ o, Lim x.f1) (h6 : Lim l6) (h7 : Lim l7) (h8 : Lim l8) (h9 : Lim l9) :
 Ev (fun k => marlineref15_Same.f k a0 a1 a2 o a4 a5 l6 l7 l8 l9 a0 a1 a2 o a4 a5 l6 l7 l8 l9) true := by
 unfold marlineref15_Same.f
 refine Ev.pos rfl (Ev.pos rfl (Ev.pos rfl (Ev.pos rfl (Ev.pos rfl ?_))))
 refine Ev.step (fun k => by simp only [marlineref15_Same.j0]; rw [if_neg (by simp)]) ?_
 exact SameP_l0 a0 a1 a2 o a4 a5 l6 l7 l8 l9 ho hd h6 h7 h8 h9 l9 0 rfl
end Go.Proofs.Ytgjeahgagciagaa.Sp
namespace Go.Proofs.Ytgjeahgagciagaa.Sp
open Go.RowKit Go.Proofs.Ytgjeahgagciagaa.Print Go.Proofs.YtgjeahgagciagaaW.PrintWords Go.Proofs.YtgjeahgagciagaaW.PrintLast Go.Proofs.Ytgjeahgagciagaa.Pl
set_option linter.unusedVariables false
def be : Nat → Int → List Int
 | 0, _ => []
 | s + 1, n => n / 256 ^ s % 256 :: be s n
theorem be_length (s : Nat) (n : Int) : (be s n).length = s := by
 induction s with
 | zero => rfl
 | succ s ih => simp [be, ih]
theorem Put_l0 (n : Int) (hn : 0 ≤ n) : ∀ (s : Nat) (x : List Int), s ≤ 8 → x.length + s ≤ 3000000 → Ev (fun k => wire_Put.l0 k x n ((s : Int) - 1)) (x ++ be s n)
 | 0, x, h1, h2 => by
  rw [be, List.append_nil]
  exact Ev.step (fun k => by simp only [wire_Put.l0]; rw [if_neg (by omega)]) (Ev.now _)
 | s + 1, x, h1, h2 => by
  have ih := Put_l0 n hn s (x ++ [n / 256 ^ s % 256]) (by omega) (by simp; omega)
  rw [be, show x ++ n / 256 ^ s % 256 :: be s n = (x ++ [n / 256 ^ s % 256]) ++ be s n by simp]
  refine Ev.step (fun k => ?_) ih
  have e : shr .u64 n (8 * (s : Int)) = n / 256 ^ s := by
   unfold shr
   have h3 : (8 * (s : Int)).toNat = 8 * s := by omega
   rw [h3, Nat.min_eq_left (by simp [IntKind.bits]; omega), Int.pow_mul]
   rfl
  simp only [wire_Put.l0]
  rw [show (((s + 1 : Nat) : Int) - 1) = (s : Int) by omega, if_pos (by omega), w64 (x := 8 * (s : Int)) (by omega) (by omega), if_pos (by omega), if_pos (by omega), e, w64 (x := (s : Int) - 1) (by omega) (by omega)]
theorem WPut (x : List Int) (n : Int) (hn : 0 ≤ n) (s : Nat) (hs : s ≤ 8) (hx : x.length ≤ 2000000) : Ev (fun k => wire_Put.f k x n s) (x ++ be s n) := by
 unfold wire_Put.f
 simp only [w64 (x := (s : Int) - 1) (by omega) (by omega)]
 exact Put_l0 n hn s x hs (by omega)
def num : Int → List Int → Int
 | a, [] => a
 | a, c :: t => num (a * 256 + c) t
theorem Get_l0 (l : List Int) (hl : l.length ≤ 8) (hb : Bytes l) : ∀ (t : List Int) (i : Nat) (a : Int), l.drop i = t → 0 ≤ a → a < 256 ^ i → Ev (fun k => wire_Get.l0 k a l (l.length : Int) i) (num a t)
 | [], i, a, h1, h0, ha => by
  have h3 := drop_nil_len h1
  rw [num]
  exact Ev.step (fun k => by simp only [wire_Get.l0]; rw [if_neg (by omega)]) (Ev.now _)
 | c :: t, i, a, h1, h0, ha => by
  obtain ⟨e1, e2, e3⟩ := rd_drop h1
  have hc : Byte c := by
   have h4 := hb.drop i
   rw [h1] at h4
   exact h4.head
  have hc0 := hc.1; have hc1 := hc.2
  have hi7 : (256 : Int) ^ i ≤ 256 ^ 7 := by
   have h9 : (256 : Nat) ^ i ≤ 256 ^ 7 := Nat.pow_le_pow_right (by omega) (by omega)
   have h8 := Int.ofNat_le.2 h9
   rw [Int.natCast_pow, Int.natCast_pow] at h8
   exact h8
  have h7 : (256 : Int) ^ 7 = 72057594037927936 := by decide
  have ih := Get_l0 l hl hb t (i + 1) (a * 256 + c) e2 (by omega) (by rw [Int.pow_succ]; omega)
  rw [num]
  refine Ev.step (fun k => ?_) ih
  have eo : Go.bits .or .u64 (a * 256) c = a * 256 + c := by
   obtain ⟨m, rfl⟩ := Int.eq_ofNat_of_zero_le h0
   obtain ⟨q, rfl⟩ := Int.eq_ofNat_of_zero_le hc0
   have h5 := u64_or_nat (m * 256) q (by omega) (by omega)
   have h6 := nat_join 8 (m * 256) q (by omega) (by omega)
   rw [h6, Int.natCast_mul, Int.natCast_add, Int.natCast_mul] at h5
   exact h5
  simp only [wire_Get.l0]
  rw [if_pos (by omega), if_pos (by omega), if_pos (by omega), e1, wu64 (x := a * 256) (by omega) (by omega), wu64 (x := c) (by omega) (by omega), eo, suc i (by omega)]
theorem WGet (l : List Int) (s : Nat) (hs : s ≤ 8) (hl : s ≤ l.length) (hb : Bytes l) : Ev (fun k => wire_Get.f k l s) (num 0 (l.take s)) := by
 unfold wire_Get.f
 refine Ev.pos (by omega) (Ev.pos (by omega) ?_)
 rw [Int.toNat_natCast]
 exact Get_l0 (l.take s) (by rw [List.length_take]; omega) (hb.take s) (l.take s) 0 0 rfl (by omega) (by simp)
theorem Clone (l : List Int) (hl : Lim l) : slices_Clone_byte_byte.f l = some l := by
 unfold slices_Clone_byte_byte.f; unfold Lim at hl; rw [if_pos (by omega)]
def ctlN (l : List Int) : Int := 256 * rd l 2 + rd l 3
def ctlPut (a b : Int) (d : List Int) : List Int × Int := if d.length + 4 > 65535 then ([], 3) else ([a, b] ++ be 2 (d.length + 4) ++ d, 0)
def ctlSize (l : List Int) : Int × Int := if l.length < 4 then (0, 2) else if ctlN l < 4 then (0, 4) else if ctlN l > l.length then (0, 2) else (ctlN l, 0)
def ctlGet (l : List Int) : Int × Int × List Int × Int := if (ctlSize l).2 = 0 then (rd l 0, rd l 1, (l.take (ctlN l).toNat).drop 4, 0) else (0, 0, [], (ctlSize l).2)
theorem CPut (a b : Int) (d : List Int) (hd : Lim d) : Ev (fun k => ctl_Put.f k a b d) (ctlPut a b d) := by
 unfold ctl_Put.f ctlPut
 unfold Lim at hd
 by_cases h : d.length + 4 > 65535
 · rw [if_pos h]
   exact Ev.pos (by rw [w64 (by omega) (by omega)]; omega) (Ev.now _)
 · rw [if_neg h]
   simp only [w64 (x := (d.length : Int) + 4) (by omega) (by omega), wu64 (x := (d.length : Int) + 4) (by omega) (by omega)]
   refine Ev.neg (by omega) (Ev.bind (WPut [a, b] ((d.length : Int) + 4) (by omega) 2 (by omega) (by simp)) ?_)
   exact Ev.pos (by simp [be_length]; omega) (Ev.now _)
theorem rd_bd {l : List Int} (hb : Bytes l) (i : Int) : 0 ≤ rd l i ∧ rd l i < 256 := by
 unfold rd
 rw [List.getD_eq_getElem?_getD]
 by_cases h : i.toNat < l.length
 · rw [List.getElem?_eq_getElem h]
   exact hb _ (List.getElem_mem h)
 · rw [List.getElem?_eq_none (by omega)]
   simp
theorem ctlN_bd {l : List Int} (hb : Bytes l) : 0 ≤ ctlN l ∧ ctlN l < 65536 := by
 have := rd_bd hb 2; have := rd_bd hb 3
 unfold ctlN; omega
theorem CSize (l : List Int) (hl : Lim l) (hb : Bytes l) : Ev (fun k => ctl_size.f k l) (ctlSize l) := by
 unfold ctl_size.f ctlSize
 unfold Lim at hl
 have hn := ctlN_bd hb
 by_cases h : l.length < 4
 · rw [if_pos h]
   exact Ev.pos (by omega) (Ev.now _)
 rw [if_neg h]
 refine Ev.neg (by omega) (Ev.pos (by omega) (Ev.bind (WGet (l.drop 2) 2 (by omega) (by rw [List.length_drop]; omega) (hb.drop 2)) ?_))
 have e : num 0 ((l.drop 2).take 2) = ctlN l := by
  match l, h with
  | a :: b :: c :: d :: t, _ => simp [num, ctlN, rd]; omega
  | [], h | [_], h | [_, _], h | [_, _, _], h => simp at h
 rw [e, w64 (by omega) (by omega)]
 by_cases h1 : ctlN l < 4
 · simp only [if_pos h1]; exact Ev.now _
 simp only [if_neg h1]
 by_cases h2 : ctlN l > l.length
 · simp only [if_pos h2]; exact Ev.now _
 · simp only [if_neg h2]; exact Ev.now _
theorem ctlSize_ok {l : List Int} (h : (ctlSize l).2 = 0) : 4 ≤ l.length ∧ 4 ≤ ctlN l ∧ ctlN l ≤ l.length ∧ (ctlSize l).1 = ctlN l := by
 unfold ctlSize at h ⊢
 split at h <;> rename_i h1
 · simp at h
 · split at h <;> rename_i h2
   · simp at h
   · split at h <;> rename_i h3
     · simp at h
     · rw [if_neg h1, if_neg h2, if_neg h3]
       exact ⟨by omega, by omega, by omega, rfl⟩
theorem CGet (l : List Int) (hl : Lim l) (hb : Bytes l) : Ev (fun k => ctl_Get.f k l) (ctlGet l) := by
 unfold ctl_Get.f ctlGet
 refine Ev.bind (CSize l hl hb) ?_
 by_cases h : (ctlSize l).2 = 0
 · obtain ⟨h1, h2, h3, h4⟩ := ctlSize_ok h
   have hc : Lim ((l.take (ctlN l).toNat).drop 4) := by unfold Lim at hl ⊢; rw [List.length_drop, List.length_take]; omega
   simp only [if_pos h, h4]
   refine Ev.pos (by omega) (Ev.pos (by omega) (Ev.pos (by omega) (Ev.pos (by omega) ?_)))
   rw [Clone _ hc]
   exact Ev.name (Ev.now _)
 · simp only [if_neg h]
   exact Ev.now _
end Go.Proofs.Ytgjeahgagciagaa.Sp
namespace Go.Proofs.Ytgjeahgagciagaa.Sp
open Go.RowKit Go.Proofs.Ytgjeahgagciagaa.Print Go.Proofs.YtgjeahgagciagaaW.PrintWords Go.Proofs.YtgjeahgagciagaaW.PrintLast Go.Proofs.Ytgjeahgagciagaa.Pl
set_option linter.unusedVariables false
abbrev Pk17 (α : Type) := Int × Int × Int × List α × Int × Int × List Int × List Int × List Int × List Int × Int
def wrong17 {α : Type} (c : Int) (o : List α) (a4 a5 : Int) (l6 l7 l8 l9 : List Int) : Bool :=
 decide (o.length + (if c = 1 ∨ c = 2 ∨ c = 3 then 0 else l6.length) + (if c = 1 then 0 else l7.length) + (if c = 1 ∨ c = 2 ∨ c = 3 then l8.length else 0) + l9.length > 0 ∨ a4 ≠ 0 ∨ a5 ≠ 0)
def pdat (c : Int) (l6 l7 l8 : List Int) : List Int := if c = 1 then ((l6.length : Int) :: l6) ++ ((l7.length : Int) :: l7) else if c = 2 ∨ c = 3 then (l6.length : Int) :: l6 else l8
def pput {α : Type} (a0 a1 a2 : Int) (o : List α) (a4 a5 : Int) (l6 l7 l8 l9 : List Int) : List Int × Int :=
 if a0 = 49187 then (if wrong17 a1 o a4 a5 l6 l7 l8 l9 = true then ([], 9) else if l6.length > 255 ∨ l7.length > 255 then ([], 3) else ctlPut a1 a2 (pdat a1 l6 l7 l8)) else ([], 8)
theorem nil_of {l : List Int} (h : l.length = 0) : l = [] := List.eq_nil_of_length_eq_zero h
theorem u8len {l : List Int} (h : l.length ≤ 255) : IntKind.u8.wrap (l.length : Int) = l.length := by rw [IntKind.wrap_u8]; exact Int.emod_eq_of_lt (by omega) (by omega)
theorem putF2 (c i : Int) (l6 l7 : List Int) (h6 : l6.length ≤ 100000) (h7 : l7.length ≤ 100000) : Ev (fun k => putF k c i [] [l6, l7]) (if l6.length > 255 ∨ l7.length > 255 then ([], 3) else ctlPut c i (((l6.length : Int) :: l6) ++ ((l7.length : Int) :: l7))) := by
 simp only [putF]
 by_cases c6 : l6.length > 255
 · rw [if_pos (.inl c6)]
   exact Ev.pos (by omega) (Ev.now _)
 · refine Ev.neg (by omega) (Ev.pos (by simp only [List.length_nil]; omega) ?_)
   by_cases c7 : l7.length > 255
   · rw [if_pos (.inr c7)]
     exact Ev.pos (by omega) (Ev.now _)
   · rw [if_neg (by omega)]
     refine Ev.neg (by omega) (Ev.pos (by simp only [List.length_nil, List.length_append, List.length_cons]; omega) ?_)
     rw [u8len (by omega), u8len (by omega)]
     have e : ((([] ++ [(l6.length : Int)]) ++ l6) ++ [(l7.length : Int)]) ++ l7 = ((l6.length : Int) :: l6) ++ ((l7.length : Int) :: l7) := by simp
     rw [e]
     exact CPut c i _ (by unfold Lim; simp only [List.length_append, List.length_cons]; omega)
theorem putF1 (c i : Int) (l6 : List Int) (h6 : l6.length ≤ 100000) : Ev (fun k => putF k c i [] [l6]) (if l6.length > 255 then ([], 3) else ctlPut c i ((l6.length : Int) :: l6)) := by
 simp only [putF]
 by_cases c6 : l6.length > 255
 · rw [if_pos c6]
   exact Ev.pos (by omega) (Ev.now _)
 · rw [if_neg c6]
   refine Ev.neg (by omega) (Ev.pos (by simp only [List.length_nil]; omega) ?_)
   rw [u8len (by omega)]
   have e : ([] ++ [(l6.length : Int)]) ++ l6 = (l6.length : Int) :: l6 := by simp
   rw [e]
   exact CPut c i _ (by unfold Lim; simp only [List.length_cons]; omega)
theorem PapPut (a0 a1 a2 : Int) (o : List AO) (a4 a5 : Int) (l6 l7 l8 l9 : List Int) (ho : o.length ≤ 100000) (h6 : l6.length ≤ 100000) (h7 : l7.length ≤ 100000) (h8 : l8.length ≤ 100000) (h9 : l9.length ≤ 100000) :
 Ev (fun k => pap_Put.f k a0 a1 a2 o a4 a5 l6 l7 l8 l9) (pput a0 a1 a2 o a4 a5 l6 l7 l8 l9) := by
 have fin : ∀ (S : Int) (g : Nat → List Int → Option (List Int × Int)), (wrong17 a1 o a4 a5 l6 l7 l8 l9 = decide (S > 0 ∨ a4 ≠ 0 ∨ a5 ≠ 0)) → (wrong17 a1 o a4 a5 l6 l7 l8 l9 = false → Ev (fun k => g k l8) (if l6.length > 255 ∨ l7.length > 255 then ([], 3) else ctlPut a1 a2 (pdat a1 l6 l7 l8))) →
  Ev (fun k => if a0 = 49187 then (if 0 < S then some (([] : List Int), (9 : Int)) else if a4 = 0 then (if a5 = 0 then (slices_Clone_byte_byte.f l8).bind fun t => g k t else some ([], 9)) else some ([], 9)) else some ([], 8)) (pput a0 a1 a2 o a4 a5 l6 l7 l8 l9) := by
  intro S g hw hg
  unfold pput
  by_cases h0 : a0 = 49187
  · rw [if_pos h0]
    refine Ev.pos h0 ?_
    by_cases hS : 0 < S
    · rw [hw, decide_eq_true (by omega), if_pos rfl]
      exact Ev.pos hS (Ev.now _)
    · refine Ev.neg hS ?_
      by_cases h4 : a4 = 0
      · refine Ev.pos h4 ?_
        by_cases h5 : a5 = 0
        · have hf : wrong17 a1 o a4 a5 l6 l7 l8 l9 = false := by rw [hw]; exact decide_eq_false (by omega)
          rw [if_neg (by rw [hf]; decide)]
          refine Ev.pos h5 ?_
          rw [Clone l8 (by unfold Lim; omega)]
          exact Ev.name (hg hf)
        · rw [hw, decide_eq_true (by omega), if_pos rfl]
          exact Ev.neg h5 (Ev.now _)
      · rw [hw, decide_eq_true (by omega), if_pos rfl]
        exact Ev.neg h4 (Ev.now _)
  · rw [if_neg h0]
    exact Ev.neg h0 (Ev.now _)
 unfold pap_Put.f
 by_cases h1 : a1 = 1
 · refine Ev.pos h1 ?_
   unfold papPut2
   rw [w64 (x := (o.length : Int)) (by omega) (by omega), w64 (x := (o.length : Int)) (by omega) (by omega), w64 (x := (o.length : Int) + l8.length) (by omega) (by omega), w64 (x := (o.length : Int) + l8.length + l9.length) (by omega) (by omega)]
   refine fin _ (fun k t => putF k a1 a2 t [l6, l7]) ?_ ?_
   · unfold wrong17
     rw [if_pos (.inl h1), if_pos h1, if_pos (.inl h1)]
     apply decide_eq_decide.2
     omega
   · intro hf
     unfold wrong17 at hf
     rw [decide_eq_false_iff_not, if_pos (.inl h1), if_pos h1, if_pos (.inl h1)] at hf
     have e8 : l8 = [] := nil_of (by omega)
     subst e8
     have := putF2 a1 a2 l6 l7 h6 h7
     unfold pdat
     rw [if_pos h1]
     exact this
 · refine Ev.neg h1 ?_
   by_cases h2 : a1 = 2 ∨ a1 = 3
   · refine Ev.pos h2 ?_
     unfold papPut1
     rw [w64 (x := (o.length : Int)) (by omega) (by omega), w64 (x := (o.length : Int) + l7.length) (by omega) (by omega), w64 (x := (o.length : Int) + l7.length + l8.length) (by omega) (by omega), w64 (x := (o.length : Int) + l7.length + l8.length + l9.length) (by omega) (by omega)]
     refine fin _ (fun k t => putF k a1 a2 t [l6]) ?_ ?_
     · unfold wrong17
       rw [if_pos (.inr h2), if_neg h1, if_pos (.inr h2)]
       apply decide_eq_decide.2
       omega
     · intro hf
       unfold wrong17 at hf
       rw [decide_eq_false_iff_not, if_pos (.inr h2), if_neg h1, if_pos (.inr h2)] at hf
       have e8 : l8 = [] := nil_of (by omega)
       have e7 : l7 = [] := nil_of (by omega)
       subst e8 e7
       have := putF1 a1 a2 l6 h6
       unfold pdat
       rw [if_neg h1, if_pos h2]
       by_cases c6 : l6.length > 255
       · rw [if_pos c6] at this
         rw [if_pos (.inl c6)]
         exact this
       · rw [if_neg c6] at this
         rw [if_neg (by simp only [List.length_nil]; omega)]
         exact this
   · refine Ev.neg h2 ?_
     unfold papPut0
     have h3 : ¬ (a1 = 1 ∨ a1 = 2 ∨ a1 = 3) := fun h => h.elim h1 h2
     rw [w64 (x := (o.length : Int) + l6.length) (by omega) (by omega), w64 (x := (o.length : Int) + l6.length + l7.length) (by omega) (by omega), w64 (x := (o.length : Int) + l6.length + l7.length) (by omega) (by omega), w64 (x := (o.length : Int) + l6.length + l7.length + l9.length) (by omega) (by omega)]
     refine fin _ (fun k t => putF k a1 a2 t []) ?_ ?_
     · unfold wrong17
       rw [if_neg h3, if_neg h1, if_neg h3]
       apply decide_eq_decide.2
       omega
     · intro hf
       unfold wrong17 at hf
       rw [decide_eq_false_iff_not, if_neg h3, if_neg h1, if_neg h3] at hf
       unfold pdat
       rw [if_neg h1, if_neg h2, if_neg (by omega)]
       exact CPut a1 a2 l8 (by unfold Lim; omega)
def txt (l : List Int) : List Int × List Int × Bool := if l.length = 0 ∨ (l.length : Int) ≤ rd l 0 then ([], [], false) else ((l.take (1 + rd l 0).toNat).drop 1, l.drop (1 + rd l 0).toNat, true)
theorem Text (l : List Int) (hl : Lim l) (hb : Bytes l) : pap_text.f l = some (txt l) := by
 unfold pap_text.f txt
 unfold Lim at hl
 have h0 := rd_bd hb 0
 by_cases c0 : l.length = 0
 · rw [if_pos (by omega), if_pos (.inl c0)]
 · rw [if_neg (by omega), if_pos (by omega), w64 (x := rd l 0) (by omega) (by omega)]
   by_cases c1 : (l.length : Int) ≤ rd l 0
   · rw [if_pos c1, if_pos (.inr c1)]
   · rw [if_neg c1, w64 (x := 1 + rd l 0) (by omega) (by omega), if_pos (by omega), if_pos (by omega), Clone _ (by unfold Lim; simp only [List.length_drop, List.length_take]; omega), Option.bind_some, if_pos (by omega), if_neg (by omega)]
theorem txt_bytes {l : List Int} (hb : Bytes l) : Bytes (txt l).1 ∧ Bytes (txt l).2.1 ∧ (txt l).1.length ≤ l.length ∧ (txt l).2.1.length ≤ l.length := by
 unfold txt
 split
 · exact ⟨Bytes.nil, Bytes.nil, by simp, by simp⟩
 · exact ⟨(hb.take _).drop _, hb.drop _, by simp only [List.length_drop, List.length_take]; omega, by simp only [List.length_drop]; omega⟩
def perr17 {α : Type} (e : Int) : Pk17 α := (0, 0, 0, [], 0, 0, [], [], [], [], e)
def pend17 {α : Type} (c i : Int) (l1 l2 rest : List Int) : Pk17 α := if rest.length > 0 then perr17 4 else (49187, c, i, [], 0, 0, l1, l2, [], [], 0)
def pgetd {α : Type} (c i : Int) (d : List Int) : Pk17 α :=
 if c = 1 then (if (txt d).2.2 = true then (if (txt (txt d).2.1).2.2 = true then pend17 c i (txt d).1 (txt (txt d).2.1).1 (txt (txt d).2.1).2.1 else perr17 2) else perr17 2)
 else if c = 2 ∨ c = 3 then (if (txt d).2.2 = true then pend17 c i (txt d).1 [] (txt d).2.1 else perr17 2)
 else (49187, c, i, [], 0, 0, [], [], d, [], 0)
def pget17 {α : Type} (l : List Int) : Pk17 α := if (ctlGet l).2.2.2 = 0 then pgetd (ctlGet l).1 (ctlGet l).2.1 (ctlGet l).2.2.1 else perr17 (ctlGet l).2.2.2
theorem ctlGet_dat {l : List Int} (hb : Bytes l) : Bytes (ctlGet l).2.2.1 ∧ (ctlGet l).2.2.1.length ≤ l.length ∧ Byte (ctlGet l).1 := by
 unfold ctlGet
 split
 · exact ⟨(hb.take _).drop _, by simp only [List.length_drop, List.length_take]; omega, rd_bd hb 0⟩
 · exact ⟨Bytes.nil, by simp, by constructor <;> omega⟩
theorem papE_eq (c i : Int) (l1 l2 rest : List Int) : papE c i l1 l2 rest = some (pend17 c i l1 l2 rest) := by
 unfold papE pend17 papZ perr17
 by_cases h : rest.length > 0
 · rw [if_pos (by omega), if_pos h]
 · rw [if_neg (by omega), if_neg h]
theorem PapGet (l : List Int) (hb : Bytes l) (hl : Lim l) : Ev (fun k => pap_Get.f k l) (pget17 l) := by
 unfold pap_Get.f
 refine Ev.bind (CGet l hl hb) ?_
 obtain ⟨hd, hdl, _⟩ := ctlGet_dat hb
 unfold pget17
 generalize ctlGet l = g at *
 obtain ⟨c, i, d, e⟩ := g
 simp only at hd hdl ⊢
 have hld : Lim d := by unfold Lim at hl ⊢; omega
 obtain ⟨t1, t2, t3, t4⟩ := txt_bytes hd
 by_cases he : e = 0
 · refine Ev.pos he ?_
   rw [if_pos he]
   unfold pgetd
   by_cases h1 : c = 1
   · refine Ev.pos h1 ?_
     rw [if_pos h1]
     unfold papG2
     rw [Text d hld hd]
     refine Ev.name ?_
     by_cases k1 : (txt d).2.2 = true
     · refine Ev.pos k1 ?_
       rw [if_pos k1]
       unfold papG2b
       rw [Text _ (by unfold Lim at hld ⊢; omega) t2]
       refine Ev.name ?_
       by_cases k2 : (txt (txt d).2.1).2.2 = true
       · refine Ev.pos k2 ?_
         rw [if_pos k2]; rw [papE_eq]; exact Ev.now _
       · refine Ev.neg k2 ?_
         rw [if_neg k2]; exact Ev.now _
     · refine Ev.neg k1 ?_
       rw [if_neg k1]; exact Ev.now _
   · refine Ev.neg h1 ?_
     rw [if_neg h1]
     by_cases h2 : c = 2 ∨ c = 3
     · refine Ev.pos h2 ?_
       rw [if_pos h2]
       unfold papG1
       rw [Text d hld hd]
       refine Ev.name ?_
       by_cases k1 : (txt d).2.2 = true
       · refine Ev.pos k1 ?_
         rw [if_pos k1]; rw [papE_eq]; exact Ev.now _
       · refine Ev.neg k1 ?_
         rw [if_neg k1]; exact Ev.now _
     · refine Ev.neg h2 ?_
       rw [if_neg h2]; exact Ev.now _
 · refine Ev.neg he ?_
   rw [if_neg he]; exact Ev.now _
theorem Speaks17 : Ev (fun k => marlinelaw17_speaks.f k) true := by
 unfold marlinelaw17_speaks.f
 refine Ev.bind (PapPut 49187 1 0 [] 0 0 [97] [98, 99] [] [] (by simp) (by simp) (by simp) (by simp) (by simp)) ?_
 have e : pput 49187 1 0 ([] : List AO) 0 0 [97] [98, 99] [] [] = ([1, 0, 0, 9, 1, 97, 2, 98, 99], 0) := by decide +kernel
 rw [e]
 refine Ev.pos rfl ?_
 have h := Equal [1, 0, 0, 9, 1, 97, 2, 98, 99] [1, 0, 0, 9, 1, 97, 2, 98, 99] (by unfold Lim; decide)
 rw [show decide (([1, 0, 0, 9, 1, 97, 2, 98, 99] : List Int) = [1, 0, 0, 9, 1, 97, 2, 98, 99]) = true by decide] at h
 exact h
end Go.Proofs.Ytgjeahgagciagaa.Sp
namespace Go.Proofs.Ytgjeahgagciagaa.Sp
open Go.RowKit Go.Proofs.Ytgjeahgagciagaa.Print Go.Proofs.YtgjeahgagciagaaW.PrintWords Go.Proofs.YtgjeahgagciagaaW.PrintLast Go.Proofs.Ytgjeahgagciagaa.Pl
set_option linter.unusedVariables false
theorem pget_both (l : List Int) (hb : Bytes l) (hl : Lim l) : ∃ (a0 a1 a2 a4 a5 : Int) (l6 l7 l8 l9 : List Int) (e : Int), (pget17 l : Pk17 AO) = (a0, a1, a2, [], a4, a5, l6, l7, l8, l9, e) ∧ (pget17 l : Pk17 RO) = (a0, a1, a2, [], a4, a5, l6, l7, l8, l9, e) ∧ Lim l6 ∧ Lim l7 ∧ Lim l8 ∧ Lim l9 := by
 obtain ⟨hd, hdl, _⟩ := ctlGet_dat hb
 have L0 : Lim ([] : List Int) := by unfold Lim; simp
 have hL : Lim (ctlGet l).2.2.1 := by unfold Lim at hl ⊢; omega
 unfold pget17 pgetd
 generalize ctlGet l = g at hd hL
 obtain ⟨c, i, d, e⟩ := g
 simp only at hd hL ⊢
 obtain ⟨t1, t2, t3, t4⟩ := txt_bytes hd
 obtain ⟨u1, u2, u3, u4⟩ := txt_bytes t2
 have T1 : Lim (txt d).1 := by unfold Lim at hL ⊢; omega
 have U1 : Lim (txt (txt d).2.1).1 := by unfold Lim at hL ⊢; omega
 unfold pend17 perr17
 repeat' split
 all_goals first
  | exact ⟨_, _, _, _, _, _, _, _, _, _, rfl, rfl, L0, L0, L0, L0⟩
  | exact ⟨_, _, _, _, _, _, _, _, _, _, rfl, rfl, L0, L0, hL, L0⟩
  | exact ⟨_, _, _, _, _, _, _, _, _, _, rfl, rfl, T1, L0, L0, L0⟩
  | exact ⟨_, _, _, _, _, _, _, _, _, _, rfl, rfl, T1, U1, L0, L0⟩
end Go.Proofs.Ytgjeahgagciagaa.Sp
namespace Go.Proofs.Ytgjeahgagciagaa.Sp
open Go.RowKit Go.Proofs.Ytgjeahgagciagaa.Print Go.Proofs.YtgjeahgagciagaaW.PrintWords Go.Proofs.YtgjeahgagciagaaW.PrintLast Go.Proofs.Ytgjeahgagciagaa.Pl
set_option linter.unusedVariables false
theorem PapKeeps : marlinelaw17_PapKeeps.Pure := by
 intro a0 a1 a2 o a4 a5 l6 l7 l8 l9 b ha0 ha1 ha2 ho _ _ h6 h7 h8 h9 _ _ hb
 have Ho := held_of ho
 have hbb := bytes_of_wf hb
 refine Ev.rounds ?_
 unfold marlinelaw17_PapKeeps.f
 have out : Ev (fun k => marlinelaw17_PapKeeps.j0 k b true a0 a1 a2 o a4 a5 l6 l7 l8 l9) true :=
  Ev.step (fun k => by simp only [marlinelaw17_PapKeeps.j0]; rw [if_pos trivial]) (Ev.bind Speaks17 (Ev.now _))
 refine Ev.bind Speaks17 (Ev.pos rfl (Ev.bind (FewP a0 a1 a2 o a4 a5 l6 l7 l8 l9 Ho) ?_))
 by_cases hF : few15 o l6 l7 l8 l9 = true
 rotate_left
 · exact Ev.neg hF out
 refine Ev.pos hF ?_
 by_cases hq : (b.length : Int) > 600
 · rw [decide_eq_true hq]; exact out
 rw [decide_eq_false hq]
 have F := of_decide_eq_true hF
 have hL : Lim b := by unfold Lim; omega
 refine Ev.step (fun k => by simp only [marlinelaw17_PapKeeps.j0]; rw [if_neg (by decide)]) (Ev.bind (OfP a0 a1 a2 o a4 a5 l6 l7 l8 l9 (by omega)) ?_)
 refine Ev.bind (PapPut a0 a1 a2 (o.map ao) a4 a5 l6 l7 l8 l9 (by rw [List.length_map]; omega) (by omega) (by omega) (by omega) (by omega)) ?_
 refine Ev.name (Ev.pos (by simp only [List.length_nil]; omega) (Ev.name ?_))
 simp only [List.nil_append]
 obtain ⟨c0, c1, c2, c4, c5, d6, d7, d8, d9, e, E1, E2, L6, L7, L8, L9⟩ := pget_both b hbb hL
 have G1 := PapGet b hbb hL
 rw [E1] at G1
 refine Ev.bind G1 (Ev.bind G1 ?_)
 have hd : ∀ x ∈ o, Lim x.f1 := fun x hx => by have := tot_mem hx; unfold Lim; omega
 have Lz : ∀ l : List Int, l.length ≤ 600 → Lim l := fun l h => by unfold Lim; omega
 have loop : ∀ (n i : Nat) (d : List Int), d.length - i = n → d.length ≤ 1000000 → i ≤ d.length → Ev (fun k => marlinelaw17_PapKeeps.l0 k d e (d.length : Int) i a0 a1 a2 o a4 a5 l6 l7 l8 l9 a0 a1 a2 (o.map ao) a4 a5 l6 l7 l8 l9 c0 c1 c2 [] c4 c5 d6 d7 d8 d9 c0 c1 c2 [] c4 c5 d6 d7 d8 d9) true := by
  intro n
  induction n with
  | zero =>
   intro i d h1 h2 h3
   refine Ev.step (fun k => by simp only [marlinelaw17_PapKeeps.l0]; rw [if_neg (by omega)]) ?_
   have T := ToP a0 a1 a2 (o.map ao) a4 a5 l6 l7 l8 l9 (by rw [List.length_map]; omega)
   rw [map_ro_ao] at T
   refine Ev.bind T (Ev.bind (SameP a0 a1 a2 o a4 a5 l6 l7 l8 l9 (by omega) hd (Lz _ F.2.1) (Lz _ F.2.2.1) (Lz _ F.2.2.2.1) (Lz _ (by omega))) (Ev.pos rfl ?_))
   by_cases he : e = 0
   · refine Ev.pos he (Ev.bind (ToP c0 c1 c2 [] c4 c5 d6 d7 d8 d9 (by simp)) (Ev.bind (ToP c0 c1 c2 [] c4 c5 d6 d7 d8 d9 (by simp)) ?_))
     exact Ev.bind (SameP c0 c1 c2 [] c4 c5 d6 d7 d8 d9 (by simp) (by simp) L6 L7 L8 L9) (Ev.end_ rfl)
   · exact Ev.neg he (Ev.now _)
  | succ n ih =>
   intro i d h1 h2 h3
   refine Ev.step (fun k => by simp only [marlinelaw17_PapKeeps.l0]; rw [if_pos (by omega), if_pos (by omega), if_pos (by omega), suc i (by omega), Int.toNat_natCast]) ?_
   have h4 := ih (i + 1) (d.set i ((rd d i + 1) % 256)) (by rw [List.length_set]; omega) (by rw [List.length_set]; omega) (by rw [List.length_set]; omega)
   rw [List.length_set] at h4
   exact h4
 exact loop b.length 0 b (by omega) hL (by omega)
end Go.Proofs.Ytgjeahgagciagaa.Sp
namespace Go.Proofs.Ytgjeahgagciagaa.Pure
open Go.Proofs.Ytgjeahgagciagaa.Print
theorem PapKeeps : marlinelaw17_PapKeeps.Pure := Go.Proofs.Ytgjeahgagciagaa.Sp.PapKeeps
end Go.Proofs.Ytgjeahgagciagaa.Pure
