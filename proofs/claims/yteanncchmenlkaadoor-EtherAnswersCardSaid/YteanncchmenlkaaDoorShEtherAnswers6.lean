/- Texts of this claim, several in one, told shortly by a program of this claim (wip/x/shrink.py): what Go functions come to, and plain words on it. -/
import Derived.Test.YteanncchmenlkaaDoorShEtherAnswers4
import Derived.Test.YteanncchmenlkaaDoorShEtherAnswers5
namespace Go.Proofs.YteanncchmenlkaaDoor.Sp
open Go.RowKit Go.Proofs.YteanncchmenlkaaDoor.Print Go.Proofs.YteanncchmenlkaaDoorW.PrintWords Go.Proofs.YteanncchmenlkaaDoorW.PrintLast Go.Proofs.YteanncchmenlkaaDoor.Pl
set_option linter.unusedVariables false
theorem Ev.pos {α : Type} {c : Prop} [Decidable c] {g h : Nat → Option α} {r : α} (hc : c) (k : Ev g r) : Ev (fun n => if c then g n else h n) r :=
 Ev.congr (fun n => if_pos hc) k
theorem Ev.neg {α : Type} {c : Prop} [Decidable c] {g h : Nat → Option α} {r : α} (hc : ¬ c) (k : Ev h r) : Ev (fun n => if c then g n else h n) r :=
 Ev.congr (fun n => if_neg hc) k
theorem Ev.end_ {α : Type} {x r : α} (h : x = r) : Ev (fun _ => some x) r := h ▸ Ev.now _
def Lim (l : List Int) : Prop := l.length ≤ 1000000
theorem suc (i : Nat) (h : i ≤ 2000000) : wrap64 ((i : Int) + 1) = ((i + 1 : Nat) : Int) := by rw [w64 (by omega) (by omega)]; omega
theorem Equal_l0 (a b : List Int) (hl : a.length = b.length) (ha : Lim a) : ∀ (t u : List Int) (i : Nat), a.drop i = t → b.drop i = u → Ev (fun k => marlineref01_Equal.l0 k a b i) (decide (t = u))
 | [], u, i, h1, h2 => by
  have h3 := drop_nil_len h1
  have h4 := drop_len h2
  obtain rfl : u = [] := List.eq_nil_of_length_eq_zero (by omega)
  exact Ev.step (fun k => by simp only [marlineref01_Equal.l0]; rw [if_neg (by omega)]; rfl) (Ev.now _)
 | x :: t, u, i, h1, h2 => by
  obtain ⟨e1, e2, e3⟩ := rd_drop h1
  cases u with
  | nil => have := drop_nil_len h2; omega
  | cons y u =>
   obtain ⟨f1, f2, f3⟩ := rd_drop h2
   unfold Lim at ha
   by_cases hxy : x = y
   · subst hxy
     have ih := Equal_l0 a b hl ha t u (i + 1) e2 f2
     rw [show decide (x :: t = x :: u) = decide (t = u) by simp]
     exact Ev.step (fun k => by simp only [marlineref01_Equal.l0]; rw [if_pos (by omega), if_pos (by omega), if_pos (by omega), e1, f1, if_pos rfl, suc i (by omega)]) ih
   · rw [show decide (x :: t = y :: u) = false by simp [hxy]]
     exact Ev.step (fun k => by simp only [marlineref01_Equal.l0]; rw [if_pos (by omega), if_pos (by omega), if_pos (by omega), e1, f1, if_neg hxy]) (Ev.now _)
theorem Equal (a b : List Int) (ha : Lim a) : Ev (fun k => marlineref01_Equal.f k a b) (decide (a = b)) := by
 by_cases hl : a.length = b.length
 · exact Ev.congr (fun k => by unfold marlineref01_Equal.f; rw [if_pos (by omega)]; rfl) (Equal_l0 a b hl ha a b 0 rfl rfl)
 · rw [show decide (a = b) = false by simp; rintro rfl; exact hl rfl]
   exact Ev.congr (fun k => by unfold marlineref01_Equal.f; rw [if_neg (by omega)]) (Ev.now _)
end Go.Proofs.YteanncchmenlkaaDoor.Sp
namespace Go.Proofs.YteanncchmenlkaaDoor.Sp
open Go.RowKit Go.Proofs.YteanncchmenlkaaDoor.Print Go.Proofs.YteanncchmenlkaaDoorW.PrintWords Go.Proofs.YteanncchmenlkaaDoorW.PrintLast Go.Proofs.YteanncchmenlkaaDoor.Pl
set_option linter.unusedVariables false
abbrev AO := S62
abbrev RO := S105
def ao (o : RO) : AO := ⟨o.f0, o.f1⟩
def ro (o : AO) : RO := ⟨o.f0, o.f1⟩
theorem map_ro_ao (l : List RO) : (l.map ao).map ro = l := by rw [List.map_map]; exact List.map_id l
instance decAO : DecidableEq AO := fun a b => decidable_of_iff (a.f0 = b.f0 ∧ a.f1 = b.f1) (by cases a; cases b; simp)
instance decRO : DecidableEq RO := fun a b => decidable_of_iff (a.f0 = b.f0 ∧ a.f1 = b.f1) (by cases a; cases b; simp)
theorem drop_get {α : Type} {z : α} {xs : List α} {i : Nat} {b : α} {t : List α} (h : xs.drop i = b :: t) : xs.getD ((i : Int)).toNat z = b ∧ xs.drop (i + 1) = t ∧ i < xs.length := by
 have hlt : i < xs.length := by
  rcases Nat.lt_or_ge i xs.length with h1 | h1
  · exact h1
  · rw [List.drop_eq_nil_of_le h1] at h; cases h
 rw [List.drop_eq_getElem_cons hlt] at h
 injection h with h1 h2
 refine ⟨?_, h2, hlt⟩
 rw [Int.toNat_natCast, List.getD_eq_getElem?_getD, List.getElem?_eq_getElem hlt]
 exact h1
theorem rda {xs : List AO} {i : Nat} {b : AO} {t : List AO} (h : xs.drop i = b :: t) : rd_T62 xs (i : Int) = b ∧ xs.drop (i + 1) = t ∧ i < xs.length := drop_get h
theorem rdr {xs : List RO} {i : Nat} {b : RO} {t : List RO} (h : xs.drop i = b :: t) : rd_T105 xs (i : Int) = b ∧ xs.drop (i + 1) = t ∧ i < xs.length := drop_get h
theorem nil_len {α : Type} {xs : List α} {i : Nat} (h : xs.drop i = []) : xs.length ≤ i := List.drop_eq_nil_iff.1 h
theorem sucB (i : Nat) (h : i ≤ 4611686018427387904) : wrap64 ((i : Int) + 1) = ((i + 1 : Nat) : Int) := by rw [w64 (by omega) (by omega)]; omega
def tot : List RO → Nat
 | [] => 0
 | o :: t => o.f1.length + tot t
def Held (l : List RO) : Prop := l.length * 32 ≤ 140737488351232 ∧ ∀ o ∈ l, Byte o.f0 ∧ o.f1.length ≤ 140737488351232 ∧ Bytes o.f1
theorem tot_le : ∀ (t : List RO), (∀ o ∈ t, o.f1.length ≤ 140737488351232) → tot t ≤ t.length * 140737488351232
 | [], _ => by simp [tot]
 | o :: t, h => by
  have := tot_le t (fun o ho => h o (by simp [ho]))
  have := h o (by simp)
  simp only [tot, List.length_cons]
  omega
theorem Few_l0 (l : List RO) (hl : l.length ≤ 4398046511104) (hd : ∀ o ∈ l, o.f1.length ≤ 140737488351232) : ∀ (t : List RO) (i : Nat) (x : Int), l.drop i = t →
 ∃ y : Int, Ev (fun k => marlinelaw12_Few.l0 k l x l (l.length : Int) i) (if (l.length : Int) ≤ 60 then decide (y ≤ 1000) else false) ∧ (l.length ≤ 60 → 0 ≤ x → x + tot t ≤ 4611686018427387904 → y = x + tot t)
 | [], i, x, h => by
  have h3 := nil_len h
  refine ⟨x, ?_, fun _ _ _ => by simp [tot]⟩
  by_cases h6 : (l.length : Int) ≤ 60
  · rw [if_pos h6]
    exact Ev.step (fun k => by simp only [marlinelaw12_Few.l0]; rw [if_neg (by omega), if_pos h6]) (Ev.now _)
  · rw [if_neg h6]
    exact Ev.step (fun k => by simp only [marlinelaw12_Few.l0]; rw [if_neg (by omega), if_neg h6]) (Ev.now _)
 | o :: t, i, x, h => by
  obtain ⟨e1, e2, e3⟩ := rdr h
  obtain ⟨y, ih, hy⟩ := Few_l0 l hl hd t (i + 1) (wrap64 (x + (o.f1.length : Int))) e2
  refine ⟨y, Ev.step (fun k => ?_) ih, fun h6 h0 hx => ?_⟩
  · simp only [marlinelaw12_Few.l0]
    rw [if_pos (by omega), if_pos (by omega), if_pos (by omega), e1, sucB i (by omega)]
  · simp only [tot, Int.natCast_add] at hx ⊢
    have e : wrap64 (x + (o.f1.length : Int)) = x + o.f1.length := w64 (by omega) (by omega)
    rw [e] at hy
    rw [hy h6 (by omega) (by omega)]
    omega
theorem FewL (l : List RO) (hl : Held l) : Ev (fun k => marlinelaw12_Few.f k l) (decide (l.length ≤ 60 ∧ tot l ≤ 1000)) := by
 unfold marlinelaw12_Few.f
 have hd : ∀ o ∈ l, o.f1.length ≤ 140737488351232 := fun o ho => (hl.2 o ho).2.1
 have h1 := hl.1
 obtain ⟨y, hE, hy⟩ := Few_l0 l (by omega) hd l 0 0 rfl
 have ht := tot_le l hd
 have e : (if (l.length : Int) ≤ 60 then decide (y ≤ 1000) else false) = decide (l.length ≤ 60 ∧ tot l ≤ 1000) := by
  by_cases h6 : l.length ≤ 60
  · rw [if_pos (by omega), hy h6 (by omega) (by omega)]
    simp only [h6, true_and, decide_eq_decide]
    omega
  · rw [if_neg (by omega)]
    simp [h6]
 rw [← e]
 exact hE
theorem Of_l0 (l : List RO) (hl : l.length ≤ 1000000) : ∀ (t : List RO) (i : Nat) (x : List AO), l.drop i = t → x.length + t.length ≤ 1000000 →
 Ev (fun k => marlinelaw12_Of.l0 k x l (l.length : Int) i) (x ++ t.map ao)
 | [], i, x, h, _ => by
  have h3 := nil_len h
  rw [List.map_nil, List.append_nil]
  exact Ev.step (fun k => by simp only [marlinelaw12_Of.l0]; rw [if_neg (by omega)]) (Ev.now _)
 | o :: t, i, x, h, hx => by
  obtain ⟨e1, e2, e3⟩ := rdr h
  simp only [List.length_cons] at hx
  have ih := Of_l0 l hl t (i + 1) (x ++ [ao o]) e2 (by simp; omega)
  rw [List.map_cons, show x ++ ao o :: t.map ao = (x ++ [ao o]) ++ t.map ao by simp]
  refine Ev.step (fun k => ?_) ih
  simp only [marlinelaw12_Of.l0]
  rw [if_pos (by omega), if_pos (by omega), if_pos (by omega), if_pos (by omega), e1, sucB i (by omega)]
  rfl
theorem OfL (l : List RO) (hl : l.length ≤ 1000000) : Ev (fun k => marlinelaw12_Of.f k l) (l.map ao) := Of_l0 l hl l 0 [] rfl (by simpa using hl)
theorem To_l0 (l : List AO) (hl : l.length ≤ 1000000) : ∀ (t : List AO) (i : Nat) (x : List RO), l.drop i = t → x.length + t.length ≤ 1000000 →
 Ev (fun k => marlinelaw12_To.l0 k x l (l.length : Int) i) (x ++ t.map ro)
 | [], i, x, h, _ => by
  have h3 := nil_len h
  rw [List.map_nil, List.append_nil]
  exact Ev.step (fun k => by simp only [marlinelaw12_To.l0]; rw [if_neg (by omega)]) (Ev.now _)
 | o :: t, i, x, h, hx => by
  obtain ⟨e1, e2, e3⟩ := rda h
  simp only [List.length_cons] at hx
  have ih := To_l0 l hl t (i + 1) (x ++ [ro o]) e2 (by simp; omega)
  rw [List.map_cons, show x ++ ro o :: t.map ro = (x ++ [ro o]) ++ t.map ro by simp]
  refine Ev.step (fun k => ?_) ih
  simp only [marlinelaw12_To.l0]
  rw [if_pos (by omega), if_pos (by omega), if_pos (by omega), if_pos (by omega), e1, sucB i (by omega)]
  rfl
theorem ToL (l : List AO) (hl : l.length ≤ 1000000) : Ev (fun k => marlinelaw12_To.f k l) (l.map ro) := To_l0 l hl l 0 [] rfl (by simpa using hl)
def size : List AO → Nat
 | [] => 0
 | o :: t => 2 + o.f1.length + size t
end Go.Proofs.YteanncchmenlkaaDoor.Sp
namespace Go.Proofs.YteanncchmenlkaaDoor.Sp
open Go.RowKit Go.Proofs.YteanncchmenlkaaDoor.Print Go.Proofs.YteanncchmenlkaaDoorW.PrintWords Go.Proofs.YteanncchmenlkaaDoorW.PrintLast Go.Proofs.YteanncchmenlkaaDoor.Pl
set_option linter.unusedVariables false
theorem ba_toList (s : ByteArray) : s.toList = s.data.toList := by
 have key : ∀ (n i : Nat) (r : List UInt8), s.size - i = n → ByteArray.toList.loop s i r = r.reverse ++ s.data.toList.drop i := by
  intro n
  induction n with
  | zero =>
   intro i r h
   unfold ByteArray.toList.loop
   rw [if_neg (by omega), List.drop_eq_nil_of_le (by show s.data.toList.length ≤ i; simp only [Array.length_toList]; have : s.data.size = s.size := rfl; omega), List.append_nil]
  | succ n ih =>
   intro i r h
   unfold ByteArray.toList.loop
   have hi : i < s.data.toList.length := by simp only [Array.length_toList]; have : s.data.size = s.size := rfl; omega
   rw [if_pos (by omega), ih (i + 1) _ (by omega), List.reverse_cons, List.append_assoc, List.drop_eq_getElem_cons hi]
   congr 1
   rw [List.singleton_append]
   congr 1
   show s.data[i]! = _
   rw [getElem!_pos s.data i (by simpa using hi)]
   simp
 have := key (s.size - 0) 0 [] rfl
 simpa [ByteArray.toList] using this
theorem octs_inj : ∀ {a b : List Int}, Bytes a → Bytes b → (a.map fun n => UInt8.ofNat n.toNat) = (b.map fun n => UInt8.ofNat n.toNat) → a = b
 | [], [], _, _, _ => rfl
 | [], _ :: _, _, _, h => by simp at h
 | _ :: _, [], _, _, h => by simp at h
 | x :: a, y :: b, ha, hb, h => by
  simp only [List.map_cons, List.cons.injEq] at h
  have e := octs_inj ha.tail hb.tail h.2
  have h1 := congrArg UInt8.toNat h.1
  have hx := ha.head; have hy := hb.head
  simp only [UInt8.toNat_ofNat'] at h1
  have hx0 := hx.1; have hx1 := hx.2; have hy0 := hy.1; have hy1 := hy.2
  rw [Nat.mod_eq_of_lt (by omega), Nat.mod_eq_of_lt (by omega)] at h1
  rw [e, show x = y by omega]
theorem sameOct {a b : List Int} (ha : Bytes a) (hb : Bytes b) : ((strOfNums a).toList == (strOfNums b).toList) = decide (a = b) := by
 rw [ba_toList, ba_toList]
 by_cases h : a = b
 · subst h; simp
 · have h2 : ¬ (strOfNums a).data.toList = (strOfNums b).data.toList := fun e => h (octs_inj ha hb (by simpa [strOfNums] using e))
   rw [decide_eq_false h, beq_eq_false_iff_ne]
   exact h2
theorem SameL : ∀ (a b : List AO), (∀ o ∈ a, Bytes o.f1) → (∀ o ∈ b, Bytes o.f1) → tlv_Same.f a b = some (decide (a = b)) := by
 intro a b ha hb
 unfold tlv_Same.f
 congr 1
 induction a generalizing b with
 | nil => cases b <;> simp
 | cons x a ih =>
  cases b with
  | nil => simp
  | cons y b =>
   have e := ih b (fun o ho => ha o (by simp [ho])) (fun o ho => hb o (by simp [ho]))
   have e1 : tlv_Same.one x y = decide (x = y) := by
    unfold tlv_Same.one
    rw [sameOct (ha x (by simp)) (hb y (by simp))]
    cases x; cases y
    rw [Bool.eq_iff_iff]
    simp
   simp only [List.length_cons, List.zip_cons_cons, List.all_cons, e1]
   rw [show ((a.length + 1 == b.length + 1) && (decide (x = y) && (a.zip b).all fun p => tlv_Same.one p.1 p.2)) = (decide (x = y) && ((a.length == b.length) && (a.zip b).all fun p => tlv_Same.one p.1 p.2)) by
    rw [show (a.length + 1 == b.length + 1) = (a.length == b.length) by simp]
    cases decide (x = y) <;> simp, e]
   simp
theorem rSame_l0 (a b : List RO) (hl : a.length = b.length) (ha : a.length ≤ 1000000) (hb : ∀ o ∈ a, Lim o.f1) : ∀ (t u : List RO) (i : Nat), a.drop i = t → b.drop i = u → Ev (fun k => marlineref12_Same.l0 k a b i) (decide (t = u))
 | [], u, i, h1, h2 => by
  have h3 := nil_len h1
  obtain rfl : u = [] := by rw [← h2]; exact List.drop_eq_nil_of_le (by omega)
  exact Ev.step (fun k => by simp only [marlineref12_Same.l0]; rw [if_neg (by omega)]; rfl) (Ev.now _)
 | x :: t, [], i, h1, h2 => by
  have := nil_len h2
  obtain ⟨_, _, h3⟩ := rdr h1
  omega
 | x :: t, y :: u, i, h1, h2 => by
  obtain ⟨e1, e2, e3⟩ := rdr h1
  obtain ⟨f1, f2, f3⟩ := rdr h2
  have hx : Lim x.f1 := hb x (by rw [← List.take_append_drop i a, h1]; simp)
  have step : ∀ k, marlineref12_Same.l0 (k + 1) a b i = if x.f0 = y.f0 then ((marlineref01_Equal.f k x.f1 y.f1).bind fun q => if q = true then marlineref12_Same.l0 k a b ((i + 1 : Nat) : Int) else some false) else some false := fun k => by
   simp only [marlineref12_Same.l0]
   rw [if_pos (by omega), if_pos (by omega), if_pos (by omega), e1, f1, sucB i (by omega)]
  refine Ev.step step ?_
  by_cases h3 : x.f0 = y.f0
  · simp only [if_pos h3]
    refine Ev.bind (Equal x.f1 y.f1 hx) ?_
    by_cases h4 : x.f1 = y.f1
    · simp only [h4, decide_true, if_true]
      have exy : x = y := by cases x; cases y; simp_all
      rw [show decide (x :: t = y :: u) = decide (t = u) by simp [exy]]
      exact rSame_l0 a b hl ha hb t u (i + 1) e2 f2
    · simp only [h4, decide_false, Bool.false_eq_true, if_false]
      rw [show decide (x :: t = y :: u) = false by simp; intro e; exact absurd (congrArg S105.f1 e) h4]
      exact Ev.now _
  · simp only [if_neg h3]
    rw [show decide (x :: t = y :: u) = false by simp; intro e; exact absurd (congrArg S105.f0 e) h3]
    exact Ev.now _
theorem rSameL (a b : List RO) (ha : a.length ≤ 1000000) (hb : ∀ o ∈ a, Lim o.f1) : Ev (fun k => marlineref12_Same.f k a b) (decide (a = b)) := by
 by_cases hl : a.length = b.length
 · exact Ev.congr (fun k => by unfold marlineref12_Same.f; rw [if_pos (by omega)]; rfl) (rSame_l0 a b hl ha hb a b 0 rfl rfl)
 · rw [show decide (a = b) = false by simp; rintro rfl; exact hl rfl]
   exact Ev.congr (fun k => by unfold marlineref12_Same.f; rw [if_neg (by omega)]) (Ev.now _)
theorem held_of {l : List RO} (h : (l.length ≤ 9223372036854775807 ∧ l.length * 32 ≤ 140737488351232) ∧ ∀ y0_ ∈ l, ((Lit.int .u8 y0_.f0).wf = true ∧ ((y0_.f1.length ≤ 9223372036854775807 ∧ y0_.f1.length * 1 ≤ 140737488351232) ∧ ∀ y1_ ∈ y0_.f1, (Lit.int .u8 y1_).wf = true))) : Held l :=
 ⟨h.1.2, fun o ho => ⟨u8_of_wf (h.2 o ho).1, by have := (h.2 o ho).2.1.2; omega, bytes_of_wf (h.2 o ho).2.2⟩⟩
end Go.Proofs.YteanncchmenlkaaDoor.Sp
namespace Go.Proofs.YteanncchmenlkaaDoor.Sp
open Go.RowKit Go.Proofs.YteanncchmenlkaaDoor.Print Go.Proofs.YteanncchmenlkaaDoorW.PrintWords Go.Proofs.YteanncchmenlkaaDoorW.PrintLast Go.Proofs.YteanncchmenlkaaDoor.Pl
set_option linter.unusedVariables false
def few15 (o : List RO) (l6 l7 l8 l9 : List Int) : Bool := decide ((o.length ≤ 60 ∧ tot o ≤ 1000) ∧ l6.length ≤ 600 ∧ l7.length ≤ 600 ∧ l8.length ≤ 600 ∧ l9.length ≤ 40)
theorem FewP (a0 a1 a2 : Int) (o : List RO) (a4 a5 : Int) (l6 l7 l8 l9 : List Int) (ho : Held o) : Ev (fun k => marlinelaw15_Few.f k a0 a1 a2 o a4 a5 l6 l7 l8 l9) (few15 o l6 l7 l8 l9) := by
 unfold marlinelaw15_Few.f few15
 refine Ev.bind (FewL o ho) ?_
 by_cases h : o.length ≤ 60 ∧ tot o ≤ 1000
 · refine Ev.pos (by simp [h]) ?_
   by_cases h6 : (l6.length : Int) ≤ 600
   · refine Ev.pos h6 ?_
     by_cases h7 : (l7.length : Int) ≤ 600
     · refine Ev.pos h7 ?_
       by_cases h8 : (l8.length : Int) ≤ 600
       · refine Ev.pos h8 (Ev.end_ ?_)
         simp only [decide_eq_decide]
         omega
       · exact Ev.neg h8 (Ev.end_ (by rw [eq_comm, decide_eq_false_iff_not]; omega))
     · exact Ev.neg h7 (Ev.end_ (by rw [eq_comm, decide_eq_false_iff_not]; omega))
   · exact Ev.neg h6 (Ev.end_ (by rw [eq_comm, decide_eq_false_iff_not]; omega))
 · exact Ev.neg (by simpa using h) (Ev.end_ (by rw [eq_comm, decide_eq_false_iff_not]; exact fun h2 => h h2.1))
theorem OfP (a0 a1 a2 : Int) (o : List RO) (a4 a5 : Int) (l6 l7 l8 l9 : List Int) (ho : o.length ≤ 1000000) : Ev (fun k => marlinelaw15_Of.f k a0 a1 a2 o a4 a5 l6 l7 l8 l9) (a0, a1, a2, o.map ao, a4, a5, l6, l7, l8, l9) := by
 unfold marlinelaw15_Of.f
 exact Ev.bind (OfL o ho) (Ev.now _)
theorem ToP (a0 a1 a2 : Int) (o : List AO) (a4 a5 : Int) (l6 l7 l8 l9 : List Int) (ho : o.length ≤ 1000000) : Ev (fun k => marlinelaw15_To.f k a0 a1 a2 o a4 a5 l6 l7 l8 l9) (a0, a1, a2, o.map ro, a4, a5, l6, l7, l8, l9) := by
 unfold marlinelaw15_To.f
 exact Ev.bind (ToL o ho) (Ev.now _)
theorem SameP_l0 (a0 a1 a2 : Int) (o : List RO) (a4 a5 : Int) (l6 l7 l8 l9 : List Int) (ho : o.length ≤ 1000000) (hd : ∀ x ∈ o, Lim x.f1) (h6 : Lim l6) (h7 : Lim l7) (h8 : Lim l8) (h9 : Lim l9) : ∀ (t : List Int) (i : Nat), l9.drop i = t →
 Ev (fun k => marlineref15_Same.l0 k i a0 a1 a2 o a4 a5 l6 l7 l8 l9 a0 a1 a2 o a4 a5 l6 l7 l8 l9) true
 | [], i, h => by
  have h3 := nil_len h
  refine Ev.step (fun k => by simp only [marlineref15_Same.l0]; rw [if_neg (by omega)]) ?_
  refine Ev.bind (rSameL o o ho hd) (Ev.pos (by simp) (Ev.bind (Equal l6 l6 h6) (Ev.pos (by simp) (Ev.bind (Equal l7 l7 h7) (Ev.pos (by simp) (Ev.bind (Equal l8 l8 h8) ?_))))))
  exact Ev.end_ (by simp)
 | c :: t, i, h => by
  obtain ⟨e1, e2, e3⟩ := rd_drop h
  unfold Lim at h9
  have ih := SameP_l0 a0 a1 a2 o a4 a5 l6 l7 l8 l9 ho hd h6 h7 h8 h9 t (i + 1) e2
  exact Ev.step (fun k => by simp only [marlineref15_Same.l0]; rw [if_pos (by omega), if_pos (by omega), if_pos (by omega), if_pos trivial, suc i (by omega)]) ih
theorem SameP (a0 a1 a2 : Int) (o : List RO) (a4 a5 : Int) (l6 l7 l8 l9 : List Int) (ho : o.length ≤ 1000000) (hd : ∀ x ∈ o, Lim x.f1) (h6 : Lim l6) (h7 : Lim l7) (h8 : Lim l8) (h9 : Lim l9) :
 Ev (fun k => marlineref15_Same.f k a0 a1 a2 o a4 a5 l6 l7 l8 l9 a0 a1 a2 o a4 a5 l6 l7 l8 l9) true := by
 unfold marlineref15_Same.f
 refine Ev.pos rfl (Ev.pos rfl (Ev.pos rfl (Ev.pos rfl (Ev.pos rfl ?_))))
 refine Ev.step (fun k => by simp only [marlineref15_Same.j0]; rw [if_neg (by simp)]) ?_
 exact SameP_l0 a0 a1 a2 o a4 a5 l6 l7 l8 l9 ho hd h6 h7 h8 h9 l9 0 rfl
end Go.Proofs.YteanncchmenlkaaDoor.Sp
namespace Go.Proofs.YteanncchmenlkaaDoor.Sp
open Go.RowKit Go.Proofs.YteanncchmenlkaaDoor.Print Go.Proofs.YteanncchmenlkaaDoorW.PrintWords Go.Proofs.YteanncchmenlkaaDoorW.PrintLast Go.Proofs.YteanncchmenlkaaDoor.Pl
set_option linter.unusedVariables false
def be : Nat → Int → List Int
 | 0, _ => []
 | s + 1, n => n / 256 ^ s % 256 :: be s n
theorem be_length (s : Nat) (n : Int) : (be s n).length = s := by
 induction s with
 | zero => rfl
 | succ s ih => simp [be, ih]
theorem Put_l0 (n : Int) (hn : 0 ≤ n) : ∀ (s : Nat) (x : List Int), s ≤ 8 → x.length + s ≤ 3000000 → Ev (fun k => wire_Put.l0 k x n ((s : Int) - 1)) (x ++ be s n)
 | 0, x, h1, h2 => by
  rw [be, List.append_nil]
  exact Ev.step (fun k => by simp only [wire_Put.l0]; rw [if_neg (by omega)]) (Ev.now _)
 | s + 1, x, h1, h2 => by
  have ih := Put_l0 n hn s (x ++ [n / 256 ^ s % 256]) (by omega) (by simp; omega)
  rw [be, show x ++ n / 256 ^ s % 256 :: be s n = (x ++ [n / 256 ^ s % 256]) ++ be s n by simp]
  refine Ev.step (fun k => ?_) ih
  have e : shr .u64 n (8 * (s : Int)) = n / 256 ^ s := by
   unfold shr
   have h3 : (8 * (s : Int)).toNat = 8 * s := by omega
   rw [h3, Nat.min_eq_left (by simp [IntKind.bits]; omega), Int.pow_mul]
   rfl
  simp only [wire_Put.l0]
  rw [show (((s + 1 : Nat) : Int) - 1) = (s : Int) by omega, if_pos (by omega), w64 (x := 8 * (s : Int)) (by omega) (by omega), if_pos (by omega), if_pos (by omega), e, w64 (x := (s : Int) - 1) (by omega) (by omega)]
theorem WPut (x : List Int) (n : Int) (hn : 0 ≤ n) (s : Nat) (hs : s ≤ 8) (hx : x.length ≤ 2000000) : Ev (fun k => wire_Put.f k x n s) (x ++ be s n) := by
 unfold wire_Put.f
 simp only [w64 (x := (s : Int) - 1) (by omega) (by omega)]
 exact Put_l0 n hn s x hs (by omega)
end Go.Proofs.YteanncchmenlkaaDoor.Sp
namespace Go.Proofs.YteanncchmenlkaaDoor.Sp
open Go.RowKit Go.Proofs.YteanncchmenlkaaDoor.Print Go.Proofs.YteanncchmenlkaaDoorW.PrintWords Go.Proofs.YteanncchmenlkaaDoorW.PrintLast Go.Proofs.YteanncchmenlkaaDoor.Pl
set_option linter.unusedVariables false
set_option linter.unusedSimpArgs false
theorem Equal32_l0 (a b : List Int) (hl : a.length = b.length) (ha : Lim a) : ∀ (t u : List Int) (i : Nat), a.drop i = t → b.drop i = u → Ev (fun k => slices_Equal_uint32_uint32.l0 k a b (a.length : Int) i) (decide (t = u))
 | [], u, i, h1, h2 => by
  have h3 := drop_nil_len h1
  have h4 := drop_len h2
  obtain rfl : u = [] := List.eq_nil_of_length_eq_zero (by omega)
  exact Ev.step (fun k => by simp only [slices_Equal_uint32_uint32.l0]; rw [if_neg (by omega)]; rfl) (Ev.now _)
 | x :: t, u, i, h1, h2 => by
  obtain ⟨e1, e2, e3⟩ := rd_drop h1
  cases u with
  | nil => have := drop_nil_len h2; omega
  | cons y u =>
   obtain ⟨f1, f2, f3⟩ := rd_drop h2
   unfold Lim at ha
   by_cases hxy : x = y
   · subst hxy
     have ih := Equal32_l0 a b hl ha t u (i + 1) e2 f2
     rw [show decide (x :: t = x :: u) = decide (t = u) by simp]
     exact Ev.step (fun k => by simp only [slices_Equal_uint32_uint32.l0]; rw [if_pos (by omega), if_pos (by omega), if_pos (by omega), if_pos (by omega), e1, f1, if_pos rfl, suc i (by omega)]) ih
   · rw [show decide (x :: t = y :: u) = false by simp [hxy]]
     exact Ev.step (fun k => by simp only [slices_Equal_uint32_uint32.l0]; rw [if_pos (by omega), if_pos (by omega), if_pos (by omega), if_pos (by omega), e1, f1, if_neg hxy]) (Ev.now _)
theorem Equal32 (a b : List Int) (ha : Lim a) : Ev (fun k => slices_Equal_uint32_uint32.f k a b) (decide (a = b)) := by
 unfold slices_Equal_uint32_uint32.f
 by_cases h : a.length = b.length
 · exact Ev.pos (by omega) (Equal32_l0 a b h ha a b 0 rfl rfl)
 · refine Ev.neg (by omega) (Ev.end_ ?_)
   rw [eq_comm, decide_eq_false_iff_not]
   rintro rfl
   exact h rfl
theorem EqualB {a b : List Int} (ha : Bytes a) (hb : Bytes b) : bytes_Equal.f a b = some (decide (a = b)) := by
 unfold bytes_Equal.f
 rw [sameOct ha hb]
def same20 (a0 a1 a2 : Int) (o : List AO) (a4 a5 : Int) (l6 l7 l8 l9 : List Int) (b0 b1 b2 : Int) (q : List AO) (b4 b5 : Int) (m6 m7 m8 m9 : List Int) : Bool :=
 decide (a0 = b0 ∧ a1 = b1 ∧ a2 = b2 ∧ o = q ∧ a4 = b4 ∧ a5 = b5 ∧ l6 = m6 ∧ l7 = m7 ∧ l8 = m8 ∧ l9 = m9)
def Fit (o : List AO) (l6 l7 l8 l9 : List Int) : Prop := (∀ x ∈ o, Bytes x.f1) ∧ Bytes l6 ∧ Bytes l7 ∧ Bytes l8 ∧ Lim l9
theorem Same20 (a0 a1 a2 : Int) (o : List AO) (a4 a5 : Int) (l6 l7 l8 l9 : List Int) (b0 b1 b2 : Int) (q : List AO) (b4 b5 : Int) (m6 m7 m8 m9 : List Int) (hf : Fit o l6 l7 l8 l9) (hg : Fit q m6 m7 m8 m9) :
 Ev (fun k => body_Same.f k a0 a1 a2 o a4 a5 l6 l7 l8 l9 b0 b1 b2 q b4 b5 m6 m7 m8 m9) (same20 a0 a1 a2 o a4 a5 l6 l7 l8 l9 b0 b1 b2 q b4 b5 m6 m7 m8 m9) := by
 obtain ⟨ho, h6, h7, h8, h9⟩ := hf
 obtain ⟨hq, g6, g7, g8, g9⟩ := hg
 have j0 : ∀ x : Bool, Ev (fun k => body_Same.j0 k x a0 a1 a2 o a4 a5 l6 l7 l8 l9 b0 b1 b2 q b4 b5 m6 m7 m8 m9) (x && decide (o = q ∧ l6 = m6 ∧ l7 = m7 ∧ l8 = m8 ∧ l9 = m9)) := by
  intro x
  refine Ev.step (f := fun k => body_Same.j0 (k + 1) x a0 a1 a2 o a4 a5 l6 l7 l8 l9 b0 b1 b2 q b4 b5 m6 m7 m8 m9) (fun k => rfl) ?_
  simp only [body_Same.j0, SameL o q ho hq, EqualB h6 g6, EqualB h7 g7, EqualB h8 g8, Option.bind_some]
  cases x with
  | false => exact Ev.neg (by decide) (Ev.end_ (by simp))
  | true =>
   refine Ev.pos rfl ?_
   by_cases e3 : o = q
   rotate_left
   · exact Ev.neg (by simp [e3]) (Ev.end_ (by simp [e3]))
   refine Ev.pos (by simp [e3]) ?_
   by_cases e6 : l6 = m6
   rotate_left
   · exact Ev.neg (by simp [e6]) (Ev.end_ (by simp [e6]))
   refine Ev.pos (by simp [e6]) ?_
   by_cases e7 : l7 = m7
   rotate_left
   · exact Ev.neg (by simp [e7]) (Ev.end_ (by simp [e7]))
   refine Ev.pos (by simp [e7]) ?_
   by_cases e8 : l8 = m8
   rotate_left
   · exact Ev.neg (by simp [e8]) (Ev.end_ (by simp [e8]))
   refine Ev.pos (by simp [e8]) ?_
   refine Ev.bind (Equal32 l9 m9 h9) (Ev.end_ ?_)
   simp [e3, e6, e7, e8]
 have no : ∀ (_ : same20 a0 a1 a2 o a4 a5 l6 l7 l8 l9 b0 b1 b2 q b4 b5 m6 m7 m8 m9 = false), Ev (fun k => body_Same.j0 k false a0 a1 a2 o a4 a5 l6 l7 l8 l9 b0 b1 b2 q b4 b5 m6 m7 m8 m9) (same20 a0 a1 a2 o a4 a5 l6 l7 l8 l9 b0 b1 b2 q b4 b5 m6 m7 m8 m9) := fun h => by
  rw [h]
  exact j0 false
 unfold body_Same.f
 by_cases e0 : a0 = b0
 rotate_left
 · exact Ev.neg e0 (no (by unfold same20; simp [e0]))
 refine Ev.pos e0 ?_
 by_cases e1 : a1 = b1
 rotate_left
 · exact Ev.neg e1 (no (by unfold same20; simp [e1]))
 refine Ev.pos e1 ?_
 by_cases e2 : a2 = b2
 rotate_left
 · exact Ev.neg e2 (no (by unfold same20; simp [e2]))
 refine Ev.pos e2 ?_
 by_cases e4 : a4 = b4
 rotate_left
 · exact Ev.neg e4 (no (by unfold same20; simp [e4]))
 refine Ev.pos e4 ?_
 have e : same20 a0 a1 a2 o a4 a5 l6 l7 l8 l9 b0 b1 b2 q b4 b5 m6 m7 m8 m9 = ((a5 == b5) && decide (o = q ∧ l6 = m6 ∧ l7 = m7 ∧ l8 = m8 ∧ l9 = m9)) := by
  unfold same20
  rw [Bool.eq_iff_iff]
  simp only [decide_eq_true_eq, Bool.and_eq_true, beq_iff_eq, e0, e1, e2, e4, true_and]
  exact ⟨fun ⟨x3, x5, x⟩ => ⟨x5, x3, x⟩, fun ⟨x5, x3, x⟩ => ⟨x3, x5, x⟩⟩
 rw [e]
 exact j0 _
theorem same_self (a0 a1 a2 : Int) (o : List AO) (a4 a5 : Int) (l6 l7 l8 l9 : List Int) : same20 a0 a1 a2 o a4 a5 l6 l7 l8 l9 a0 a1 a2 o a4 a5 l6 l7 l8 l9 = true := decide_eq_true ⟨rfl, rfl, rfl, rfl, rfl, rfl, rfl, rfl, rfl, rfl⟩
end Go.Proofs.YteanncchmenlkaaDoor.Sp
namespace Go.Proofs.YteanncchmenlkaaDoor.Hw
open Go.RowKit Go.Proofs.YteanncchmenlkaaDoorW.PrintWords Go.Proofs.YteanncchmenlkaaDoorW.PrintLast Go.Proofs.YteanncchmenlkaaDoorW.PrintMore Go.Proofs.YteanncchmenlkaaDoor.Print Go.Proofs.YteanncchmenlkaaDoor.Sp Go.Proofs.YteanncchmenlkaaDoor.Pl
set_option linter.unusedVariables false
set_option linter.unusedSimpArgs false
def GA (w : World) : Prop := ∃ (bm : Nat) (es : Array MapEntry) (clock : Nat), w.cell? ⟨1, 0, none⟩ = some (.map (some bm)) ∧ w.heap[bm]? = some (.map es clock) ∧
 ∀ W : World, W.heap[bm]? = some (.map es clock) → (Instr.lookup 132 (.map (some bm)) (.int .u16 33) true).run Tryd.prog W = .ok (.tuple #[.int .u8 0, .bool false]) W
theorem GA.below {w w1 : World} (h : GA w) (hb : Below w.heap.size w w1) : GA w1 := by
 obtain ⟨bm, es, clock, h1, h2, h3⟩ := h
 exact ⟨bm, es, clock, (hb.cell (World.block_lt_of_cell? w _ h1)).trans h1, blk_below h2 hb, h3⟩
end Go.Proofs.YteanncchmenlkaaDoor.Hw
namespace Go.Proofs.YteanncchmenlkaaDoor.Sp
open Go.RowKit Go.Proofs.YteanncchmenlkaaDoor.Print Go.Proofs.YteanncchmenlkaaDoorW.PrintWords Go.Proofs.YteanncchmenlkaaDoorW.PrintLast Go.Proofs.YteanncchmenlkaaDoor.Pl
set_option linter.unusedVariables false
set_option linter.unusedSimpArgs false
def Tot {α : Type} (g : Nat → Option α) : Prop := ∃ r, Ev g r
theorem Tot.up {α : Type} {g : Nat → Option α} (h : Tot (fun k => g (k + 1))) : Tot g := by
 obtain ⟨r, K, hK⟩ := h
 refine ⟨r, K + 1, fun k hk => ?_⟩
 obtain ⟨j, rfl⟩ : ∃ j, k = j + 1 := ⟨k - 1, by omega⟩
 exact hK j (by omega)
theorem Tot.bind {α β : Type} {f : Nat → Option α} {g : α → Nat → Option β} (h : Tot f) (h2 : ∀ r, Ev f r → Tot (g r)) : Tot (fun k => (f k).bind fun r => g r k) := by
 obtain ⟨r, h⟩ := h
 obtain ⟨q, h3⟩ := h2 r h
 exact ⟨q, Ev.bind h h3⟩
theorem Ev.up {α : Type} {g : Nat → Option α} {r : α} (h : Ev (fun k => g (k + 1)) r) : Ev g r := Ev.step (fun k => rfl) h
end Go.Proofs.YteanncchmenlkaaDoor.Sp
namespace Go.Proofs.YteanncchmenlkaaDoor.Hw
open Go.RowKit Go.Proofs.YteanncchmenlkaaDoorW.PrintWords Go.Proofs.YteanncchmenlkaaDoorW.PrintLast Go.Proofs.YteanncchmenlkaaDoorW.PrintMore Go.Proofs.YteanncchmenlkaaDoor.Print Go.Proofs.YteanncchmenlkaaDoor.Sp Go.Proofs.YteanncchmenlkaaDoor.Pl
set_option linter.unusedVariables false
set_option linter.unusedSimpArgs false
theorem same_calls {W : World} {x y : Value} {a0 a1 a2 a4 a5 b0 b1 b2 b4 b5 : Int} {o q : List AO} {l6 l7 l8 l9 m6 m7 m8 m9 : List Int} {k : Nat} {r : Bool} (h : PkIn k62 W x a0 a1 a2 o a4 a5 l6 l7 l8 l9) (g : PkIn k62 W y b0 b1 b2 q b4 b5 m6 m7 m8 m9)
 (hf : body_Same.f k a0 a1 a2 o a4 a5 l6 l7 l8 l9 b0 b1 b2 q b4 b5 m6 m7 m8 m9 = some r) :
 Calls Tryd.prog 25 #[x, y] W fun e w' => e = .returned (.bool r) ∧ Below W.heap.size W w' := by
 obtain ⟨v3, v6, v7, v8, v9, rfl, ⟨A3, c3, rfl, n3, f3⟩, ⟨A6, c6, rfl, n6, f6⟩, ⟨A7, c7, rfl, n7, f7⟩, ⟨A8, c8, rfl, n8, f8⟩, ⟨A9, c9, rfl, n9, f9⟩⟩ := h
 obtain ⟨u3, u6, u7, u8, u9, rfl, ⟨B3, d3, rfl, p3, g3⟩, ⟨B6, d6, rfl, p6, g6⟩, ⟨B7, d7, rfl, p7, g7⟩, ⟨B8, d8, rfl, p8, g8⟩, ⟨B9, d9, rfl, p9, g9⟩⟩ := g
 exact body_Same.calls k a0 a1 a2 A3 c3 o a4 a5 A6 c6 l6 A7 c7 l7 A8 c8 l8 A9 c9 l9 b0 b1 b2 B3 d3 q b4 b5 B6 d6 m6 B7 d7 m7 B8 d8 m8 B9 d9 m9 r W (Kd.F_now f3) n3 (Kd.F_now f6) n6 (Kd.F_now f7) n7 (Kd.F_now f8) n8 (Kd.F_now f9) n9 (Kd.F_now g3) p3 (Kd.F_now g6) p6 (Kd.F_now g7) p7 (Kd.F_now g8) p8 (Kd.F_now g9) p9 hf
theorem rd_nil {α : Type} (d : Kd α) (W : World) : Rd d W (.slice none 0 0) [] := Kd.V_nil d 0 W 0 _
end Go.Proofs.YteanncchmenlkaaDoor.Hw
namespace Go.Proofs.YteanncchmenlkaaDoor.Hw
open Go.RowKit Go.Proofs.YteanncchmenlkaaDoorW.PrintWords Go.Proofs.YteanncchmenlkaaDoorW.PrintLast Go.Proofs.YteanncchmenlkaaDoorW.PrintMore Go.Proofs.YteanncchmenlkaaDoor.Print Go.Proofs.YteanncchmenlkaaDoor.Sp Go.Proofs.YteanncchmenlkaaDoor.Pl
set_option linter.unusedVariables false
set_option linter.unusedSimpArgs false
section
variable {P : Program} {ops : Array Oper} {o : Oper} {rest : List Oper} {a : Act} {Q : Exit → Act → World → Prop} {W : World} {g j : Nat} {t ty : TypeId} {cs cells : Array Value} {x y : Operand} {d : TypeDesc}
theorem ev_loads (hgd : o.guard = none) (ho : o.op = .load ty x) (hx : a.eval x = .pointer (some ⟨g, j, none⟩)) (hb : W.heap[g]? = some (.cells cs t (0, 0))) (hsub : (cs.toList.drop j).take cells.size = cells.toList)
 (hu : P.underlying ty = some d) (hd : d.isRow = true) (hi : (P.info? ty).map (·.size) = some cells.size) (h : wpList P ops Q rest (a.put o.dst (.agg cells)) W) : wpList P ops Q (o :: rest) a W := by
 refine wpList_load_mid hgd ty x ho g j hx cells.toList d (fun i v hv => ?_) hu hd (by simpa using hi) (by simpa using h)
 rw [blk_cell hb (j + i)]
 have hi' : i < cells.size := by simpa using (List.getElem?_eq_some_iff.1 hv).1
 rw [← hsub, List.getElem?_take, if_pos hi', List.getElem?_drop] at hv
 simpa using hv
end
def GS (w : World) : Prop := ∃ (bm : Nat) (es : Array MapEntry) (clock : Nat), w.cell? ⟨0, 0, none⟩ = some (.map (some bm)) ∧ w.heap[bm]? = some (.map es clock) ∧
 (∀ W : World, W.heap[bm]? = some (.map es clock) → (Instr.lookup 96 (.map (some bm)) (.int .u8 9) true).run Tryd.prog W = .ok (.tuple #[.agg #[.bool true, .bool false], .bool true]) W) ∧
 ∀ W : World, W.heap[bm]? = some (.map es clock) → (Instr.lookup 96 (.map (some bm)) (.int .u8 0) true).run Tryd.prog W = .ok (.tuple #[.agg #[.bool false, .bool true], .bool true]) W
theorem GS.below {w w1 : World} (h : GS w) (hb : Below w.heap.size w w1) : GS w1 := by
 obtain ⟨bm, es, clock, h1, h2, h3⟩ := h
 exact ⟨bm, es, clock, (hb.cell (World.block_lt_of_cell? w _ h1)).trans h1, blk_below h2 hb, h3⟩
set_option maxHeartbeats 8000000 in
set_option maxRecDepth 100000 in
theorem right9 (w : World) (hS : GS w) : Calls Tryd.prog 29 #[.int .u8 9, .int .u16 0] w fun e w' => e = .returned (.int .i64 0) ∧ Below w.heap.size w w' := by
 obtain ⟨bm, es, clock, h1, h2, h3, _⟩ := hS
 have hrun := h3 w h2
 clear h3
 have hu94 := Tryd.underlying94
 have HB := Aside0.mk (Below.refl w.heap.size w)
 go_enter Tryd.func29, Tryd.ntmps29
 go_wp2_with (first
  | ((with_reducible refine gate_dst (N := 5) rfl ?_); refine gate_guard (by rfl) ?_; refine box_event rfl (N := 5) rfl (cs := #[.bool false, .bool false]) (t := 94) (by first | (go_simp; done) | (go_simp; rfl)) ?_; intro g_b hg w1 hn hb; have G_b := Aside0.mk (show w.heap.size ≤ g_b from by rw [hg]; exact Nat.le_refl _); replace HB := Aside0.mk hb; have B_b := Aside0.mk hn; clear hn hg hb)
  | ((with_reducible refine gate_store (p := 5) rfl ?_); refine ev_store rfl rfl rfl (cells := #[.bool true, .bool false]) rfl B_b.out rfl (by kernel_rfl) (by simp [show ∀ b, (Value.bool b).oneCell' = true from fun _ => rfl]) ?_; intro w2 hn ho; replace B_b := Aside0.mk hn; replace HB := Aside0.mk (below_only HB.out ho G_b.out); clear hn ho)
  | ((with_reducible refine gate_dst (N := 21) rfl ?_); refine gate_guard (by rfl) ?_; refine ev_loadf rfl rfl rfl B_b.out rfl Tryd.underlying4 rfl ?_))
 go_ret
 exact ⟨rfl, HB.out⟩
end Go.Proofs.YteanncchmenlkaaDoor.Hw
namespace Go.Proofs.YteanncchmenlkaaDoor.Hw
open Go.RowKit Go.Proofs.YteanncchmenlkaaDoorW.PrintWords Go.Proofs.YteanncchmenlkaaDoorW.PrintLast Go.Proofs.YteanncchmenlkaaDoorW.PrintMore Go.Proofs.YteanncchmenlkaaDoor.Print Go.Proofs.YteanncchmenlkaaDoor.Sp Go.Proofs.YteanncchmenlkaaDoor.Pl
set_option linter.unusedVariables false
set_option linter.unusedSimpArgs false
abbrev fr (c s : Int) (v2 : Value) (q0 q1 q2 : Int) (v3 : Value) (q4 q5 : Int) (v6 v7 v8 v9 : Value) : Array Value := #[.int .u8 c, .int .u16 s, v2, .int .u16 q0, .int .u8 q1, .int .u8 q2, v3, .int .u16 q4, .int .u32 q5, v6, v7, v8, v9]
set_option maxHeartbeats 8000000 in
set_option maxRecDepth 100000 in
theorem eput_at (w : World) (c s q0 q1 q2 q4 q5 : Int) (v2 v3 v6 v7 v8 v9 : Value) (l : List Int) (hc : 0 ≤ c ∧ c ≤ 255) (hs : 0 ≤ s ∧ s ≤ 65535)
 (cr : ∀ W, Below w.heap.size w W → Calls Tryd.prog 29 #[.int .u8 c, .int .u16 s] W fun e w' => e = .returned (.int .i64 0) ∧ Below W.heap.size W w')
 (cp : ∀ W, Below w.heap.size w W → Calls Tryd.prog 30 #[.agg (fr c s v2 q0 q1 q2 v3 q4 q5 v6 v7 v8 v9)] W fun e w' => ∃ A c, e = .returned (.tuple #[.slice A l.length c, .int .i64 0]) ∧ Rd (Kd.int .u8) w' (.slice A l.length c) l ∧ Below W.heap.size W w')
 (hl : l.length ≤ 1494) : Calls Tryd.prog 10 #[.agg (fr c s v2 q0 q1 q2 v3 q4 q5 v6 v7 v8 v9)] w fun e w' => ∃ g cap, e = .returned (.tuple #[.slice (some ⟨g, 0, none⟩) (([17, c] ++ be 2 s ++ be 2 l.length) ++ l).length cap, .int .i64 0]) ∧ (([17, c] ++ be 2 s ++ be 2 l.length) ++ l).length ≤ cap ∧ Rd (Kd.int .u8) w' (.slice (some ⟨g, 0, none⟩) (([17, c] ++ be 2 s ++ be 2 l.length) ++ l).length cap) (([17, c] ++ be 2 s ++ be 2 l.length) ++ l) ∧ Below w.heap.size w w' := by
 have hu32 := Tryd.underlying32
 have hr := Aside0.mk cr
 have hp := Aside0.mk cp
 obtain ⟨k1, h1⟩ := Ev.rounds (WPut [17, c] s hs.1 2 (by decide) (by simp))
 obtain ⟨k2, h2⟩ := Ev.rounds (WPut ([17, c] ++ be 2 s) l.length (by omega) 2 (by decide) (by simp [be_length]))
 have HW1 := Aside0.mk h1
 have HW2 := Aside0.mk h2
 have hgt : decide ((1494 : Int) < (l.length : Int)) = false := decide_eq_false (by omega)
 have hl0 : (0 : Int) ≤ (l.length : Int) := by omega
 have hl1 : (l.length : Int) ≤ 1494 := by omega
 obtain ⟨hs0, hs1⟩ := hs
 obtain ⟨hc0, hc1⟩ := hc
 have HLEN := Aside0.mk (show l.length ≤ 1494 ∧ (be 2 s).length = 2 ∧ (be 2 (l.length : Int)).length = 2 from ⟨hl, be_length _ _, be_length _ _⟩)
 clear cr cp h1 h2 hl
 have HB := Aside0.mk (Below.refl w.heap.size w)
 go_enter Tryd.func10, Tryd.ntmps10
 go_wp2_with (first | ((with_reducible refine gate_dst (N := 1) rfl ?_); refine gate_guard (by rfl) ?_; refine ev_box rfl rfl (cs := (fr c s v2 q0 q1 q2 v3 q4 q5 v6 v7 v8 v9)) (by rfl) ?_; intro g_f hg w1 hn hb; have G_f := Aside0.mk (show w.heap.size ≤ g_f from by rw [hg]; exact below_size HB.out); replace HB := Aside0.mk (below_step HB.out hb); clear hb; have B_f := Aside0.mk hn; clear hn hg) | ((with_reducible refine gate_dst (N := 9) rfl ?_); refine gate_guard (by rfl) ?_; refine ev_loadf rfl rfl rfl B_f.out rfl Tryd.underlying5 rfl ?_) | ((with_reducible refine gate_dst (N := 11) rfl ?_); refine gate_guard (by rfl) ?_; refine ev_loadf rfl rfl rfl B_f.out rfl Tryd.underlying22 rfl ?_) | ((with_reducible refine gate_dst (N := 12) rfl ?_); refine gate_guard (by rfl) ?_; refine goesL_ (some 12) rfl rfl Tryd.func29 (by kernel_rfl) rfl #[.int .u8 c, .int .u16 s] rfl (by first | rfl | (simp only [List.map_toArray, List.map_cons, List.map_nil]; done) | (simp only [List.map_toArray, List.map_cons, List.map_nil]; rfl)) ?_; refine (hr.out _ HB.out).mono ?_; rintro e w2 ⟨rfl, hb⟩; refine ⟨_, rfl, ?_⟩; replace B_f := Aside0.mk (blk_below B_f.out hb); replace HB := Aside0.mk (below_step HB.out hb); clear hb) | ((with_reducible refine gate_dst (N := 17) rfl ?_); refine gate_guard (by rfl) ?_; refine ev_load rfl rfl rfl B_f.out Tryd.underlying32 rfl (by kernel_rfl) ?_) | ((with_reducible refine gate_dst (N := 18) rfl ?_); refine gate_guard (by rfl) ?_; refine goesL_ (some 18) rfl rfl Tryd.func30 (by kernel_rfl) rfl #[.agg (fr c s v2 q0 q1 q2 v3 q4 q5 v6 v7 v8 v9)] rfl (by first | rfl | (simp only [List.map_toArray, List.map_cons, List.map_nil]; done) | (simp only [List.map_toArray, List.map_cons, List.map_nil]; rfl)) ?_; refine (hp.out _ HB.out).mono ?_; rintro e w3 ⟨A_, c_, rfl, hv, hb⟩; refine ⟨_, rfl, ?_⟩; have F_V := Aside0.mk hv; clear hv; replace B_f := Aside0.mk (blk_below B_f.out hb); replace HB := Aside0.mk (below_step HB.out hb); clear hb) | ((with_reducible refine gate_dst (N := 30) rfl ?_); refine gate_guard (by rfl) ?_; refine ev_loadf rfl rfl rfl B_f.out rfl Tryd.underlying5 rfl ?_) | ((with_reducible refine gate_dst (N := 31) rfl ?_); refine gate_guard (by rfl) ?_; refine Kd.R_lit (Kd.int .u8) _ 5 rfl (N := 31) rfl (xs := ([17, c] : List Int)) (inner := [.int .u8 17, .int .u8 c]) (ok := fun _ => True) (okp := fun _ => False) (by first | (go_simp; done) | (go_simp; rfl)) (Reps.one (show Kd.M (Kd.int .u8) _ _ _ 17 [.int .u8 17] from rfl) (Reps.one (show Kd.M (Kd.int .u8) _ _ _ c [.int .u8 c] from rfl) (Reps.none _ _))) (fun _ hk => hk.elim) trivial (Below.refl _ _) (Nat.le_refl _) (by simp) ?_; intro v_ w4 hn hb hg1 hg2; clear hg1 hg2; have F_N := Aside0.mk hn; have HL := Aside0.mk hb; replace B_f := Aside0.mk (blk_below B_f.out hb); clear hn hb) | ((with_reducible refine gate_dst (N := 33) rfl ?_); refine gate_guard (by rfl) ?_; refine ev_loadf rfl rfl rfl B_f.out rfl Tryd.underlying22 rfl ?_) | ((with_reducible refine gate_dst (N := 35) rfl ?_); refine gate_guard (by rfl) ?_; refine goesL_ (some 35) rfl rfl Tryd.func31 (by kernel_rfl) rfl #[v_, .int .u64 s, .int .i64 2] rfl (by first | rfl | (simp only [List.map_toArray, List.map_cons, List.map_nil]; done) | (simp only [List.map_toArray, List.map_cons, List.map_nil]; rfl)) ?_; refine (wire_Put.calls _ _ _ [17, c] s 2 _ w3 _ HL.out F_N.out HW1.out).mono ?_; rintro e w5 ⟨vn, rfl, hr, hb, hk⟩; refine ⟨_, rfl, ?_⟩; replace F_N := Aside0.mk hr; replace HL := Aside0.mk hb; clear hr hb hk) | ((with_reducible refine gate_dst (N := 40) rfl ?_); refine gate_guard (by rfl) ?_; refine goesL_ (some 40) rfl rfl Tryd.func31 (by kernel_rfl) rfl #[vn, .int .u64 l.length, .int .i64 2] rfl (by first | rfl | (simp only [List.map_toArray, List.map_cons, List.map_nil]; done) | (simp only [List.map_toArray, List.map_cons, List.map_nil]; rfl)) ?_; refine (wire_Put.calls _ _ _ ([17, c] ++ be 2 s) l.length 2 _ w3 _ HL.out F_N.out HW2.out).mono ?_; rintro e w6 ⟨vn, rfl, hr, hb, hk⟩; refine ⟨_, rfl, ?_⟩; replace F_N := Aside0.mk hr; replace HL := Aside0.mk hb; clear hr hb hk) | ((with_reducible refine gate_dst (N := 42) rfl ?_); refine gate_guard (by rfl) ?_; have hlen := HLEN.out; refine Kd.N_append_rows (Kd.int .u8) (w0 := w3) w3.heap.size rfl (.tmp 40) (.tmp 41) 24 5 (.int .u8 0) 1 rfl Tryd.underlying24 info5 rfl (by decide) (by decide) _ _ l _ _ _ _ (fun k => True ∧ k < w3.heap.size) rfl rfl (Kd.R_N F_N.out) (Kd.V_F (Kd.V_old F_V.out HL.out)) (fun k hk => ⟨Or.inl (Or.inl trivial), fun he => by have h1 := Kd.N_base (Kd.R_N F_N.out) k he.symm; have h2 := hk.2; omega⟩) (fun k hk => Or.inl (Or.inl trivial)) HL.out HL.out.size (by simp only [List.length_cons, List.length_nil, List.length_append]; omega) ?_; intro v1 w7 hn hb hg1 hg2; clear hg1 hg2 hlen; have F_R := Aside0.mk (rd_of_n hn); have F_NR := Aside0.mk hn; replace HL := Aside0.mk hb; clear hn hb))
 have hN := F_NR.out
 obtain ⟨g, cap, rfl, _⟩ := Kd.N_form hN (by simp only [List.length_append, List.length_cons, List.length_nil]; omega)
 have hc2 := (Kd.N_reads' hN).2.1
 go_ret2
 exact ⟨g, cap, rfl, hc2, F_R.out, below_step HB.out HL.out⟩
theorem eput (w : World) (c s q0 q1 q2 q4 q5 : Int) (v2 v3 v6 v7 v8 v9 : Value) (l : List Int) (hc : 0 ≤ c ∧ c ≤ 255) (hs : 0 ≤ s ∧ s ≤ 65535)
 (cr : ∀ W, Below w.heap.size w W → Calls Tryd.prog 29 #[.int .u8 c, .int .u16 s] W fun e w' => e = .returned (.int .i64 0) ∧ Below W.heap.size W w')
 (cp : ∀ W, Below w.heap.size w W → Calls Tryd.prog 30 #[.agg (fr c s v2 q0 q1 q2 v3 q4 q5 v6 v7 v8 v9)] W fun e w' => ∃ A c, e = .returned (.tuple #[.slice A l.length c, .int .i64 0]) ∧ Rd (Kd.int .u8) w' (.slice A l.length c) l ∧ Below W.heap.size W w')
 (hl : l.length ≤ 1494) : Calls Tryd.prog 10 #[.agg (fr c s v2 q0 q1 q2 v3 q4 q5 v6 v7 v8 v9)] w fun e w' => ∃ v, e = .returned (.tuple #[v, .int .i64 0]) ∧ Rd (Kd.int .u8) w' v (([17, c] ++ be 2 s ++ be 2 l.length) ++ l) ∧ Below w.heap.size w w' := by
 refine (eput_at w c s q0 q1 q2 q4 q5 v2 v3 v6 v7 v8 v9 l hc hs cr cp hl).mono ?_
 rintro e w' ⟨g, cap, rfl, _, hr, hb⟩
 exact ⟨_, rfl, hr, hb⟩
end Go.Proofs.YteanncchmenlkaaDoor.Hw
namespace Go.Proofs.YteanncchmenlkaaDoor.Hw
open Go.RowKit Go.Proofs.YteanncchmenlkaaDoorW.PrintWords Go.Proofs.YteanncchmenlkaaDoorW.PrintLast Go.Proofs.YteanncchmenlkaaDoorW.PrintMore Go.Proofs.YteanncchmenlkaaDoor.Print Go.Proofs.YteanncchmenlkaaDoor.Sp Go.Proofs.YteanncchmenlkaaDoor.Pl
set_option linter.unusedVariables false
set_option linter.unusedSimpArgs false
theorem equal_calls {W : World} {u v : Value} {a b : List Int} {k : Nat} {r : Bool} (hu : Rd (Kd.int .u8) W u a) (hv : Rd (Kd.int .u8) W v b) (hf : marlineref01_Equal.f k a b = some r) :
 Calls Tryd.prog 17 #[u, v] W fun e w' => e = .returned (.bool r) ∧ Below W.heap.size W w' := by
 obtain ⟨A, c, rfl, n, f⟩ := hu
 obtain ⟨B, d, rfl, m, g⟩ := hv
 exact (marlineref01_Equal.calls k A c a B d b r W (Kd.F_now f) n (Kd.F_now g) m hf).mono fun e w' h => ⟨h.1, h.2.below⟩
end Go.Proofs.YteanncchmenlkaaDoor.Hw
namespace Go.Proofs.YteanncchmenlkaaDoor.Hw
open Go.RowKit Go.Proofs.YteanncchmenlkaaDoorW.PrintWords Go.Proofs.YteanncchmenlkaaDoorW.PrintLast Go.Proofs.YteanncchmenlkaaDoorW.PrintMore Go.Proofs.YteanncchmenlkaaDoor.Print Go.Proofs.YteanncchmenlkaaDoor.Sp Go.Proofs.YteanncchmenlkaaDoor.Pl
set_option linter.unusedVariables false
set_option linter.unusedSimpArgs false
theorem zero_in (W : World) : PkIn k62 W (.agg (pk 0 0 0 (.slice none 0 0) 0 0 (.slice none 0 0) (.slice none 0 0) (.slice none 0 0) (.slice none 0 0))) 0 0 0 [] 0 0 [] [] [] [] := ⟨_, _, _, _, _, rfl, rd_nil _ _, rd_nil _ _, rd_nil _ _, rd_nil _ _, rd_nil _ _⟩
theorem tput_calls {W : World} {A : Option Addr} {c : Nat} {lt : List S51} {r : List Int} {e : Int} {k : Nat} (h : Rd k51 W (.slice A lt.length c) lt) (hf : tags_Put.f k lt = some (r, e)) :
 Calls Tryd.prog 46 #[.slice A lt.length c] W fun x w' => ∃ A c, x = .returned (.tuple #[.slice A r.length c, .int .i64 e]) ∧ Rd (Kd.int .u8) w' (.slice A r.length c) r ∧ Below W.heap.size W w' := by
 have h2 := Kd.V_reads' h
 refine (tags_Put.calls k A c lt r e W h2.2.2 h2.2.1 hf).mono ?_
 rintro x w' ⟨v, rfl, hv, hb⟩
 have hr := rd_of_n (Kd.R_N hv)
 obtain ⟨A', c', rfl, n, g⟩ := hr
 exact ⟨A', c', rfl, Kd.V_mk n g, hb⟩
set_option maxHeartbeats 8000000 in
set_option maxRecDepth 100000 in
theorem pay9 (w : World) (lt : List S51) (r : List Int) (A2 : Option Addr) (c2 k : Nat) (hf : tags_Put.f k lt = some (r, 0)) (h2 : ∀ W, Below w.heap.size w W → Rd k51 W (.slice A2 lt.length c2) lt) :
 Calls Tryd.prog 30 #[.agg (fr 9 0 (.slice A2 lt.length c2) 0 0 0 (.slice none 0 0) 0 0 (.slice none 0 0) (.slice none 0 0) (.slice none 0 0) (.slice none 0 0))] w fun e w' => ∃ A c, e = .returned (.tuple #[.slice A r.length c, .int .i64 0]) ∧ Rd (Kd.int .u8) w' (.slice A r.length c) r ∧ Below w.heap.size w w' := by
 have hu32 := Tryd.underlying32
 have hu29 := Tryd.underlying29
 obtain ⟨ks, hs⟩ := Ev.rounds (Same20 0 0 0 [] 0 0 [] [] [] [] 0 0 0 [] 0 0 [] [] [] [] ⟨fun _ h => by simp at h, Bytes.nil, Bytes.nil, Bytes.nil, by unfold Lim; simp⟩ ⟨fun _ h => by simp at h, Bytes.nil, Bytes.nil, Bytes.nil, by unfold Lim; simp⟩)
 rw [same_self] at hs
 have HS := Aside0.mk hs
 have HT := Aside0.mk hf
 have ht := Aside0.mk h2
 clear hs hf h2
 have HB := Aside0.mk (Below.refl w.heap.size w)
 go_enter Tryd.func30, Tryd.ntmps30
 go_wp2_with (first | ((with_reducible refine gate_dst (N := 1) rfl ?_); refine gate_guard (by rfl) ?_; refine ev_box rfl rfl (cs := (fr 9 0 (.slice A2 lt.length c2) 0 0 0 (.slice none 0 0) 0 0 (.slice none 0 0) (.slice none 0 0) (.slice none 0 0) (.slice none 0 0))) (by rfl) ?_; intro g_f hg w1 hn hb; have G_f := Aside0.mk (show w.heap.size ≤ g_f from by rw [hg]; exact below_size HB.out); replace HB := Aside0.mk (below_step HB.out hb); clear hb; have B_f := Aside0.mk hn; clear hn hg) | ((with_reducible refine gate_dst (N := 7) rfl ?_); refine gate_guard (by rfl) ?_; refine ev_loadf rfl rfl rfl B_f.out rfl Tryd.underlying5 rfl ?_) | ((with_reducible refine gate_dst (N := 10) rfl ?_); refine gate_guard (by rfl) ?_; refine ev_loads rfl rfl rfl (cells := (pk 0 0 0 (.slice none 0 0) 0 0 (.slice none 0 0) (.slice none 0 0) (.slice none 0 0) (.slice none 0 0))) B_f.out rfl Tryd.underlying29 rfl (by kernel_rfl) ?_) | ((with_reducible refine gate_dst (N := 12) rfl ?_); refine gate_guard (by rfl) ?_; refine goesL_ (some 12) rfl rfl Tryd.func25 (by kernel_rfl) rfl #[.agg (pk 0 0 0 (.slice none 0 0) 0 0 (.slice none 0 0) (.slice none 0 0) (.slice none 0 0) (.slice none 0 0)), .agg (pk 0 0 0 (.slice none 0 0) 0 0 (.slice none 0 0) (.slice none 0 0) (.slice none 0 0) (.slice none 0 0))] rfl (by first | rfl | (simp only [List.map_toArray, List.map_cons, List.map_nil]; done) | (simp only [List.map_toArray, List.map_cons, List.map_nil]; rfl)) ?_; refine (same_calls (zero_in _) (zero_in _) HS.out).mono ?_; rintro e w2 ⟨rfl, hb⟩; refine ⟨_, rfl, ?_⟩; replace B_f := Aside0.mk (blk_below B_f.out hb); replace HB := Aside0.mk (below_step HB.out hb); clear hb) | ((with_reducible refine gate_dst (N := 15) rfl ?_); refine gate_guard (by rfl) ?_; refine ev_loadf rfl rfl rfl B_f.out rfl Tryd.underlying30 rfl ?_) | ((with_reducible refine gate_dst (N := 16) rfl ?_); refine gate_guard (by rfl) ?_; refine goesL_ (some 16) rfl rfl Tryd.func46 (by kernel_rfl) rfl #[.slice A2 lt.length c2] rfl (by first | rfl | (simp only [List.map_toArray, List.map_cons, List.map_nil]; done) | (simp only [List.map_toArray, List.map_cons, List.map_nil]; rfl)) ?_; refine (tput_calls (ht.out _ HB.out) HT.out).mono ?_; rintro e w3 ⟨A_, c_, rfl, hv, hb⟩; refine ⟨_, rfl, ?_⟩; have F_V := Aside0.mk hv; clear hv; replace B_f := Aside0.mk (blk_below B_f.out hb); replace HB := Aside0.mk (below_step HB.out hb); clear hb))
 go_ret2
 exact ⟨_, _, rfl, F_V.out, HB.out⟩
theorem k_tag0 (W : World) (x : Int) : k51.K W ⟨x, []⟩ [.int .u16 x, .slice none 0 0] := ⟨[.int .u16 x], [.slice none 0 0], rfl, rfl, ⟨none, 0, rfl, Nat.le_refl 0, Kd.C_nil _ W⟩⟩
def GE (w : World) : Prop := GA w ∧ GS w
theorem GE.below {w w1 : World} (h : GE w) (hb : Below w.heap.size w w1) : GE w1 := ⟨h.1.below hb, h.2.below hb⟩
theorem tput9 : tags_Put.f 20 [⟨257, []⟩] = some ([1, 1, 0, 0], 0) := by kernel_rfl
theorem eput9 {g_t : Nat} (w : World) (hE : GE w) (hb : w.heap[g_t]? = some (.cells #[.int .u16 257, .slice none 0 0] 51 (0, 0))) :
 Calls Tryd.prog 10 #[.agg (fr 9 0 (.slice (some ⟨g_t, 0, none⟩) 1 1) 0 0 0 (.slice none 0 0) 0 0 (.slice none 0 0) (.slice none 0 0) (.slice none 0 0) (.slice none 0 0))] w fun e w' => ∃ v, e = .returned (.tuple #[v, .int .i64 0]) ∧ Rd (Kd.int .u8) w' v [17, 9, 0, 0, 0, 4, 1, 1, 0, 0] ∧ Below w.heap.size w w' :=
 eput w 9 0 0 0 0 0 0 _ _ _ _ _ _ [1, 1, 0, 0] (by decide) (by decide) (fun W hW => right9 W (hE.below hW).2)
  (fun W hW => pay9 W [⟨257, []⟩] [1, 1, 0, 0] _ 1 20 tput9 (fun W' hW' => rd_blk1 (cs := [.int .u16 257, .slice none 0 0]) k51_heap (blk_below (blk_below hb hW) hW') (k_tag0 _ _))) (by decide)
set_option maxHeartbeats 8000000 in
set_option maxRecDepth 100000 in
theorem speaks22 (w : World) (hE : GE w) : Calls Tryd.prog 9 #[] w fun e w' => e = .returned (.bool true) ∧ Below w.heap.size w w' := by
 have hu32 := Tryd.underlying32
 have hu51 := Tryd.underlying51
 obtain ⟨k1, h1⟩ := Ev.rounds (Equal [17, 9, 0, 0, 0, 4, 1, 1, 0, 0] [17, 9, 0, 0, 0, 4, 1, 1, 0, 0] (by unfold Lim; decide))
 have HE := Aside0.mk h1
 have HA := Aside0.mk hE
 clear h1 hE
 have HB := Aside0.mk (Below.refl w.heap.size w)
 go_enter Tryd.func9, Tryd.ntmps9
 go_wp2_with (first | ((with_reducible refine gate_dst (N := 5) rfl ?_); refine gate_guard (by rfl) ?_; refine ev_slice rfl (n := 1) (cs := #[.int .u16 257, .slice none 0 0]) (e := 51) (by first | (go_simp; done) | (go_simp; rfl)) ?_; intro g_t hg w1 hn hb; have G_t := Aside0.mk (show w.heap.size ≤ g_t from by rw [hg]; exact below_size HB.out); replace HB := Aside0.mk (below_step HB.out hb); clear hb; have B_t := Aside0.mk hn; clear hn hg) | ((with_reducible refine gate_dst (N := 7) rfl ?_); refine gate_guard (by rfl) ?_; refine goesL_ (some 7) rfl rfl Tryd.func10 (by kernel_rfl) rfl #[.agg (fr 9 0 (.slice (some ⟨g_t, 0, none⟩) 1 1) 0 0 0 (.slice none 0 0) 0 0 (.slice none 0 0) (.slice none 0 0) (.slice none 0 0) (.slice none 0 0))] rfl (by first | rfl | (simp only [List.map_toArray, List.map_cons, List.map_nil]; done) | (simp only [List.map_toArray, List.map_cons, List.map_nil]; rfl)) ?_; refine (eput9 _ (HA.out.below HB.out) B_t.out).mono ?_; rintro e w2 ⟨v1, rfl, hv, hb⟩; refine ⟨_, rfl, ?_⟩; have F_1 := Aside0.mk hv; clear hv; replace B_t := Aside0.mk (blk_below B_t.out hb); replace HB := Aside0.mk (below_step HB.out hb); clear hb) | ((with_reducible refine gate_dst (N := 14) rfl ?_); refine gate_guard (by rfl) ?_; refine ev_slice rfl (n := 10) (cs := #[.int .u8 17, .int .u8 9, .int .u8 0, .int .u8 0, .int .u8 0, .int .u8 4, .int .u8 1, .int .u8 1, .int .u8 0, .int .u8 0]) (e := 5) (by first | (go_simp; done) | (go_simp; rfl)) ?_; intro g_b hg w3 hn hb; have G_b := Aside0.mk (show w.heap.size ≤ g_b from by rw [hg]; exact below_size HB.out); replace B_t := Aside0.mk (blk_below B_t.out hb); replace F_1 := Aside0.mk (F_1.out.below hb); replace HB := Aside0.mk (below_step HB.out hb); clear hb; have B_b := Aside0.mk hn; clear hn hg) | ((with_reducible refine gate_dst (N := 15) rfl ?_); refine gate_guard (by rfl) ?_; refine goesL_ (some 15) rfl rfl Tryd.func17 (by kernel_rfl) rfl #[v1, .slice (some ⟨g_b, 0, none⟩) 10 10] rfl (by first | rfl | (simp only [List.map_toArray, List.map_cons, List.map_nil]; done) | (simp only [List.map_toArray, List.map_cons, List.map_nil]; rfl)) ?_; refine (equal_calls F_1.out (rd_of_v (v_blk_ints B_b.out rfl rfl (by decide))) HE.out).mono ?_; rintro e w4 ⟨rfl, hb⟩; refine ⟨_, rfl, ?_⟩; replace B_t := Aside0.mk (blk_below B_t.out hb); replace B_b := Aside0.mk (blk_below B_b.out hb); replace F_1 := Aside0.mk (F_1.out.below hb); replace HB := Aside0.mk (below_step HB.out hb); clear hb))
 go_ret
 exact ⟨rfl, HB.out⟩
end Go.Proofs.YteanncchmenlkaaDoor.Hw
namespace Go.Proofs.YteanncchmenlkaaDoor.Hw
open Go.RowKit Go.Proofs.YteanncchmenlkaaDoorW.PrintWords Go.Proofs.YteanncchmenlkaaDoorW.PrintLast Go.Proofs.YteanncchmenlkaaDoorW.PrintMore Go.Proofs.YteanncchmenlkaaDoor.Print
set_option linter.unusedVariables false
def FrR {α β : Type} (d2 : Kd α) (d : Kd β) (W : World) (ok : Nat → Prop) (v2 v3 v6 v7 v8 v9 : Value) (t : List α) (o : List β) (l6 l7 l8 l9 : List Int) : Prop :=
 Kd.V d2 0 W 0 ok v2 t ∧ PkR d W ok v3 v6 v7 v8 v9 o l6 l7 l8 l9
section
variable {α β : Type} {d2 : Kd α} {d : Kd β} {W W1 : World} {ok ok' : Nat → Prop} {v2 v3 v6 v7 v8 v9 : Value} {t : List α} {o : List β} {l6 l7 l8 l9 : List Int}
theorem FrR.below (h : FrR d2 d W ok v2 v3 v6 v7 v8 v9 t o l6 l7 l8 l9) (hb : Below W.heap.size W W1) : FrR d2 d W1 ok v2 v3 v6 v7 v8 v9 t o l6 l7 l8 l9 := ⟨Kd.V_below h.1 hb, h.2.below hb⟩
theorem FrR.mono (h : FrR d2 d W ok v2 v3 v6 v7 v8 v9 t o l6 l7 l8 l9) (hk : ∀ k, ok k → ok' k) : FrR d2 d W ok' v2 v3 v6 v7 v8 v9 t o l6 l7 l8 l9 := ⟨Kd.V_mono h.1 hk, h.2.mono hk⟩
theorem FrR.old (h : FrR d2 d W ok v2 v3 v6 v7 v8 v9 t o l6 l7 l8 l9) (hb : Below W.heap.size W W1) (hk : ∀ k, ok k → k < W.heap.size → ok' k) : FrR d2 d W1 ok' v2 v3 v6 v7 v8 v9 t o l6 l7 l8 l9 :=
 ⟨Kd.V_mono (Kd.V_old h.1 hb) (fun k hk' => hk k hk'.1 hk'.2), h.2.old hb hk⟩
theorem FrR.only {g : Nat} (h : FrR d2 d W ok v2 v3 v6 v7 v8 v9 t o l6 l7 l8 l9) (ho : OnlyG W W1 g) (hk : ∀ k, ok k → k ≠ g) : FrR d2 d W1 ok v2 v3 v6 v7 v8 v9 t o l6 l7 l8 l9 :=
 ⟨Kd.V_step h.1 (fun k hk' _ => ho.block k (hk k hk')), h.2.only ho hk⟩
theorem FrR.keep {B : Nat} (h : FrR d2 d W ok v2 v3 v6 v7 v8 v9 t o l6 l7 l8 l9) (hb : Below B W W1) (hk : ∀ k, ok k → k < B) : FrR d2 d W1 ok v2 v3 v6 v7 v8 v9 t o l6 l7 l8 l9 :=
 ⟨Kd.V_step h.1 (fun k hk' _ => hb.block k (hk k hk')), h.2.keep hb hk⟩
theorem FrR.one (h : FrR d2 d W ok v2 v3 v6 v7 v8 v9 t o l6 l7 l8 l9) (c s q0 q1 q2 q4 q5 : Int) : (fr c s v2 q0 q1 q2 v3 q4 q5 v6 v7 v8 v9).all (·.oneCell') = true := by
 have h2 := rd_one (rd_of_v h.1)
 have h3 := rd_one (rd_of_v h.2.1)
 have h6 := rd_one (rd_of_v h.2.2.1)
 have h7 := rd_one (rd_of_v h.2.2.2.1)
 have h8 := rd_one (rd_of_v h.2.2.2.2.1)
 have h9 := rd_one (rd_of_v h.2.2.2.2.2)
 simp [h2, h3, h6, h7, h8, h9, show ∀ k n, (Value.int k n).oneCell' = true from fun _ _ => rfl]
end
def FrF {α β : Type} (d2 : Kd α) (d : Kd β) (W : World) (ok : Nat → Prop) (x : Value) (c s : Int) (t : List α) (q0 q1 q2 : Int) (o : List β) (q4 q5 : Int) (l6 l7 l8 l9 : List Int) : Prop :=
 ∃ v2 v3 v6 v7 v8 v9 : Value, x = .agg (fr c s v2 q0 q1 q2 v3 q4 q5 v6 v7 v8 v9) ∧ FrR d2 d W ok v2 v3 v6 v7 v8 v9 t o l6 l7 l8 l9
section
variable {α β : Type} {d2 : Kd α} {d : Kd β} {W W1 : World} {ok ok' : Nat → Prop} {x : Value} {c s q0 q1 q2 q4 q5 : Int} {t : List α} {o : List β} {l6 l7 l8 l9 : List Int}
theorem FrF.below (h : FrF d2 d W ok x c s t q0 q1 q2 o q4 q5 l6 l7 l8 l9) (hb : Below W.heap.size W W1) : FrF d2 d W1 ok x c s t q0 q1 q2 o q4 q5 l6 l7 l8 l9 := by
 obtain ⟨v2, v3, v6, v7, v8, v9, e, r⟩ := h
 exact ⟨v2, v3, v6, v7, v8, v9, e, r.below hb⟩
theorem FrF.mono (h : FrF d2 d W ok x c s t q0 q1 q2 o q4 q5 l6 l7 l8 l9) (hk : ∀ k, ok k → ok' k) : FrF d2 d W ok' x c s t q0 q1 q2 o q4 q5 l6 l7 l8 l9 := by
 obtain ⟨v2, v3, v6, v7, v8, v9, e, r⟩ := h
 exact ⟨v2, v3, v6, v7, v8, v9, e, r.mono hk⟩
theorem FrF.old (h : FrF d2 d W ok x c s t q0 q1 q2 o q4 q5 l6 l7 l8 l9) (hb : Below W.heap.size W W1) (hk : ∀ k, ok k → k < W.heap.size → ok' k) : FrF d2 d W1 ok' x c s t q0 q1 q2 o q4 q5 l6 l7 l8 l9 := by
 obtain ⟨v2, v3, v6, v7, v8, v9, e, r⟩ := h
 exact ⟨v2, v3, v6, v7, v8, v9, e, r.old hb hk⟩
theorem FrF.only {g : Nat} (h : FrF d2 d W ok x c s t q0 q1 q2 o q4 q5 l6 l7 l8 l9) (ho : OnlyG W W1 g) (hk : ∀ k, ok k → k ≠ g) : FrF d2 d W1 ok x c s t q0 q1 q2 o q4 q5 l6 l7 l8 l9 := by
 obtain ⟨v2, v3, v6, v7, v8, v9, e, r⟩ := h
 exact ⟨v2, v3, v6, v7, v8, v9, e, r.only ho hk⟩
end
theorem few22_calls {W : World} {ok : Nat → Prop} {v2 v3 v6 v7 v8 v9 : Value} {c s q0 q1 q2 q4 q5 : Int} {t : List S85} {o : List S105} {l6 l7 l8 l9 : List Int} {k : Nat} {r : Bool}
 (h : FrR k85 k105 W ok v2 v3 v6 v7 v8 v9 t o l6 l7 l8 l9) (hf : marlinelaw22_few.f k c s t q0 q1 q2 o q4 q5 l6 l7 l8 l9 = some r) :
 Calls Tryd.prog 14 #[.agg (fr c s v2 q0 q1 q2 v3 q4 q5 v6 v7 v8 v9)] W fun e w' => e = .returned (.bool r) ∧ Below W.heap.size W w' := by
 obtain ⟨⟨A2, c2, rfl, n2, f2⟩, ⟨A3, c3, rfl, n3, f3⟩, ⟨A6, c6, rfl, n6, f6⟩, ⟨A7, c7, rfl, n7, f7⟩, ⟨A8, c8, rfl, n8, f8⟩, ⟨A9, c9, rfl, n9, f9⟩⟩ := h
 exact marlinelaw22_few.calls k c s A2 c2 t q0 q1 q2 A3 c3 o q4 q5 A6 c6 l6 A7 c7 l7 A8 c8 l8 A9 c9 l9 r W (Kd.F_now f2) n2 (Kd.F_now f3) n3 (Kd.F_now f6) n6 (Kd.F_now f7) n7 (Kd.F_now f8) n8 (Kd.F_now f9) n9 hf
theorem of22_blocks {w0 W : World} {v2 v3 v6 v7 v8 v9 : Value} {c s q0 q1 q2 q4 q5 d0 d1 r0 r1 r2 r4 r5 : Int} {t : List S85} {o : List S105} {u : List S51} {q : List S62} {l6 l7 l8 l9 m6 m7 m8 m9 : List Int} {k : Nat}
 (h : FrR k85 k105 W (fun k => k < w0.heap.size) v2 v3 v6 v7 v8 v9 t o l6 l7 l8 l9)
 (hf : marlinelaw22_Of.f k c s t q0 q1 q2 o q4 q5 l6 l7 l8 l9 = some (d0, d1, u, r0, r1, r2, q, r4, r5, m6, m7, m8, m9)) :
 Calls Tryd.prog 15 #[.agg (fr c s v2 q0 q1 q2 v3 q4 q5 v6 v7 v8 v9)] W fun e w' => ∃ y, e = .returned y ∧ FrF k51 k62 w' (fun k => k < w0.heap.size ∨ W.heap.size ≤ k) y d0 d1 u r0 r1 r2 q r4 r5 m6 m7 m8 m9 ∧ Below W.heap.size W w' := by
 obtain ⟨⟨A2, c2, rfl, n2, f2⟩, ⟨A3, c3, rfl, n3, f3⟩, ⟨A6, c6, rfl, n6, f6⟩, ⟨A7, c7, rfl, n7, f7⟩, ⟨A8, c8, rfl, n8, f8⟩, ⟨A9, c9, rfl, n9, f9⟩⟩ := h
 refine (marlinelaw22_Of.calls k c s (fun k => k < w0.heap.size) A2 c2 t q0 q1 q2 (fun k => k < w0.heap.size) A3 c3 o q4 q5 (fun k => k < w0.heap.size) A6 c6 l6 (fun k => k < w0.heap.size) A7 c7 l7 (fun k => k < w0.heap.size) A8 c8 l8 (fun k => k < w0.heap.size) A9 c9 l9 _ _ _ _ _ _ _ _ _ _ _ _ _ W (Kd.V_mk n2 f2) (Kd.V_mk n3 f3) (Kd.V_mk n6 f6) (Kd.V_mk n7 f7) (Kd.V_mk n8 f8) (Kd.V_mk n9 f9) hf).mono ?_
 rintro e w' ⟨u2, u3, u6, u7, u8, u9, rfl, h2, h3, h6, h7, h8, h9, hb⟩
 have m : ∀ k, ((k < w0.heap.size ∨ k < w0.heap.size ∨ k < w0.heap.size ∨ k < w0.heap.size ∨ k < w0.heap.size ∨ k < w0.heap.size) ∨ W.heap.size ≤ k) → k < w0.heap.size ∨ W.heap.size ≤ k := fun k hk => by omega
 exact ⟨_, rfl, ⟨u2, u3, u6, u7, u8, u9, rfl, Kd.V_mono (v_of_n h2) (fun k hk => m k hk.1), Kd.V_mono (v_of_n h3) (fun k hk => m k hk.1), Kd.V_mono h6 (fun k hk => m k hk.1), Kd.V_mono h7 (fun k hk => m k hk.1), Kd.V_mono h8 (fun k hk => m k hk.1), Kd.V_mono h9 (fun k hk => m k hk.1)⟩, hb⟩
theorem ans_calls {W : World} {ok ok' : Nat → Prop} {v2 v3 v6 v7 v8 v9 u2 u3 u6 u7 u8 u9 : Value} {c s q0 q1 q2 q4 q5 d0 d1 r0 r1 r2 r4 r5 : Int} {t u : List S51} {o q : List S62} {l6 l7 l8 l9 m6 m7 m8 m9 : List Int} {k : Nat} {r : Bool}
 (h : FrR k51 k62 W ok v2 v3 v6 v7 v8 v9 t o l6 l7 l8 l9) (g : FrR k51 k62 W ok' u2 u3 u6 u7 u8 u9 u q m6 m7 m8 m9)
 (hf : ether_Answers.f k c s t q0 q1 q2 o q4 q5 l6 l7 l8 l9 d0 d1 u r0 r1 r2 q r4 r5 m6 m7 m8 m9 = some r) :
 Calls Tryd.prog 16 #[.agg (fr c s v2 q0 q1 q2 v3 q4 q5 v6 v7 v8 v9), .agg (fr d0 d1 u2 r0 r1 r2 u3 r4 r5 u6 u7 u8 u9)] W fun e w' => e = .returned (.bool r) ∧ Below W.heap.size W w' := by
 obtain ⟨⟨A2, c2, rfl, n2, f2⟩, ⟨A3, c3, rfl, n3, f3⟩, ⟨A6, c6, rfl, n6, f6⟩, ⟨A7, c7, rfl, n7, f7⟩, ⟨A8, c8, rfl, n8, f8⟩, ⟨A9, c9, rfl, n9, f9⟩⟩ := h
 obtain ⟨⟨B2, e2, rfl, p2, g2⟩, ⟨B3, e3, rfl, p3, g3⟩, ⟨B6, e6, rfl, p6, g6⟩, ⟨B7, e7, rfl, p7, g7⟩, ⟨B8, e8, rfl, p8, g8⟩, ⟨B9, e9, rfl, p9, g9⟩⟩ := g
 exact ether_Answers.calls k c s A2 c2 t q0 q1 q2 A3 c3 o q4 q5 A6 c6 l6 A7 c7 l7 A8 c8 l8 A9 c9 l9 d0 d1 B2 e2 u r0 r1 r2 B3 e3 q r4 r5 B6 e6 m6 B7 e7 m7 B8 e8 m8 B9 e9 m9 r W (Kd.F_now f2) n2 (Kd.F_now f3) n3 (Kd.F_now f6) n6 (Kd.F_now f7) n7 (Kd.F_now f8) n8 (Kd.F_now f9) n9 (Kd.F_now g2) p2 (Kd.F_now g3) p3 (Kd.F_now g6) p6 (Kd.F_now g7) p7 (Kd.F_now g8) p8 (Kd.F_now g9) p9 hf
theorem equal_calls2 {W : World} {x y : Value} {a b : List Int} {k : Nat} {r : Bool} (h : Rd (Kd.int .u8) W x a) (g : Rd (Kd.int .u8) W y b) (hf : marlineref01_Equal.f k a b = some r) :
 Calls Tryd.prog 17 #[x, y] W fun e w' => e = .returned (.bool r) ∧ Below W.heap.size W w' := by
 obtain ⟨A, c, rfl, n, f⟩ := h
 obtain ⟨B, d, rfl, p, q⟩ := g
 refine (marlineref01_Equal.calls k A c a B d b r W (Kd.F_now f) n (Kd.F_now q) p hf).mono ?_
 rintro e w' ⟨he, hd⟩
 exact ⟨he, hd.below⟩
theorem same21_calls {W : World} {x y : Value} {a b : List S85} {k : Nat} {r : Bool} (h : Rd k85 W x a) (g : Rd k85 W y b) (hf : marlineref21_Same.f k a b = some r) :
 Calls Tryd.prog 20 #[x, y] W fun e w' => e = .returned (.bool r) ∧ Below W.heap.size W w' := by
 obtain ⟨A, c, rfl, n, f⟩ := h
 obtain ⟨B, d, rfl, p, q⟩ := g
 refine (marlineref21_Same.calls k A c a B d b r W (Kd.F_now f) n (Kd.F_now q) p hf).mono ?_
 rintro e w' ⟨he, hd⟩
 exact ⟨he, hd.below⟩
theorem to21_calls {W : World} {x : Value} {t : List S51} {u : List S85} {k : Nat} (h : Rd k51 W x t) (hf : marlinelaw21_To.f k t = some u) :
 Calls Tryd.prog 21 #[x] W fun e w' => ∃ y, e = .returned y ∧ Rd k85 w' y u ∧ Below W.heap.size W w' := by
 obtain ⟨A, c, rfl, n, f⟩ := h
 refine (marlinelaw21_To.calls k (fun _ => True) A c t u W (Kd.V_mk n f) hf).mono ?_
 rintro e w' ⟨v, rfl, hn, hb⟩
 exact ⟨_, rfl, rd_of_n hn, hb⟩
theorem to15_calls {W : World} {x : Value} {a0 a1 a2 a4 a5 r0 r1 r2 r4 r5 : Int} {o : List S62} {q : List S105} {l6 l7 l8 l9 m6 m7 m8 m9 : List Int} {k : Nat} (h : PkIn k62 W x a0 a1 a2 o a4 a5 l6 l7 l8 l9)
 (hf : marlinelaw15_To.f k a0 a1 a2 o a4 a5 l6 l7 l8 l9 = some (r0, r1, r2, q, r4, r5, m6, m7, m8, m9)) :
 Calls Tryd.prog 19 #[x] W fun e w' => ∃ y, e = .returned y ∧ PkIn k105 w' y r0 r1 r2 q r4 r5 m6 m7 m8 m9 ∧ Below W.heap.size W w' := by
 obtain ⟨v3, v6, v7, v8, v9, rfl, ⟨A3, c3, rfl, n3, f3⟩, ⟨A6, c6, rfl, n6, f6⟩, ⟨A7, c7, rfl, n7, f7⟩, ⟨A8, c8, rfl, n8, f8⟩, ⟨A9, c9, rfl, n9, f9⟩⟩ := h
 refine (marlinelaw15_To.calls k a0 a1 a2 (fun _ => True) A3 c3 o a4 a5 (fun _ => True) A6 c6 l6 (fun _ => True) A7 c7 l7 (fun _ => True) A8 c8 l8 (fun _ => True) A9 c9 l9 _ _ _ _ _ _ _ _ _ _ W (Kd.V_mk n3 f3) (Kd.V_mk n6 f6) (Kd.V_mk n7 f7) (Kd.V_mk n8 f8) (Kd.V_mk n9 f9) hf).mono ?_
 rintro e w' ⟨u3, u6, u7, u8, u9, rfl, h3, h6, h7, h8, h9, hb⟩
 exact ⟨_, rfl, ⟨u3, u6, u7, u8, u9, rfl, rd_of_n h3, rd_of_v h6, rd_of_v h7, rd_of_v h8, rd_of_v h9⟩, hb⟩
theorem same15_calls {W : World} {x y : Value} {a0 a1 a2 a4 a5 b0 b1 b2 b4 b5 : Int} {o q : List S105} {l6 l7 l8 l9 m6 m7 m8 m9 : List Int} {k : Nat} {r : Bool} (h : PkIn k105 W x a0 a1 a2 o a4 a5 l6 l7 l8 l9) (g : PkIn k105 W y b0 b1 b2 q b4 b5 m6 m7 m8 m9)
 (hf : marlineref15_Same.f k a0 a1 a2 o a4 a5 l6 l7 l8 l9 b0 b1 b2 q b4 b5 m6 m7 m8 m9 = some r) :
 Calls Tryd.prog 18 #[x, y] W fun e w' => e = .returned (.bool r) ∧ Below W.heap.size W w' := by
 obtain ⟨v3, v6, v7, v8, v9, rfl, ⟨A3, c3, rfl, n3, f3⟩, ⟨A6, c6, rfl, n6, f6⟩, ⟨A7, c7, rfl, n7, f7⟩, ⟨A8, c8, rfl, n8, f8⟩, ⟨A9, c9, rfl, n9, f9⟩⟩ := h
 obtain ⟨u3, u6, u7, u8, u9, rfl, ⟨B3, d3, rfl, p3, g3⟩, ⟨B6, d6, rfl, p6, g6⟩, ⟨B7, d7, rfl, p7, g7⟩, ⟨B8, d8, rfl, p8, g8⟩, ⟨B9, d9, rfl, p9, g9⟩⟩ := g
 exact marlineref15_Same.calls k a0 a1 a2 A3 c3 o a4 a5 A6 c6 l6 A7 c7 l7 A8 c8 l8 A9 c9 l9 b0 b1 b2 B3 d3 q b4 b5 B6 d6 m6 B7 d7 m7 B8 d8 m8 B9 d9 m9 r W (Kd.F_now f3) n3 (Kd.F_now f6) n6 (Kd.F_now f7) n7 (Kd.F_now f8) n8 (Kd.F_now f9) n9 (Kd.F_now g3) p3 (Kd.F_now g6) p6 (Kd.F_now g7) p7 (Kd.F_now g8) p8 (Kd.F_now g9) p9 hf
end Go.Proofs.YteanncchmenlkaaDoor.Hw
namespace Go.Proofs.YteanncchmenlkaaDoor.Hw
open Go.RowKit Go.Proofs.YteanncchmenlkaaDoorW.PrintWords Go.Proofs.YteanncchmenlkaaDoorW.PrintLast Go.Proofs.YteanncchmenlkaaDoorW.PrintMore Go.Proofs.YteanncchmenlkaaDoor.Print
set_option linter.unusedVariables false
set_option linter.unusedSimpArgs false
section
variable {P : Program} {ops : Array Oper} {o : Oper} {rest : List Oper} {a : Act} {Q : Exit → Act → World → Prop} {W : World} {g j : Nat} {t ty : TypeId} {cs cells : Array Value} {x y : Operand} {d : TypeDesc} {v : Value} {Kc : Act → World → Prop}
theorem st_loadf (hw : Region.wanted o (yielded ops a.tmps) = true) (ho : o.op = .load ty x) (hx : a.eval x = .pointer (some ⟨g, j, none⟩)) (hb : W.heap[g]? = some (.cells cs t (0, 0))) (hv : cs[j]? = some v)
 (hu : P.underlying ty = some d) (hd : d.isRow = false) (h : Kc (a.put o.dst v) W) :
 if Region.wanted o (yielded ops a.tmps) = true then Oper.wp P o a W Kc Q else Kc (a.put o.dst undef) W := by
 rw [if_pos hw]
 have hagg : ∀ w : World, (isAgg ty).run P w = .ok false w := fun w => by
  unfold isAgg
  rw [Sem.run_bind, run_underlying hu w]
  cases d <;> simp_all
 have hc : W.cell? ⟨g, j, none⟩ = some v := (blk_cell hb j).trans hv
 have hrun : (loadVar ty ⟨g, j, none⟩).run P W = .ok v W := by simp [loadVar, Sem.run_bind, hagg, hc]
 unfold Oper.wp execOp
 simp only [ho, hx, Instr.loadAt, Instr.sureAddr, Sem.run_bind, Sem.run_pure, Result.andThen_ok, hrun]
 exact h
theorem st_loadp (hw : Region.wanted o (yielded ops a.tmps) = true) (ho : o.op = .load ty x) (hx : a.eval x = .pointer (some ⟨g, j, none⟩)) (hb : W.heap[g]? = some (.cells cs t (0, 0))) (hp : ∀ i v, cells[i]? = some v → cs[j + i]? = some v)
 (hu : P.underlying ty = some d) (hd : d.isRow = true) (hi : (P.info? ty).map (·.size) = some cells.size) (h : Kc (a.put o.dst (.agg cells)) W) :
 if Region.wanted o (yielded ops a.tmps) = true then Oper.wp P o a W Kc Q else Kc (a.put o.dst undef) W := by
 rw [if_pos hw]
 refine wp_load_mid ty x ho g j hx cells.toList d (fun i v hv => ?_) hu hd (by simpa using hi) (by simpa using h)
 rw [blk_cell hb (j + i)]
 exact hp i v (by simpa using hv)
theorem st_cut {A A' : Option Addr} {n n' c c' : Nat} {e : TypeId} (ht : P.underlying ty = some (.slice e)) (hw : Region.wanted o (yielded ops a.tmps) = true) (ho : o.op = .slice ty x (some (.const (.int .i64 1))) none none) (hx : a.eval x = .slice A n c)
 (hrun : (Instr.slice ty (.slice A n c) (some (.int .i64 1)) none none).run P W = .ok (.slice A' n' c') W) (h : Kc (a.put o.dst (.slice A' n' c')) W) :
 if Region.wanted o (yielded ops a.tmps) = true then Oper.wp P o a W Kc Q else Kc (a.put o.dst undef) W := by
 rw [if_pos hw]
 unfold Oper.wp execOp
 simp only [ho, hx]
 have e1 : a.eval (.const (.int .i64 1)) = .int .i64 1 := rfl
 have e2 : (Instr.sliceAt ty (.slice A n c) (some (.int .i64 1)) none none).run P W = .ok (.slice A' n' c') W := by
  unfold Instr.sliceAt
  rw [Sem.run_bind, run_underlying ht W]
  exact hrun
 simp [e1, e2, Result.andThen]
 exact h
end
theorem FrR.tags {α β γ : Type} {d2 : Kd α} {d : Kd β} {d3 : Kd γ} {W : World} {ok : Nat → Prop} {v v2 v3 v6 v7 v8 v9 : Value} {t : List α} {u : List γ} {o : List β} {l6 l7 l8 l9 : List Int} (h : FrR d2 d W ok v2 v3 v6 v7 v8 v9 t o l6 l7 l8 l9) (k : Kd.V d3 0 W 0 ok v u) : FrR d3 d W ok v v3 v6 v7 v8 v9 u o l6 l7 l8 l9 := ⟨k, h.2⟩
theorem fk_tag {W : World} {ok : Nat → Prop} {A : Option Addr} {c : Nat} {n : Int} {l : List Int} (h : Kd.V (Kd.int .u8) 0 W 0 ok (.slice A l.length c) l) : Kd.FK k51 W ok ⟨n, l⟩ [.int .u16 n, .slice A l.length c] := by
 have hl := (Kd.V_reads' h).2.1
 have hf := Kd.V_F h
 exact fun W' hW' => ⟨[.int .u16 n], [.slice A l.length c], rfl, rfl, ⟨A, c, rfl, hl, hf W' hW'⟩⟩
theorem reps_tag {W : World} {ok : Nat → Prop} {A : Option Addr} {c : Nat} {n : Int} {l : List Int} (h : Kd.V (Kd.int .u8) 0 W 0 ok (.slice A l.length c) l) : Reps (Kd.FK k51 W ok) k51.sz [⟨n, l⟩] [.int .u16 n, .slice A l.length c] :=
 ⟨rfl, fun j p hj => by
  cases j with
  | zero =>
   have hp : (⟨n, l⟩ : S51) = p := by simpa using hj
   subst hp
   exact fk_tag h
  | succ j => simp at hj⟩
end Go.Proofs.YteanncchmenlkaaDoor.Hw
namespace Go.Proofs.YteanncchmenlkaaDoor.Sq
open Go.RowKit Go.Proofs.YteanncchmenlkaaDoor.Sp Go.Proofs.YteanncchmenlkaaDoor.Print Go.Proofs.YteanncchmenlkaaDoorW.PrintWords Go.Proofs.YteanncchmenlkaaDoorW.PrintLast Go.Proofs.YteanncchmenlkaaDoor.Pl
set_option linter.unusedVariables false
def U16 (x : Int) : Prop := 0 ≤ x ∧ x < 65536
abbrev AO := S51
abbrev RO := S85
def ao (o : RO) : AO := ⟨o.f0, o.f1⟩
def ro (o : AO) : RO := ⟨o.f0, o.f1⟩
theorem map_ro_ao (l : List RO) : (l.map ao).map ro = l := by rw [List.map_map]; exact List.map_id l
instance decRO : DecidableEq RO := fun a b => decidable_of_iff (a.f0 = b.f0 ∧ a.f1 = b.f1) (by cases a; cases b; simp)
theorem drop_get {α : Type} {z : α} {xs : List α} {i : Nat} {b : α} {t : List α} (h : xs.drop i = b :: t) : xs.getD ((i : Int)).toNat z = b ∧ xs.drop (i + 1) = t ∧ i < xs.length := by
 have hlt : i < xs.length := by
  rcases Nat.lt_or_ge i xs.length with h1 | h1
  · exact h1
  · rw [List.drop_eq_nil_of_le h1] at h; cases h
 rw [List.drop_eq_getElem_cons hlt] at h
 injection h with h1 h2
 refine ⟨?_, h2, hlt⟩
 rw [Int.toNat_natCast, List.getD_eq_getElem?_getD, List.getElem?_eq_getElem hlt]
 exact h1
theorem rda {xs : List AO} {i : Nat} {b : AO} {t : List AO} (h : xs.drop i = b :: t) : rd_T51 xs (i : Int) = b ∧ xs.drop (i + 1) = t ∧ i < xs.length := drop_get h
theorem rdr {xs : List RO} {i : Nat} {b : RO} {t : List RO} (h : xs.drop i = b :: t) : rd_T85 xs (i : Int) = b ∧ xs.drop (i + 1) = t ∧ i < xs.length := drop_get h
theorem nil_len {α : Type} {xs : List α} {i : Nat} (h : xs.drop i = []) : xs.length ≤ i := List.drop_eq_nil_iff.1 h
theorem sucB (i : Nat) (h : i ≤ 4611686018427387904) : wrap64 ((i : Int) + 1) = ((i + 1 : Nat) : Int) := by rw [w64 (by omega) (by omega)]; omega
def tot : List RO → Nat
 | [] => 0
 | o :: t => o.f1.length + tot t
def Held (l : List RO) : Prop := l.length * 32 ≤ 140737488351232 ∧ ∀ o ∈ l, U16 o.f0 ∧ o.f1.length ≤ 140737488351232 ∧ Bytes o.f1
theorem tot_le : ∀ (t : List RO), (∀ o ∈ t, o.f1.length ≤ 140737488351232) → tot t ≤ t.length * 140737488351232
 | [], _ => by simp [tot]
 | o :: t, h => by
  have := tot_le t (fun o ho => h o (by simp [ho]))
  have := h o (by simp)
  simp only [tot, List.length_cons]
  omega
theorem Few_l0 (l : List RO) (hl : l.length ≤ 4398046511104) (hd : ∀ o ∈ l, o.f1.length ≤ 140737488351232) : ∀ (t : List RO) (i : Nat) (x : Int), l.drop i = t →
 ∃ y : Int, Ev (fun k => marlinelaw21_Few.l0 k l x l (l.length : Int) i) (if (l.length : Int) ≤ 60 then decide (y ≤ 1000) else false) ∧ (l.length ≤ 60 → 0 ≤ x → x + tot t ≤ 4611686018427387904 → y = x + tot t)
 | [], i, x, h => by
  have h3 := nil_len h
  refine ⟨x, ?_, fun _ _ _ => by simp [tot]⟩
  by_cases h6 : (l.length : Int) ≤ 60
  · rw [if_pos h6]
    exact Ev.step (fun k => by simp only [marlinelaw21_Few.l0]; rw [if_neg (by omega), if_pos h6]) (Ev.now _)
  · rw [if_neg h6]
    exact Ev.step (fun k => by simp only [marlinelaw21_Few.l0]; rw [if_neg (by omega), if_neg h6]) (Ev.now _)
 | o :: t, i, x, h => by
  obtain ⟨e1, e2, e3⟩ := rdr h
  obtain ⟨y, ih, hy⟩ := Few_l0 l hl hd t (i + 1) (wrap64 (x + (o.f1.length : Int))) e2
  refine ⟨y, Ev.step (fun k => ?_) ih, fun h6 h0 hx => ?_⟩
  · simp only [marlinelaw21_Few.l0]
    rw [if_pos (by omega), if_pos (by omega), if_pos (by omega), e1, sucB i (by omega)]
  · simp only [tot, Int.natCast_add] at hx ⊢
    have e : wrap64 (x + (o.f1.length : Int)) = x + o.f1.length := w64 (by omega) (by omega)
    rw [e] at hy
    rw [hy h6 (by omega) (by omega)]
    omega
theorem FewL (l : List RO) (hl : Held l) : Ev (fun k => marlinelaw21_Few.f k l) (decide (l.length ≤ 60 ∧ tot l ≤ 1000)) := by
 unfold marlinelaw21_Few.f
 have hd : ∀ o ∈ l, o.f1.length ≤ 140737488351232 := fun o ho => (hl.2 o ho).2.1
 have h1 := hl.1
 obtain ⟨y, hE, hy⟩ := Few_l0 l (by omega) hd l 0 0 rfl
 have ht := tot_le l hd
 have e : (if (l.length : Int) ≤ 60 then decide (y ≤ 1000) else false) = decide (l.length ≤ 60 ∧ tot l ≤ 1000) := by
  by_cases h6 : l.length ≤ 60
  · rw [if_pos (by omega), hy h6 (by omega) (by omega)]
    simp only [h6, true_and, decide_eq_decide]
    omega
  · rw [if_neg (by omega)]
    simp [h6]
 rw [← e]
 exact hE
theorem Of_l0 (l : List RO) (hl : l.length ≤ 1000000) : ∀ (t : List RO) (i : Nat) (x : List AO), l.drop i = t → x.length + t.length ≤ 1000000 →
 Ev (fun k => marlinelaw21_Of.l0 k x l (l.length : Int) i) (x ++ t.map ao)
 | [], i, x, h, _ => by
  have h3 := nil_len h
  rw [List.map_nil, List.append_nil]
  exact Ev.step (fun k => by simp only [marlinelaw21_Of.l0]; rw [if_neg (by omega)]) (Ev.now _)
 | o :: t, i, x, h, hx => by
  obtain ⟨e1, e2, e3⟩ := rdr h
  simp only [List.length_cons] at hx
  have ih := Of_l0 l hl t (i + 1) (x ++ [ao o]) e2 (by simp; omega)
  rw [List.map_cons, show x ++ ao o :: t.map ao = (x ++ [ao o]) ++ t.map ao by simp]
  refine Ev.step (fun k => ?_) ih
  simp only [marlinelaw21_Of.l0]
  rw [if_pos (by omega), if_pos (by omega), if_pos (by omega), if_pos (by omega), e1, sucB i (by omega)]
  rfl
theorem OfL (l : List RO) (hl : l.length ≤ 1000000) : Ev (fun k => marlinelaw21_Of.f k l) (l.map ao) := Of_l0 l hl l 0 [] rfl (by simpa using hl)
theorem To_l0 (l : List AO) (hl : l.length ≤ 1000000) : ∀ (t : List AO) (i : Nat) (x : List RO), l.drop i = t → x.length + t.length ≤ 1000000 →
 Ev (fun k => marlinelaw21_To.l0 k x l (l.length : Int) i) (x ++ t.map ro)
 | [], i, x, h, _ => by
  have h3 := nil_len h
  rw [List.map_nil, List.append_nil]
  exact Ev.step (fun k => by simp only [marlinelaw21_To.l0]; rw [if_neg (by omega)]) (Ev.now _)
 | o :: t, i, x, h, hx => by
  obtain ⟨e1, e2, e3⟩ := rda h
  simp only [List.length_cons] at hx
  have ih := To_l0 l hl t (i + 1) (x ++ [ro o]) e2 (by simp; omega)
  rw [List.map_cons, show x ++ ro o :: t.map ro = (x ++ [ro o]) ++ t.map ro by simp]
  refine Ev.step (fun k => ?_) ih
  simp only [marlinelaw21_To.l0]
  rw [if_pos (by omega), if_pos (by omega), if_pos (by omega), if_pos (by omega), e1, sucB i (by omega)]
  rfl
theorem ToL (l : List AO) (hl : l.length ≤ 1000000) : Ev (fun k => marlinelaw21_To.f k l) (l.map ro) := To_l0 l hl l 0 [] rfl (by simpa using hl)
theorem ba_toList (s : ByteArray) : s.toList = s.data.toList := by
 have key : ∀ (n i : Nat) (r : List UInt8), s.size - i = n → ByteArray.toList.loop s i r = r.reverse ++ s.data.toList.drop i := by
  intro n
  induction n with
  | zero =>
   intro i r h
   unfold ByteArray.toList.loop
   rw [if_neg (by omega), List.drop_eq_nil_of_le (by show s.data.toList.length ≤ i; simp only [Array.length_toList]; have : s.data.size = s.size := rfl; omega), List.append_nil]
  | succ n ih =>
   intro i r h
   unfold ByteArray.toList.loop
   have hi : i < s.data.toList.length := by simp only [Array.length_toList]; have : s.data.size = s.size := rfl; omega
   rw [if_pos (by omega), ih (i + 1) _ (by omega), List.reverse_cons, List.append_assoc, List.drop_eq_getElem_cons hi]
   congr 1
   rw [List.singleton_append]
   congr 1
   show s.data[i]! = _
   rw [getElem!_pos s.data i (by simpa using hi)]
   simp
 have := key (s.size - 0) 0 [] rfl
 simpa [ByteArray.toList] using this
theorem octs_inj : ∀ {a b : List Int}, Bytes a → Bytes b → (a.map fun n => UInt8.ofNat n.toNat) = (b.map fun n => UInt8.ofNat n.toNat) → a = b
 | [], [], _, _, _ => rfl
 | [], _ :: _, _, _, h => by simp at h
 | _ :: _, [], _, _, h => by simp at h
 | x :: a, y :: b, ha, hb, h => by
  simp only [List.map_cons, List.cons.injEq] at h
  have e := octs_inj ha.tail hb.tail h.2
  have h1 := congrArg UInt8.toNat h.1
  have hx := ha.head; have hy := hb.head
  simp only [UInt8.toNat_ofNat'] at h1
  have hx0 := hx.1; have hx1 := hx.2; have hy0 := hy.1; have hy1 := hy.2
  rw [Nat.mod_eq_of_lt (by omega), Nat.mod_eq_of_lt (by omega)] at h1
  rw [e, show x = y by omega]
theorem sameOct {a b : List Int} (ha : Bytes a) (hb : Bytes b) : ((strOfNums a).toList == (strOfNums b).toList) = decide (a = b) := by
 rw [ba_toList, ba_toList]
 by_cases h : a = b
 · subst h; simp
 · have h2 : ¬ (strOfNums a).data.toList = (strOfNums b).data.toList := fun e => h (octs_inj ha hb (by simpa [strOfNums] using e))
   rw [decide_eq_false h, beq_eq_false_iff_ne]
   exact h2
theorem rSame_l0 (a b : List RO) (hl : a.length = b.length) (ha : a.length ≤ 1000000) (hA : ∀ o ∈ a, Bytes o.f1) (hB : ∀ o ∈ b, Bytes o.f1) : ∀ (t u : List RO) (i : Nat), a.drop i = t → b.drop i = u → Ev (fun k => marlineref21_Same.l0 k a b i) (decide (t = u))
 | [], u, i, h1, h2 => by
  have h3 := nil_len h1
  obtain rfl : u = [] := by rw [← h2]; exact List.drop_eq_nil_of_le (by omega)
  exact Ev.step (fun k => by simp only [marlineref21_Same.l0]; rw [if_neg (by omega)]; rfl) (Ev.now _)
 | x :: t, [], i, h1, h2 => by
  have := nil_len h2
  obtain ⟨_, _, h3⟩ := rdr h1
  omega
 | x :: t, y :: u, i, h1, h2 => by
  obtain ⟨e1, e2, e3⟩ := rdr h1
  obtain ⟨f1, f2, f3⟩ := rdr h2
  have hx : Bytes x.f1 := hA x (by rw [← List.take_append_drop i a, h1]; simp)
  have hy : Bytes y.f1 := hB y (by rw [← List.take_append_drop i b, h2]; simp)
  have hs := sameOct hx hy
  refine Ev.step (fun k => by simp only [marlineref21_Same.l0]; rw [if_pos (by omega), if_pos (by omega), if_pos (by omega), e1, f1, sucB i (by omega)]) ?_
  by_cases h3 : x.f0 = y.f0
  · refine Ev.pos h3 ?_
    by_cases h4 : x.f1 = y.f1
    · have exy : x = y := by cases x; cases y; simp_all
      refine Ev.pos (by rw [h4]) ?_
      rw [show decide (x :: t = y :: u) = decide (t = u) by simp [exy]]
      exact rSame_l0 a b hl ha hA hB t u (i + 1) e2 f2
    · refine Ev.neg (fun e => ?_) ?_
      · rw [decide_eq_false h4, beq_eq_false_iff_ne] at hs
        exact hs e
      · rw [show decide (x :: t = y :: u) = false by simp; intro e; exact absurd (congrArg S85.f1 e) h4]
        exact Ev.now _
  · refine Ev.neg h3 ?_
    rw [show decide (x :: t = y :: u) = false by simp; intro e; exact absurd (congrArg S85.f0 e) h3]
    exact Ev.now _
theorem rSameL (a b : List RO) (ha : a.length ≤ 1000000) (hA : ∀ o ∈ a, Bytes o.f1) (hB : ∀ o ∈ b, Bytes o.f1) : Ev (fun k => marlineref21_Same.f k a b) (decide (a = b)) := by
 by_cases hl : a.length = b.length
 · exact Ev.congr (fun k => by unfold marlineref21_Same.f; rw [if_pos (by omega)]; rfl) (rSame_l0 a b hl ha hA hB a b 0 rfl rfl)
 · rw [show decide (a = b) = false by simp; rintro rfl; exact hl rfl]
   exact Ev.congr (fun k => by unfold marlineref21_Same.f; rw [if_neg (by omega)]) (Ev.now _)
end Go.Proofs.YteanncchmenlkaaDoor.Sq
namespace Go.Proofs.YteanncchmenlkaaDoor.Sq
open Go.RowKit Go.Proofs.YteanncchmenlkaaDoor.Sp Go.Proofs.YteanncchmenlkaaDoor.Print Go.Proofs.YteanncchmenlkaaDoorW.PrintWords Go.Proofs.YteanncchmenlkaaDoorW.PrintLast Go.Proofs.YteanncchmenlkaaDoor.Pl
set_option linter.unusedVariables false
theorem Few22 (a0 a1 : Int) (l2 : List RO) (a3 a4 a5 : Int) (o : List Sp.RO) (a7 a8 : Int) (l9 l10 l11 l12 : List Int) (h2 : Held l2) (ho : Sp.Held o) :
 Ev (fun k => marlinelaw22_few.f k a0 a1 l2 a3 a4 a5 o a7 a8 l9 l10 l11 l12) (decide (l2.length ≤ 60 ∧ tot l2 ≤ 1000) && few15 o l9 l10 l11 l12) := by
 unfold marlinelaw22_few.f
 refine Ev.bind (FewL l2 h2) ?_
 by_cases hd : decide (l2.length ≤ 60 ∧ tot l2 ≤ 1000) = true
 · rw [hd, Bool.true_and]
   exact Ev.pos rfl (Ev.bind (FewP a3 a4 a5 o a7 a8 l9 l10 l11 l12 ho) (Ev.now _))
 · rw [Bool.not_eq_true] at hd
   rw [hd, Bool.false_and]
   exact Ev.neg (by decide) (Ev.now _)
theorem Of22 (a0 a1 : Int) (l2 : List RO) (a3 a4 a5 : Int) (o : List Sp.RO) (a7 a8 : Int) (l9 l10 l11 l12 : List Int) (h2 : l2.length ≤ 1000000) (ho : o.length ≤ 1000000) :
 Ev (fun k => marlinelaw22_Of.f k a0 a1 l2 a3 a4 a5 o a7 a8 l9 l10 l11 l12) (a0, a1, l2.map ao, a3, a4, a5, o.map Sp.ao, a7, a8, l9, l10, l11, l12) := by
 unfold marlinelaw22_Of.f
 exact Ev.bind (OfL l2 h2) (Ev.bind (OfP a3 a4 a5 o a7 a8 l9 l10 l11 l12 ho) (Ev.now _))
theorem find_head (x : List Int) (t : List AO) (hx : x.length ≤ 1000000) : tags_Find.f (⟨259, x⟩ :: t) 259 = some (x, true) := by
 have h0 : tags_Find.idxf (⟨259, x⟩ :: t) 259 = some 0 := by unfold tags_Find.idxf tags_Find.idx; rfl
 unfold tags_Find.f
 rw [h0]
 simp only [Option.bind_some]
 rw [if_neg (by decide), if_pos (by decide), if_pos (by simp only [List.length_cons]; omega)]
 have h1 : (rd_T51 (⟨259, x⟩ :: t) 0).f1 = x := rfl
 rw [h1]
 unfold bytes_Clone.f
 rw [if_pos (by omega)]
 rfl
theorem AnsNo (a0 a1 : Int) (l2 : List AO) (a3 a4 a5 : Int) (o : List Sp.AO) (a7 a8 : Int) (l9 l10 l11 l12 : List Int) (b0 b1 : Int) (m2 : List AO) (b3 b4 b5 : Int) (q : List Sp.AO) (b7 b8 : Int) (m9 m10 m11 m12 : List Int) (h : ¬ (a0 = 7 ∧ b0 = 9 ∨ a0 = 101 ∧ b0 = 25)) :
 ether_Answers.f 1 a0 a1 l2 a3 a4 a5 o a7 a8 l9 l10 l11 l12 b0 b1 m2 b3 b4 b5 q b7 b8 m9 m10 m11 m12 = some false := by
 have hj : ether_Answers.j0 1 true a0 a1 l2 a3 a4 a5 o a7 a8 l9 l10 l11 l12 b0 b1 m2 b3 b4 b5 q b7 b8 m9 m10 m11 m12 = some false := by
  rfl
 unfold ether_Answers.f
 by_cases h7 : a0 = 7
 · subst h7
   rw [if_pos rfl, if_neg (by omega), if_neg (by decide)]
   exact hj
 · rw [if_neg h7]
   by_cases h1 : a0 = 101
   · subst h1
     rw [if_pos rfl, show (b0 == 25) = false from by rw [beq_eq_false_iff_ne]; omega]
     exact hj
   · rw [if_neg h1]
     exact hj
theorem AnsYes (a0 a1 : Int) (l2 : List AO) (a3 a4 a5 : Int) (o : List Sp.AO) (a7 a8 : Int) (l9 l10 l11 l12 : List Int) (b0 b1 : Int) (m2 : List AO) (b3 b4 b5 : Int) (q : List Sp.AO) (b7 b8 : Int) (m9 m10 m11 m12 : List Int) (x y : List Int)
 (hx : x.length ≤ 1000000) (hy : y.length ≤ 1000000) (bx : Bytes x) (by_ : Bytes y) (h : a0 = 7 ∧ b0 = 9 ∨ a0 = 101 ∧ b0 = 25) :
 ether_Answers.f 1 a0 a1 (⟨259, x⟩ :: l2) a3 a4 a5 o a7 a8 l9 l10 l11 l12 b0 b1 (⟨259, y⟩ :: m2) b3 b4 b5 q b7 b8 m9 m10 m11 m12 = some (decide (x = y)) := by
 have hj : ether_Answers.j0 1 false a0 a1 (⟨259, x⟩ :: l2) a3 a4 a5 o a7 a8 l9 l10 l11 l12 b0 b1 (⟨259, y⟩ :: m2) b3 b4 b5 q b7 b8 m9 m10 m11 m12 = some (decide (x = y)) := by
  show (if false = true then (some false) else ((tags_Find.f (⟨259, y⟩ :: m2) 259).bind fun bt482 => (if bt482.2 = true then ((tags_Find.f (⟨259, x⟩ :: l2) 259).bind fun bt486 => (if bt486.2 = true then ((bytes_Equal.f bt486.1 bt482.1).bind fun t490 => (some t490)) else (some false))) else (some true)))) = _
  rw [if_neg (by decide), find_head y m2 hy, find_head x l2 hx]
  simp only [Option.bind_some, if_true]
  rw [EqualB bx by_]
  rfl
 unfold ether_Answers.f
 rcases h with ⟨rfl, rfl⟩ | ⟨rfl, rfl⟩
 · rw [if_pos rfl, if_pos rfl]
   exact hj
 · rw [if_neg (by decide), if_pos rfl]
   exact hj
theorem idx_rng : ∀ (l : List AO) (t : Int), tags_Find.idx l t = -1 ∨ (0 ≤ tags_Find.idx l t ∧ tags_Find.idx l t < l.length)
 | [], _ => .inl rfl
 | o :: r, t => by
  unfold tags_Find.idx
  have ih := idx_rng r t
  by_cases h : o.f0 = t
  · rw [if_pos h]; exact .inr ⟨by omega, by simp only [List.length_cons]; omega⟩
  · rw [if_neg h]
    by_cases h1 : tags_Find.idx r t = -1
    · rw [if_pos h1]; exact .inl rfl
    · rw [if_neg h1]; exact .inr ⟨by omega, by simp only [List.length_cons]; omega⟩
theorem find_any (l : List AO) (t : Int) (hl : ∀ x ∈ l, x.f1.length ≤ 1000000) : ∃ r, tags_Find.f l t = some r := by
 unfold tags_Find.f tags_Find.idxf
 simp only [Option.bind_some]
 rcases idx_rng l t with h | ⟨h0, h1⟩
 · rw [h, if_pos (by decide)]; exact ⟨_, rfl⟩
 · rw [if_neg (by omega), if_pos h0, if_pos h1]
   have hm : rd_T51 l (tags_Find.idx l t) ∈ l := by
    unfold rd_T51
    rw [List.getD_eq_getElem?_getD, List.getElem?_eq_getElem (by omega)]
    exact List.getElem_mem _
   unfold bytes_Clone.f
   rw [if_pos (by have := hl _ hm; omega)]
   exact ⟨_, rfl⟩
theorem AnsAny (a0 a1 : Int) (l2 : List AO) (a3 a4 a5 : Int) (o : List Sp.AO) (a7 a8 : Int) (l9 l10 l11 l12 : List Int) (b0 b1 : Int) (m2 : List AO) (b3 b4 b5 : Int) (q : List Sp.AO) (b7 b8 : Int) (m9 m10 m11 m12 : List Int)
 (hl : ∀ x ∈ l2, x.f1.length ≤ 1000000) (hm : ∀ x ∈ m2, x.f1.length ≤ 1000000) :
 ∃ r, ether_Answers.f 1 a0 a1 l2 a3 a4 a5 o a7 a8 l9 l10 l11 l12 b0 b1 m2 b3 b4 b5 q b7 b8 m9 m10 m11 m12 = some r := by
 have hj : ∀ z, ∃ r, ether_Answers.j0 1 z a0 a1 l2 a3 a4 a5 o a7 a8 l9 l10 l11 l12 b0 b1 m2 b3 b4 b5 q b7 b8 m9 m10 m11 m12 = some r := by
  intro z
  obtain ⟨r1, h1⟩ := find_any m2 259 hm
  obtain ⟨r2, h2⟩ := find_any l2 259 hl
  show ∃ r, (if z = true then (some false) else ((tags_Find.f m2 259).bind fun bt482 => (if bt482.2 = true then ((tags_Find.f l2 259).bind fun bt486 => (if bt486.2 = true then ((bytes_Equal.f bt486.1 bt482.1).bind fun t490 => (some t490)) else (some false))) else (some true)))) = some r
  rw [h1, h2]
  simp only [Option.bind_some]
  split
  · exact ⟨_, rfl⟩
  · split
    · split
      · exact ⟨_, rfl⟩
      · exact ⟨_, rfl⟩
    · exact ⟨_, rfl⟩
 unfold ether_Answers.f
 split
 · split
   · exact hj _
   · split
     · exact hj _
     · exact hj _
 · split
   · exact hj _
   · exact hj _
end Go.Proofs.YteanncchmenlkaaDoor.Sq
namespace Go.Proofs.YteanncchmenlkaaDoor.Hw
open Go.RowKit Go.Proofs.YteanncchmenlkaaDoorW.PrintWords Go.Proofs.YteanncchmenlkaaDoorW.PrintLast Go.Proofs.YteanncchmenlkaaDoorW.PrintMore Go.Proofs.YteanncchmenlkaaDoor.Print Go.Proofs.YteanncchmenlkaaDoor.Sp Go.Proofs.YteanncchmenlkaaDoor.Pl
open Go.Proofs.YteanncchmenlkaaDoor.Sq (AnsNo AnsYes AnsAny Few22 Of22)
set_option linter.unusedVariables false
set_option linter.unusedSimpArgs false
def TA3 : Bool × List (List Nat × List Nat) := (true, [([], []), ([0], [0]), ([], []), ([2, 1], [2]), ([], []), ([], []), ([4, 1, 3, 0, 1, 4, 5], [1, 4]), ([5, 3, 6, 0, 1, 2, 3, 4, 5, 6], [3, 5])])
def BA3 : List Nat := [0, 1, 0, 7, 0, 0, 63, 127]
theorem tabA3 : rtab .any (opsOf Tryd.f4 3) = TA3 := by kernel_rfl
theorem bitsA3 : waitsOk TA3.2 BA3 = true := by kernel_rfl
def TA13 : Bool × List (List Nat × List Nat) := (true, [([], []), ([], []), ([], []), ([1, 2], [1, 2]), ([0, 3], [0, 3]), ([4, 3], [4]), ([5], [5]), ([5], [5]), ([6, 7, 5], [5, 6, 7]), ([5, 8], [5, 8]), ([9, 5], [9]), ([10], [10]), ([10], [10]), ([11, 12, 10, 10], [10, 11, 12]), ([13, 10], [10, 13]), ([10, 14], [10, 14]), ([15, 13], [15]), ([16], [16]), ([17, 16], [16, 17]), ([16], [16]), ([19, 16], [16, 19]), ([20, 16, 16], [16, 20]), ([18, 21, 21, 16], [16, 18, 21]), ([16, 22], [16, 22]), ([23, 22], [23]), ([24], [24]), ([25, 24], [24, 25]), ([24], [24]), ([27, 24], [24, 27]), ([28, 24], [24, 28]), ([29, 24, 24], [24, 29]), ([26, 30, 30, 24], [24, 26, 30]), ([24, 31], [24, 31]), ([32, 31, 0, 1, 2, 3, 4, 5, 6, 7, 8, 9, 10, 11, 12, 13, 14, 15, 16, 17, 18, 19, 20, 21, 22, 23, 24, 25, 26, 27, 28, 29, 30, 31, 32], [32])])
def BA13 : List Nat := [0, 0, 0, 6, 15, 31, 63, 63, 255, 511, 1023, 2047, 2047, 8191, 16383, 32767, 65535, 131071, 262143, 131071, 655359, 1703935, 4194303, 8388607, 16777215, 33554431, 67108863, 33554431, 167772159, 436207615, 973078527, 2147483647, 4294967295, 8589934591]
theorem tabA13 : rtab .any (opsOf Tryd.f4 13) = TA13 := by kernel_rfl
theorem bitsA13 : waitsOk TA13.2 BA13 = true := by kernel_rfl
theorem pk_at (c s : Int) (v2 : Value) (q0 q1 q2 : Int) (v3 : Value) (q4 q5 : Int) (v6 v7 v8 v9 : Value) : ∀ (i : Nat) (v : Value), (pk q0 q1 q2 v3 q4 q5 v6 v7 v8 v9)[i]? = some v → (fr c s v2 q0 q1 q2 v3 q4 q5 v6 v7 v8 v9)[3 + i]? = some v := by
 intro i v h
 match i, h with
 | 0, h => exact h
 | 1, h => exact h
 | 2, h => exact h
 | 3, h => exact h
 | 4, h => exact h
 | 5, h => exact h
 | 6, h => exact h
 | 7, h => exact h
 | 8, h => exact h
 | 9, h => exact h
 | i + 10, h => simp at h
theorem cut_tags {W : World} {ok : Nat → Prop} {A : Option Addr} {c : Nat} {x : S51} {l : List S51} (h : Kd.V k51 0 W 0 ok (.slice A ([x] ++ l).length c) ([x] ++ l)) : Rd k51 W (.slice (if c = 1 then A else A.map (·.add (1 * 2))) (([x] ++ l).length - 1) (c - 1)) l := by
 have h1 := (Kd.V_reads' h).2.1
 have hl : 1 ≤ ([x] ++ l).length := by simp
 have hf := Kd.F_cut (m := 1) (Kd.V_F h) hl h1
 have e1 : ([x] ++ l).drop 1 = l := rfl
 have e2 : ([x] ++ l).length - 1 = l.length := by simp
 rw [e1] at hf
 rw [e2]
 exact Kd.V_mk (by rw [← e2]; omega) (Kd.F_mono hf (fun _ _ => trivial))
theorem cut_run (ht : Tryd.prog.underlying 30 = some (.slice 51)) (A : Option Addr) (n c : Nat) (hn : 1 ≤ n) (W : World) : (Instr.slice 30 (.slice A n c) (some (.int .i64 1)) none none).run Tryd.prog W = .ok (.slice (if c = 1 then A else A.map (·.add (1 * 2))) (n - 1) (c - 1)) W := by
 cases hi : Tryd.prog.info? 51 with
 | none => have h := info51; rw [hi] at h; cases h
 | some i =>
  have h := info51
  rw [hi] at h
  have hs : i.size = 2 := by simpa using congrArg (fun z => z.map (fun y => y.2.1)) h
  exact cut_from 30 51 .i64 ht hi 2 hs A n c 1 (by decide) (by omega) W
set_option maxHeartbeats 64000000 in
set_option maxRecDepth 100000 in
theorem eans (w : World) (a0 a1 a3 a4 a5 a7 a8 b0 b1 b3 b4 b5 b7 b8 : Int) (u2 u3 u6 u7 u8 u9 z2 z3 z6 z7 z8 z9 : Value) (ta tb : List S85) (o q : List S105) (l6 l7 l8 l9 m6 m7 m8 m9 lx ly : List Int) (X Y : Option Addr) (cx cy : Nat) (hE : GE w)
 (rp : ∀ W, Below w.heap.size w W → FrR k85 k105 W (fun k => k < w.heap.size) u2 u3 u6 u7 u8 u9 ta o l6 l7 l8 l9) (rq : ∀ W, Below w.heap.size w W → FrR k85 k105 W (fun k => k < w.heap.size) z2 z3 z6 z7 z8 z9 tb q m6 m7 m8 m9)
 (rx : Kd.V (Kd.int .u8) 0 w 0 (fun k => k < w.heap.size) (.slice X lx.length cx) lx) (ry : Kd.V (Kd.int .u8) 0 w 0 (fun k => k < w.heap.size) (.slice Y ly.length cy) ly)
 (fp fq : Bool) (kp kq : Nat) (hfp : marlinelaw22_few.f kp a0 a1 ta a3 a4 a5 o a7 a8 l6 l7 l8 l9 = some fp) (hfq : marlinelaw22_few.f kq b0 b1 tb b3 b4 b5 q b7 b8 m6 m7 m8 m9 = some fq)
 (lp : fp = true → ta.length ≤ 1000 ∧ (∀ x ∈ ta, x.f1.length ≤ 1000000) ∧ o.length ≤ 1000 ∧ l6.length ≤ 1000 ∧ l7.length ≤ 1000 ∧ l8.length ≤ 1000 ∧ l9.length ≤ 1000 ∧ (∀ x ∈ o, Lim x.f1)) (lq : fq = true → tb.length ≤ 1000 ∧ (∀ x ∈ tb, x.f1.length ≤ 1000000) ∧ q.length ≤ 1000)
 (hbt : ∀ x ∈ ta, Bytes x.f1) (hbx : Bytes lx) (hby : Bytes ly) :
 Calls Tryd.prog 4 #[.agg (fr a0 a1 u2 a3 a4 a5 u3 a7 a8 u6 u7 u8 u9), .agg (fr b0 b1 z2 b3 b4 b5 z3 b7 b8 z6 z7 z8 z9), (.slice X lx.length cx), (.slice Y ly.length cy)] w fun e w' => e = .returned (.bool true) ∧ Below w.heap.size w w' := by
 have hu44 := Tryd.underlying44
 have hu32 := Tryd.underlying32
 have HB := Aside0.mk (Below.refl w.heap.size w)
 have HE := Aside0.mk hE
 have hRP := Aside0.mk rp
 have hRQ := Aside0.mk rq
 have HFP := Aside0.mk hfp
 have HFQ := Aside0.mk hfq
 have RX0 := Aside0.mk rx
 have RY0 := Aside0.mk ry
 have HBX := Aside0.mk hbx
 have HBY := Aside0.mk hby
 have HBT := Aside0.mk hbt
 clear hE rp rq hfp hfq rx ry hbx hby hbt
 cases fp
 · clear lp lq
   go_enter Tryd.func4, Tryd.ntmps4
   go_wp2_with (first | ((with_reducible refine gate_dst (N := 4) rfl ?_); refine gate_guard (by rfl) ?_; refine ev_box rfl rfl (cs := (fr a0 a1 u2 a3 a4 a5 u3 a7 a8 u6 u7 u8 u9)) (by rfl) ?_; intro g_p hg w1 hn hb; have G_p := Aside0.mk (show w.heap.size ≤ g_p from by rw [hg]; exact below_size HB.out); replace HB := Aside0.mk (below_step HB.out hb); clear hb; have B_p := Aside0.mk hn; clear hn hg) | ((with_reducible refine gate_dst (N := 5) rfl ?_); refine gate_guard (by rfl) ?_; refine ev_box rfl rfl (cs := (fr b0 b1 z2 b3 b4 b5 z3 b7 b8 z6 z7 z8 z9)) (by rfl) ?_; intro g_q hg w2 hn hb; have N_p_q := Aside0.mk (show g_p ≠ g_q from by rw [hg]; exact Nat.ne_of_lt (blk_lt B_p.out)); have N_q_p := Aside0.mk (N_p_q.out).symm; have G_q := Aside0.mk (show w.heap.size ≤ g_q from by rw [hg]; exact below_size HB.out); replace B_p := Aside0.mk (blk_below B_p.out hb); replace HB := Aside0.mk (below_step HB.out hb); clear hb; have B_q := Aside0.mk hn; clear hn hg) | ((with_reducible refine gate_dst (N := 13) rfl ?_); refine gate_guard (by rfl) ?_; refine goesL_ (some 13) rfl rfl Tryd.func9 (by kernel_rfl) rfl #[] rfl (by first | rfl | (simp only [List.map_toArray, List.map_cons, List.map_nil]; done) | (simp only [List.map_toArray, List.map_cons, List.map_nil]; rfl)) ?_; refine (speaks22 _ (HE.out.below HB.out)).mono ?_; rintro e w3 ⟨rfl, hb⟩; refine ⟨_, rfl, ?_⟩; replace B_p := Aside0.mk (blk_below B_p.out hb); replace B_q := Aside0.mk (blk_below B_q.out hb); replace HB := Aside0.mk (below_step HB.out hb); clear hb) | ((with_reducible refine gate_dst (N := 16) rfl ?_); refine gate_guard (by rfl) ?_; refine ev_load rfl rfl rfl B_p.out Tryd.underlying44 rfl (by kernel_rfl) ?_) | ((with_reducible refine gate_dst (N := 17) rfl ?_); refine gate_guard (by rfl) ?_; refine goesL_ (some 17) rfl rfl Tryd.func14 (by kernel_rfl) rfl #[.agg (fr a0 a1 u2 a3 a4 a5 u3 a7 a8 u6 u7 u8 u9)] rfl (by first | rfl | (simp only [List.map_toArray, List.map_cons, List.map_nil]; done) | (simp only [List.map_toArray, List.map_cons, List.map_nil]; rfl)) ?_; refine (few22_calls (hRP.out _ HB.out) HFP.out).mono ?_; rintro e w4 ⟨rfl, hb⟩; refine ⟨_, rfl, ?_⟩; replace B_p := Aside0.mk (blk_below B_p.out hb); replace B_q := Aside0.mk (blk_below B_q.out hb); replace HB := Aside0.mk (below_step HB.out hb); clear hb) | ((with_reducible refine gate_dst (N := 35) rfl ?_); refine gate_guard (by rfl) ?_; refine goesL_ (some 35) rfl rfl Tryd.func9 (by kernel_rfl) rfl #[] rfl (by first | rfl | (simp only [List.map_toArray, List.map_cons, List.map_nil]; done) | (simp only [List.map_toArray, List.map_cons, List.map_nil]; rfl)) ?_; refine (speaks22 _ (HE.out.below HB.out)).mono ?_; rintro e w5 ⟨rfl, hb⟩; refine ⟨_, rfl, ?_⟩; replace B_p := Aside0.mk (blk_below B_p.out hb); replace B_q := Aside0.mk (blk_below B_q.out hb); replace HB := Aside0.mk (below_step HB.out hb); clear hb))
   go_ret
   exact ⟨rfl, HB.out⟩
 cases fq
 · clear lp lq
   go_enter Tryd.func4, Tryd.ntmps4
   go_wp2_with (first | ((with_reducible refine gate_dst (N := 4) rfl ?_); refine gate_guard (by rfl) ?_; refine ev_box rfl rfl (cs := (fr a0 a1 u2 a3 a4 a5 u3 a7 a8 u6 u7 u8 u9)) (by rfl) ?_; intro g_p hg w1 hn hb; have G_p := Aside0.mk (show w.heap.size ≤ g_p from by rw [hg]; exact below_size HB.out); replace HB := Aside0.mk (below_step HB.out hb); clear hb; have B_p := Aside0.mk hn; clear hn hg) | ((with_reducible refine gate_dst (N := 5) rfl ?_); refine gate_guard (by rfl) ?_; refine ev_box rfl rfl (cs := (fr b0 b1 z2 b3 b4 b5 z3 b7 b8 z6 z7 z8 z9)) (by rfl) ?_; intro g_q hg w2 hn hb; have N_p_q := Aside0.mk (show g_p ≠ g_q from by rw [hg]; exact Nat.ne_of_lt (blk_lt B_p.out)); have N_q_p := Aside0.mk (N_p_q.out).symm; have G_q := Aside0.mk (show w.heap.size ≤ g_q from by rw [hg]; exact below_size HB.out); replace B_p := Aside0.mk (blk_below B_p.out hb); replace HB := Aside0.mk (below_step HB.out hb); clear hb; have B_q := Aside0.mk hn; clear hn hg) | ((with_reducible refine gate_dst (N := 13) rfl ?_); refine gate_guard (by rfl) ?_; refine goesL_ (some 13) rfl rfl Tryd.func9 (by kernel_rfl) rfl #[] rfl (by first | rfl | (simp only [List.map_toArray, List.map_cons, List.map_nil]; done) | (simp only [List.map_toArray, List.map_cons, List.map_nil]; rfl)) ?_; refine (speaks22 _ (HE.out.below HB.out)).mono ?_; rintro e w3 ⟨rfl, hb⟩; refine ⟨_, rfl, ?_⟩; replace B_p := Aside0.mk (blk_below B_p.out hb); replace B_q := Aside0.mk (blk_below B_q.out hb); replace HB := Aside0.mk (below_step HB.out hb); clear hb) | ((with_reducible refine gate_dst (N := 16) rfl ?_); refine gate_guard (by rfl) ?_; refine ev_load rfl rfl rfl B_p.out Tryd.underlying44 rfl (by kernel_rfl) ?_) | ((with_reducible refine gate_dst (N := 17) rfl ?_); refine gate_guard (by rfl) ?_; refine goesL_ (some 17) rfl rfl Tryd.func14 (by kernel_rfl) rfl #[.agg (fr a0 a1 u2 a3 a4 a5 u3 a7 a8 u6 u7 u8 u9)] rfl (by first | rfl | (simp only [List.map_toArray, List.map_cons, List.map_nil]; done) | (simp only [List.map_toArray, List.map_cons, List.map_nil]; rfl)) ?_; refine (few22_calls (hRP.out _ HB.out) HFP.out).mono ?_; rintro e w4 ⟨rfl, hb⟩; refine ⟨_, rfl, ?_⟩; replace B_p := Aside0.mk (blk_below B_p.out hb); replace B_q := Aside0.mk (blk_below B_q.out hb); replace HB := Aside0.mk (below_step HB.out hb); clear hb) | ((with_reducible refine gate_dst (N := 21) rfl ?_); refine gate_guard (by rfl) ?_; refine ev_load rfl rfl rfl B_q.out Tryd.underlying44 rfl (by kernel_rfl) ?_) | ((with_reducible refine gate_dst (N := 22) rfl ?_); refine gate_guard (by rfl) ?_; refine goesL_ (some 22) rfl rfl Tryd.func14 (by kernel_rfl) rfl #[.agg (fr b0 b1 z2 b3 b4 b5 z3 b7 b8 z6 z7 z8 z9)] rfl (by first | rfl | (simp only [List.map_toArray, List.map_cons, List.map_nil]; done) | (simp only [List.map_toArray, List.map_cons, List.map_nil]; rfl)) ?_; refine (few22_calls (hRQ.out _ HB.out) HFQ.out).mono ?_; rintro e w5 ⟨rfl, hb⟩; refine ⟨_, rfl, ?_⟩; replace B_p := Aside0.mk (blk_below B_p.out hb); replace B_q := Aside0.mk (blk_below B_q.out hb); replace HB := Aside0.mk (below_step HB.out hb); clear hb) | ((with_reducible refine gate_dst (N := 35) rfl ?_); refine gate_guard (by rfl) ?_; refine goesL_ (some 35) rfl rfl Tryd.func9 (by kernel_rfl) rfl #[] rfl (by first | rfl | (simp only [List.map_toArray, List.map_cons, List.map_nil]; done) | (simp only [List.map_toArray, List.map_cons, List.map_nil]; rfl)) ?_; refine (speaks22 _ (HE.out.below HB.out)).mono ?_; rintro e w6 ⟨rfl, hb⟩; refine ⟨_, rfl, ?_⟩; replace B_p := Aside0.mk (blk_below B_p.out hb); replace B_q := Aside0.mk (blk_below B_q.out hb); replace HB := Aside0.mk (below_step HB.out hb); clear hb))
   go_ret
   exact ⟨rfl, HB.out⟩
 have LP := Aside0.mk (lp rfl)
 have LQ := Aside0.mk (lq rfl)
 clear lp lq
 by_cases hx1 : 100 < lx.length
 · have hdx : decide (100 < (lx.length : Int)) = true := decide_eq_true (by omega)
   go_enter Tryd.func4, Tryd.ntmps4
   go_wp2_with (first | ((with_reducible refine gate_dst (N := 4) rfl ?_); refine gate_guard (by rfl) ?_; refine ev_box rfl rfl (cs := (fr a0 a1 u2 a3 a4 a5 u3 a7 a8 u6 u7 u8 u9)) (by rfl) ?_; intro g_p hg w1 hn hb; have G_p := Aside0.mk (show w.heap.size ≤ g_p from by rw [hg]; exact below_size HB.out); replace HB := Aside0.mk (below_step HB.out hb); clear hb; have B_p := Aside0.mk hn; clear hn hg) | ((with_reducible refine gate_dst (N := 5) rfl ?_); refine gate_guard (by rfl) ?_; refine ev_box rfl rfl (cs := (fr b0 b1 z2 b3 b4 b5 z3 b7 b8 z6 z7 z8 z9)) (by rfl) ?_; intro g_q hg w2 hn hb; have N_p_q := Aside0.mk (show g_p ≠ g_q from by rw [hg]; exact Nat.ne_of_lt (blk_lt B_p.out)); have N_q_p := Aside0.mk (N_p_q.out).symm; have G_q := Aside0.mk (show w.heap.size ≤ g_q from by rw [hg]; exact below_size HB.out); replace B_p := Aside0.mk (blk_below B_p.out hb); replace HB := Aside0.mk (below_step HB.out hb); clear hb; have B_q := Aside0.mk hn; clear hn hg) | ((with_reducible refine gate_dst (N := 13) rfl ?_); refine gate_guard (by rfl) ?_; refine goesL_ (some 13) rfl rfl Tryd.func9 (by kernel_rfl) rfl #[] rfl (by first | rfl | (simp only [List.map_toArray, List.map_cons, List.map_nil]; done) | (simp only [List.map_toArray, List.map_cons, List.map_nil]; rfl)) ?_; refine (speaks22 _ (HE.out.below HB.out)).mono ?_; rintro e w3 ⟨rfl, hb⟩; refine ⟨_, rfl, ?_⟩; replace B_p := Aside0.mk (blk_below B_p.out hb); replace B_q := Aside0.mk (blk_below B_q.out hb); replace HB := Aside0.mk (below_step HB.out hb); clear hb) | ((with_reducible refine gate_dst (N := 16) rfl ?_); refine gate_guard (by rfl) ?_; refine ev_load rfl rfl rfl B_p.out Tryd.underlying44 rfl (by kernel_rfl) ?_) | ((with_reducible refine gate_dst (N := 17) rfl ?_); refine gate_guard (by rfl) ?_; refine goesL_ (some 17) rfl rfl Tryd.func14 (by kernel_rfl) rfl #[.agg (fr a0 a1 u2 a3 a4 a5 u3 a7 a8 u6 u7 u8 u9)] rfl (by first | rfl | (simp only [List.map_toArray, List.map_cons, List.map_nil]; done) | (simp only [List.map_toArray, List.map_cons, List.map_nil]; rfl)) ?_; refine (few22_calls (hRP.out _ HB.out) HFP.out).mono ?_; rintro e w4 ⟨rfl, hb⟩; refine ⟨_, rfl, ?_⟩; replace B_p := Aside0.mk (blk_below B_p.out hb); replace B_q := Aside0.mk (blk_below B_q.out hb); replace HB := Aside0.mk (below_step HB.out hb); clear hb) | ((with_reducible refine gate_dst (N := 21) rfl ?_); refine gate_guard (by rfl) ?_; refine ev_load rfl rfl rfl B_q.out Tryd.underlying44 rfl (by kernel_rfl) ?_) | ((with_reducible refine gate_dst (N := 22) rfl ?_); refine gate_guard (by rfl) ?_; refine goesL_ (some 22) rfl rfl Tryd.func14 (by kernel_rfl) rfl #[.agg (fr b0 b1 z2 b3 b4 b5 z3 b7 b8 z6 z7 z8 z9)] rfl (by first | rfl | (simp only [List.map_toArray, List.map_cons, List.map_nil]; done) | (simp only [List.map_toArray, List.map_cons, List.map_nil]; rfl)) ?_; refine (few22_calls (hRQ.out _ HB.out) HFQ.out).mono ?_; rintro e w5 ⟨rfl, hb⟩; refine ⟨_, rfl, ?_⟩; replace B_p := Aside0.mk (blk_below B_p.out hb); replace B_q := Aside0.mk (blk_below B_q.out hb); replace HB := Aside0.mk (below_step HB.out hb); clear hb) | ((with_reducible refine gate_dst (N := 35) rfl ?_); refine gate_guard (by rfl) ?_; refine goesL_ (some 35) rfl rfl Tryd.func9 (by kernel_rfl) rfl #[] rfl (by first | rfl | (simp only [List.map_toArray, List.map_cons, List.map_nil]; done) | (simp only [List.map_toArray, List.map_cons, List.map_nil]; rfl)) ?_; refine (speaks22 _ (HE.out.below HB.out)).mono ?_; rintro e w6 ⟨rfl, hb⟩; refine ⟨_, rfl, ?_⟩; replace B_p := Aside0.mk (blk_below B_p.out hb); replace B_q := Aside0.mk (blk_below B_q.out hb); replace HB := Aside0.mk (below_step HB.out hb); clear hb))
   go_ret
   exact ⟨rfl, HB.out⟩
 have hdx : decide (100 < (lx.length : Int)) = false := decide_eq_false (by omega)
 have HLX := Aside0.mk (show lx.length ≤ 1000000 from by omega)
 by_cases hy1 : 100 < ly.length
 · have hdy : decide (100 < (ly.length : Int)) = true := decide_eq_true (by omega)
   go_enter Tryd.func4, Tryd.ntmps4
   go_wp2_with (first | ((with_reducible refine gate_dst (N := 4) rfl ?_); refine gate_guard (by rfl) ?_; refine ev_box rfl rfl (cs := (fr a0 a1 u2 a3 a4 a5 u3 a7 a8 u6 u7 u8 u9)) (by rfl) ?_; intro g_p hg w1 hn hb; have G_p := Aside0.mk (show w.heap.size ≤ g_p from by rw [hg]; exact below_size HB.out); replace HB := Aside0.mk (below_step HB.out hb); clear hb; have B_p := Aside0.mk hn; clear hn hg) | ((with_reducible refine gate_dst (N := 5) rfl ?_); refine gate_guard (by rfl) ?_; refine ev_box rfl rfl (cs := (fr b0 b1 z2 b3 b4 b5 z3 b7 b8 z6 z7 z8 z9)) (by rfl) ?_; intro g_q hg w2 hn hb; have N_p_q := Aside0.mk (show g_p ≠ g_q from by rw [hg]; exact Nat.ne_of_lt (blk_lt B_p.out)); have N_q_p := Aside0.mk (N_p_q.out).symm; have G_q := Aside0.mk (show w.heap.size ≤ g_q from by rw [hg]; exact below_size HB.out); replace B_p := Aside0.mk (blk_below B_p.out hb); replace HB := Aside0.mk (below_step HB.out hb); clear hb; have B_q := Aside0.mk hn; clear hn hg) | ((with_reducible refine gate_dst (N := 13) rfl ?_); refine gate_guard (by rfl) ?_; refine goesL_ (some 13) rfl rfl Tryd.func9 (by kernel_rfl) rfl #[] rfl (by first | rfl | (simp only [List.map_toArray, List.map_cons, List.map_nil]; done) | (simp only [List.map_toArray, List.map_cons, List.map_nil]; rfl)) ?_; refine (speaks22 _ (HE.out.below HB.out)).mono ?_; rintro e w3 ⟨rfl, hb⟩; refine ⟨_, rfl, ?_⟩; replace B_p := Aside0.mk (blk_below B_p.out hb); replace B_q := Aside0.mk (blk_below B_q.out hb); replace HB := Aside0.mk (below_step HB.out hb); clear hb) | ((with_reducible refine gate_dst (N := 16) rfl ?_); refine gate_guard (by rfl) ?_; refine ev_load rfl rfl rfl B_p.out Tryd.underlying44 rfl (by kernel_rfl) ?_) | ((with_reducible refine gate_dst (N := 17) rfl ?_); refine gate_guard (by rfl) ?_; refine goesL_ (some 17) rfl rfl Tryd.func14 (by kernel_rfl) rfl #[.agg (fr a0 a1 u2 a3 a4 a5 u3 a7 a8 u6 u7 u8 u9)] rfl (by first | rfl | (simp only [List.map_toArray, List.map_cons, List.map_nil]; done) | (simp only [List.map_toArray, List.map_cons, List.map_nil]; rfl)) ?_; refine (few22_calls (hRP.out _ HB.out) HFP.out).mono ?_; rintro e w4 ⟨rfl, hb⟩; refine ⟨_, rfl, ?_⟩; replace B_p := Aside0.mk (blk_below B_p.out hb); replace B_q := Aside0.mk (blk_below B_q.out hb); replace HB := Aside0.mk (below_step HB.out hb); clear hb) | ((with_reducible refine gate_dst (N := 21) rfl ?_); refine gate_guard (by rfl) ?_; refine ev_load rfl rfl rfl B_q.out Tryd.underlying44 rfl (by kernel_rfl) ?_) | ((with_reducible refine gate_dst (N := 22) rfl ?_); refine gate_guard (by rfl) ?_; refine goesL_ (some 22) rfl rfl Tryd.func14 (by kernel_rfl) rfl #[.agg (fr b0 b1 z2 b3 b4 b5 z3 b7 b8 z6 z7 z8 z9)] rfl (by first | rfl | (simp only [List.map_toArray, List.map_cons, List.map_nil]; done) | (simp only [List.map_toArray, List.map_cons, List.map_nil]; rfl)) ?_; refine (few22_calls (hRQ.out _ HB.out) HFQ.out).mono ?_; rintro e w5 ⟨rfl, hb⟩; refine ⟨_, rfl, ?_⟩; replace B_p := Aside0.mk (blk_below B_p.out hb); replace B_q := Aside0.mk (blk_below B_q.out hb); replace HB := Aside0.mk (below_step HB.out hb); clear hb) | ((with_reducible refine gate_dst (N := 35) rfl ?_); refine gate_guard (by rfl) ?_; refine goesL_ (some 35) rfl rfl Tryd.func9 (by kernel_rfl) rfl #[] rfl (by first | rfl | (simp only [List.map_toArray, List.map_cons, List.map_nil]; done) | (simp only [List.map_toArray, List.map_cons, List.map_nil]; rfl)) ?_; refine (speaks22 _ (HE.out.below HB.out)).mono ?_; rintro e w6 ⟨rfl, hb⟩; refine ⟨_, rfl, ?_⟩; replace B_p := Aside0.mk (blk_below B_p.out hb); replace B_q := Aside0.mk (blk_below B_q.out hb); replace HB := Aside0.mk (below_step HB.out hb); clear hb))
   go_ret
   exact ⟨rfl, HB.out⟩
 have hdy : decide (100 < (ly.length : Int)) = false := decide_eq_false (by omega)
 have HLY := Aside0.mk (show ly.length ≤ 1000000 from by omega)
 obtain ⟨kop, hop⟩ := Ev.rounds (Of22 a0 a1 ta a3 a4 a5 o a7 a8 l6 l7 l8 l9 (by have := LP.out.1; omega) (by have := LP.out.2.2.1; omega))
 obtain ⟨koq, hoq⟩ := Ev.rounds (Of22 b0 b1 tb b3 b4 b5 q b7 b8 m6 m7 m8 m9 (by have := LQ.out.1; omega) (by have := LQ.out.2.2; omega))
 obtain ⟨tx, htx⟩ : ∃ tx, tx = ta.map Sq.ao := ⟨_, rfl⟩
 obtain ⟨ty, hty⟩ : ∃ ty, ty = tb.map Sq.ao := ⟨_, rfl⟩
 rw [← htx] at hop
 rw [← hty] at hoq
 have HTX := Aside0.mk htx
 have HTY := Aside0.mk hty
 clear htx hty
 have HOP := Aside0.mk hop
 have HOQ := Aside0.mk hoq
 clear hop hoq
 go_enter Tryd.func4, Tryd.ntmps4
 go_upto_region 3 with (first | ((with_reducible refine gate_dst (N := 4) rfl ?_); refine gate_guard (by rfl) ?_; refine ev_box rfl rfl (cs := (fr a0 a1 u2 a3 a4 a5 u3 a7 a8 u6 u7 u8 u9)) (by rfl) ?_; intro g_p hg w1 hn hb; have G_p := Aside0.mk (show w.heap.size ≤ g_p from by rw [hg]; exact below_size HB.out); replace HB := Aside0.mk (below_step HB.out hb); clear hb; have B_p := Aside0.mk hn; clear hn hg) | ((with_reducible refine gate_dst (N := 5) rfl ?_); refine gate_guard (by rfl) ?_; refine ev_box rfl rfl (cs := (fr b0 b1 z2 b3 b4 b5 z3 b7 b8 z6 z7 z8 z9)) (by rfl) ?_; intro g_q hg w2 hn hb; have N_p_q := Aside0.mk (show g_p ≠ g_q from by rw [hg]; exact Nat.ne_of_lt (blk_lt B_p.out)); have N_q_p := Aside0.mk (N_p_q.out).symm; have G_q := Aside0.mk (show w.heap.size ≤ g_q from by rw [hg]; exact below_size HB.out); replace B_p := Aside0.mk (blk_below B_p.out hb); replace HB := Aside0.mk (below_step HB.out hb); clear hb; have B_q := Aside0.mk hn; clear hn hg) | ((with_reducible refine gate_dst (N := 13) rfl ?_); refine gate_guard (by rfl) ?_; refine goesL_ (some 13) rfl rfl Tryd.func9 (by kernel_rfl) rfl #[] rfl (by first | rfl | (simp only [List.map_toArray, List.map_cons, List.map_nil]; done) | (simp only [List.map_toArray, List.map_cons, List.map_nil]; rfl)) ?_; refine (speaks22 _ (HE.out.below HB.out)).mono ?_; rintro e w3 ⟨rfl, hb⟩; refine ⟨_, rfl, ?_⟩; replace B_p := Aside0.mk (blk_below B_p.out hb); replace B_q := Aside0.mk (blk_below B_q.out hb); replace HB := Aside0.mk (below_step HB.out hb); clear hb) | ((with_reducible refine gate_dst (N := 16) rfl ?_); refine gate_guard (by rfl) ?_; refine ev_load rfl rfl rfl B_p.out Tryd.underlying44 rfl (by kernel_rfl) ?_) | ((with_reducible refine gate_dst (N := 17) rfl ?_); refine gate_guard (by rfl) ?_; refine goesL_ (some 17) rfl rfl Tryd.func14 (by kernel_rfl) rfl #[.agg (fr a0 a1 u2 a3 a4 a5 u3 a7 a8 u6 u7 u8 u9)] rfl (by first | rfl | (simp only [List.map_toArray, List.map_cons, List.map_nil]; done) | (simp only [List.map_toArray, List.map_cons, List.map_nil]; rfl)) ?_; refine (few22_calls (hRP.out _ HB.out) HFP.out).mono ?_; rintro e w4 ⟨rfl, hb⟩; refine ⟨_, rfl, ?_⟩; replace B_p := Aside0.mk (blk_below B_p.out hb); replace B_q := Aside0.mk (blk_below B_q.out hb); replace HB := Aside0.mk (below_step HB.out hb); clear hb) | ((with_reducible refine gate_dst (N := 21) rfl ?_); refine gate_guard (by rfl) ?_; refine ev_load rfl rfl rfl B_q.out Tryd.underlying44 rfl (by kernel_rfl) ?_) | ((with_reducible refine gate_dst (N := 22) rfl ?_); refine gate_guard (by rfl) ?_; refine goesL_ (some 22) rfl rfl Tryd.func14 (by kernel_rfl) rfl #[.agg (fr b0 b1 z2 b3 b4 b5 z3 b7 b8 z6 z7 z8 z9)] rfl (by first | rfl | (simp only [List.map_toArray, List.map_cons, List.map_nil]; done) | (simp only [List.map_toArray, List.map_cons, List.map_nil]; rfl)) ?_; refine (few22_calls (hRQ.out _ HB.out) HFQ.out).mono ?_; rintro e w5 ⟨rfl, hb⟩; refine ⟨_, rfl, ?_⟩; replace B_p := Aside0.mk (blk_below B_p.out hb); replace B_q := Aside0.mk (blk_below B_q.out hb); replace HB := Aside0.mk (below_step HB.out hb); clear hb))
 refine start_ (n := 8) (S := fun w' => True) (ds := []) #[false, false, false, false, false, false, false, false] (by kernel_rfl) rfl rfl trivial (fun hHeld => ?_)
 refine with_tabW tabA3 bitsA3 (fun HT_ HW_ => ?_)
 replace B_p := Aside0.mk (blk_drew B_p.out)
 replace B_q := Aside0.mk (blk_drew B_q.out)
 replace HB := Aside0.mk (below_drew1 HB.out)
 generalize w5.drew = wd at B_p B_q HB ⊢
 have L_x := Aside0.mk (blk_lt B_p.out)
 have L_y := Aside0.mk (blk_lt B_q.out)
 have N_x_y := Aside0.mk N_p_q.out
 have G_x := Aside0.mk G_p.out
 have G_y := Aside0.mk G_q.out
 refine inv_at [0, 1, 2, 3, 4, 5, 6, 7] (fun a0_ b a w' => ∃ (x_ : Value) (y_ : Value) (g_x : Nat) (g_y : Nat) (m4_ : Value) (m5_ : Value), a = putSel a0_ b [(0, 36, .agg (fr a0 a1 u2 a3 a4 a5 u3 a7 a8 u6 u7 u8 u9)), (1, 37, x_), (2, 38, .agg (fr b0 b1 z2 b3 b4 b5 z3 b7 b8 z6 z7 z8 z9)), (3, 39, y_), (4, 9, m4_), (5, 10, m5_)] ∧ (w'.heap[g_p]? = some (.cells (fr a0 a1 u2 a3 a4 a5 u3 a7 a8 u6 u7 u8 u9) 44 (0, 0))) ∧ (w'.heap[g_q]? = some (.cells (fr b0 b1 z2 b3 b4 b5 z3 b7 b8 z6 z7 z8 z9) 44 (0, 0))) ∧ (Below w.heap.size w w') ∧ (b 1 = true → FrF k51 k62 w' (fun k => k ≠ g_x ∧ k ≠ g_y) x_ a0 a1 tx a3 a4 a5 (o.map ao) a7 a8 l6 l7 l8 l9) ∧ (b 3 = true → FrF k51 k62 w' (fun k => k ≠ g_x ∧ k ≠ g_y) y_ b0 b1 ty b3 b4 b5 (q.map ao) b7 b8 m6 m7 m8 m9) ∧ (g_x < w'.heap.size) ∧ (g_y < w'.heap.size) ∧ (g_x ≠ g_y) ∧ (w.heap.size ≤ g_x) ∧ (w.heap.size ≤ g_y) ∧ (b 4 = true → g_p ≠ g_x) ∧ (b 4 = true → g_q ≠ g_x) ∧ (b 5 = true → g_p ≠ g_y) ∧ (b 5 = true → g_q ≠ g_y) ∧ (b 4 = true → b 6 = false → w'.heap[g_x]? = some (.cells #[.int .u8 0, .int .u16 0, .slice none 0 0, .int .u16 0, .int .u8 0, .int .u8 0, .slice none 0 0, .int .u16 0, .int .u32 0, .slice none 0 0, .slice none 0 0, .slice none 0 0, .slice none 0 0] 32 (0, 0))) ∧ (b 5 = true → b 7 = false → w'.heap[g_y]? = some (.cells #[.int .u8 0, .int .u16 0, .slice none 0 0, .int .u16 0, .int .u8 0, .int .u8 0, .slice none 0 0, .int .u16 0, .int .u32 0, .slice none 0 0, .slice none 0 0, .slice none 0 0, .slice none 0 0] 32 (0, 0))) ∧ (b 6 = true → w'.heap[g_x]? = some (.cells x_.cells 32 (0, 0))) ∧ (b 7 = true → w'.heap[g_y]? = some (.cells y_.cells 32 (0, 0))) ∧ (b 4 = true → (m4_ : Value) = .pointer (some ⟨g_x, 0, none⟩)) ∧ (b 5 = true → (m5_ : Value) = .pointer (some ⟨g_y, 0, none⟩))) HT_.out HW_.out (by kernel_rfl) (by kernel_rfl) ?_ ?_ ?_
 · exact ⟨.bool false, .bool false, g_p, g_q, .bool false, .bool false, by simp only [putSel, Bool.false_eq_true, if_false], B_p.out, B_q.out, HB.out, fun h_ => absurd h_ (by decide), fun h_ => absurd h_ (by decide), L_x.out, L_y.out, N_x_y.out, G_x.out, G_y.out, fun h_ => absurd h_ (by decide), fun h_ => absurd h_ (by decide), fun h_ => absurd h_ (by decide), fun h_ => absurd h_ (by decide), fun h_ => absurd h_ (by decide), fun h_ => absurd h_ (by decide), fun h_ => absurd h_ (by decide), fun h_ => absurd h_ (by decide), fun h_ => absurd h_ (by decide), fun h_ => absurd h_ (by decide)⟩
 · skip
   clear B_p B_q G_x G_y HB L_x L_y N_x_y
   refine steps_cons ?_ ?_
   · rintro b a w' ⟨x_, y_, g_x, g_y, m4_, m5_, ha, Q_B_p, Q_B_q, Q_HB, Q_X_, Q_Y_, Q_L_x, Q_L_y, Q_N_x_y, Q_G_x, Q_G_y, Q_N_p_x, Q_N_q_x, Q_N_p_y, Q_N_q_y, Q_Z_x, Q_Z_y, Q_B_x, Q_B_y, Q_X4_, Q_X5_⟩ hb_ hon hoff
     refine ⟨_, rfl, fun K hK => ?_⟩
     have e4 : a.tmps[4]? = some (.pointer (some ⟨g_p, 0, none⟩)) := by rw [ha]; exact (putSel_off rfl).trans rfl
     replace ha := Aside0.mk ha
     have B_p := Aside0.mk Q_B_p
     have B_q := Aside0.mk Q_B_q
     have HB := Aside0.mk Q_HB
     have L_x := Aside0.mk Q_L_x
     have L_y := Aside0.mk Q_L_y
     have N_x_y := Aside0.mk Q_N_x_y
     have G_x := Aside0.mk Q_G_x
     have G_y := Aside0.mk Q_G_y
     refine st_load (by rfl) rfl (eval_of e4) B_p.out Tryd.underlying44 (by rfl) (by kernel_rfl) ?_
     refine hK.out _ _ ⟨x_, y_, g_x, g_y, m4_, m5_, (by rw [ha.out]; exact putSel_upk 0 hb_ rfl rfl rfl), B_p.out, B_q.out, HB.out, fun h0_ => absurd ((hoff 1 (by kernel_rfl)).symm.trans h0_) (by decide), fun h0_ => absurd ((hoff 3 (by kernel_rfl)).symm.trans h0_) (by decide), L_x.out, L_y.out, Q_N_x_y, Q_G_x, Q_G_y, Q_N_p_x, Q_N_q_x, Q_N_p_y, Q_N_q_y, fun h0_ h1_ => (Q_Z_x h0_ h1_), fun h0_ h1_ => (Q_Z_y h0_ h1_), fun h0_ => absurd ((hoff 6 (by kernel_rfl)).symm.trans h0_) (by decide), fun h0_ => absurd ((hoff 7 (by kernel_rfl)).symm.trans h0_) (by decide), Q_X4_, Q_X5_⟩
   refine steps_cons ?_ ?_
   · rintro b a w' ⟨x_, y_, g_x, g_y, m4_, m5_, ha, Q_B_p, Q_B_q, Q_HB, Q_X_, Q_Y_, Q_L_x, Q_L_y, Q_N_x_y, Q_G_x, Q_G_y, Q_N_p_x, Q_N_q_x, Q_N_p_y, Q_N_q_y, Q_Z_x, Q_Z_y, Q_B_x, Q_B_y, Q_X4_, Q_X5_⟩ hb_ hon hoff
     refine ⟨_, rfl, fun K hK => ?_⟩
     have e36 : a.tmps[36]? = some (.agg (fr a0 a1 u2 a3 a4 a5 u3 a7 a8 u6 u7 u8 u9)) := by rw [ha]; exact putSel_on (e := (0, 36, .agg (fr a0 a1 u2 a3 a4 a5 u3 a7 a8 u6 u7 u8 u9))) 0 rfl rfl (hon 0 (by kernel_rfl)) rfl
     replace ha := Aside0.mk ha
     have B_p := Aside0.mk Q_B_p
     have B_q := Aside0.mk Q_B_q
     have HB := Aside0.mk Q_HB
     have L_x := Aside0.mk Q_L_x
     have L_y := Aside0.mk Q_L_y
     have N_x_y := Aside0.mk Q_N_x_y
     have G_x := Aside0.mk Q_G_x
     have G_y := Aside0.mk Q_G_y
     refine goes_ Tryd.func15 (by kernel_rfl) rfl #[.agg (fr a0 a1 u2 a3 a4 a5 u3 a7 a8 u6 u7 u8 u9)] (by rfl) rfl rfl (by first | (simp only [List.map_toArray, List.map_cons, List.map_nil, Act.eval, Array.getD_eq_getD_getElem?, Option.getD_some, e36]; done) | (simp only [List.map_toArray, List.map_cons, List.map_nil, Act.eval, Array.getD_eq_getD_getElem?, Option.getD_some, e36]; rfl)) ?_
     refine (of22_blocks (hRP.out _ HB.out) HOP.out).mono ?_
     rintro e w1 ⟨v_, rfl, hv_, hb⟩
     refine ⟨_, rfl, ?_⟩
     have m1 := L_x.out
     have m2 := L_y.out
     have m3 := G_x.out
     have m4 := G_y.out
     refine hK.out _ _ ⟨v_, y_, g_x, g_y, m4_, m5_, (by rw [ha.out]; exact putSel_upk 1 hb_ rfl rfl rfl), blk_below B_p.out hb, blk_below B_q.out hb, below_step HB.out hb, fun _ => hv_.mono (fun k hk => by omega), fun h0_ => absurd ((hoff 3 (by kernel_rfl)).symm.trans h0_) (by decide), Nat.lt_of_lt_of_le L_x.out hb.size, Nat.lt_of_lt_of_le L_y.out hb.size, Q_N_x_y, Q_G_x, Q_G_y, Q_N_p_x, Q_N_q_x, Q_N_p_y, Q_N_q_y, fun h0_ h1_ => blk_below (Q_Z_x h0_ h1_) hb, fun h0_ h1_ => blk_below (Q_Z_y h0_ h1_) hb, fun h0_ => absurd ((hoff 6 (by kernel_rfl)).symm.trans h0_) (by decide), fun h0_ => absurd ((hoff 7 (by kernel_rfl)).symm.trans h0_) (by decide), Q_X4_, Q_X5_⟩
   refine steps_cons ?_ ?_
   · rintro b a w' ⟨x_, y_, g_x, g_y, m4_, m5_, ha, Q_B_p, Q_B_q, Q_HB, Q_X_, Q_Y_, Q_L_x, Q_L_y, Q_N_x_y, Q_G_x, Q_G_y, Q_N_p_x, Q_N_q_x, Q_N_p_y, Q_N_q_y, Q_Z_x, Q_Z_y, Q_B_x, Q_B_y, Q_X4_, Q_X5_⟩ hb_ hon hoff
     refine ⟨_, rfl, fun K hK => ?_⟩
     have e5 : a.tmps[5]? = some (.pointer (some ⟨g_q, 0, none⟩)) := by rw [ha]; exact (putSel_off rfl).trans rfl
     replace ha := Aside0.mk ha
     have B_p := Aside0.mk Q_B_p
     have B_q := Aside0.mk Q_B_q
     have HB := Aside0.mk Q_HB
     have L_x := Aside0.mk Q_L_x
     have L_y := Aside0.mk Q_L_y
     have N_x_y := Aside0.mk Q_N_x_y
     have G_x := Aside0.mk Q_G_x
     have G_y := Aside0.mk Q_G_y
     refine st_load (by rfl) rfl (eval_of e5) B_q.out Tryd.underlying44 (by rfl) (by kernel_rfl) ?_
     refine hK.out _ _ ⟨x_, y_, g_x, g_y, m4_, m5_, (by rw [ha.out]; exact putSel_upk 2 hb_ rfl rfl rfl), B_p.out, B_q.out, HB.out, fun h0_ => (Q_X_ h0_), fun h0_ => absurd ((hoff 3 (by kernel_rfl)).symm.trans h0_) (by decide), L_x.out, L_y.out, Q_N_x_y, Q_G_x, Q_G_y, Q_N_p_x, Q_N_q_x, Q_N_p_y, Q_N_q_y, fun h0_ h1_ => (Q_Z_x h0_ h1_), fun h0_ h1_ => (Q_Z_y h0_ h1_), fun h0_ => absurd ((hoff 6 (by kernel_rfl)).symm.trans h0_) (by decide), fun h0_ => absurd ((hoff 7 (by kernel_rfl)).symm.trans h0_) (by decide), Q_X4_, Q_X5_⟩
   refine steps_cons ?_ ?_
   · rintro b a w' ⟨x_, y_, g_x, g_y, m4_, m5_, ha, Q_B_p, Q_B_q, Q_HB, Q_X_, Q_Y_, Q_L_x, Q_L_y, Q_N_x_y, Q_G_x, Q_G_y, Q_N_p_x, Q_N_q_x, Q_N_p_y, Q_N_q_y, Q_Z_x, Q_Z_y, Q_B_x, Q_B_y, Q_X4_, Q_X5_⟩ hb_ hon hoff
     refine ⟨_, rfl, fun K hK => ?_⟩
     have e38 : a.tmps[38]? = some (.agg (fr b0 b1 z2 b3 b4 b5 z3 b7 b8 z6 z7 z8 z9)) := by rw [ha]; exact putSel_on (e := (2, 38, .agg (fr b0 b1 z2 b3 b4 b5 z3 b7 b8 z6 z7 z8 z9))) 2 rfl rfl (hon 2 (by kernel_rfl)) rfl
     replace ha := Aside0.mk ha
     have B_p := Aside0.mk Q_B_p
     have B_q := Aside0.mk Q_B_q
     have HB := Aside0.mk Q_HB
     have X_ := Aside0.mk (Q_X_ (hon 1 (by kernel_rfl)))
     have L_x := Aside0.mk Q_L_x
     have L_y := Aside0.mk Q_L_y
     have N_x_y := Aside0.mk Q_N_x_y
     have G_x := Aside0.mk Q_G_x
     have G_y := Aside0.mk Q_G_y
     refine goes_ Tryd.func15 (by kernel_rfl) rfl #[.agg (fr b0 b1 z2 b3 b4 b5 z3 b7 b8 z6 z7 z8 z9)] (by rfl) rfl rfl (by first | (simp only [List.map_toArray, List.map_cons, List.map_nil, Act.eval, Array.getD_eq_getD_getElem?, Option.getD_some, e38]; done) | (simp only [List.map_toArray, List.map_cons, List.map_nil, Act.eval, Array.getD_eq_getD_getElem?, Option.getD_some, e38]; rfl)) ?_
     refine (of22_blocks (hRQ.out _ HB.out) HOQ.out).mono ?_
     rintro e w1 ⟨v_, rfl, hv_, hb⟩
     refine ⟨_, rfl, ?_⟩
     have m1 := L_x.out
     have m2 := L_y.out
     have m3 := G_x.out
     have m4 := G_y.out
     refine hK.out _ _ ⟨x_, v_, g_x, g_y, m4_, m5_, (by rw [ha.out]; exact putSel_upk 3 hb_ rfl rfl rfl), blk_below B_p.out hb, blk_below B_q.out hb, below_step HB.out hb, fun _ => X_.out.below hb, fun _ => hv_.mono (fun k hk => by omega), Nat.lt_of_lt_of_le L_x.out hb.size, Nat.lt_of_lt_of_le L_y.out hb.size, Q_N_x_y, Q_G_x, Q_G_y, Q_N_p_x, Q_N_q_x, Q_N_p_y, Q_N_q_y, fun h0_ h1_ => blk_below (Q_Z_x h0_ h1_) hb, fun h0_ h1_ => blk_below (Q_Z_y h0_ h1_) hb, fun h0_ => absurd ((hoff 6 (by kernel_rfl)).symm.trans h0_) (by decide), fun h0_ => absurd ((hoff 7 (by kernel_rfl)).symm.trans h0_) (by decide), Q_X4_, Q_X5_⟩
   refine steps_cons ?_ ?_
   · rintro b a w' ⟨x_, y_, g_x, g_y, m4_, m5_, ha, Q_B_p, Q_B_q, Q_HB, Q_X_, Q_Y_, Q_L_x, Q_L_y, Q_N_x_y, Q_G_x, Q_G_y, Q_N_p_x, Q_N_q_x, Q_N_p_y, Q_N_q_y, Q_Z_x, Q_Z_y, Q_B_x, Q_B_y, Q_X4_, Q_X5_⟩ hb_ hon hoff
     refine ⟨_, rfl, fun K hK => ?_⟩
     replace ha := Aside0.mk ha
     have B_p := Aside0.mk Q_B_p
     have B_q := Aside0.mk Q_B_q
     have HB := Aside0.mk Q_HB
     have L_x := Aside0.mk Q_L_x
     have L_y := Aside0.mk Q_L_y
     have N_x_y := Aside0.mk Q_N_x_y
     have G_x := Aside0.mk Q_G_x
     have G_y := Aside0.mk Q_G_y
     refine box_step (by rfl) rfl (cs := #[.int .u8 0, .int .u16 0, .slice none 0 0, .int .u16 0, .int .u8 0, .int .u8 0, .slice none 0 0, .int .u16 0, .int .u32 0, .slice none 0 0, .slice none 0 0, .slice none 0 0, .slice none 0 0]) (t := 32) (by first | (go_simp; done) | (go_simp; rfl)) ?_
     rintro g_ hg w1 hn hb
     have m1 := L_x.out
     have m2 := L_y.out
     have m5 := blk_lt B_p.out
     have m6 := blk_lt B_q.out
     refine hK.out _ _ ⟨x_, y_, g_, g_y, (.pointer (some ⟨g_, 0, none⟩)), m5_, (by rw [ha.out]; exact putSel_upk 4 hb_ rfl rfl rfl), blk_below B_p.out hb, blk_below B_q.out hb, below_step HB.out hb, fun h0_ => (Q_X_ h0_).old hb (fun k hk hlt => by omega), fun h0_ => (Q_Y_ h0_).old hb (fun k hk hlt => by omega), blk_lt hn, Nat.lt_of_lt_of_le L_y.out hb.size, by omega, by rw [hg]; exact HB.out.size, Q_G_y, fun _ => by omega, fun _ => by omega, Q_N_p_y, Q_N_q_y, fun _ _ => hn, fun h0_ h1_ => blk_below (Q_Z_y h0_ h1_) hb, fun h0_ => absurd ((hoff 6 (by kernel_rfl)).symm.trans h0_) (by decide), fun h0_ => absurd ((hoff 7 (by kernel_rfl)).symm.trans h0_) (by decide), fun _ => rfl, Q_X5_⟩
   refine steps_cons ?_ ?_
   · rintro b a w' ⟨x_, y_, g_x, g_y, m4_, m5_, ha, Q_B_p, Q_B_q, Q_HB, Q_X_, Q_Y_, Q_L_x, Q_L_y, Q_N_x_y, Q_G_x, Q_G_y, Q_N_p_x, Q_N_q_x, Q_N_p_y, Q_N_q_y, Q_Z_x, Q_Z_y, Q_B_x, Q_B_y, Q_X4_, Q_X5_⟩ hb_ hon hoff
     refine ⟨_, rfl, fun K hK => ?_⟩
     replace ha := Aside0.mk ha
     have B_p := Aside0.mk Q_B_p
     have B_q := Aside0.mk Q_B_q
     have HB := Aside0.mk Q_HB
     have L_x := Aside0.mk Q_L_x
     have L_y := Aside0.mk Q_L_y
     have N_x_y := Aside0.mk Q_N_x_y
     have G_x := Aside0.mk Q_G_x
     have G_y := Aside0.mk Q_G_y
     refine box_step (by rfl) rfl (cs := #[.int .u8 0, .int .u16 0, .slice none 0 0, .int .u16 0, .int .u8 0, .int .u8 0, .slice none 0 0, .int .u16 0, .int .u32 0, .slice none 0 0, .slice none 0 0, .slice none 0 0, .slice none 0 0]) (t := 32) (by first | (go_simp; done) | (go_simp; rfl)) ?_
     rintro g_ hg w1 hn hb
     have m1 := L_x.out
     have m2 := L_y.out
     have m5 := blk_lt B_p.out
     have m6 := blk_lt B_q.out
     refine hK.out _ _ ⟨x_, y_, g_x, g_, m4_, (.pointer (some ⟨g_, 0, none⟩)), (by rw [ha.out]; exact putSel_upk 5 hb_ rfl rfl rfl), blk_below B_p.out hb, blk_below B_q.out hb, below_step HB.out hb, fun h0_ => (Q_X_ h0_).old hb (fun k hk hlt => by omega), fun h0_ => (Q_Y_ h0_).old hb (fun k hk hlt => by omega), Nat.lt_of_lt_of_le L_x.out hb.size, blk_lt hn, by omega, Q_G_x, by rw [hg]; exact HB.out.size, Q_N_p_x, Q_N_q_x, fun _ => by omega, fun _ => by omega, fun h0_ h1_ => blk_below (Q_Z_x h0_ h1_) hb, fun _ _ => hn, fun h0_ => absurd ((hoff 6 (by kernel_rfl)).symm.trans h0_) (by decide), fun h0_ => absurd ((hoff 7 (by kernel_rfl)).symm.trans h0_) (by decide), Q_X4_, fun _ => rfl⟩
   refine steps_cons ?_ ?_
   · rintro b a w' ⟨x_, y_, g_x, g_y, m4_, m5_, ha, Q_B_p, Q_B_q, Q_HB, Q_X_, Q_Y_, Q_L_x, Q_L_y, Q_N_x_y, Q_G_x, Q_G_y, Q_N_p_x, Q_N_q_x, Q_N_p_y, Q_N_q_y, Q_Z_x, Q_Z_y, Q_B_x, Q_B_y, Q_X4_, Q_X5_⟩ hb_ hon hoff
     refine ⟨_, rfl, fun K hK => ?_⟩
     have e9 : a.tmps[9]? = some (m4_) := by rw [ha]; exact putSel_on (e := (4, 9, m4_)) 4 rfl rfl (hon 4 (by kernel_rfl)) rfl
     rw [Q_X4_ (hon 4 (by kernel_rfl))] at e9
     have e37 : a.tmps[37]? = some (x_) := by rw [ha]; exact putSel_on (e := (1, 37, x_)) 1 rfl rfl (hon 1 (by kernel_rfl)) rfl
     replace ha := Aside0.mk ha
     have B_p := Aside0.mk Q_B_p
     have B_q := Aside0.mk Q_B_q
     have HB := Aside0.mk Q_HB
     have X_ := Aside0.mk (Q_X_ (hon 1 (by kernel_rfl)))
     have Y_ := Aside0.mk (Q_Y_ (hon 3 (by kernel_rfl)))
     have L_x := Aside0.mk Q_L_x
     have L_y := Aside0.mk Q_L_y
     have N_x_y := Aside0.mk Q_N_x_y
     have G_x := Aside0.mk Q_G_x
     have G_y := Aside0.mk Q_G_y
     have N_p_x := Aside0.mk (Q_N_p_x (hon 4 (by kernel_rfl)))
     have N_q_x := Aside0.mk (Q_N_q_x (hon 4 (by kernel_rfl)))
     have N_p_y := Aside0.mk (Q_N_p_y (hon 5 (by kernel_rfl)))
     have N_q_y := Aside0.mk (Q_N_q_y (hon 5 (by kernel_rfl)))
     have Z_x := Aside0.mk (Q_Z_x (hon 4 (by kernel_rfl)) hb_)
     have Z_y := Aside0.mk (Q_Z_y (hon 5 (by kernel_rfl)) (hoff 7 (by kernel_rfl)))
     obtain ⟨k2, k3, k6, k7, k8, k9, hx, hr⟩ := X_.out
     refine st_store (by rfl) rfl (eval_of e9) ((eval_of e37).trans hx) Z_x.out (by rfl) (by kernel_rfl) (hr.one _ _ _ _ _ _ _) ?_
     intro w1 hn ho
     refine hK.out _ _ ⟨x_, y_, g_x, g_y, m4_, m5_, (by rw [ha.out]; exact putSel_none (v := undef) rfl), blk_only B_p.out ho N_p_x.out, blk_only B_q.out ho N_q_x.out, below_only HB.out ho G_x.out, fun _ => X_.out.only ho (fun k hk => hk.1), fun _ => Y_.out.only ho (fun k hk => hk.1), by rw [ho.size]; exact L_x.out, by rw [ho.size]; exact L_y.out, Q_N_x_y, Q_G_x, Q_G_y, Q_N_p_x, Q_N_q_x, Q_N_p_y, Q_N_q_y, fun _ h1_ => absurd ((up_self b 6).symm.trans h1_) (by decide), fun _ _ => blk_only Z_y.out ho N_x_y.out.symm, fun _ => by rw [hx]; exact hn, fun h0_ => absurd ((hoff 7 (by kernel_rfl)).symm.trans h0_) (by decide), Q_X4_, Q_X5_⟩
   refine steps_cons ?_ ?_
   · rintro b a w' ⟨x_, y_, g_x, g_y, m4_, m5_, ha, Q_B_p, Q_B_q, Q_HB, Q_X_, Q_Y_, Q_L_x, Q_L_y, Q_N_x_y, Q_G_x, Q_G_y, Q_N_p_x, Q_N_q_x, Q_N_p_y, Q_N_q_y, Q_Z_x, Q_Z_y, Q_B_x, Q_B_y, Q_X4_, Q_X5_⟩ hb_ hon hoff
     refine ⟨_, rfl, fun K hK => ?_⟩
     have e10 : a.tmps[10]? = some (m5_) := by rw [ha]; exact putSel_on (e := (5, 10, m5_)) 5 rfl rfl (hon 5 (by kernel_rfl)) rfl
     rw [Q_X5_ (hon 5 (by kernel_rfl))] at e10
     have e39 : a.tmps[39]? = some (y_) := by rw [ha]; exact putSel_on (e := (3, 39, y_)) 3 rfl rfl (hon 3 (by kernel_rfl)) rfl
     replace ha := Aside0.mk ha
     have B_p := Aside0.mk Q_B_p
     have B_q := Aside0.mk Q_B_q
     have HB := Aside0.mk Q_HB
     have X_ := Aside0.mk (Q_X_ (hon 1 (by kernel_rfl)))
     have Y_ := Aside0.mk (Q_Y_ (hon 3 (by kernel_rfl)))
     have L_x := Aside0.mk Q_L_x
     have L_y := Aside0.mk Q_L_y
     have N_x_y := Aside0.mk Q_N_x_y
     have G_x := Aside0.mk Q_G_x
     have G_y := Aside0.mk Q_G_y
     have N_p_x := Aside0.mk (Q_N_p_x (hon 4 (by kernel_rfl)))
     have N_q_x := Aside0.mk (Q_N_q_x (hon 4 (by kernel_rfl)))
     have N_p_y := Aside0.mk (Q_N_p_y (hon 5 (by kernel_rfl)))
     have N_q_y := Aside0.mk (Q_N_q_y (hon 5 (by kernel_rfl)))
     have Z_y := Aside0.mk (Q_Z_y (hon 5 (by kernel_rfl)) hb_)
     have B_x := Aside0.mk (Q_B_x (hon 6 (by kernel_rfl)))
     obtain ⟨k2, k3, k6, k7, k8, k9, hx, hr⟩ := Y_.out
     refine st_store (by rfl) rfl (eval_of e10) ((eval_of e39).trans hx) Z_y.out (by rfl) (by kernel_rfl) (hr.one _ _ _ _ _ _ _) ?_
     intro w1 hn ho
     refine hK.out _ _ ⟨x_, y_, g_x, g_y, m4_, m5_, (by rw [ha.out]; exact putSel_none (v := undef) rfl), blk_only B_p.out ho N_p_y.out, blk_only B_q.out ho N_q_y.out, below_only HB.out ho G_y.out, fun _ => X_.out.only ho (fun k hk => hk.2), fun _ => Y_.out.only ho (fun k hk => hk.2), by rw [ho.size]; exact L_x.out, by rw [ho.size]; exact L_y.out, Q_N_x_y, Q_G_x, Q_G_y, Q_N_p_x, Q_N_q_x, Q_N_p_y, Q_N_q_y, fun _ h1_ => absurd ((hon 6 (by kernel_rfl)).symm.trans h1_) (by decide), fun _ h1_ => absurd ((up_self b 7).symm.trans h1_) (by decide), fun _ => blk_only B_x.out ho N_x_y.out, fun _ => by rw [hx]; exact hn, Q_X4_, Q_X5_⟩
   exact steps_nil
 · rintro b a w' hall ⟨x_, y_, g_x, g_y, m4_, m5_, ha, Q_B_p, Q_B_q, Q_HB, Q_X_, Q_Y_, Q_L_x, Q_L_y, Q_N_x_y, Q_G_x, Q_G_y, Q_N_p_x, Q_N_q_x, Q_N_p_y, Q_N_q_y, Q_Z_x, Q_Z_y, Q_B_x, Q_B_y, Q_X4_, Q_X5_⟩
   clear B_p B_q G_x G_y HB L_x L_y N_x_y
   have hb0_ := hall 0 (by kernel_rfl)
   have hb1_ := hall 1 (by kernel_rfl)
   have hb2_ := hall 2 (by kernel_rfl)
   have hb3_ := hall 3 (by kernel_rfl)
   have hb4_ := hall 4 (by kernel_rfl)
   have hb5_ := hall 5 (by kernel_rfl)
   have hb6_ := hall 6 (by kernel_rfl)
   have hb7_ := hall 7 (by kernel_rfl)
   subst ha
   obtain rfl := Q_X4_ hb4_
   obtain rfl := Q_X5_ hb5_
   simp only [putSel, hb0_, hb1_, hb2_, hb3_, hb4_, hb5_, hb6_, hb7_, if_true, Act.put, List.setIfInBounds_toArray, List.set_cons_zero, List.set_cons_succ]
   have B_p := Aside0.mk Q_B_p
   clear Q_B_p
   have B_q := Aside0.mk Q_B_q
   clear Q_B_q
   have HB := Aside0.mk Q_HB
   clear Q_HB
   have X_ := Aside0.mk (Q_X_ hb1_)
   clear Q_X_
   have Y_ := Aside0.mk (Q_Y_ hb3_)
   clear Q_Y_
   have L_x := Aside0.mk Q_L_x
   clear Q_L_x
   have L_y := Aside0.mk Q_L_y
   clear Q_L_y
   have N_x_y := Aside0.mk Q_N_x_y
   clear Q_N_x_y
   have G_x := Aside0.mk Q_G_x
   clear Q_G_x
   have G_y := Aside0.mk Q_G_y
   clear Q_G_y
   have N_p_x := Aside0.mk (Q_N_p_x hb4_)
   clear Q_N_p_x
   have N_q_x := Aside0.mk (Q_N_q_x hb4_)
   clear Q_N_q_x
   have N_p_y := Aside0.mk (Q_N_p_y hb5_)
   clear Q_N_p_y
   have N_q_y := Aside0.mk (Q_N_q_y hb5_)
   clear Q_N_q_y
   clear Q_Z_x
   clear Q_Z_y
   have B_x := Aside0.mk (Q_B_x hb6_)
   clear Q_B_x
   have B_y := Aside0.mk (Q_B_y hb7_)
   clear Q_B_y
   clear hall hb0_ hb1_ hb2_ hb3_ hb4_ hb5_ hb6_ hb7_
   obtain ⟨x2, x3, x6, x7, x8, x9, rfl, RX⟩ := X_.out
   obtain ⟨y2, y3, y6, y7, y8, y9, rfl, RY⟩ := Y_.out
   clear X_ Y_
   obtain ⟨C2, d2, rfl, _, _⟩ := RX.1
   obtain ⟨E2, e2, rfl, _, _⟩ := RY.1
   have F_X := Aside0.mk RX
   have F_Y := Aside0.mk RY
   have F_DX := Aside0.mk (Kd.V_below RX0.out HB.out)
   have F_DY := Aside0.mk (Kd.V_below RY0.out HB.out)
   have N_y_x := Aside0.mk N_x_y.out.symm
   clear RX RY RX0 RY0 B_q hRQ HOP HOQ N_q_x N_q_y L_x L_y HFP HFQ HE
   replace B_x : Aside0 (w'.heap[g_x]? = some (.cells (fr a0 a1 (.slice C2 tx.length d2) a3 a4 a5 x3 a7 a8 x6 x7 x8 x9) 32 (0, 0))) := Aside0.mk B_x.out
   replace B_y : Aside0 (w'.heap[g_y]? = some (.cells (fr b0 b1 (.slice E2 ty.length e2) b3 b4 b5 y3 b7 b8 y6 y7 y8 y9) 32 (0, 0))) := Aside0.mk B_y.out
   have HC1 := Aside0.mk (show ¬ (a0 = 7 ∧ a0 = 9 ∨ a0 = 101 ∧ a0 = 25) from by omega)
   have HLEN := Aside0.mk (show tx.length ≤ 1000 ∧ ty.length ≤ 1000 from ⟨by rw [HTX.out, List.length_map]; exact LP.out.1, by rw [HTY.out, List.length_map]; exact LQ.out.1⟩)
   obtain ⟨ke, he⟩ := Ev.rounds (Sp.Equal lx ly HLX.out)
   have HEQ := Aside0.mk he
   obtain ⟨kt, ht⟩ := Ev.rounds (ToP a3 a4 a5 (o.map ao) a7 a8 l6 l7 l8 l9 (by have := LP.out.2.2.1; simp only [List.length_map]; omega))
   rw [map_ro_ao] at ht
   have HTO := Aside0.mk ht
   obtain ⟨ks, hs⟩ := Ev.rounds (SameP a3 a4 a5 o a7 a8 l6 l7 l8 l9 (by have := LP.out.2.2.1; omega) LP.out.2.2.2.2.2.2.2 (by have := LP.out.2.2.2.1; unfold Lim; omega) (by have := LP.out.2.2.2.2.1; unfold Lim; omega) (by have := LP.out.2.2.2.2.2.1; unfold Lim; omega) (by have := LP.out.2.2.2.2.2.2.1; unfold Lim; omega))
   have HSM := Aside0.mk hs
   obtain ⟨k21, h21⟩ := Ev.rounds (Sq.ToL tx (by have := HLEN.out.1; omega))
   rw [HTX.out, Sq.map_ro_ao, ← HTX.out] at h21
   have HT21 := Aside0.mk h21
   obtain ⟨ks21, hs21⟩ := Ev.rounds (Sq.rSameL ta ta (by have := LP.out.1; omega) HBT.out HBT.out)
   rw [decide_eq_true rfl] at hs21
   have HS21 := Aside0.mk hs21
   obtain ⟨dxy, hdxy⟩ : ∃ d, d = decide (lx = ly) := ⟨_, rfl⟩
   have HDXY := Aside0.mk hdxy
   clear he ht hs h21 hs21 hdxy
   rw [← HDXY.out] at HEQ
   have HYES : ∀ (c0 c1 d0 d1 : Int) (t2 s2 : List S51), (c0 = 7 ∧ d0 = 9 ∨ c0 = 101 ∧ d0 = 25) → ether_Answers.f 1 c0 c1 ([⟨259, lx⟩] ++ t2) a3 a4 a5 (o.map ao) a7 a8 l6 l7 l8 l9 d0 d1 ([⟨259, ly⟩] ++ s2) b3 b4 b5 (q.map ao) b7 b8 m6 m7 m8 m9 = some dxy := fun c0 c1 d0 d1 t2 s2 hc => by rw [HDXY.out]; exact AnsYes _ _ _ _ _ _ _ _ _ _ _ _ _ _ _ _ _ _ _ _ _ _ _ _ _ _ lx ly HLX.out HLY.out HBX.out HBY.out hc
   have HY := Aside0.mk HYES
   clear HYES
   obtain ⟨rr, hrr⟩ := AnsAny a0 a1 tx a3 a4 a5 (o.map ao) a7 a8 l6 l7 l8 l9 b0 b1 ty b3 b4 b5 (q.map ao) b7 b8 m6 m7 m8 m9 (fun x hx => by rw [HTX.out] at hx; obtain ⟨y, hy, rfl⟩ := List.mem_map.1 hx; exact LP.out.2.1 y hy) (fun x hx => by rw [HTY.out] at hx; obtain ⟨y, hy, rfl⟩ := List.mem_map.1 hx; exact LQ.out.2.1 y hy)
   have HANS := Aside0.mk hrr
   clear hrr LP LQ HBT
   have HC2 : Aside0 (rr = true → ¬ (b0 = 7 ∧ a0 = 9 ∨ b0 = 101 ∧ a0 = 25)) := Aside0.mk (fun h hc => by
    have h2 := HANS.out
    rw [AnsNo _ _ _ _ _ _ _ _ _ _ _ _ _ _ _ _ _ _ _ _ _ _ _ _ _ _ (by omega), h] at h2
    cases h2)
   clear HDXY
   clear HTX HTY
   cases rr
   rotate_left
   · go_upto_region 13 with (first | ((with_reducible refine gate_dst (N := 40) rfl ?_); refine gate_guard (by rfl) ?_; refine ev_load rfl rfl rfl B_x.out Tryd.underlying32 rfl (by kernel_rfl) ?_) | ((with_reducible refine gate_dst (N := 41) rfl ?_); refine gate_guard (by rfl) ?_; refine ev_load rfl rfl rfl B_x.out Tryd.underlying32 rfl (by kernel_rfl) ?_) | ((with_reducible refine gate_dst (N := 42) rfl ?_); refine gate_guard (by rfl) ?_; refine goesL_ (some 42) rfl rfl Tryd.func16 (by kernel_rfl) rfl #[.agg (fr a0 a1 (.slice C2 tx.length d2) a3 a4 a5 x3 a7 a8 x6 x7 x8 x9), .agg (fr a0 a1 (.slice C2 tx.length d2) a3 a4 a5 x3 a7 a8 x6 x7 x8 x9)] rfl (by first | rfl | (simp only [List.map_toArray, List.map_cons, List.map_nil]; done) | (simp only [List.map_toArray, List.map_cons, List.map_nil]; rfl)) ?_; refine (ans_calls F_X.out F_X.out (AnsNo _ _ _ _ _ _ _ _ _ _ _ _ _ _ _ _ _ _ _ _ _ _ _ _ _ _ HC1.out)).mono ?_; rintro e r1 ⟨rfl, hb⟩; refine ⟨_, rfl, ?_⟩; replace B_p := Aside0.mk (blk_below B_p.out hb); replace B_x := Aside0.mk (blk_below B_x.out hb); replace B_y := Aside0.mk (blk_below B_y.out hb); replace F_X := Aside0.mk (F_X.out.below hb); replace F_Y := Aside0.mk (F_Y.out.below hb); replace F_DX := Aside0.mk (F_DX.out.below hb); replace F_DY := Aside0.mk (F_DY.out.below hb); replace HB := Aside0.mk (below_step HB.out hb); clear hb) | ((with_reducible refine gate_dst (N := 44) rfl ?_); refine gate_guard (by rfl) ?_; refine ev_load rfl rfl rfl B_x.out Tryd.underlying32 rfl (by kernel_rfl) ?_) | ((with_reducible refine gate_dst (N := 45) rfl ?_); refine gate_guard (by rfl) ?_; refine ev_load rfl rfl rfl B_y.out Tryd.underlying32 rfl (by kernel_rfl) ?_) | ((with_reducible refine gate_dst (N := 46) rfl ?_); refine gate_guard (by rfl) ?_; refine goesL_ (some 46) rfl rfl Tryd.func16 (by kernel_rfl) rfl #[.agg (fr a0 a1 (.slice C2 tx.length d2) a3 a4 a5 x3 a7 a8 x6 x7 x8 x9), .agg (fr b0 b1 (.slice E2 ty.length e2) b3 b4 b5 y3 b7 b8 y6 y7 y8 y9)] rfl (by first | rfl | (simp only [List.map_toArray, List.map_cons, List.map_nil]; done) | (simp only [List.map_toArray, List.map_cons, List.map_nil]; rfl)) ?_; refine (ans_calls F_X.out F_Y.out (HANS.out)).mono ?_; rintro e r2 ⟨rfl, hb⟩; refine ⟨_, rfl, ?_⟩; replace B_p := Aside0.mk (blk_below B_p.out hb); replace B_x := Aside0.mk (blk_below B_x.out hb); replace B_y := Aside0.mk (blk_below B_y.out hb); replace F_X := Aside0.mk (F_X.out.below hb); replace F_Y := Aside0.mk (F_Y.out.below hb); replace F_DX := Aside0.mk (F_DX.out.below hb); replace F_DY := Aside0.mk (F_DY.out.below hb); replace HB := Aside0.mk (below_step HB.out hb); clear hb) | ((with_reducible refine gate_dst (N := 48) rfl ?_); refine gate_guard (by rfl) ?_; refine ev_load rfl rfl rfl B_y.out Tryd.underlying32 rfl (by kernel_rfl) ?_) | ((with_reducible refine gate_dst (N := 49) rfl ?_); refine gate_guard (by rfl) ?_; refine ev_load rfl rfl rfl B_x.out Tryd.underlying32 rfl (by kernel_rfl) ?_) | ((with_reducible refine gate_dst (N := 50) rfl ?_); refine gate_guard (by rfl) ?_; refine goesL_ (some 50) rfl rfl Tryd.func16 (by kernel_rfl) rfl #[.agg (fr b0 b1 (.slice E2 ty.length e2) b3 b4 b5 y3 b7 b8 y6 y7 y8 y9), .agg (fr a0 a1 (.slice C2 tx.length d2) a3 a4 a5 x3 a7 a8 x6 x7 x8 x9)] rfl (by first | rfl | (simp only [List.map_toArray, List.map_cons, List.map_nil]; done) | (simp only [List.map_toArray, List.map_cons, List.map_nil]; rfl)) ?_; refine (ans_calls F_Y.out F_X.out (AnsNo _ _ _ _ _ _ _ _ _ _ _ _ _ _ _ _ _ _ _ _ _ _ _ _ _ _ (HC2.out rfl))).mono ?_; rintro e r3 ⟨rfl, hb⟩; refine ⟨_, rfl, ?_⟩; replace B_p := Aside0.mk (blk_below B_p.out hb); replace B_x := Aside0.mk (blk_below B_x.out hb); replace B_y := Aside0.mk (blk_below B_y.out hb); replace F_X := Aside0.mk (F_X.out.below hb); replace F_Y := Aside0.mk (F_Y.out.below hb); replace F_DX := Aside0.mk (F_DX.out.below hb); replace F_DY := Aside0.mk (F_DY.out.below hb); replace HB := Aside0.mk (below_step HB.out hb); clear hb) | ((with_reducible refine gate_dst (N := 55) rfl ?_); refine gate_guard (by rfl) ?_; have L_x := Aside0.mk (blk_lt B_x.out); have L_y := Aside0.mk (blk_lt B_y.out); have L_p := Aside0.mk (blk_lt B_p.out); have GW := Aside0.mk (below_size HB.out); have lx_ := L_x.out; have ly_ := L_y.out; have gx_ := G_x.out; have gy_ := G_y.out; refine Kd.N_lit k51 _ 51 rfl (N' := 55) rfl (xs := ([⟨259, lx⟩] : List S51)) (inner := [.int .u16 259, (.slice X lx.length cx)]) (ok := (fun k => k ≠ g_x ∧ k ≠ g_y)) (okp := fun k => k < w.heap.size) (by first | (go_simp; done) | (go_simp; rfl)) (reps_tag F_DX.out) (fun k (hk : k < w.heap.size) => show k ≠ g_x ∧ k ≠ g_y from by omega) ⟨by omega, by omega⟩ (Below.refl _ _) (Nat.le_refl _) (by simp) ?_; intro v_ r4 hn hb hg1 hg2; clear hg1 hg2 lx_ ly_ gx_ gy_; have F_N := Aside0.mk hn; clear hn; have F_O := Aside0.mk (Kd.V_old F_X.out.1 hb); replace F_X := Aside0.mk (F_X.out.old (ok' := fun k => (k ≠ g_x ∧ k ≠ g_y) ∧ k < r3.heap.size) hb (fun k hk hlt => ⟨hk, hlt⟩)); replace F_Y := Aside0.mk (F_Y.out.old (ok' := fun k => (k ≠ g_x ∧ k ≠ g_y) ∧ k < r3.heap.size) hb (fun k hk hlt => ⟨hk, hlt⟩)); replace F_DX := Aside0.mk (F_DX.out.below hb); replace F_DY := Aside0.mk (F_DY.out.below hb); replace B_p := Aside0.mk (blk_below B_p.out hb); replace B_x := Aside0.mk (blk_below B_x.out hb); replace B_y := Aside0.mk (blk_below B_y.out hb); replace HB := Aside0.mk (below_step HB.out hb); have HZ := Aside0.mk hb.size; clear hb) | ((with_reducible refine gate_dst (N := 57) rfl ?_); refine gate_guard (by rfl) ?_; refine ev_loadf rfl rfl rfl B_x.out rfl Tryd.underlying30 rfl ?_) | ((with_reducible refine gate_dst (N := 58) rfl ?_); refine gate_guard (by rfl) ?_; have lx_ := L_x.out; have ly_ := L_y.out; have hz := HZ.out; have hlen := HLEN.out; refine Kd.N_append_rows k51 (w0 := r4) r3.heap.size rfl (.tmp 55) (.tmp 57) 30 51 (.agg #[(.int .u16 0), (.slice none 0 0)]) 32 rfl Tryd.underlying30 info51 rfl (Nat.le_of_ble_eq_true rfl) (Nat.le_of_ble_eq_true rfl) v_ _ tx C2 tx.length _ (fun k => k ≠ g_x ∧ k ≠ g_y) (fun k => (k ≠ g_x ∧ k ≠ g_y) ∧ k < r3.heap.size) rfl rfl F_N.out (Kd.V_F F_O.out) (fun k hk => ⟨hk.1, fun he => by have := Kd.N_base F_N.out k he.symm; omega⟩) (fun k hk => by omega) (Below.refl _ _) hz (by simp only [List.length_cons, List.length_nil]; omega) ?_; intro v1 r5 hn hb hg1 hg2; clear hg1 hg2 lx_ ly_ hz hlen; have F_V := Aside0.mk (v_of_n hn); clear hn; replace F_DX := Aside0.mk (Kd.V_step F_DX.out (fun k hk _ => hb.block k (Nat.lt_of_lt_of_le hk GW.out))); replace F_DY := Aside0.mk (Kd.V_step F_DY.out (fun k hk _ => hb.block k (Nat.lt_of_lt_of_le hk GW.out))); replace B_p := Aside0.mk ((hb.block _ L_p.out).trans B_p.out); replace B_x := Aside0.mk ((hb.block _ L_x.out).trans B_x.out); replace B_y := Aside0.mk ((hb.block _ L_y.out).trans B_y.out); replace HB := Aside0.mk (below_weaken HB.out GW.out hb); replace F_X := Aside0.mk ((F_X.out.keep hb (fun k hk => hk.2)).mono (fun k hk => hk.1)); replace F_Y := Aside0.mk ((F_Y.out.keep hb (fun k hk => hk.2)).mono (fun k hk => hk.1)); replace F_X := Aside0.mk (F_X.out.tags F_V.out); have ONE := Aside0.mk (rd_one (rd_of_v F_V.out)); clear F_N F_O F_V hb HZ GW L_x L_y L_p) | ((with_reducible refine gate_store (p := 59) rfl ?_); refine ev_storef rfl rfl rfl (v := v1) rfl B_x.out (Nat.le_of_ble_eq_true rfl) (by kernel_rfl) ONE.out (cells := (fr a0 a1 v1 a3 a4 a5 x3 a7 a8 x6 x7 x8 x9)) rfl ?_; intro r6 hn ho; clear ONE; replace B_p := Aside0.mk (blk_only B_p.out ho N_p_x.out); replace B_y := Aside0.mk (blk_only B_y.out ho N_y_x.out); replace F_X := Aside0.mk (F_X.out.only ho (fun k hk => hk.1)); replace F_Y := Aside0.mk (F_Y.out.only ho (fun k hk => hk.1)); replace F_DX := Aside0.mk (F_DX.out.only ho (fun k (hk : k < w.heap.size) => by have := G_x.out; omega)); replace F_DY := Aside0.mk (F_DY.out.only ho (fun k (hk : k < w.heap.size) => by have := G_x.out; omega)); replace B_x := Aside0.mk hn; replace HB := Aside0.mk (below_only HB.out ho G_x.out); clear hn ho) | ((with_reducible refine gate_dst (N := 62) rfl ?_); refine gate_guard (by rfl) ?_; have L_x := Aside0.mk (blk_lt B_x.out); have L_y := Aside0.mk (blk_lt B_y.out); have L_p := Aside0.mk (blk_lt B_p.out); have GW := Aside0.mk (below_size HB.out); have lx_ := L_x.out; have ly_ := L_y.out; have gx_ := G_x.out; have gy_ := G_y.out; refine Kd.N_lit k51 _ 51 rfl (N' := 62) rfl (xs := ([⟨259, ly⟩] : List S51)) (inner := [.int .u16 259, (.slice Y ly.length cy)]) (ok := (fun k => k ≠ g_x ∧ k ≠ g_y)) (okp := fun k => k < w.heap.size) (by first | (go_simp; done) | (go_simp; rfl)) (reps_tag F_DY.out) (fun k (hk : k < w.heap.size) => show k ≠ g_x ∧ k ≠ g_y from by omega) ⟨by omega, by omega⟩ (Below.refl _ _) (Nat.le_refl _) (by simp) ?_; intro v_ r7 hn hb hg1 hg2; clear hg1 hg2 lx_ ly_ gx_ gy_; have F_N := Aside0.mk hn; clear hn; have F_O := Aside0.mk (Kd.V_old F_Y.out.1 hb); replace F_X := Aside0.mk (F_X.out.old (ok' := fun k => (k ≠ g_x ∧ k ≠ g_y) ∧ k < r6.heap.size) hb (fun k hk hlt => ⟨hk, hlt⟩)); replace F_Y := Aside0.mk (F_Y.out.old (ok' := fun k => (k ≠ g_x ∧ k ≠ g_y) ∧ k < r6.heap.size) hb (fun k hk hlt => ⟨hk, hlt⟩)); replace F_DX := Aside0.mk (F_DX.out.below hb); replace F_DY := Aside0.mk (F_DY.out.below hb); replace B_p := Aside0.mk (blk_below B_p.out hb); replace B_x := Aside0.mk (blk_below B_x.out hb); replace B_y := Aside0.mk (blk_below B_y.out hb); replace HB := Aside0.mk (below_step HB.out hb); have HZ := Aside0.mk hb.size; clear hb) | ((with_reducible refine gate_dst (N := 64) rfl ?_); refine gate_guard (by rfl) ?_; refine ev_loadf rfl rfl rfl B_y.out rfl Tryd.underlying30 rfl ?_) | ((with_reducible refine gate_dst (N := 65) rfl ?_); refine gate_guard (by rfl) ?_; have lx_ := L_x.out; have ly_ := L_y.out; have hz := HZ.out; have hlen := HLEN.out; refine Kd.N_append_rows k51 (w0 := r7) r6.heap.size rfl (.tmp 62) (.tmp 64) 30 51 (.agg #[(.int .u16 0), (.slice none 0 0)]) 32 rfl Tryd.underlying30 info51 rfl (Nat.le_of_ble_eq_true rfl) (Nat.le_of_ble_eq_true rfl) v_ _ ty E2 ty.length _ (fun k => k ≠ g_x ∧ k ≠ g_y) (fun k => (k ≠ g_x ∧ k ≠ g_y) ∧ k < r6.heap.size) rfl rfl F_N.out (Kd.V_F F_O.out) (fun k hk => ⟨hk.1, fun he => by have := Kd.N_base F_N.out k he.symm; omega⟩) (fun k hk => by omega) (Below.refl _ _) hz (by simp only [List.length_cons, List.length_nil]; omega) ?_; intro v2 r8 hn hb hg1 hg2; clear hg1 hg2 lx_ ly_ hz hlen; have F_V := Aside0.mk (v_of_n hn); clear hn; replace F_DX := Aside0.mk (Kd.V_step F_DX.out (fun k hk _ => hb.block k (Nat.lt_of_lt_of_le hk GW.out))); replace F_DY := Aside0.mk (Kd.V_step F_DY.out (fun k hk _ => hb.block k (Nat.lt_of_lt_of_le hk GW.out))); replace B_p := Aside0.mk ((hb.block _ L_p.out).trans B_p.out); replace B_x := Aside0.mk ((hb.block _ L_x.out).trans B_x.out); replace B_y := Aside0.mk ((hb.block _ L_y.out).trans B_y.out); replace HB := Aside0.mk (below_weaken HB.out GW.out hb); replace F_X := Aside0.mk ((F_X.out.keep hb (fun k hk => hk.2)).mono (fun k hk => hk.1)); replace F_Y := Aside0.mk ((F_Y.out.keep hb (fun k hk => hk.2)).mono (fun k hk => hk.1)); replace F_Y := Aside0.mk (F_Y.out.tags F_V.out); have ONE := Aside0.mk (rd_one (rd_of_v F_V.out)); clear F_N F_O F_V hb HZ GW L_x L_y L_p) | ((with_reducible refine gate_store (p := 66) rfl ?_); refine ev_storef rfl rfl rfl (v := v2) rfl B_y.out (Nat.le_of_ble_eq_true rfl) (by kernel_rfl) ONE.out (cells := (fr b0 b1 v2 b3 b4 b5 y3 b7 b8 y6 y7 y8 y9)) rfl ?_; intro r9 hn ho; clear ONE; replace B_p := Aside0.mk (blk_only B_p.out ho N_p_y.out); replace B_x := Aside0.mk (blk_only B_x.out ho N_x_y.out); replace F_X := Aside0.mk (F_X.out.only ho (fun k hk => hk.2)); replace F_Y := Aside0.mk (F_Y.out.only ho (fun k hk => hk.2)); replace F_DX := Aside0.mk (F_DX.out.only ho (fun k (hk : k < w.heap.size) => by have := G_y.out; omega)); replace F_DY := Aside0.mk (F_DY.out.only ho (fun k (hk : k < w.heap.size) => by have := G_y.out; omega)); replace B_y := Aside0.mk hn; replace HB := Aside0.mk (below_only HB.out ho G_y.out); clear hn ho) | ((with_reducible refine gate_store (p := 67) rfl ?_); refine ev_storef rfl rfl rfl (v := .int .u8 7) rfl B_x.out (Nat.le_of_ble_eq_true rfl) (by kernel_rfl) rfl (cells := (fr 7 a1 v1 a3 a4 a5 x3 a7 a8 x6 x7 x8 x9)) rfl ?_; intro r10 hn ho; replace B_p := Aside0.mk (blk_only B_p.out ho N_p_x.out); replace B_y := Aside0.mk (blk_only B_y.out ho N_y_x.out); replace F_X := Aside0.mk (F_X.out.only ho (fun k hk => hk.1)); replace F_Y := Aside0.mk (F_Y.out.only ho (fun k hk => hk.1)); replace F_DX := Aside0.mk (F_DX.out.only ho (fun k (hk : k < w.heap.size) => by have := G_x.out; omega)); replace F_DY := Aside0.mk (F_DY.out.only ho (fun k (hk : k < w.heap.size) => by have := G_x.out; omega)); replace B_x := Aside0.mk hn; replace HB := Aside0.mk (below_only HB.out ho G_x.out); clear hn ho) | ((with_reducible refine gate_store (p := 68) rfl ?_); refine ev_storef rfl rfl rfl (v := .int .u8 9) rfl B_y.out (Nat.le_of_ble_eq_true rfl) (by kernel_rfl) rfl (cells := (fr 9 b1 v2 b3 b4 b5 y3 b7 b8 y6 y7 y8 y9)) rfl ?_; intro r11 hn ho; replace B_p := Aside0.mk (blk_only B_p.out ho N_p_y.out); replace B_x := Aside0.mk (blk_only B_x.out ho N_x_y.out); replace F_X := Aside0.mk (F_X.out.only ho (fun k hk => hk.2)); replace F_Y := Aside0.mk (F_Y.out.only ho (fun k hk => hk.2)); replace F_DX := Aside0.mk (F_DX.out.only ho (fun k (hk : k < w.heap.size) => by have := G_y.out; omega)); replace F_DY := Aside0.mk (F_DY.out.only ho (fun k (hk : k < w.heap.size) => by have := G_y.out; omega)); replace B_y := Aside0.mk hn; replace HB := Aside0.mk (below_only HB.out ho G_y.out); clear hn ho) | ((with_reducible refine gate_dst (N := 69) rfl ?_); refine gate_guard (by rfl) ?_; refine ev_load rfl rfl rfl B_x.out Tryd.underlying32 rfl (by kernel_rfl) ?_) | ((with_reducible refine gate_dst (N := 70) rfl ?_); refine gate_guard (by rfl) ?_; refine ev_load rfl rfl rfl B_y.out Tryd.underlying32 rfl (by kernel_rfl) ?_) | ((with_reducible refine gate_dst (N := 71) rfl ?_); refine gate_guard (by rfl) ?_; refine goesL_ (some 71) rfl rfl Tryd.func16 (by kernel_rfl) rfl #[.agg (fr 7 a1 v1 a3 a4 a5 x3 a7 a8 x6 x7 x8 x9), .agg (fr 9 b1 v2 b3 b4 b5 y3 b7 b8 y6 y7 y8 y9)] rfl (by first | rfl | (simp only [List.map_toArray, List.map_cons, List.map_nil]; done) | (simp only [List.map_toArray, List.map_cons, List.map_nil]; rfl)) ?_; refine (ans_calls F_X.out F_Y.out (HY.out _ _ _ _ _ _ (by decide))).mono ?_; rintro e r12 ⟨rfl, hb⟩; refine ⟨_, rfl, ?_⟩; replace B_p := Aside0.mk (blk_below B_p.out hb); replace B_x := Aside0.mk (blk_below B_x.out hb); replace B_y := Aside0.mk (blk_below B_y.out hb); replace F_X := Aside0.mk (F_X.out.below hb); replace F_Y := Aside0.mk (F_Y.out.below hb); replace F_DX := Aside0.mk (F_DX.out.below hb); replace F_DY := Aside0.mk (F_DY.out.below hb); replace HB := Aside0.mk (below_step HB.out hb); clear hb) | ((with_reducible refine gate_store (p := 72) rfl ?_); refine ev_storef rfl rfl rfl (v := .int .u8 101) rfl B_x.out (Nat.le_of_ble_eq_true rfl) (by kernel_rfl) rfl (cells := (fr 101 a1 v1 a3 a4 a5 x3 a7 a8 x6 x7 x8 x9)) rfl ?_; intro r13 hn ho; replace B_p := Aside0.mk (blk_only B_p.out ho N_p_x.out); replace B_y := Aside0.mk (blk_only B_y.out ho N_y_x.out); replace F_X := Aside0.mk (F_X.out.only ho (fun k hk => hk.1)); replace F_Y := Aside0.mk (F_Y.out.only ho (fun k hk => hk.1)); replace F_DX := Aside0.mk (F_DX.out.only ho (fun k (hk : k < w.heap.size) => by have := G_x.out; omega)); replace F_DY := Aside0.mk (F_DY.out.only ho (fun k (hk : k < w.heap.size) => by have := G_x.out; omega)); replace B_x := Aside0.mk hn; replace HB := Aside0.mk (below_only HB.out ho G_x.out); clear hn ho) | ((with_reducible refine gate_store (p := 73) rfl ?_); refine ev_storef rfl rfl rfl (v := .int .u8 25) rfl B_y.out (Nat.le_of_ble_eq_true rfl) (by kernel_rfl) rfl (cells := (fr 25 b1 v2 b3 b4 b5 y3 b7 b8 y6 y7 y8 y9)) rfl ?_; intro r14 hn ho; replace B_p := Aside0.mk (blk_only B_p.out ho N_p_y.out); replace B_x := Aside0.mk (blk_only B_x.out ho N_x_y.out); replace F_X := Aside0.mk (F_X.out.only ho (fun k hk => hk.2)); replace F_Y := Aside0.mk (F_Y.out.only ho (fun k hk => hk.2)); replace F_DX := Aside0.mk (F_DX.out.only ho (fun k (hk : k < w.heap.size) => by have := G_y.out; omega)); replace F_DY := Aside0.mk (F_DY.out.only ho (fun k (hk : k < w.heap.size) => by have := G_y.out; omega)); replace B_y := Aside0.mk hn; replace HB := Aside0.mk (below_only HB.out ho G_y.out); clear hn ho) | ((with_reducible refine gate_dst (N := 74) rfl ?_); refine gate_guard (by rfl) ?_; refine ev_load rfl rfl rfl B_x.out Tryd.underlying32 rfl (by kernel_rfl) ?_) | ((with_reducible refine gate_dst (N := 75) rfl ?_); refine gate_guard (by rfl) ?_; refine ev_load rfl rfl rfl B_y.out Tryd.underlying32 rfl (by kernel_rfl) ?_) | ((with_reducible refine gate_dst (N := 76) rfl ?_); refine gate_guard (by rfl) ?_; refine goesL_ (some 76) rfl rfl Tryd.func16 (by kernel_rfl) rfl #[.agg (fr 101 a1 v1 a3 a4 a5 x3 a7 a8 x6 x7 x8 x9), .agg (fr 25 b1 v2 b3 b4 b5 y3 b7 b8 y6 y7 y8 y9)] rfl (by first | rfl | (simp only [List.map_toArray, List.map_cons, List.map_nil]; done) | (simp only [List.map_toArray, List.map_cons, List.map_nil]; rfl)) ?_; refine (ans_calls F_X.out F_Y.out (HY.out _ _ _ _ _ _ (by decide))).mono ?_; rintro e r15 ⟨rfl, hb⟩; refine ⟨_, rfl, ?_⟩; replace B_p := Aside0.mk (blk_below B_p.out hb); replace B_x := Aside0.mk (blk_below B_x.out hb); replace B_y := Aside0.mk (blk_below B_y.out hb); replace F_X := Aside0.mk (F_X.out.below hb); replace F_Y := Aside0.mk (F_Y.out.below hb); replace F_DX := Aside0.mk (F_DX.out.below hb); replace F_DY := Aside0.mk (F_DY.out.below hb); replace HB := Aside0.mk (below_step HB.out hb); clear hb) | ((with_reducible refine gate_store (p := 77) rfl ?_); refine ev_storef rfl rfl rfl (v := .int .u8 7) rfl B_x.out (Nat.le_of_ble_eq_true rfl) (by kernel_rfl) rfl (cells := (fr 7 a1 v1 a3 a4 a5 x3 a7 a8 x6 x7 x8 x9)) rfl ?_; intro r16 hn ho; replace B_p := Aside0.mk (blk_only B_p.out ho N_p_x.out); replace B_y := Aside0.mk (blk_only B_y.out ho N_y_x.out); replace F_X := Aside0.mk (F_X.out.only ho (fun k hk => hk.1)); replace F_Y := Aside0.mk (F_Y.out.only ho (fun k hk => hk.1)); replace F_DX := Aside0.mk (F_DX.out.only ho (fun k (hk : k < w.heap.size) => by have := G_x.out; omega)); replace F_DY := Aside0.mk (F_DY.out.only ho (fun k (hk : k < w.heap.size) => by have := G_x.out; omega)); replace B_x := Aside0.mk hn; replace HB := Aside0.mk (below_only HB.out ho G_x.out); clear hn ho))
     obtain ⟨V1, cv, rfl, _, _⟩ := F_X.out.1
     have F_CUT := Aside0.mk (cut_tags F_X.out.1)
     have HCUT := Aside0.mk (cut_run Tryd.underlying30 V1 (([⟨259, lx⟩] ++ tx : List S51).length) cv (by simp))
     obtain ⟨n1, hn1⟩ : ∃ n, n = ([⟨259, lx⟩] ++ tx : List S51).length := ⟨_, rfl⟩
     rw [← hn1] at B_x F_X F_CUT HCUT ⊢
     refine start_ (n := 34) (S := fun w' => True) (ds := []) #[false, false, false, false, false, false, false, false, false, false, false, false, false, false, false, false, false, false, false, false, false, false, false, false, false, false, false, false, false, false, false, false, false, false] (by kernel_rfl) rfl rfl trivial (fun hHeld => ?_)
     refine with_tabW tabA13 bitsA13 (fun HT_ HW_ => ?_)
     replace B_p := Aside0.mk (blk_drew B_p.out)
     replace B_x := Aside0.mk (blk_drew B_x.out)
     replace B_y := Aside0.mk (blk_drew B_y.out)
     replace HB := Aside0.mk (below_drew1 HB.out)
     replace F_X := Aside0.mk (F_X.out.below (below_drew1 (Below.refl _ _)))
     replace F_Y := Aside0.mk (F_Y.out.below (below_drew1 (Below.refl _ _)))
     replace F_DX := Aside0.mk (F_DX.out.below (below_drew1 (Below.refl _ _)))
     replace F_DY := Aside0.mk (F_DY.out.below (below_drew1 (Below.refl _ _)))
     replace F_CUT := Aside0.mk (rd_below F_CUT.out (below_drew1 (Below.refl _ _)))
     generalize r16.drew = wd at B_p B_x B_y HB F_X F_Y F_DX F_DY F_CUT ⊢
     have HR := Aside0.mk (Below.refl wd.heap.size wd)
     refine inv_at [0, 1, 2, 3, 4, 5, 6, 7, 8, 9, 10, 11, 12, 13, 14, 15, 16, 17, 18, 19, 20, 21, 22, 23, 24, 25, 26, 27, 28, 29, 30, 31, 32, 33] (fun a0_ b a w' => ∃ (z_ : Value) (t_ : Value), a = putSel a0_ b [(0, 78, .bool dxy), (1, 79, (.slice X lx.length cx)), (2, 80, (.slice Y ly.length cy)), (3, 81, .bool dxy), (4, 82, .bool true), (5, 83, .bool true), (6, 84, .bool dxy), (7, 85, .bool dxy), (8, 86, .bool true), (9, 87, .bool true), (10, 88, .bool true), (11, 89, .agg (fr 7 a1 (.slice V1 n1 cv) a3 a4 a5 x3 a7 a8 x6 x7 x8 x9)), (12, 90, .agg (fr 25 b1 v2 b3 b4 b5 y3 b7 b8 y6 y7 y8 y9)), (13, 91, .bool false), (14, 92, .bool true), (15, 93, .bool true), (16, 94, .bool true), (17, 95, .pointer (some ⟨g_p, 3, none⟩)), (18, 96, .agg (pk a3 a4 a5 u3 a7 a8 u6 u7 u8 u9)), (19, 97, .pointer (some ⟨g_x, 3, none⟩)), (20, 98, .agg (pk a3 a4 a5 x3 a7 a8 x6 x7 x8 x9)), (21, 99, z_), (22, 100, .bool true), (23, 101, .bool true), (24, 102, .bool true), (25, 103, .pointer (some ⟨g_p, 2, none⟩)), (26, 104, u2), (27, 105, .pointer (some ⟨g_x, 2, none⟩)), (28, 106, (.slice V1 n1 cv)), (29, 107, (.slice (if cv = 1 then V1 else V1.map (·.add (1 * 2))) (n1 - 1) (cv - 1))), (30, 108, t_), (31, 109, .bool true), (32, 110, .bool true), (33, 8, .bool true)] ∧ (w'.heap[g_p]? = some (.cells (fr a0 a1 u2 a3 a4 a5 u3 a7 a8 u6 u7 u8 u9) 44 (0, 0))) ∧ (w'.heap[g_x]? = some (.cells (fr 7 a1 (.slice V1 n1 cv) a3 a4 a5 x3 a7 a8 x6 x7 x8 x9) 32 (0, 0))) ∧ (w'.heap[g_y]? = some (.cells (fr 25 b1 v2 b3 b4 b5 y3 b7 b8 y6 y7 y8 y9) 32 (0, 0))) ∧ (Below w.heap.size w w') ∧ (Below wd.heap.size wd w') ∧ (b 21 = true → PkIn k105 w' z_ a3 a4 a5 o a7 a8 l6 l7 l8 l9) ∧ (b 30 = true → Rd k85 w' t_ ta)) HT_.out HW_.out (by kernel_rfl) (by kernel_rfl) ?_ ?_ ?_
     · exact ⟨.bool false, .bool false, by simp only [putSel, Bool.false_eq_true, if_false], B_p.out, B_x.out, B_y.out, HB.out, HR.out, fun h_ => absurd h_ (by decide), fun h_ => absurd h_ (by decide)⟩
     · skip
       clear B_p B_x B_y HB HR
       refine steps_cons ?_ ?_
       · rintro b a w' ⟨z_, t_, ha, Q_B_p, Q_B_x, Q_B_y, Q_HB, Q_HR, Q_Z_, Q_T_⟩ hb_ hon hoff
         refine ⟨_, rfl, fun K hK => ?_⟩
         have e11 : a.tmps[11]? = some (.bool dxy) := by rw [ha]; exact (putSel_off rfl).trans rfl
         replace ha := Aside0.mk ha
         have B_p := Aside0.mk Q_B_p
         have B_x := Aside0.mk Q_B_x
         have B_y := Aside0.mk Q_B_y
         have HB := Aside0.mk Q_HB
         have HR := Aside0.mk Q_HR
         refine value_ (w1 := w') (v := .bool dxy) (by rfl) rfl ?_ ?_
         · go_simp
           (try simp only [i64_w])
           try rfl
         refine hK.out _ _ ⟨z_, t_, (by rw [ha.out]; exact putSel_upk 0 hb_ rfl rfl rfl), Q_B_p, Q_B_x, Q_B_y, Q_HB, Q_HR, fun h0_ => absurd ((hoff 21 (by kernel_rfl)).symm.trans h0_) (by decide), fun h0_ => absurd ((hoff 30 (by kernel_rfl)).symm.trans h0_) (by decide)⟩
       refine steps_cons ?_ ?_
       · rintro b a w' ⟨z_, t_, ha, Q_B_p, Q_B_x, Q_B_y, Q_HB, Q_HR, Q_Z_, Q_T_⟩ hb_ hon hoff
         refine ⟨_, rfl, fun K hK => ?_⟩
         have e2 : a.tmps[2]? = some ((.slice X lx.length cx)) := by rw [ha]; exact (putSel_off rfl).trans rfl
         replace ha := Aside0.mk ha
         have B_p := Aside0.mk Q_B_p
         have B_x := Aside0.mk Q_B_x
         have B_y := Aside0.mk Q_B_y
         have HB := Aside0.mk Q_HB
         have HR := Aside0.mk Q_HR
         refine value_ (w1 := w') (v := (.slice X lx.length cx)) (by rfl) rfl ?_ ?_
         · go_simp
           (try simp only [i64_w])
           try rfl
         refine hK.out _ _ ⟨z_, t_, (by rw [ha.out]; exact putSel_upk 1 hb_ rfl rfl rfl), Q_B_p, Q_B_x, Q_B_y, Q_HB, Q_HR, fun h0_ => absurd ((hoff 21 (by kernel_rfl)).symm.trans h0_) (by decide), fun h0_ => absurd ((hoff 30 (by kernel_rfl)).symm.trans h0_) (by decide)⟩
       refine steps_cons ?_ ?_
       · rintro b a w' ⟨z_, t_, ha, Q_B_p, Q_B_x, Q_B_y, Q_HB, Q_HR, Q_Z_, Q_T_⟩ hb_ hon hoff
         refine ⟨_, rfl, fun K hK => ?_⟩
         have e3 : a.tmps[3]? = some ((.slice Y ly.length cy)) := by rw [ha]; exact (putSel_off rfl).trans rfl
         replace ha := Aside0.mk ha
         have B_p := Aside0.mk Q_B_p
         have B_x := Aside0.mk Q_B_x
         have B_y := Aside0.mk Q_B_y
         have HB := Aside0.mk Q_HB
         have HR := Aside0.mk Q_HR
         refine value_ (w1 := w') (v := (.slice Y ly.length cy)) (by rfl) rfl ?_ ?_
         · go_simp
           (try simp only [i64_w])
           try rfl
         refine hK.out _ _ ⟨z_, t_, (by rw [ha.out]; exact putSel_upk 2 hb_ rfl rfl rfl), Q_B_p, Q_B_x, Q_B_y, Q_HB, Q_HR, fun h0_ => absurd ((hoff 21 (by kernel_rfl)).symm.trans h0_) (by decide), fun h0_ => absurd ((hoff 30 (by kernel_rfl)).symm.trans h0_) (by decide)⟩
       refine steps_cons ?_ ?_
       · rintro b a w' ⟨z_, t_, ha, Q_B_p, Q_B_x, Q_B_y, Q_HB, Q_HR, Q_Z_, Q_T_⟩ hb_ hon hoff
         refine ⟨_, rfl, fun K hK => ?_⟩
         have e79 : a.tmps[79]? = some ((.slice X lx.length cx)) := by rw [ha]; exact putSel_on (e := (1, 79, (.slice X lx.length cx))) 1 rfl rfl (hon 1 (by kernel_rfl)) rfl
         have e80 : a.tmps[80]? = some ((.slice Y ly.length cy)) := by rw [ha]; exact putSel_on (e := (2, 80, (.slice Y ly.length cy))) 2 rfl rfl (hon 2 (by kernel_rfl)) rfl
         replace ha := Aside0.mk ha
         have B_p := Aside0.mk Q_B_p
         have B_x := Aside0.mk Q_B_x
         have B_y := Aside0.mk Q_B_y
         have HB := Aside0.mk Q_HB
         have HR := Aside0.mk Q_HR
         refine goes_ Tryd.func17 (by kernel_rfl) rfl #[(.slice X lx.length cx), (.slice Y ly.length cy)] (by rfl) rfl rfl (by first | (simp only [List.map_toArray, List.map_cons, List.map_nil, Act.eval, Array.getD_eq_getD_getElem?, Option.getD_some, e79, e80]; done) | (simp only [List.map_toArray, List.map_cons, List.map_nil, Act.eval, Array.getD_eq_getD_getElem?, Option.getD_some, e79, e80]; rfl)) ?_
         refine (equal_calls2 (rd_of_v (F_DX.out.below HR.out)) (rd_of_v (F_DY.out.below HR.out)) HEQ.out).mono ?_
         rintro e w1 ⟨rfl, hb⟩
         refine ⟨_, rfl, ?_⟩
         refine hK.out _ _ ⟨z_, t_, (by rw [ha.out]; exact putSel_upk 3 hb_ rfl rfl rfl), blk_below B_p.out hb, blk_below B_x.out hb, blk_below B_y.out hb, below_step HB.out hb, below_step HR.out hb, fun h0_ => absurd ((hoff 21 (by kernel_rfl)).symm.trans h0_) (by decide), fun h0_ => absurd ((hoff 30 (by kernel_rfl)).symm.trans h0_) (by decide)⟩
       refine steps_cons ?_ ?_
       · rintro b a w' ⟨z_, t_, ha, Q_B_p, Q_B_x, Q_B_y, Q_HB, Q_HR, Q_Z_, Q_T_⟩ hb_ hon hoff
         refine ⟨_, rfl, fun K hK => ?_⟩
         have e78 : a.tmps[78]? = some (.bool dxy) := by rw [ha]; exact putSel_on (e := (0, 78, .bool dxy)) 0 rfl rfl (hon 0 (by kernel_rfl)) rfl
         have e81 : a.tmps[81]? = some (.bool dxy) := by rw [ha]; exact putSel_on (e := (3, 81, .bool dxy)) 3 rfl rfl (hon 3 (by kernel_rfl)) rfl
         replace ha := Aside0.mk ha
         have B_p := Aside0.mk Q_B_p
         have B_x := Aside0.mk Q_B_x
         have B_y := Aside0.mk Q_B_y
         have HB := Aside0.mk Q_HB
         have HR := Aside0.mk Q_HR
         refine value_ (w1 := w') (v := .bool true) (by rfl) rfl ?_ ?_
         · go_simp
           (try simp only [i64_w])
           try rfl
         refine hK.out _ _ ⟨z_, t_, (by rw [ha.out]; exact putSel_upk 4 hb_ rfl rfl rfl), Q_B_p, Q_B_x, Q_B_y, Q_HB, Q_HR, fun h0_ => absurd ((hoff 21 (by kernel_rfl)).symm.trans h0_) (by decide), fun h0_ => absurd ((hoff 30 (by kernel_rfl)).symm.trans h0_) (by decide)⟩
       refine steps_cons ?_ ?_
       · rintro b a w' ⟨z_, t_, ha, Q_B_p, Q_B_x, Q_B_y, Q_HB, Q_HR, Q_Z_, Q_T_⟩ hb_ hon hoff
         refine ⟨_, rfl, fun K hK => ?_⟩
         have e82 : a.tmps[82]? = some (.bool true) := by rw [ha]; exact putSel_on (e := (4, 82, .bool true)) 4 rfl rfl (hon 4 (by kernel_rfl)) rfl
         replace ha := Aside0.mk ha
         have B_p := Aside0.mk Q_B_p
         have B_x := Aside0.mk Q_B_x
         have B_y := Aside0.mk Q_B_y
         have HB := Aside0.mk Q_HB
         have HR := Aside0.mk Q_HR
         refine value_ (w1 := w') (v := .bool true) (by rfl) rfl ?_ ?_
         · go_simp
           (try simp only [i64_w])
           try rfl
         refine hK.out _ _ ⟨z_, t_, (by rw [ha.out]; exact putSel_upk 5 hb_ rfl rfl rfl), Q_B_p, Q_B_x, Q_B_y, Q_HB, Q_HR, fun h0_ => absurd ((hoff 21 (by kernel_rfl)).symm.trans h0_) (by decide), fun h0_ => absurd ((hoff 30 (by kernel_rfl)).symm.trans h0_) (by decide)⟩
       refine steps_cons ?_ ?_
       · rintro b a w' ⟨z_, t_, ha, Q_B_p, Q_B_x, Q_B_y, Q_HB, Q_HR, Q_Z_, Q_T_⟩ hb_ hon hoff
         refine ⟨_, rfl, fun K hK => ?_⟩
         have e12 : a.tmps[12]? = some (.bool dxy) := by rw [ha]; exact (putSel_off rfl).trans rfl
         have e83 : a.tmps[83]? = some (.bool true) := by rw [ha]; exact putSel_on (e := (5, 83, .bool true)) 5 rfl rfl (hon 5 (by kernel_rfl)) rfl
         replace ha := Aside0.mk ha
         have B_p := Aside0.mk Q_B_p
         have B_x := Aside0.mk Q_B_x
         have B_y := Aside0.mk Q_B_y
         have HB := Aside0.mk Q_HB
         have HR := Aside0.mk Q_HR
         refine value_ (w1 := w') (v := .bool dxy) (wanted_on rfl rfl rfl (e83.trans (by first | rfl | (simp [*]; done)))) rfl ?_ ?_
         · go_simp
           (try simp only [i64_w])
           try rfl
         refine hK.out _ _ ⟨z_, t_, (by rw [ha.out]; exact putSel_upk 6 hb_ rfl rfl rfl), Q_B_p, Q_B_x, Q_B_y, Q_HB, Q_HR, fun h0_ => absurd ((hoff 21 (by kernel_rfl)).symm.trans h0_) (by decide), fun h0_ => absurd ((hoff 30 (by kernel_rfl)).symm.trans h0_) (by decide)⟩
       refine steps_cons ?_ ?_
       · rintro b a w' ⟨z_, t_, ha, Q_B_p, Q_B_x, Q_B_y, Q_HB, Q_HR, Q_Z_, Q_T_⟩ hb_ hon hoff
         refine ⟨_, rfl, fun K hK => ?_⟩
         have e11 : a.tmps[11]? = some (.bool dxy) := by rw [ha]; exact (putSel_off rfl).trans rfl
         have e83 : a.tmps[83]? = some (.bool true) := by rw [ha]; exact putSel_on (e := (5, 83, .bool true)) 5 rfl rfl (hon 5 (by kernel_rfl)) rfl
         replace ha := Aside0.mk ha
         have B_p := Aside0.mk Q_B_p
         have B_x := Aside0.mk Q_B_x
         have B_y := Aside0.mk Q_B_y
         have HB := Aside0.mk Q_HB
         have HR := Aside0.mk Q_HR
         refine value_ (w1 := w') (v := .bool dxy) (wanted_on rfl rfl rfl (e83.trans (by first | rfl | (simp [*]; done)))) rfl ?_ ?_
         · go_simp
           (try simp only [i64_w])
           try rfl
         refine hK.out _ _ ⟨z_, t_, (by rw [ha.out]; exact putSel_upk 7 hb_ rfl rfl rfl), Q_B_p, Q_B_x, Q_B_y, Q_HB, Q_HR, fun h0_ => absurd ((hoff 21 (by kernel_rfl)).symm.trans h0_) (by decide), fun h0_ => absurd ((hoff 30 (by kernel_rfl)).symm.trans h0_) (by decide)⟩
       refine steps_cons ?_ ?_
       · rintro b a w' ⟨z_, t_, ha, Q_B_p, Q_B_x, Q_B_y, Q_HB, Q_HR, Q_Z_, Q_T_⟩ hb_ hon hoff
         refine ⟨_, rfl, fun K hK => ?_⟩
         have e84 : a.tmps[84]? = some (.bool dxy) := by rw [ha]; exact putSel_on (e := (6, 84, .bool dxy)) 6 rfl rfl (hon 6 (by kernel_rfl)) rfl
         have e85 : a.tmps[85]? = some (.bool dxy) := by rw [ha]; exact putSel_on (e := (7, 85, .bool dxy)) 7 rfl rfl (hon 7 (by kernel_rfl)) rfl
         have e83 : a.tmps[83]? = some (.bool true) := by rw [ha]; exact putSel_on (e := (5, 83, .bool true)) 5 rfl rfl (hon 5 (by kernel_rfl)) rfl
         replace ha := Aside0.mk ha
         have B_p := Aside0.mk Q_B_p
         have B_x := Aside0.mk Q_B_x
         have B_y := Aside0.mk Q_B_y
         have HB := Aside0.mk Q_HB
         have HR := Aside0.mk Q_HR
         refine value_ (w1 := w') (v := .bool true) (wanted_on rfl rfl rfl (e83.trans (by first | rfl | (simp [*]; done)))) rfl ?_ ?_
         · go_simp
           (try simp only [i64_w])
           try rfl
         refine hK.out _ _ ⟨z_, t_, (by rw [ha.out]; exact putSel_upk 8 hb_ rfl rfl rfl), Q_B_p, Q_B_x, Q_B_y, Q_HB, Q_HR, fun h0_ => absurd ((hoff 21 (by kernel_rfl)).symm.trans h0_) (by decide), fun h0_ => absurd ((hoff 30 (by kernel_rfl)).symm.trans h0_) (by decide)⟩
       refine steps_cons ?_ ?_
       · rintro b a w' ⟨z_, t_, ha, Q_B_p, Q_B_x, Q_B_y, Q_HB, Q_HR, Q_Z_, Q_T_⟩ hb_ hon hoff
         refine ⟨_, rfl, fun K hK => ?_⟩
         have e83 : a.tmps[83]? = some (.bool true) := by rw [ha]; exact putSel_on (e := (5, 83, .bool true)) 5 rfl rfl (hon 5 (by kernel_rfl)) rfl
         have e86 : a.tmps[86]? = some (.bool true) := by rw [ha]; exact putSel_on (e := (8, 86, .bool true)) 8 rfl rfl (hon 8 (by kernel_rfl)) rfl
         replace ha := Aside0.mk ha
         have B_p := Aside0.mk Q_B_p
         have B_x := Aside0.mk Q_B_x
         have B_y := Aside0.mk Q_B_y
         have HB := Aside0.mk Q_HB
         have HR := Aside0.mk Q_HR
         refine value_ (w1 := w') (v := .bool true) (by rfl) rfl ?_ ?_
         · go_simp
           (try simp only [i64_w])
           try rfl
         refine hK.out _ _ ⟨z_, t_, (by rw [ha.out]; exact putSel_upk 9 hb_ rfl rfl rfl), Q_B_p, Q_B_x, Q_B_y, Q_HB, Q_HR, fun h0_ => absurd ((hoff 21 (by kernel_rfl)).symm.trans h0_) (by decide), fun h0_ => absurd ((hoff 30 (by kernel_rfl)).symm.trans h0_) (by decide)⟩
       refine steps_cons ?_ ?_
       · rintro b a w' ⟨z_, t_, ha, Q_B_p, Q_B_x, Q_B_y, Q_HB, Q_HR, Q_Z_, Q_T_⟩ hb_ hon hoff
         refine ⟨_, rfl, fun K hK => ?_⟩
         have e87 : a.tmps[87]? = some (.bool true) := by rw [ha]; exact putSel_on (e := (9, 87, .bool true)) 9 rfl rfl (hon 9 (by kernel_rfl)) rfl
         replace ha := Aside0.mk ha
         have B_p := Aside0.mk Q_B_p
         have B_x := Aside0.mk Q_B_x
         have B_y := Aside0.mk Q_B_y
         have HB := Aside0.mk Q_HB
         have HR := Aside0.mk Q_HR
         refine value_ (w1 := w') (v := .bool true) (by rfl) rfl ?_ ?_
         · go_simp
           (try simp only [i64_w])
           try rfl
         refine hK.out _ _ ⟨z_, t_, (by rw [ha.out]; exact putSel_upk 10 hb_ rfl rfl rfl), Q_B_p, Q_B_x, Q_B_y, Q_HB, Q_HR, fun h0_ => absurd ((hoff 21 (by kernel_rfl)).symm.trans h0_) (by decide), fun h0_ => absurd ((hoff 30 (by kernel_rfl)).symm.trans h0_) (by decide)⟩
       refine steps_cons ?_ ?_
       · rintro b a w' ⟨z_, t_, ha, Q_B_p, Q_B_x, Q_B_y, Q_HB, Q_HR, Q_Z_, Q_T_⟩ hb_ hon hoff
         refine ⟨_, rfl, fun K hK => ?_⟩
         have e9 : a.tmps[9]? = some (.pointer (some ⟨g_x, 0, none⟩)) := by rw [ha]; exact (putSel_off rfl).trans rfl
         have e88 : a.tmps[88]? = some (.bool true) := by rw [ha]; exact putSel_on (e := (10, 88, .bool true)) 10 rfl rfl (hon 10 (by kernel_rfl)) rfl
         replace ha := Aside0.mk ha
         have B_p := Aside0.mk Q_B_p
         have B_x := Aside0.mk Q_B_x
         have B_y := Aside0.mk Q_B_y
         have HB := Aside0.mk Q_HB
         have HR := Aside0.mk Q_HR
         refine st_load (wanted_on rfl rfl rfl (e88.trans rfl)) rfl (eval_of e9) B_x.out Tryd.underlying32 (by rfl) (by kernel_rfl) ?_
         refine hK.out _ _ ⟨z_, t_, (by rw [ha.out]; exact putSel_upk 11 hb_ rfl rfl rfl), B_p.out, B_x.out, B_y.out, HB.out, HR.out, fun h0_ => absurd ((hoff 21 (by kernel_rfl)).symm.trans h0_) (by decide), fun h0_ => absurd ((hoff 30 (by kernel_rfl)).symm.trans h0_) (by decide)⟩
       refine steps_cons ?_ ?_
       · rintro b a w' ⟨z_, t_, ha, Q_B_p, Q_B_x, Q_B_y, Q_HB, Q_HR, Q_Z_, Q_T_⟩ hb_ hon hoff
         refine ⟨_, rfl, fun K hK => ?_⟩
         have e10 : a.tmps[10]? = some (.pointer (some ⟨g_y, 0, none⟩)) := by rw [ha]; exact (putSel_off rfl).trans rfl
         have e88 : a.tmps[88]? = some (.bool true) := by rw [ha]; exact putSel_on (e := (10, 88, .bool true)) 10 rfl rfl (hon 10 (by kernel_rfl)) rfl
         replace ha := Aside0.mk ha
         have B_p := Aside0.mk Q_B_p
         have B_x := Aside0.mk Q_B_x
         have B_y := Aside0.mk Q_B_y
         have HB := Aside0.mk Q_HB
         have HR := Aside0.mk Q_HR
         refine st_load (wanted_on rfl rfl rfl (e88.trans rfl)) rfl (eval_of e10) B_y.out Tryd.underlying32 (by rfl) (by kernel_rfl) ?_
         refine hK.out _ _ ⟨z_, t_, (by rw [ha.out]; exact putSel_upk 12 hb_ rfl rfl rfl), B_p.out, B_x.out, B_y.out, HB.out, HR.out, fun h0_ => absurd ((hoff 21 (by kernel_rfl)).symm.trans h0_) (by decide), fun h0_ => absurd ((hoff 30 (by kernel_rfl)).symm.trans h0_) (by decide)⟩
       refine steps_cons ?_ ?_
       · rintro b a w' ⟨z_, t_, ha, Q_B_p, Q_B_x, Q_B_y, Q_HB, Q_HR, Q_Z_, Q_T_⟩ hb_ hon hoff
         refine ⟨_, rfl, fun K hK => ?_⟩
         have e89 : a.tmps[89]? = some (.agg (fr 7 a1 (.slice V1 n1 cv) a3 a4 a5 x3 a7 a8 x6 x7 x8 x9)) := by rw [ha]; exact putSel_on (e := (11, 89, .agg (fr 7 a1 (.slice V1 n1 cv) a3 a4 a5 x3 a7 a8 x6 x7 x8 x9))) 11 rfl rfl (hon 11 (by kernel_rfl)) rfl
         have e90 : a.tmps[90]? = some (.agg (fr 25 b1 v2 b3 b4 b5 y3 b7 b8 y6 y7 y8 y9)) := by rw [ha]; exact putSel_on (e := (12, 90, .agg (fr 25 b1 v2 b3 b4 b5 y3 b7 b8 y6 y7 y8 y9))) 12 rfl rfl (hon 12 (by kernel_rfl)) rfl
         have e88 : a.tmps[88]? = some (.bool true) := by rw [ha]; exact putSel_on (e := (10, 88, .bool true)) 10 rfl rfl (hon 10 (by kernel_rfl)) rfl
         replace ha := Aside0.mk ha
         have B_p := Aside0.mk Q_B_p
         have B_x := Aside0.mk Q_B_x
         have B_y := Aside0.mk Q_B_y
         have HB := Aside0.mk Q_HB
         have HR := Aside0.mk Q_HR
         refine goes_ Tryd.func16 (by kernel_rfl) rfl #[.agg (fr 7 a1 (.slice V1 n1 cv) a3 a4 a5 x3 a7 a8 x6 x7 x8 x9), .agg (fr 25 b1 v2 b3 b4 b5 y3 b7 b8 y6 y7 y8 y9)] (wanted_on rfl rfl rfl (e88.trans rfl)) rfl rfl (by first | (simp only [List.map_toArray, List.map_cons, List.map_nil, Act.eval, Array.getD_eq_getD_getElem?, Option.getD_some, e89, e90, e88]; done) | (simp only [List.map_toArray, List.map_cons, List.map_nil, Act.eval, Array.getD_eq_getD_getElem?, Option.getD_some, e89, e90, e88]; rfl)) ?_
         refine (ans_calls (F_X.out.below HR.out) (F_Y.out.below HR.out) (AnsNo _ _ _ _ _ _ _ _ _ _ _ _ _ _ _ _ _ _ _ _ _ _ _ _ _ _ (by decide))).mono ?_
         rintro e w1 ⟨rfl, hb⟩
         refine ⟨_, rfl, ?_⟩
         refine hK.out _ _ ⟨z_, t_, (by rw [ha.out]; exact putSel_upk 13 hb_ rfl rfl rfl), blk_below B_p.out hb, blk_below B_x.out hb, blk_below B_y.out hb, below_step HB.out hb, below_step HR.out hb, fun h0_ => absurd ((hoff 21 (by kernel_rfl)).symm.trans h0_) (by decide), fun h0_ => absurd ((hoff 30 (by kernel_rfl)).symm.trans h0_) (by decide)⟩
       refine steps_cons ?_ ?_
       · rintro b a w' ⟨z_, t_, ha, Q_B_p, Q_B_x, Q_B_y, Q_HB, Q_HR, Q_Z_, Q_T_⟩ hb_ hon hoff
         refine ⟨_, rfl, fun K hK => ?_⟩
         have e91 : a.tmps[91]? = some (.bool false) := by rw [ha]; exact putSel_on (e := (13, 91, .bool false)) 13 rfl rfl (hon 13 (by kernel_rfl)) rfl
         have e88 : a.tmps[88]? = some (.bool true) := by rw [ha]; exact putSel_on (e := (10, 88, .bool true)) 10 rfl rfl (hon 10 (by kernel_rfl)) rfl
         replace ha := Aside0.mk ha
         have B_p := Aside0.mk Q_B_p
         have B_x := Aside0.mk Q_B_x
         have B_y := Aside0.mk Q_B_y
         have HB := Aside0.mk Q_HB
         have HR := Aside0.mk Q_HR
         refine value_ (w1 := w') (v := .bool true) (wanted_on rfl rfl rfl (e88.trans (by first | rfl | (simp [*]; done)))) rfl ?_ ?_
         · go_simp
           (try simp only [i64_w])
           try rfl
         refine hK.out _ _ ⟨z_, t_, (by rw [ha.out]; exact putSel_upk 14 hb_ rfl rfl rfl), Q_B_p, Q_B_x, Q_B_y, Q_HB, Q_HR, fun h0_ => absurd ((hoff 21 (by kernel_rfl)).symm.trans h0_) (by decide), fun h0_ => absurd ((hoff 30 (by kernel_rfl)).symm.trans h0_) (by decide)⟩
       refine steps_cons ?_ ?_
       · rintro b a w' ⟨z_, t_, ha, Q_B_p, Q_B_x, Q_B_y, Q_HB, Q_HR, Q_Z_, Q_T_⟩ hb_ hon hoff
         refine ⟨_, rfl, fun K hK => ?_⟩
         have e88 : a.tmps[88]? = some (.bool true) := by rw [ha]; exact putSel_on (e := (10, 88, .bool true)) 10 rfl rfl (hon 10 (by kernel_rfl)) rfl
         have e92 : a.tmps[92]? = some (.bool true) := by rw [ha]; exact putSel_on (e := (14, 92, .bool true)) 14 rfl rfl (hon 14 (by kernel_rfl)) rfl
         replace ha := Aside0.mk ha
         have B_p := Aside0.mk Q_B_p
         have B_x := Aside0.mk Q_B_x
         have B_y := Aside0.mk Q_B_y
         have HB := Aside0.mk Q_HB
         have HR := Aside0.mk Q_HR
         refine value_ (w1 := w') (v := .bool true) (by rfl) rfl ?_ ?_
         · go_simp
           (try simp only [i64_w])
           try rfl
         refine hK.out _ _ ⟨z_, t_, (by rw [ha.out]; exact putSel_upk 15 hb_ rfl rfl rfl), Q_B_p, Q_B_x, Q_B_y, Q_HB, Q_HR, fun h0_ => absurd ((hoff 21 (by kernel_rfl)).symm.trans h0_) (by decide), fun h0_ => absurd ((hoff 30 (by kernel_rfl)).symm.trans h0_) (by decide)⟩
       refine steps_cons ?_ ?_
       · rintro b a w' ⟨z_, t_, ha, Q_B_p, Q_B_x, Q_B_y, Q_HB, Q_HR, Q_Z_, Q_T_⟩ hb_ hon hoff
         refine ⟨_, rfl, fun K hK => ?_⟩
         have e93 : a.tmps[93]? = some (.bool true) := by rw [ha]; exact putSel_on (e := (15, 93, .bool true)) 15 rfl rfl (hon 15 (by kernel_rfl)) rfl
         replace ha := Aside0.mk ha
         have B_p := Aside0.mk Q_B_p
         have B_x := Aside0.mk Q_B_x
         have B_y := Aside0.mk Q_B_y
         have HB := Aside0.mk Q_HB
         have HR := Aside0.mk Q_HR
         refine value_ (w1 := w') (v := .bool true) (by rfl) rfl ?_ ?_
         · go_simp
           (try simp only [i64_w])
           try rfl
         refine hK.out _ _ ⟨z_, t_, (by rw [ha.out]; exact putSel_upk 16 hb_ rfl rfl rfl), Q_B_p, Q_B_x, Q_B_y, Q_HB, Q_HR, fun h0_ => absurd ((hoff 21 (by kernel_rfl)).symm.trans h0_) (by decide), fun h0_ => absurd ((hoff 30 (by kernel_rfl)).symm.trans h0_) (by decide)⟩
       refine steps_cons ?_ ?_
       · rintro b a w' ⟨z_, t_, ha, Q_B_p, Q_B_x, Q_B_y, Q_HB, Q_HR, Q_Z_, Q_T_⟩ hb_ hon hoff
         refine ⟨_, rfl, fun K hK => ?_⟩
         have e4 : a.tmps[4]? = some (.pointer (some ⟨g_p, 0, none⟩)) := by rw [ha]; exact (putSel_off rfl).trans rfl
         have e94 : a.tmps[94]? = some (.bool true) := by rw [ha]; exact putSel_on (e := (16, 94, .bool true)) 16 rfl rfl (hon 16 (by kernel_rfl)) rfl
         replace ha := Aside0.mk ha
         have B_p := Aside0.mk Q_B_p
         have B_x := Aside0.mk Q_B_x
         have B_y := Aside0.mk Q_B_y
         have HB := Aside0.mk Q_HB
         have HR := Aside0.mk Q_HR
         refine value_ (w1 := w') (v := .pointer (some ⟨g_p, 3, none⟩)) (wanted_on rfl rfl rfl (e94.trans (by first | rfl | (simp [*]; done)))) rfl ?_ ?_
         · go_simp
           (try simp only [i64_w])
           try rfl
         refine hK.out _ _ ⟨z_, t_, (by rw [ha.out]; exact putSel_upk 17 hb_ rfl rfl rfl), Q_B_p, Q_B_x, Q_B_y, Q_HB, Q_HR, Q_Z_, fun h0_ => absurd ((hoff 30 (by kernel_rfl)).symm.trans h0_) (by decide)⟩
       refine steps_cons ?_ ?_
       · rintro b a w' ⟨z_, t_, ha, Q_B_p, Q_B_x, Q_B_y, Q_HB, Q_HR, Q_Z_, Q_T_⟩ hb_ hon hoff
         refine ⟨_, rfl, fun K hK => ?_⟩
         have e95 : a.tmps[95]? = some (.pointer (some ⟨g_p, 3, none⟩)) := by rw [ha]; exact putSel_on (e := (17, 95, .pointer (some ⟨g_p, 3, none⟩))) 17 rfl rfl (hon 17 (by kernel_rfl)) rfl
         have e94 : a.tmps[94]? = some (.bool true) := by rw [ha]; exact putSel_on (e := (16, 94, .bool true)) 16 rfl rfl (hon 16 (by kernel_rfl)) rfl
         replace ha := Aside0.mk ha
         have B_p := Aside0.mk Q_B_p
         have B_x := Aside0.mk Q_B_x
         have B_y := Aside0.mk Q_B_y
         have HB := Aside0.mk Q_HB
         have HR := Aside0.mk Q_HR
         refine st_loadp (wanted_on rfl rfl rfl (e94.trans rfl)) rfl (eval_of e95) B_p.out (cells := (pk a3 a4 a5 u3 a7 a8 u6 u7 u8 u9)) (pk_at _ _ _ _ _ _ _ _ _ _ _ _ _) Tryd.underlying42 (by rfl) (by kernel_rfl) ?_
         refine hK.out _ _ ⟨z_, t_, (by rw [ha.out]; exact putSel_upk 18 hb_ rfl rfl rfl), B_p.out, B_x.out, B_y.out, HB.out, HR.out, fun h0_ => (Q_Z_ h0_), fun h0_ => absurd ((hoff 30 (by kernel_rfl)).symm.trans h0_) (by decide)⟩
       refine steps_cons ?_ ?_
       · rintro b a w' ⟨z_, t_, ha, Q_B_p, Q_B_x, Q_B_y, Q_HB, Q_HR, Q_Z_, Q_T_⟩ hb_ hon hoff
         refine ⟨_, rfl, fun K hK => ?_⟩
         have e9 : a.tmps[9]? = some (.pointer (some ⟨g_x, 0, none⟩)) := by rw [ha]; exact (putSel_off rfl).trans rfl
         have e94 : a.tmps[94]? = some (.bool true) := by rw [ha]; exact putSel_on (e := (16, 94, .bool true)) 16 rfl rfl (hon 16 (by kernel_rfl)) rfl
         replace ha := Aside0.mk ha
         have B_p := Aside0.mk Q_B_p
         have B_x := Aside0.mk Q_B_x
         have B_y := Aside0.mk Q_B_y
         have HB := Aside0.mk Q_HB
         have HR := Aside0.mk Q_HR
         refine value_ (w1 := w') (v := .pointer (some ⟨g_x, 3, none⟩)) (wanted_on rfl rfl rfl (e94.trans (by first | rfl | (simp [*]; done)))) rfl ?_ ?_
         · go_simp
           (try simp only [i64_w])
           try rfl
         refine hK.out _ _ ⟨z_, t_, (by rw [ha.out]; exact putSel_upk 19 hb_ rfl rfl rfl), Q_B_p, Q_B_x, Q_B_y, Q_HB, Q_HR, fun h0_ => absurd ((hoff 21 (by kernel_rfl)).symm.trans h0_) (by decide), fun h0_ => absurd ((hoff 30 (by kernel_rfl)).symm.trans h0_) (by decide)⟩
       refine steps_cons ?_ ?_
       · rintro b a w' ⟨z_, t_, ha, Q_B_p, Q_B_x, Q_B_y, Q_HB, Q_HR, Q_Z_, Q_T_⟩ hb_ hon hoff
         refine ⟨_, rfl, fun K hK => ?_⟩
         have e97 : a.tmps[97]? = some (.pointer (some ⟨g_x, 3, none⟩)) := by rw [ha]; exact putSel_on (e := (19, 97, .pointer (some ⟨g_x, 3, none⟩))) 19 rfl rfl (hon 19 (by kernel_rfl)) rfl
         have e94 : a.tmps[94]? = some (.bool true) := by rw [ha]; exact putSel_on (e := (16, 94, .bool true)) 16 rfl rfl (hon 16 (by kernel_rfl)) rfl
         replace ha := Aside0.mk ha
         have B_p := Aside0.mk Q_B_p
         have B_x := Aside0.mk Q_B_x
         have B_y := Aside0.mk Q_B_y
         have HB := Aside0.mk Q_HB
         have HR := Aside0.mk Q_HR
         refine st_loadp (wanted_on rfl rfl rfl (e94.trans rfl)) rfl (eval_of e97) B_x.out (cells := (pk a3 a4 a5 x3 a7 a8 x6 x7 x8 x9)) (pk_at _ _ _ _ _ _ _ _ _ _ _ _ _) Tryd.underlying29 (by rfl) (by kernel_rfl) ?_
         refine hK.out _ _ ⟨z_, t_, (by rw [ha.out]; exact putSel_upk 20 hb_ rfl rfl rfl), B_p.out, B_x.out, B_y.out, HB.out, HR.out, fun h0_ => absurd ((hoff 21 (by kernel_rfl)).symm.trans h0_) (by decide), fun h0_ => absurd ((hoff 30 (by kernel_rfl)).symm.trans h0_) (by decide)⟩
       refine steps_cons ?_ ?_
       · rintro b a w' ⟨z_, t_, ha, Q_B_p, Q_B_x, Q_B_y, Q_HB, Q_HR, Q_Z_, Q_T_⟩ hb_ hon hoff
         refine ⟨_, rfl, fun K hK => ?_⟩
         have e98 : a.tmps[98]? = some (.agg (pk a3 a4 a5 x3 a7 a8 x6 x7 x8 x9)) := by rw [ha]; exact putSel_on (e := (20, 98, .agg (pk a3 a4 a5 x3 a7 a8 x6 x7 x8 x9))) 20 rfl rfl (hon 20 (by kernel_rfl)) rfl
         have e94 : a.tmps[94]? = some (.bool true) := by rw [ha]; exact putSel_on (e := (16, 94, .bool true)) 16 rfl rfl (hon 16 (by kernel_rfl)) rfl
         replace ha := Aside0.mk ha
         have B_p := Aside0.mk Q_B_p
         have B_x := Aside0.mk Q_B_x
         have B_y := Aside0.mk Q_B_y
         have HB := Aside0.mk Q_HB
         have HR := Aside0.mk Q_HR
         refine goes_ Tryd.func19 (by kernel_rfl) rfl #[.agg (pk a3 a4 a5 x3 a7 a8 x6 x7 x8 x9)] (wanted_on rfl rfl rfl (e94.trans rfl)) rfl rfl (by first | (simp only [List.map_toArray, List.map_cons, List.map_nil, Act.eval, Array.getD_eq_getD_getElem?, Option.getD_some, e98, e94]; done) | (simp only [List.map_toArray, List.map_cons, List.map_nil, Act.eval, Array.getD_eq_getD_getElem?, Option.getD_some, e98, e94]; rfl)) ?_
         refine (to15_calls ((F_X.out.below HR.out).2.in_ _ _ _ _ _) HTO.out).mono ?_
         rintro e w1 ⟨y_, rfl, hv_, hb⟩
         refine ⟨_, rfl, ?_⟩
         refine hK.out _ _ ⟨y_, t_, (by rw [ha.out]; exact putSel_upk 21 hb_ rfl rfl rfl), blk_below B_p.out hb, blk_below B_x.out hb, blk_below B_y.out hb, below_step HB.out hb, below_step HR.out hb, fun _ => hv_, fun h0_ => absurd ((hoff 30 (by kernel_rfl)).symm.trans h0_) (by decide)⟩
       refine steps_cons ?_ ?_
       · rintro b a w' ⟨z_, t_, ha, Q_B_p, Q_B_x, Q_B_y, Q_HB, Q_HR, Q_Z_, Q_T_⟩ hb_ hon hoff
         refine ⟨_, rfl, fun K hK => ?_⟩
         have e96 : a.tmps[96]? = some (.agg (pk a3 a4 a5 u3 a7 a8 u6 u7 u8 u9)) := by rw [ha]; exact putSel_on (e := (18, 96, .agg (pk a3 a4 a5 u3 a7 a8 u6 u7 u8 u9))) 18 rfl rfl (hon 18 (by kernel_rfl)) rfl
         have e99 : a.tmps[99]? = some (z_) := by rw [ha]; exact putSel_on (e := (21, 99, z_)) 21 rfl rfl (hon 21 (by kernel_rfl)) rfl
         have e94 : a.tmps[94]? = some (.bool true) := by rw [ha]; exact putSel_on (e := (16, 94, .bool true)) 16 rfl rfl (hon 16 (by kernel_rfl)) rfl
         replace ha := Aside0.mk ha
         have B_p := Aside0.mk Q_B_p
         have B_x := Aside0.mk Q_B_x
         have B_y := Aside0.mk Q_B_y
         have HB := Aside0.mk Q_HB
         have HR := Aside0.mk Q_HR
         have Z_ := Aside0.mk (Q_Z_ (hon 21 (by kernel_rfl)))
         refine goes_ Tryd.func18 (by kernel_rfl) rfl #[.agg (pk a3 a4 a5 u3 a7 a8 u6 u7 u8 u9), z_] (wanted_on rfl rfl rfl (e94.trans rfl)) rfl rfl (by first | (simp only [List.map_toArray, List.map_cons, List.map_nil, Act.eval, Array.getD_eq_getD_getElem?, Option.getD_some, e96, e99, e94]; done) | (simp only [List.map_toArray, List.map_cons, List.map_nil, Act.eval, Array.getD_eq_getD_getElem?, Option.getD_some, e96, e99, e94]; rfl)) ?_
         refine (same15_calls ((hRP.out _ HB.out).2.in_ _ _ _ _ _) Z_.out HSM.out).mono ?_
         rintro e w1 ⟨rfl, hb⟩
         refine ⟨_, rfl, ?_⟩
         refine hK.out _ _ ⟨z_, t_, (by rw [ha.out]; exact putSel_upk 22 hb_ rfl rfl rfl), blk_below B_p.out hb, blk_below B_x.out hb, blk_below B_y.out hb, below_step HB.out hb, below_step HR.out hb, fun _ => Z_.out.below hb, fun h0_ => absurd ((hoff 30 (by kernel_rfl)).symm.trans h0_) (by decide)⟩
       refine steps_cons ?_ ?_
       · rintro b a w' ⟨z_, t_, ha, Q_B_p, Q_B_x, Q_B_y, Q_HB, Q_HR, Q_Z_, Q_T_⟩ hb_ hon hoff
         refine ⟨_, rfl, fun K hK => ?_⟩
         have e94 : a.tmps[94]? = some (.bool true) := by rw [ha]; exact putSel_on (e := (16, 94, .bool true)) 16 rfl rfl (hon 16 (by kernel_rfl)) rfl
         have e100 : a.tmps[100]? = some (.bool true) := by rw [ha]; exact putSel_on (e := (22, 100, .bool true)) 22 rfl rfl (hon 22 (by kernel_rfl)) rfl
         replace ha := Aside0.mk ha
         have B_p := Aside0.mk Q_B_p
         have B_x := Aside0.mk Q_B_x
         have B_y := Aside0.mk Q_B_y
         have HB := Aside0.mk Q_HB
         have HR := Aside0.mk Q_HR
         have Z_ := Aside0.mk (Q_Z_ (hon 21 (by kernel_rfl)))
         refine value_ (w1 := w') (v := .bool true) (by rfl) rfl ?_ ?_
         · go_simp
           (try simp only [i64_w])
           try rfl
         refine hK.out _ _ ⟨z_, t_, (by rw [ha.out]; exact putSel_upk 23 hb_ rfl rfl rfl), Q_B_p, Q_B_x, Q_B_y, Q_HB, Q_HR, Q_Z_, fun h0_ => absurd ((hoff 30 (by kernel_rfl)).symm.trans h0_) (by decide)⟩
       refine steps_cons ?_ ?_
       · rintro b a w' ⟨z_, t_, ha, Q_B_p, Q_B_x, Q_B_y, Q_HB, Q_HR, Q_Z_, Q_T_⟩ hb_ hon hoff
         refine ⟨_, rfl, fun K hK => ?_⟩
         have e101 : a.tmps[101]? = some (.bool true) := by rw [ha]; exact putSel_on (e := (23, 101, .bool true)) 23 rfl rfl (hon 23 (by kernel_rfl)) rfl
         replace ha := Aside0.mk ha
         have B_p := Aside0.mk Q_B_p
         have B_x := Aside0.mk Q_B_x
         have B_y := Aside0.mk Q_B_y
         have HB := Aside0.mk Q_HB
         have HR := Aside0.mk Q_HR
         have Z_ := Aside0.mk (Q_Z_ (hon 21 (by kernel_rfl)))
         refine value_ (w1 := w') (v := .bool true) (by rfl) rfl ?_ ?_
         · go_simp
           (try simp only [i64_w])
           try rfl
         refine hK.out _ _ ⟨z_, t_, (by rw [ha.out]; exact putSel_upk 24 hb_ rfl rfl rfl), Q_B_p, Q_B_x, Q_B_y, Q_HB, Q_HR, Q_Z_, fun h0_ => absurd ((hoff 30 (by kernel_rfl)).symm.trans h0_) (by decide)⟩
       refine steps_cons ?_ ?_
       · rintro b a w' ⟨z_, t_, ha, Q_B_p, Q_B_x, Q_B_y, Q_HB, Q_HR, Q_Z_, Q_T_⟩ hb_ hon hoff
         refine ⟨_, rfl, fun K hK => ?_⟩
         have e4 : a.tmps[4]? = some (.pointer (some ⟨g_p, 0, none⟩)) := by rw [ha]; exact (putSel_off rfl).trans rfl
         have e102 : a.tmps[102]? = some (.bool true) := by rw [ha]; exact putSel_on (e := (24, 102, .bool true)) 24 rfl rfl (hon 24 (by kernel_rfl)) rfl
         replace ha := Aside0.mk ha
         have B_p := Aside0.mk Q_B_p
         have B_x := Aside0.mk Q_B_x
         have B_y := Aside0.mk Q_B_y
         have HB := Aside0.mk Q_HB
         have HR := Aside0.mk Q_HR
         have Z_ := Aside0.mk (Q_Z_ (hon 21 (by kernel_rfl)))
         refine value_ (w1 := w') (v := .pointer (some ⟨g_p, 2, none⟩)) (wanted_on rfl rfl rfl (e102.trans (by first | rfl | (simp [*]; done)))) rfl ?_ ?_
         · go_simp
           (try simp only [i64_w])
           try rfl
         refine hK.out _ _ ⟨z_, t_, (by rw [ha.out]; exact putSel_upk 25 hb_ rfl rfl rfl), Q_B_p, Q_B_x, Q_B_y, Q_HB, Q_HR, Q_Z_, Q_T_⟩
       refine steps_cons ?_ ?_
       · rintro b a w' ⟨z_, t_, ha, Q_B_p, Q_B_x, Q_B_y, Q_HB, Q_HR, Q_Z_, Q_T_⟩ hb_ hon hoff
         refine ⟨_, rfl, fun K hK => ?_⟩
         have e103 : a.tmps[103]? = some (.pointer (some ⟨g_p, 2, none⟩)) := by rw [ha]; exact putSel_on (e := (25, 103, .pointer (some ⟨g_p, 2, none⟩))) 25 rfl rfl (hon 25 (by kernel_rfl)) rfl
         have e102 : a.tmps[102]? = some (.bool true) := by rw [ha]; exact putSel_on (e := (24, 102, .bool true)) 24 rfl rfl (hon 24 (by kernel_rfl)) rfl
         replace ha := Aside0.mk ha
         have B_p := Aside0.mk Q_B_p
         have B_x := Aside0.mk Q_B_x
         have B_y := Aside0.mk Q_B_y
         have HB := Aside0.mk Q_HB
         have HR := Aside0.mk Q_HR
         have Z_ := Aside0.mk (Q_Z_ (hon 21 (by kernel_rfl)))
         refine st_loadf (wanted_on rfl rfl rfl (e102.trans rfl)) rfl (eval_of e103) B_p.out rfl Tryd.underlying39 (by rfl) ?_
         refine hK.out _ _ ⟨z_, t_, (by rw [ha.out]; exact putSel_upk 26 hb_ rfl rfl rfl), B_p.out, B_x.out, B_y.out, HB.out, HR.out, fun _ => Z_.out, fun h0_ => (Q_T_ h0_)⟩
       refine steps_cons ?_ ?_
       · rintro b a w' ⟨z_, t_, ha, Q_B_p, Q_B_x, Q_B_y, Q_HB, Q_HR, Q_Z_, Q_T_⟩ hb_ hon hoff
         refine ⟨_, rfl, fun K hK => ?_⟩
         have e9 : a.tmps[9]? = some (.pointer (some ⟨g_x, 0, none⟩)) := by rw [ha]; exact (putSel_off rfl).trans rfl
         have e102 : a.tmps[102]? = some (.bool true) := by rw [ha]; exact putSel_on (e := (24, 102, .bool true)) 24 rfl rfl (hon 24 (by kernel_rfl)) rfl
         replace ha := Aside0.mk ha
         have B_p := Aside0.mk Q_B_p
         have B_x := Aside0.mk Q_B_x
         have B_y := Aside0.mk Q_B_y
         have HB := Aside0.mk Q_HB
         have HR := Aside0.mk Q_HR
         have Z_ := Aside0.mk (Q_Z_ (hon 21 (by kernel_rfl)))
         refine value_ (w1 := w') (v := .pointer (some ⟨g_x, 2, none⟩)) (wanted_on rfl rfl rfl (e102.trans (by first | rfl | (simp [*]; done)))) rfl ?_ ?_
         · go_simp
           (try simp only [i64_w])
           try rfl
         refine hK.out _ _ ⟨z_, t_, (by rw [ha.out]; exact putSel_upk 27 hb_ rfl rfl rfl), Q_B_p, Q_B_x, Q_B_y, Q_HB, Q_HR, Q_Z_, fun h0_ => absurd ((hoff 30 (by kernel_rfl)).symm.trans h0_) (by decide)⟩
       refine steps_cons ?_ ?_
       · rintro b a w' ⟨z_, t_, ha, Q_B_p, Q_B_x, Q_B_y, Q_HB, Q_HR, Q_Z_, Q_T_⟩ hb_ hon hoff
         refine ⟨_, rfl, fun K hK => ?_⟩
         have e105 : a.tmps[105]? = some (.pointer (some ⟨g_x, 2, none⟩)) := by rw [ha]; exact putSel_on (e := (27, 105, .pointer (some ⟨g_x, 2, none⟩))) 27 rfl rfl (hon 27 (by kernel_rfl)) rfl
         have e102 : a.tmps[102]? = some (.bool true) := by rw [ha]; exact putSel_on (e := (24, 102, .bool true)) 24 rfl rfl (hon 24 (by kernel_rfl)) rfl
         replace ha := Aside0.mk ha
         have B_p := Aside0.mk Q_B_p
         have B_x := Aside0.mk Q_B_x
         have B_y := Aside0.mk Q_B_y
         have HB := Aside0.mk Q_HB
         have HR := Aside0.mk Q_HR
         have Z_ := Aside0.mk (Q_Z_ (hon 21 (by kernel_rfl)))
         refine st_loadf (wanted_on rfl rfl rfl (e102.trans rfl)) rfl (eval_of e105) B_x.out rfl Tryd.underlying30 (by rfl) ?_
         refine hK.out _ _ ⟨z_, t_, (by rw [ha.out]; exact putSel_upk 28 hb_ rfl rfl rfl), B_p.out, B_x.out, B_y.out, HB.out, HR.out, fun _ => Z_.out, fun h0_ => absurd ((hoff 30 (by kernel_rfl)).symm.trans h0_) (by decide)⟩
       refine steps_cons ?_ ?_
       · rintro b a w' ⟨z_, t_, ha, Q_B_p, Q_B_x, Q_B_y, Q_HB, Q_HR, Q_Z_, Q_T_⟩ hb_ hon hoff
         refine ⟨_, rfl, fun K hK => ?_⟩
         have e106 : a.tmps[106]? = some ((.slice V1 n1 cv)) := by rw [ha]; exact putSel_on (e := (28, 106, (.slice V1 n1 cv))) 28 rfl rfl (hon 28 (by kernel_rfl)) rfl
         have e102 : a.tmps[102]? = some (.bool true) := by rw [ha]; exact putSel_on (e := (24, 102, .bool true)) 24 rfl rfl (hon 24 (by kernel_rfl)) rfl
         replace ha := Aside0.mk ha
         have B_p := Aside0.mk Q_B_p
         have B_x := Aside0.mk Q_B_x
         have B_y := Aside0.mk Q_B_y
         have HB := Aside0.mk Q_HB
         have HR := Aside0.mk Q_HR
         have Z_ := Aside0.mk (Q_Z_ (hon 21 (by kernel_rfl)))
         refine st_cut Tryd.underlying30 (wanted_on rfl rfl rfl (e102.trans rfl)) rfl (eval_of e106) (HCUT.out _) ?_
         refine hK.out _ _ ⟨z_, t_, (by rw [ha.out]; exact putSel_upk 29 hb_ rfl rfl rfl), B_p.out, B_x.out, B_y.out, HB.out, HR.out, fun _ => Z_.out, fun h0_ => absurd ((hoff 30 (by kernel_rfl)).symm.trans h0_) (by decide)⟩
       refine steps_cons ?_ ?_
       · rintro b a w' ⟨z_, t_, ha, Q_B_p, Q_B_x, Q_B_y, Q_HB, Q_HR, Q_Z_, Q_T_⟩ hb_ hon hoff
         refine ⟨_, rfl, fun K hK => ?_⟩
         have e107 : a.tmps[107]? = some ((.slice (if cv = 1 then V1 else V1.map (·.add (1 * 2))) (n1 - 1) (cv - 1))) := by rw [ha]; exact putSel_on (e := (29, 107, (.slice (if cv = 1 then V1 else V1.map (·.add (1 * 2))) (n1 - 1) (cv - 1)))) 29 rfl rfl (hon 29 (by kernel_rfl)) rfl
         have e102 : a.tmps[102]? = some (.bool true) := by rw [ha]; exact putSel_on (e := (24, 102, .bool true)) 24 rfl rfl (hon 24 (by kernel_rfl)) rfl
         replace ha := Aside0.mk ha
         have B_p := Aside0.mk Q_B_p
         have B_x := Aside0.mk Q_B_x
         have B_y := Aside0.mk Q_B_y
         have HB := Aside0.mk Q_HB
         have HR := Aside0.mk Q_HR
         have Z_ := Aside0.mk (Q_Z_ (hon 21 (by kernel_rfl)))
         refine goes_ Tryd.func21 (by kernel_rfl) rfl #[(.slice (if cv = 1 then V1 else V1.map (·.add (1 * 2))) (n1 - 1) (cv - 1))] (wanted_on rfl rfl rfl (e102.trans rfl)) rfl rfl (by first | (simp only [List.map_toArray, List.map_cons, List.map_nil, Act.eval, Array.getD_eq_getD_getElem?, Option.getD_some, e107, e102]; done) | (simp only [List.map_toArray, List.map_cons, List.map_nil, Act.eval, Array.getD_eq_getD_getElem?, Option.getD_some, e107, e102]; rfl)) ?_
         refine (to21_calls (rd_below F_CUT.out HR.out) HT21.out).mono ?_
         rintro e w1 ⟨y_, rfl, hv_, hb⟩
         refine ⟨_, rfl, ?_⟩
         refine hK.out _ _ ⟨z_, y_, (by rw [ha.out]; exact putSel_upk 30 hb_ rfl rfl rfl), blk_below B_p.out hb, blk_below B_x.out hb, blk_below B_y.out hb, below_step HB.out hb, below_step HR.out hb, fun _ => Z_.out.below hb, fun _ => hv_⟩
       refine steps_cons ?_ ?_
       · rintro b a w' ⟨z_, t_, ha, Q_B_p, Q_B_x, Q_B_y, Q_HB, Q_HR, Q_Z_, Q_T_⟩ hb_ hon hoff
         refine ⟨_, rfl, fun K hK => ?_⟩
         have e104 : a.tmps[104]? = some (u2) := by rw [ha]; exact putSel_on (e := (26, 104, u2)) 26 rfl rfl (hon 26 (by kernel_rfl)) rfl
         have e108 : a.tmps[108]? = some (t_) := by rw [ha]; exact putSel_on (e := (30, 108, t_)) 30 rfl rfl (hon 30 (by kernel_rfl)) rfl
         have e102 : a.tmps[102]? = some (.bool true) := by rw [ha]; exact putSel_on (e := (24, 102, .bool true)) 24 rfl rfl (hon 24 (by kernel_rfl)) rfl
         replace ha := Aside0.mk ha
         have B_p := Aside0.mk Q_B_p
         have B_x := Aside0.mk Q_B_x
         have B_y := Aside0.mk Q_B_y
         have HB := Aside0.mk Q_HB
         have HR := Aside0.mk Q_HR
         have Z_ := Aside0.mk (Q_Z_ (hon 21 (by kernel_rfl)))
         have T_ := Aside0.mk (Q_T_ (hon 30 (by kernel_rfl)))
         refine goes_ Tryd.func20 (by kernel_rfl) rfl #[u2, t_] (wanted_on rfl rfl rfl (e102.trans rfl)) rfl rfl (by first | (simp only [List.map_toArray, List.map_cons, List.map_nil, Act.eval, Array.getD_eq_getD_getElem?, Option.getD_some, e104, e108, e102]; done) | (simp only [List.map_toArray, List.map_cons, List.map_nil, Act.eval, Array.getD_eq_getD_getElem?, Option.getD_some, e104, e108, e102]; rfl)) ?_
         refine (same21_calls (rd_of_v (hRP.out _ HB.out).1) T_.out HS21.out).mono ?_
         rintro e w1 ⟨rfl, hb⟩
         refine ⟨_, rfl, ?_⟩
         refine hK.out _ _ ⟨z_, t_, (by rw [ha.out]; exact putSel_upk 31 hb_ rfl rfl rfl), blk_below B_p.out hb, blk_below B_x.out hb, blk_below B_y.out hb, below_step HB.out hb, below_step HR.out hb, fun _ => Z_.out.below hb, fun _ => rd_below T_.out hb⟩
       refine steps_cons ?_ ?_
       · rintro b a w' ⟨z_, t_, ha, Q_B_p, Q_B_x, Q_B_y, Q_HB, Q_HR, Q_Z_, Q_T_⟩ hb_ hon hoff
         refine ⟨_, rfl, fun K hK => ?_⟩
         have e102 : a.tmps[102]? = some (.bool true) := by rw [ha]; exact putSel_on (e := (24, 102, .bool true)) 24 rfl rfl (hon 24 (by kernel_rfl)) rfl
         have e109 : a.tmps[109]? = some (.bool true) := by rw [ha]; exact putSel_on (e := (31, 109, .bool true)) 31 rfl rfl (hon 31 (by kernel_rfl)) rfl
         replace ha := Aside0.mk ha
         have B_p := Aside0.mk Q_B_p
         have B_x := Aside0.mk Q_B_x
         have B_y := Aside0.mk Q_B_y
         have HB := Aside0.mk Q_HB
         have HR := Aside0.mk Q_HR
         have Z_ := Aside0.mk (Q_Z_ (hon 21 (by kernel_rfl)))
         have T_ := Aside0.mk (Q_T_ (hon 30 (by kernel_rfl)))
         refine value_ (w1 := w') (v := .bool true) (by rfl) rfl ?_ ?_
         · go_simp
           (try simp only [i64_w])
           try rfl
         refine hK.out _ _ ⟨z_, t_, (by rw [ha.out]; exact putSel_upk 32 hb_ rfl rfl rfl), Q_B_p, Q_B_x, Q_B_y, Q_HB, Q_HR, Q_Z_, Q_T_⟩
       refine steps_cons ?_ ?_
       · rintro b a w' ⟨z_, t_, ha, Q_B_p, Q_B_x, Q_B_y, Q_HB, Q_HR, Q_Z_, Q_T_⟩ hb_ hon hoff
         refine ⟨_, rfl, fun K hK => ?_⟩
         have e110 : a.tmps[110]? = some (.bool true) := by rw [ha]; exact putSel_on (e := (32, 110, .bool true)) 32 rfl rfl (hon 32 (by kernel_rfl)) rfl
         replace ha := Aside0.mk ha
         have B_p := Aside0.mk Q_B_p
         have B_x := Aside0.mk Q_B_x
         have B_y := Aside0.mk Q_B_y
         have HB := Aside0.mk Q_HB
         have HR := Aside0.mk Q_HR
         have Z_ := Aside0.mk (Q_Z_ (hon 21 (by kernel_rfl)))
         have T_ := Aside0.mk (Q_T_ (hon 30 (by kernel_rfl)))
         refine value_ (w1 := w') (v := .bool true) (by rfl) rfl ?_ ?_
         · go_simp
           (try simp only [i64_w])
           try rfl
         refine hK.out _ _ ⟨z_, t_, (by rw [ha.out]; exact putSel_upk 33 hb_ rfl rfl rfl), Q_B_p, Q_B_x, Q_B_y, Q_HB, Q_HR, Q_Z_, Q_T_⟩
       exact steps_nil
     · rintro b a w' hall ⟨z_, t_, ha, Q_B_p, Q_B_x, Q_B_y, Q_HB, Q_HR, Q_Z_, Q_T_⟩
       clear B_p B_x B_y HB HR
       have hb0_ := hall 0 (by kernel_rfl)
       have hb1_ := hall 1 (by kernel_rfl)
       have hb2_ := hall 2 (by kernel_rfl)
       have hb3_ := hall 3 (by kernel_rfl)
       have hb4_ := hall 4 (by kernel_rfl)
       have hb5_ := hall 5 (by kernel_rfl)
       have hb6_ := hall 6 (by kernel_rfl)
       have hb7_ := hall 7 (by kernel_rfl)
       have hb8_ := hall 8 (by kernel_rfl)
       have hb9_ := hall 9 (by kernel_rfl)
       have hb10_ := hall 10 (by kernel_rfl)
       have hb11_ := hall 11 (by kernel_rfl)
       have hb12_ := hall 12 (by kernel_rfl)
       have hb13_ := hall 13 (by kernel_rfl)
       have hb14_ := hall 14 (by kernel_rfl)
       have hb15_ := hall 15 (by kernel_rfl)
       have hb16_ := hall 16 (by kernel_rfl)
       have hb17_ := hall 17 (by kernel_rfl)
       have hb18_ := hall 18 (by kernel_rfl)
       have hb19_ := hall 19 (by kernel_rfl)
       have hb20_ := hall 20 (by kernel_rfl)
       have hb21_ := hall 21 (by kernel_rfl)
       have hb22_ := hall 22 (by kernel_rfl)
       have hb23_ := hall 23 (by kernel_rfl)
       have hb24_ := hall 24 (by kernel_rfl)
       have hb25_ := hall 25 (by kernel_rfl)
       have hb26_ := hall 26 (by kernel_rfl)
       have hb27_ := hall 27 (by kernel_rfl)
       have hb28_ := hall 28 (by kernel_rfl)
       have hb29_ := hall 29 (by kernel_rfl)
       have hb30_ := hall 30 (by kernel_rfl)
       have hb31_ := hall 31 (by kernel_rfl)
       have hb32_ := hall 32 (by kernel_rfl)
       have hb33_ := hall 33 (by kernel_rfl)
       subst ha
       simp only [putSel, hb0_, hb1_, hb2_, hb3_, hb4_, hb5_, hb6_, hb7_, hb8_, hb9_, hb10_, hb11_, hb12_, hb13_, hb14_, hb15_, hb16_, hb17_, hb18_, hb19_, hb20_, hb21_, hb22_, hb23_, hb24_, hb25_, hb26_, hb27_, hb28_, hb29_, hb30_, hb31_, hb32_, hb33_, if_true, Act.put, List.setIfInBounds_toArray, List.set_cons_zero, List.set_cons_succ]
       have B_p := Aside0.mk Q_B_p
       clear Q_B_p
       have B_x := Aside0.mk Q_B_x
       clear Q_B_x
       have B_y := Aside0.mk Q_B_y
       clear Q_B_y
       have HB := Aside0.mk Q_HB
       clear Q_HB
       have HR := Aside0.mk Q_HR
       clear Q_HR
       have Z_ := Aside0.mk (Q_Z_ hb21_)
       clear Q_Z_
       have T_ := Aside0.mk (Q_T_ hb30_)
       clear Q_T_
       clear hall hb0_ hb1_ hb2_ hb3_ hb4_ hb5_ hb6_ hb7_ hb8_ hb9_ hb10_ hb11_ hb12_ hb13_ hb14_ hb15_ hb16_ hb17_ hb18_ hb19_ hb20_ hb21_ hb22_ hb23_ hb24_ hb25_ hb26_ hb27_ hb28_ hb29_ hb30_ hb31_ hb32_ hb33_
       go_wp2
       all_goals go_ret
       all_goals exact ⟨rfl, HB.out⟩
   · go_upto_region 13 with (first | ((with_reducible refine gate_dst (N := 40) rfl ?_); refine gate_guard (by rfl) ?_; refine ev_load rfl rfl rfl B_x.out Tryd.underlying32 rfl (by kernel_rfl) ?_) | ((with_reducible refine gate_dst (N := 41) rfl ?_); refine gate_guard (by rfl) ?_; refine ev_load rfl rfl rfl B_x.out Tryd.underlying32 rfl (by kernel_rfl) ?_) | ((with_reducible refine gate_dst (N := 42) rfl ?_); refine gate_guard (by rfl) ?_; refine goesL_ (some 42) rfl rfl Tryd.func16 (by kernel_rfl) rfl #[.agg (fr a0 a1 (.slice C2 tx.length d2) a3 a4 a5 x3 a7 a8 x6 x7 x8 x9), .agg (fr a0 a1 (.slice C2 tx.length d2) a3 a4 a5 x3 a7 a8 x6 x7 x8 x9)] rfl (by first | rfl | (simp only [List.map_toArray, List.map_cons, List.map_nil]; done) | (simp only [List.map_toArray, List.map_cons, List.map_nil]; rfl)) ?_; refine (ans_calls F_X.out F_X.out (AnsNo _ _ _ _ _ _ _ _ _ _ _ _ _ _ _ _ _ _ _ _ _ _ _ _ _ _ HC1.out)).mono ?_; rintro e r1 ⟨rfl, hb⟩; refine ⟨_, rfl, ?_⟩; replace B_p := Aside0.mk (blk_below B_p.out hb); replace B_x := Aside0.mk (blk_below B_x.out hb); replace B_y := Aside0.mk (blk_below B_y.out hb); replace F_X := Aside0.mk (F_X.out.below hb); replace F_Y := Aside0.mk (F_Y.out.below hb); replace F_DX := Aside0.mk (F_DX.out.below hb); replace F_DY := Aside0.mk (F_DY.out.below hb); replace HB := Aside0.mk (below_step HB.out hb); clear hb) | ((with_reducible refine gate_dst (N := 44) rfl ?_); refine gate_guard (by rfl) ?_; refine ev_load rfl rfl rfl B_x.out Tryd.underlying32 rfl (by kernel_rfl) ?_) | ((with_reducible refine gate_dst (N := 45) rfl ?_); refine gate_guard (by rfl) ?_; refine ev_load rfl rfl rfl B_y.out Tryd.underlying32 rfl (by kernel_rfl) ?_) | ((with_reducible refine gate_dst (N := 46) rfl ?_); refine gate_guard (by rfl) ?_; refine goesL_ (some 46) rfl rfl Tryd.func16 (by kernel_rfl) rfl #[.agg (fr a0 a1 (.slice C2 tx.length d2) a3 a4 a5 x3 a7 a8 x6 x7 x8 x9), .agg (fr b0 b1 (.slice E2 ty.length e2) b3 b4 b5 y3 b7 b8 y6 y7 y8 y9)] rfl (by first | rfl | (simp only [List.map_toArray, List.map_cons, List.map_nil]; done) | (simp only [List.map_toArray, List.map_cons, List.map_nil]; rfl)) ?_; refine (ans_calls F_X.out F_Y.out (HANS.out)).mono ?_; rintro e r2 ⟨rfl, hb⟩; refine ⟨_, rfl, ?_⟩; replace B_p := Aside0.mk (blk_below B_p.out hb); replace B_x := Aside0.mk (blk_below B_x.out hb); replace B_y := Aside0.mk (blk_below B_y.out hb); replace F_X := Aside0.mk (F_X.out.below hb); replace F_Y := Aside0.mk (F_Y.out.below hb); replace F_DX := Aside0.mk (F_DX.out.below hb); replace F_DY := Aside0.mk (F_DY.out.below hb); replace HB := Aside0.mk (below_step HB.out hb); clear hb) | ((with_reducible refine gate_dst (N := 55) rfl ?_); refine gate_guard (by rfl) ?_; have L_x := Aside0.mk (blk_lt B_x.out); have L_y := Aside0.mk (blk_lt B_y.out); have L_p := Aside0.mk (blk_lt B_p.out); have GW := Aside0.mk (below_size HB.out); have lx_ := L_x.out; have ly_ := L_y.out; have gx_ := G_x.out; have gy_ := G_y.out; refine Kd.N_lit k51 _ 51 rfl (N' := 55) rfl (xs := ([⟨259, lx⟩] : List S51)) (inner := [.int .u16 259, (.slice X lx.length cx)]) (ok := (fun k => k ≠ g_x ∧ k ≠ g_y)) (okp := fun k => k < w.heap.size) (by first | (go_simp; done) | (go_simp; rfl)) (reps_tag F_DX.out) (fun k (hk : k < w.heap.size) => show k ≠ g_x ∧ k ≠ g_y from by omega) ⟨by omega, by omega⟩ (Below.refl _ _) (Nat.le_refl _) (by simp) ?_; intro v_ r3 hn hb hg1 hg2; clear hg1 hg2 lx_ ly_ gx_ gy_; have F_N := Aside0.mk hn; clear hn; have F_O := Aside0.mk (Kd.V_old F_X.out.1 hb); replace F_X := Aside0.mk (F_X.out.old (ok' := fun k => (k ≠ g_x ∧ k ≠ g_y) ∧ k < r2.heap.size) hb (fun k hk hlt => ⟨hk, hlt⟩)); replace F_Y := Aside0.mk (F_Y.out.old (ok' := fun k => (k ≠ g_x ∧ k ≠ g_y) ∧ k < r2.heap.size) hb (fun k hk hlt => ⟨hk, hlt⟩)); replace F_DX := Aside0.mk (F_DX.out.below hb); replace F_DY := Aside0.mk (F_DY.out.below hb); replace B_p := Aside0.mk (blk_below B_p.out hb); replace B_x := Aside0.mk (blk_below B_x.out hb); replace B_y := Aside0.mk (blk_below B_y.out hb); replace HB := Aside0.mk (below_step HB.out hb); have HZ := Aside0.mk hb.size; clear hb) | ((with_reducible refine gate_dst (N := 57) rfl ?_); refine gate_guard (by rfl) ?_; refine ev_loadf rfl rfl rfl B_x.out rfl Tryd.underlying30 rfl ?_) | ((with_reducible refine gate_dst (N := 58) rfl ?_); refine gate_guard (by rfl) ?_; have lx_ := L_x.out; have ly_ := L_y.out; have hz := HZ.out; have hlen := HLEN.out; refine Kd.N_append_rows k51 (w0 := r3) r2.heap.size rfl (.tmp 55) (.tmp 57) 30 51 (.agg #[(.int .u16 0), (.slice none 0 0)]) 32 rfl Tryd.underlying30 info51 rfl (Nat.le_of_ble_eq_true rfl) (Nat.le_of_ble_eq_true rfl) v_ _ tx C2 tx.length _ (fun k => k ≠ g_x ∧ k ≠ g_y) (fun k => (k ≠ g_x ∧ k ≠ g_y) ∧ k < r2.heap.size) rfl rfl F_N.out (Kd.V_F F_O.out) (fun k hk => ⟨hk.1, fun he => by have := Kd.N_base F_N.out k he.symm; omega⟩) (fun k hk => by omega) (Below.refl _ _) hz (by simp only [List.length_cons, List.length_nil]; omega) ?_; intro v1 r4 hn hb hg1 hg2; clear hg1 hg2 lx_ ly_ hz hlen; have F_V := Aside0.mk (v_of_n hn); clear hn; replace F_DX := Aside0.mk (Kd.V_step F_DX.out (fun k hk _ => hb.block k (Nat.lt_of_lt_of_le hk GW.out))); replace F_DY := Aside0.mk (Kd.V_step F_DY.out (fun k hk _ => hb.block k (Nat.lt_of_lt_of_le hk GW.out))); replace B_p := Aside0.mk ((hb.block _ L_p.out).trans B_p.out); replace B_x := Aside0.mk ((hb.block _ L_x.out).trans B_x.out); replace B_y := Aside0.mk ((hb.block _ L_y.out).trans B_y.out); replace HB := Aside0.mk (below_weaken HB.out GW.out hb); replace F_X := Aside0.mk ((F_X.out.keep hb (fun k hk => hk.2)).mono (fun k hk => hk.1)); replace F_Y := Aside0.mk ((F_Y.out.keep hb (fun k hk => hk.2)).mono (fun k hk => hk.1)); replace F_X := Aside0.mk (F_X.out.tags F_V.out); have ONE := Aside0.mk (rd_one (rd_of_v F_V.out)); clear F_N F_O F_V hb HZ GW L_x L_y L_p) | ((with_reducible refine gate_store (p := 59) rfl ?_); refine ev_storef rfl rfl rfl (v := v1) rfl B_x.out (Nat.le_of_ble_eq_true rfl) (by kernel_rfl) ONE.out (cells := (fr a0 a1 v1 a3 a4 a5 x3 a7 a8 x6 x7 x8 x9)) rfl ?_; intro r5 hn ho; clear ONE; replace B_p := Aside0.mk (blk_only B_p.out ho N_p_x.out); replace B_y := Aside0.mk (blk_only B_y.out ho N_y_x.out); replace F_X := Aside0.mk (F_X.out.only ho (fun k hk => hk.1)); replace F_Y := Aside0.mk (F_Y.out.only ho (fun k hk => hk.1)); replace F_DX := Aside0.mk (F_DX.out.only ho (fun k (hk : k < w.heap.size) => by have := G_x.out; omega)); replace F_DY := Aside0.mk (F_DY.out.only ho (fun k (hk : k < w.heap.size) => by have := G_x.out; omega)); replace B_x := Aside0.mk hn; replace HB := Aside0.mk (below_only HB.out ho G_x.out); clear hn ho) | ((with_reducible refine gate_dst (N := 62) rfl ?_); refine gate_guard (by rfl) ?_; have L_x := Aside0.mk (blk_lt B_x.out); have L_y := Aside0.mk (blk_lt B_y.out); have L_p := Aside0.mk (blk_lt B_p.out); have GW := Aside0.mk (below_size HB.out); have lx_ := L_x.out; have ly_ := L_y.out; have gx_ := G_x.out; have gy_ := G_y.out; refine Kd.N_lit k51 _ 51 rfl (N' := 62) rfl (xs := ([⟨259, ly⟩] : List S51)) (inner := [.int .u16 259, (.slice Y ly.length cy)]) (ok := (fun k => k ≠ g_x ∧ k ≠ g_y)) (okp := fun k => k < w.heap.size) (by first | (go_simp; done) | (go_simp; rfl)) (reps_tag F_DY.out) (fun k (hk : k < w.heap.size) => show k ≠ g_x ∧ k ≠ g_y from by omega) ⟨by omega, by omega⟩ (Below.refl _ _) (Nat.le_refl _) (by simp) ?_; intro v_ r6 hn hb hg1 hg2; clear hg1 hg2 lx_ ly_ gx_ gy_; have F_N := Aside0.mk hn; clear hn; have F_O := Aside0.mk (Kd.V_old F_Y.out.1 hb); replace F_X := Aside0.mk (F_X.out.old (ok' := fun k => (k ≠ g_x ∧ k ≠ g_y) ∧ k < r5.heap.size) hb (fun k hk hlt => ⟨hk, hlt⟩)); replace F_Y := Aside0.mk (F_Y.out.old (ok' := fun k => (k ≠ g_x ∧ k ≠ g_y) ∧ k < r5.heap.size) hb (fun k hk hlt => ⟨hk, hlt⟩)); replace F_DX := Aside0.mk (F_DX.out.below hb); replace F_DY := Aside0.mk (F_DY.out.below hb); replace B_p := Aside0.mk (blk_below B_p.out hb); replace B_x := Aside0.mk (blk_below B_x.out hb); replace B_y := Aside0.mk (blk_below B_y.out hb); replace HB := Aside0.mk (below_step HB.out hb); have HZ := Aside0.mk hb.size; clear hb) | ((with_reducible refine gate_dst (N := 64) rfl ?_); refine gate_guard (by rfl) ?_; refine ev_loadf rfl rfl rfl B_y.out rfl Tryd.underlying30 rfl ?_) | ((with_reducible refine gate_dst (N := 65) rfl ?_); refine gate_guard (by rfl) ?_; have lx_ := L_x.out; have ly_ := L_y.out; have hz := HZ.out; have hlen := HLEN.out; refine Kd.N_append_rows k51 (w0 := r6) r5.heap.size rfl (.tmp 62) (.tmp 64) 30 51 (.agg #[(.int .u16 0), (.slice none 0 0)]) 32 rfl Tryd.underlying30 info51 rfl (Nat.le_of_ble_eq_true rfl) (Nat.le_of_ble_eq_true rfl) v_ _ ty E2 ty.length _ (fun k => k ≠ g_x ∧ k ≠ g_y) (fun k => (k ≠ g_x ∧ k ≠ g_y) ∧ k < r5.heap.size) rfl rfl F_N.out (Kd.V_F F_O.out) (fun k hk => ⟨hk.1, fun he => by have := Kd.N_base F_N.out k he.symm; omega⟩) (fun k hk => by omega) (Below.refl _ _) hz (by simp only [List.length_cons, List.length_nil]; omega) ?_; intro v2 r7 hn hb hg1 hg2; clear hg1 hg2 lx_ ly_ hz hlen; have F_V := Aside0.mk (v_of_n hn); clear hn; replace F_DX := Aside0.mk (Kd.V_step F_DX.out (fun k hk _ => hb.block k (Nat.lt_of_lt_of_le hk GW.out))); replace F_DY := Aside0.mk (Kd.V_step F_DY.out (fun k hk _ => hb.block k (Nat.lt_of_lt_of_le hk GW.out))); replace B_p := Aside0.mk ((hb.block _ L_p.out).trans B_p.out); replace B_x := Aside0.mk ((hb.block _ L_x.out).trans B_x.out); replace B_y := Aside0.mk ((hb.block _ L_y.out).trans B_y.out); replace HB := Aside0.mk (below_weaken HB.out GW.out hb); replace F_X := Aside0.mk ((F_X.out.keep hb (fun k hk => hk.2)).mono (fun k hk => hk.1)); replace F_Y := Aside0.mk ((F_Y.out.keep hb (fun k hk => hk.2)).mono (fun k hk => hk.1)); replace F_Y := Aside0.mk (F_Y.out.tags F_V.out); have ONE := Aside0.mk (rd_one (rd_of_v F_V.out)); clear F_N F_O F_V hb HZ GW L_x L_y L_p) | ((with_reducible refine gate_store (p := 66) rfl ?_); refine ev_storef rfl rfl rfl (v := v2) rfl B_y.out (Nat.le_of_ble_eq_true rfl) (by kernel_rfl) ONE.out (cells := (fr b0 b1 v2 b3 b4 b5 y3 b7 b8 y6 y7 y8 y9)) rfl ?_; intro r8 hn ho; clear ONE; replace B_p := Aside0.mk (blk_only B_p.out ho N_p_y.out); replace B_x := Aside0.mk (blk_only B_x.out ho N_x_y.out); replace F_X := Aside0.mk (F_X.out.only ho (fun k hk => hk.2)); replace F_Y := Aside0.mk (F_Y.out.only ho (fun k hk => hk.2)); replace F_DX := Aside0.mk (F_DX.out.only ho (fun k (hk : k < w.heap.size) => by have := G_y.out; omega)); replace F_DY := Aside0.mk (F_DY.out.only ho (fun k (hk : k < w.heap.size) => by have := G_y.out; omega)); replace B_y := Aside0.mk hn; replace HB := Aside0.mk (below_only HB.out ho G_y.out); clear hn ho) | ((with_reducible refine gate_store (p := 67) rfl ?_); refine ev_storef rfl rfl rfl (v := .int .u8 7) rfl B_x.out (Nat.le_of_ble_eq_true rfl) (by kernel_rfl) rfl (cells := (fr 7 a1 v1 a3 a4 a5 x3 a7 a8 x6 x7 x8 x9)) rfl ?_; intro r9 hn ho; replace B_p := Aside0.mk (blk_only B_p.out ho N_p_x.out); replace B_y := Aside0.mk (blk_only B_y.out ho N_y_x.out); replace F_X := Aside0.mk (F_X.out.only ho (fun k hk => hk.1)); replace F_Y := Aside0.mk (F_Y.out.only ho (fun k hk => hk.1)); replace F_DX := Aside0.mk (F_DX.out.only ho (fun k (hk : k < w.heap.size) => by have := G_x.out; omega)); replace F_DY := Aside0.mk (F_DY.out.only ho (fun k (hk : k < w.heap.size) => by have := G_x.out; omega)); replace B_x := Aside0.mk hn; replace HB := Aside0.mk (below_only HB.out ho G_x.out); clear hn ho) | ((with_reducible refine gate_store (p := 68) rfl ?_); refine ev_storef rfl rfl rfl (v := .int .u8 9) rfl B_y.out (Nat.le_of_ble_eq_true rfl) (by kernel_rfl) rfl (cells := (fr 9 b1 v2 b3 b4 b5 y3 b7 b8 y6 y7 y8 y9)) rfl ?_; intro r10 hn ho; replace B_p := Aside0.mk (blk_only B_p.out ho N_p_y.out); replace B_x := Aside0.mk (blk_only B_x.out ho N_x_y.out); replace F_X := Aside0.mk (F_X.out.only ho (fun k hk => hk.2)); replace F_Y := Aside0.mk (F_Y.out.only ho (fun k hk => hk.2)); replace F_DX := Aside0.mk (F_DX.out.only ho (fun k (hk : k < w.heap.size) => by have := G_y.out; omega)); replace F_DY := Aside0.mk (F_DY.out.only ho (fun k (hk : k < w.heap.size) => by have := G_y.out; omega)); replace B_y := Aside0.mk hn; replace HB := Aside0.mk (below_only HB.out ho G_y.out); clear hn ho) | ((with_reducible refine gate_dst (N := 69) rfl ?_); refine gate_guard (by rfl) ?_; refine ev_load rfl rfl rfl B_x.out Tryd.underlying32 rfl (by kernel_rfl) ?_) | ((with_reducible refine gate_dst (N := 70) rfl ?_); refine gate_guard (by rfl) ?_; refine ev_load rfl rfl rfl B_y.out Tryd.underlying32 rfl (by kernel_rfl) ?_) | ((with_reducible refine gate_dst (N := 71) rfl ?_); refine gate_guard (by rfl) ?_; refine goesL_ (some 71) rfl rfl Tryd.func16 (by kernel_rfl) rfl #[.agg (fr 7 a1 v1 a3 a4 a5 x3 a7 a8 x6 x7 x8 x9), .agg (fr 9 b1 v2 b3 b4 b5 y3 b7 b8 y6 y7 y8 y9)] rfl (by first | rfl | (simp only [List.map_toArray, List.map_cons, List.map_nil]; done) | (simp only [List.map_toArray, List.map_cons, List.map_nil]; rfl)) ?_; refine (ans_calls F_X.out F_Y.out (HY.out _ _ _ _ _ _ (by decide))).mono ?_; rintro e r11 ⟨rfl, hb⟩; refine ⟨_, rfl, ?_⟩; replace B_p := Aside0.mk (blk_below B_p.out hb); replace B_x := Aside0.mk (blk_below B_x.out hb); replace B_y := Aside0.mk (blk_below B_y.out hb); replace F_X := Aside0.mk (F_X.out.below hb); replace F_Y := Aside0.mk (F_Y.out.below hb); replace F_DX := Aside0.mk (F_DX.out.below hb); replace F_DY := Aside0.mk (F_DY.out.below hb); replace HB := Aside0.mk (below_step HB.out hb); clear hb) | ((with_reducible refine gate_store (p := 72) rfl ?_); refine ev_storef rfl rfl rfl (v := .int .u8 101) rfl B_x.out (Nat.le_of_ble_eq_true rfl) (by kernel_rfl) rfl (cells := (fr 101 a1 v1 a3 a4 a5 x3 a7 a8 x6 x7 x8 x9)) rfl ?_; intro r12 hn ho; replace B_p := Aside0.mk (blk_only B_p.out ho N_p_x.out); replace B_y := Aside0.mk (blk_only B_y.out ho N_y_x.out); replace F_X := Aside0.mk (F_X.out.only ho (fun k hk => hk.1)); replace F_Y := Aside0.mk (F_Y.out.only ho (fun k hk => hk.1)); replace F_DX := Aside0.mk (F_DX.out.only ho (fun k (hk : k < w.heap.size) => by have := G_x.out; omega)); replace F_DY := Aside0.mk (F_DY.out.only ho (fun k (hk : k < w.heap.size) => by have := G_x.out; omega)); replace B_x := Aside0.mk hn; replace HB := Aside0.mk (below_only HB.out ho G_x.out); clear hn ho) | ((with_reducible refine gate_store (p := 73) rfl ?_); refine ev_storef rfl rfl rfl (v := .int .u8 25) rfl B_y.out (Nat.le_of_ble_eq_true rfl) (by kernel_rfl) rfl (cells := (fr 25 b1 v2 b3 b4 b5 y3 b7 b8 y6 y7 y8 y9)) rfl ?_; intro r13 hn ho; replace B_p := Aside0.mk (blk_only B_p.out ho N_p_y.out); replace B_x := Aside0.mk (blk_only B_x.out ho N_x_y.out); replace F_X := Aside0.mk (F_X.out.only ho (fun k hk => hk.2)); replace F_Y := Aside0.mk (F_Y.out.only ho (fun k hk => hk.2)); replace F_DX := Aside0.mk (F_DX.out.only ho (fun k (hk : k < w.heap.size) => by have := G_y.out; omega)); replace F_DY := Aside0.mk (F_DY.out.only ho (fun k (hk : k < w.heap.size) => by have := G_y.out; omega)); replace B_y := Aside0.mk hn; replace HB := Aside0.mk (below_only HB.out ho G_y.out); clear hn ho) | ((with_reducible refine gate_dst (N := 74) rfl ?_); refine gate_guard (by rfl) ?_; refine ev_load rfl rfl rfl B_x.out Tryd.underlying32 rfl (by kernel_rfl) ?_) | ((with_reducible refine gate_dst (N := 75) rfl ?_); refine gate_guard (by rfl) ?_; refine ev_load rfl rfl rfl B_y.out Tryd.underlying32 rfl (by kernel_rfl) ?_) | ((with_reducible refine gate_dst (N := 76) rfl ?_); refine gate_guard (by rfl) ?_; refine goesL_ (some 76) rfl rfl Tryd.func16 (by kernel_rfl) rfl #[.agg (fr 101 a1 v1 a3 a4 a5 x3 a7 a8 x6 x7 x8 x9), .agg (fr 25 b1 v2 b3 b4 b5 y3 b7 b8 y6 y7 y8 y9)] rfl (by first | rfl | (simp only [List.map_toArray, List.map_cons, List.map_nil]; done) | (simp only [List.map_toArray, List.map_cons, List.map_nil]; rfl)) ?_; refine (ans_calls F_X.out F_Y.out (HY.out _ _ _ _ _ _ (by decide))).mono ?_; rintro e r14 ⟨rfl, hb⟩; refine ⟨_, rfl, ?_⟩; replace B_p := Aside0.mk (blk_below B_p.out hb); replace B_x := Aside0.mk (blk_below B_x.out hb); replace B_y := Aside0.mk (blk_below B_y.out hb); replace F_X := Aside0.mk (F_X.out.below hb); replace F_Y := Aside0.mk (F_Y.out.below hb); replace F_DX := Aside0.mk (F_DX.out.below hb); replace F_DY := Aside0.mk (F_DY.out.below hb); replace HB := Aside0.mk (below_step HB.out hb); clear hb) | ((with_reducible refine gate_store (p := 77) rfl ?_); refine ev_storef rfl rfl rfl (v := .int .u8 7) rfl B_x.out (Nat.le_of_ble_eq_true rfl) (by kernel_rfl) rfl (cells := (fr 7 a1 v1 a3 a4 a5 x3 a7 a8 x6 x7 x8 x9)) rfl ?_; intro r15 hn ho; replace B_p := Aside0.mk (blk_only B_p.out ho N_p_x.out); replace B_y := Aside0.mk (blk_only B_y.out ho N_y_x.out); replace F_X := Aside0.mk (F_X.out.only ho (fun k hk => hk.1)); replace F_Y := Aside0.mk (F_Y.out.only ho (fun k hk => hk.1)); replace F_DX := Aside0.mk (F_DX.out.only ho (fun k (hk : k < w.heap.size) => by have := G_x.out; omega)); replace F_DY := Aside0.mk (F_DY.out.only ho (fun k (hk : k < w.heap.size) => by have := G_x.out; omega)); replace B_x := Aside0.mk hn; replace HB := Aside0.mk (below_only HB.out ho G_x.out); clear hn ho))
     obtain ⟨V1, cv, rfl, _, _⟩ := F_X.out.1
     have F_CUT := Aside0.mk (cut_tags F_X.out.1)
     have HCUT := Aside0.mk (cut_run Tryd.underlying30 V1 (([⟨259, lx⟩] ++ tx : List S51).length) cv (by simp))
     obtain ⟨n1, hn1⟩ : ∃ n, n = ([⟨259, lx⟩] ++ tx : List S51).length := ⟨_, rfl⟩
     rw [← hn1] at B_x F_X F_CUT HCUT ⊢
     refine start_ (n := 34) (S := fun w' => True) (ds := []) #[false, false, false, false, false, false, false, false, false, false, false, false, false, false, false, false, false, false, false, false, false, false, false, false, false, false, false, false, false, false, false, false, false, false] (by kernel_rfl) rfl rfl trivial (fun hHeld => ?_)
     refine with_tabW tabA13 bitsA13 (fun HT_ HW_ => ?_)
     replace B_p := Aside0.mk (blk_drew B_p.out)
     replace B_x := Aside0.mk (blk_drew B_x.out)
     replace B_y := Aside0.mk (blk_drew B_y.out)
     replace HB := Aside0.mk (below_drew1 HB.out)
     replace F_X := Aside0.mk (F_X.out.below (below_drew1 (Below.refl _ _)))
     replace F_Y := Aside0.mk (F_Y.out.below (below_drew1 (Below.refl _ _)))
     replace F_DX := Aside0.mk (F_DX.out.below (below_drew1 (Below.refl _ _)))
     replace F_DY := Aside0.mk (F_DY.out.below (below_drew1 (Below.refl _ _)))
     replace F_CUT := Aside0.mk (rd_below F_CUT.out (below_drew1 (Below.refl _ _)))
     generalize r15.drew = wd at B_p B_x B_y HB F_X F_Y F_DX F_DY F_CUT ⊢
     have HR := Aside0.mk (Below.refl wd.heap.size wd)
     refine inv_at [0, 1, 2, 3, 4, 5, 6, 7, 8, 9, 10, 11, 12, 13, 14, 15, 16, 17, 18, 19, 20, 21, 22, 23, 24, 25, 26, 27, 28, 29, 30, 31, 32, 33] (fun a0_ b a w' => ∃ (z_ : Value) (t_ : Value), a = putSel a0_ b [(0, 78, .bool dxy), (1, 79, (.slice X lx.length cx)), (2, 80, (.slice Y ly.length cy)), (3, 81, .bool dxy), (4, 82, .bool true), (5, 83, .bool true), (6, 84, .bool dxy), (7, 85, .bool dxy), (8, 86, .bool true), (9, 87, .bool true), (10, 88, .bool true), (11, 89, .agg (fr 7 a1 (.slice V1 n1 cv) a3 a4 a5 x3 a7 a8 x6 x7 x8 x9)), (12, 90, .agg (fr 25 b1 v2 b3 b4 b5 y3 b7 b8 y6 y7 y8 y9)), (13, 91, .bool false), (14, 92, .bool true), (15, 93, .bool true), (16, 94, .bool true), (17, 95, .pointer (some ⟨g_p, 3, none⟩)), (18, 96, .agg (pk a3 a4 a5 u3 a7 a8 u6 u7 u8 u9)), (19, 97, .pointer (some ⟨g_x, 3, none⟩)), (20, 98, .agg (pk a3 a4 a5 x3 a7 a8 x6 x7 x8 x9)), (21, 99, z_), (22, 100, .bool true), (23, 101, .bool true), (24, 102, .bool true), (25, 103, .pointer (some ⟨g_p, 2, none⟩)), (26, 104, u2), (27, 105, .pointer (some ⟨g_x, 2, none⟩)), (28, 106, (.slice V1 n1 cv)), (29, 107, (.slice (if cv = 1 then V1 else V1.map (·.add (1 * 2))) (n1 - 1) (cv - 1))), (30, 108, t_), (31, 109, .bool true), (32, 110, .bool true), (33, 8, .bool true)] ∧ (w'.heap[g_p]? = some (.cells (fr a0 a1 u2 a3 a4 a5 u3 a7 a8 u6 u7 u8 u9) 44 (0, 0))) ∧ (w'.heap[g_x]? = some (.cells (fr 7 a1 (.slice V1 n1 cv) a3 a4 a5 x3 a7 a8 x6 x7 x8 x9) 32 (0, 0))) ∧ (w'.heap[g_y]? = some (.cells (fr 25 b1 v2 b3 b4 b5 y3 b7 b8 y6 y7 y8 y9) 32 (0, 0))) ∧ (Below w.heap.size w w') ∧ (Below wd.heap.size wd w') ∧ (b 21 = true → PkIn k105 w' z_ a3 a4 a5 o a7 a8 l6 l7 l8 l9) ∧ (b 30 = true → Rd k85 w' t_ ta)) HT_.out HW_.out (by kernel_rfl) (by kernel_rfl) ?_ ?_ ?_
     · exact ⟨.bool false, .bool false, by simp only [putSel, Bool.false_eq_true, if_false], B_p.out, B_x.out, B_y.out, HB.out, HR.out, fun h_ => absurd h_ (by decide), fun h_ => absurd h_ (by decide)⟩
     · skip
       clear B_p B_x B_y HB HR
       refine steps_cons ?_ ?_
       · rintro b a w' ⟨z_, t_, ha, Q_B_p, Q_B_x, Q_B_y, Q_HB, Q_HR, Q_Z_, Q_T_⟩ hb_ hon hoff
         refine ⟨_, rfl, fun K hK => ?_⟩
         have e11 : a.tmps[11]? = some (.bool dxy) := by rw [ha]; exact (putSel_off rfl).trans rfl
         replace ha := Aside0.mk ha
         have B_p := Aside0.mk Q_B_p
         have B_x := Aside0.mk Q_B_x
         have B_y := Aside0.mk Q_B_y
         have HB := Aside0.mk Q_HB
         have HR := Aside0.mk Q_HR
         refine value_ (w1 := w') (v := .bool dxy) (by rfl) rfl ?_ ?_
         · go_simp
           (try simp only [i64_w])
           try rfl
         refine hK.out _ _ ⟨z_, t_, (by rw [ha.out]; exact putSel_upk 0 hb_ rfl rfl rfl), Q_B_p, Q_B_x, Q_B_y, Q_HB, Q_HR, fun h0_ => absurd ((hoff 21 (by kernel_rfl)).symm.trans h0_) (by decide), fun h0_ => absurd ((hoff 30 (by kernel_rfl)).symm.trans h0_) (by decide)⟩
       refine steps_cons ?_ ?_
       · rintro b a w' ⟨z_, t_, ha, Q_B_p, Q_B_x, Q_B_y, Q_HB, Q_HR, Q_Z_, Q_T_⟩ hb_ hon hoff
         refine ⟨_, rfl, fun K hK => ?_⟩
         have e2 : a.tmps[2]? = some ((.slice X lx.length cx)) := by rw [ha]; exact (putSel_off rfl).trans rfl
         replace ha := Aside0.mk ha
         have B_p := Aside0.mk Q_B_p
         have B_x := Aside0.mk Q_B_x
         have B_y := Aside0.mk Q_B_y
         have HB := Aside0.mk Q_HB
         have HR := Aside0.mk Q_HR
         refine value_ (w1 := w') (v := (.slice X lx.length cx)) (by rfl) rfl ?_ ?_
         · go_simp
           (try simp only [i64_w])
           try rfl
         refine hK.out _ _ ⟨z_, t_, (by rw [ha.out]; exact putSel_upk 1 hb_ rfl rfl rfl), Q_B_p, Q_B_x, Q_B_y, Q_HB, Q_HR, fun h0_ => absurd ((hoff 21 (by kernel_rfl)).symm.trans h0_) (by decide), fun h0_ => absurd ((hoff 30 (by kernel_rfl)).symm.trans h0_) (by decide)⟩
       refine steps_cons ?_ ?_
       · rintro b a w' ⟨z_, t_, ha, Q_B_p, Q_B_x, Q_B_y, Q_HB, Q_HR, Q_Z_, Q_T_⟩ hb_ hon hoff
         refine ⟨_, rfl, fun K hK => ?_⟩
         have e3 : a.tmps[3]? = some ((.slice Y ly.length cy)) := by rw [ha]; exact (putSel_off rfl).trans rfl
         replace ha := Aside0.mk ha
         have B_p := Aside0.mk Q_B_p
         have B_x := Aside0.mk Q_B_x
         have B_y := Aside0.mk Q_B_y
         have HB := Aside0.mk Q_HB
         have HR := Aside0.mk Q_HR
         refine value_ (w1 := w') (v := (.slice Y ly.length cy)) (by rfl) rfl ?_ ?_
         · go_simp
           (try simp only [i64_w])
           try rfl
         refine hK.out _ _ ⟨z_, t_, (by rw [ha.out]; exact putSel_upk 2 hb_ rfl rfl rfl), Q_B_p, Q_B_x, Q_B_y, Q_HB, Q_HR, fun h0_ => absurd ((hoff 21 (by kernel_rfl)).symm.trans h0_) (by decide), fun h0_ => absurd ((hoff 30 (by kernel_rfl)).symm.trans h0_) (by decide)⟩
       refine steps_cons ?_ ?_
       · rintro b a w' ⟨z_, t_, ha, Q_B_p, Q_B_x, Q_B_y, Q_HB, Q_HR, Q_Z_, Q_T_⟩ hb_ hon hoff
         refine ⟨_, rfl, fun K hK => ?_⟩
         have e79 : a.tmps[79]? = some ((.slice X lx.length cx)) := by rw [ha]; exact putSel_on (e := (1, 79, (.slice X lx.length cx))) 1 rfl rfl (hon 1 (by kernel_rfl)) rfl
         have e80 : a.tmps[80]? = some ((.slice Y ly.length cy)) := by rw [ha]; exact putSel_on (e := (2, 80, (.slice Y ly.length cy))) 2 rfl rfl (hon 2 (by kernel_rfl)) rfl
         replace ha := Aside0.mk ha
         have B_p := Aside0.mk Q_B_p
         have B_x := Aside0.mk Q_B_x
         have B_y := Aside0.mk Q_B_y
         have HB := Aside0.mk Q_HB
         have HR := Aside0.mk Q_HR
         refine goes_ Tryd.func17 (by kernel_rfl) rfl #[(.slice X lx.length cx), (.slice Y ly.length cy)] (by rfl) rfl rfl (by first | (simp only [List.map_toArray, List.map_cons, List.map_nil, Act.eval, Array.getD_eq_getD_getElem?, Option.getD_some, e79, e80]; done) | (simp only [List.map_toArray, List.map_cons, List.map_nil, Act.eval, Array.getD_eq_getD_getElem?, Option.getD_some, e79, e80]; rfl)) ?_
         refine (equal_calls2 (rd_of_v (F_DX.out.below HR.out)) (rd_of_v (F_DY.out.below HR.out)) HEQ.out).mono ?_
         rintro e w1 ⟨rfl, hb⟩
         refine ⟨_, rfl, ?_⟩
         refine hK.out _ _ ⟨z_, t_, (by rw [ha.out]; exact putSel_upk 3 hb_ rfl rfl rfl), blk_below B_p.out hb, blk_below B_x.out hb, blk_below B_y.out hb, below_step HB.out hb, below_step HR.out hb, fun h0_ => absurd ((hoff 21 (by kernel_rfl)).symm.trans h0_) (by decide), fun h0_ => absurd ((hoff 30 (by kernel_rfl)).symm.trans h0_) (by decide)⟩
       refine steps_cons ?_ ?_
       · rintro b a w' ⟨z_, t_, ha, Q_B_p, Q_B_x, Q_B_y, Q_HB, Q_HR, Q_Z_, Q_T_⟩ hb_ hon hoff
         refine ⟨_, rfl, fun K hK => ?_⟩
         have e78 : a.tmps[78]? = some (.bool dxy) := by rw [ha]; exact putSel_on (e := (0, 78, .bool dxy)) 0 rfl rfl (hon 0 (by kernel_rfl)) rfl
         have e81 : a.tmps[81]? = some (.bool dxy) := by rw [ha]; exact putSel_on (e := (3, 81, .bool dxy)) 3 rfl rfl (hon 3 (by kernel_rfl)) rfl
         replace ha := Aside0.mk ha
         have B_p := Aside0.mk Q_B_p
         have B_x := Aside0.mk Q_B_x
         have B_y := Aside0.mk Q_B_y
         have HB := Aside0.mk Q_HB
         have HR := Aside0.mk Q_HR
         refine value_ (w1 := w') (v := .bool true) (by rfl) rfl ?_ ?_
         · go_simp
           (try simp only [i64_w])
           try rfl
         refine hK.out _ _ ⟨z_, t_, (by rw [ha.out]; exact putSel_upk 4 hb_ rfl rfl rfl), Q_B_p, Q_B_x, Q_B_y, Q_HB, Q_HR, fun h0_ => absurd ((hoff 21 (by kernel_rfl)).symm.trans h0_) (by decide), fun h0_ => absurd ((hoff 30 (by kernel_rfl)).symm.trans h0_) (by decide)⟩
       refine steps_cons ?_ ?_
       · rintro b a w' ⟨z_, t_, ha, Q_B_p, Q_B_x, Q_B_y, Q_HB, Q_HR, Q_Z_, Q_T_⟩ hb_ hon hoff
         refine ⟨_, rfl, fun K hK => ?_⟩
         have e82 : a.tmps[82]? = some (.bool true) := by rw [ha]; exact putSel_on (e := (4, 82, .bool true)) 4 rfl rfl (hon 4 (by kernel_rfl)) rfl
         replace ha := Aside0.mk ha
         have B_p := Aside0.mk Q_B_p
         have B_x := Aside0.mk Q_B_x
         have B_y := Aside0.mk Q_B_y
         have HB := Aside0.mk Q_HB
         have HR := Aside0.mk Q_HR
         refine value_ (w1 := w') (v := .bool true) (by rfl) rfl ?_ ?_
         · go_simp
           (try simp only [i64_w])
           try rfl
         refine hK.out _ _ ⟨z_, t_, (by rw [ha.out]; exact putSel_upk 5 hb_ rfl rfl rfl), Q_B_p, Q_B_x, Q_B_y, Q_HB, Q_HR, fun h0_ => absurd ((hoff 21 (by kernel_rfl)).symm.trans h0_) (by decide), fun h0_ => absurd ((hoff 30 (by kernel_rfl)).symm.trans h0_) (by decide)⟩
       refine steps_cons ?_ ?_
       · rintro b a w' ⟨z_, t_, ha, Q_B_p, Q_B_x, Q_B_y, Q_HB, Q_HR, Q_Z_, Q_T_⟩ hb_ hon hoff
         refine ⟨_, rfl, fun K hK => ?_⟩
         have e12 : a.tmps[12]? = some (.bool dxy) := by rw [ha]; exact (putSel_off rfl).trans rfl
         have e83 : a.tmps[83]? = some (.bool true) := by rw [ha]; exact putSel_on (e := (5, 83, .bool true)) 5 rfl rfl (hon 5 (by kernel_rfl)) rfl
         replace ha := Aside0.mk ha
         have B_p := Aside0.mk Q_B_p
         have B_x := Aside0.mk Q_B_x
         have B_y := Aside0.mk Q_B_y
         have HB := Aside0.mk Q_HB
         have HR := Aside0.mk Q_HR
         refine value_ (w1 := w') (v := .bool dxy) (wanted_on rfl rfl rfl (e83.trans (by first | rfl | (simp [*]; done)))) rfl ?_ ?_
         · go_simp
           (try simp only [i64_w])
           try rfl
         refine hK.out _ _ ⟨z_, t_, (by rw [ha.out]; exact putSel_upk 6 hb_ rfl rfl rfl), Q_B_p, Q_B_x, Q_B_y, Q_HB, Q_HR, fun h0_ => absurd ((hoff 21 (by kernel_rfl)).symm.trans h0_) (by decide), fun h0_ => absurd ((hoff 30 (by kernel_rfl)).symm.trans h0_) (by decide)⟩
       refine steps_cons ?_ ?_
       · rintro b a w' ⟨z_, t_, ha, Q_B_p, Q_B_x, Q_B_y, Q_HB, Q_HR, Q_Z_, Q_T_⟩ hb_ hon hoff
         refine ⟨_, rfl, fun K hK => ?_⟩
         have e11 : a.tmps[11]? = some (.bool dxy) := by rw [ha]; exact (putSel_off rfl).trans rfl
         have e83 : a.tmps[83]? = some (.bool true) := by rw [ha]; exact putSel_on (e := (5, 83, .bool true)) 5 rfl rfl (hon 5 (by kernel_rfl)) rfl
         replace ha := Aside0.mk ha
         have B_p := Aside0.mk Q_B_p
         have B_x := Aside0.mk Q_B_x
         have B_y := Aside0.mk Q_B_y
         have HB := Aside0.mk Q_HB
         have HR := Aside0.mk Q_HR
         refine value_ (w1 := w') (v := .bool dxy) (wanted_on rfl rfl rfl (e83.trans (by first | rfl | (simp [*]; done)))) rfl ?_ ?_
         · go_simp
           (try simp only [i64_w])
           try rfl
         refine hK.out _ _ ⟨z_, t_, (by rw [ha.out]; exact putSel_upk 7 hb_ rfl rfl rfl), Q_B_p, Q_B_x, Q_B_y, Q_HB, Q_HR, fun h0_ => absurd ((hoff 21 (by kernel_rfl)).symm.trans h0_) (by decide), fun h0_ => absurd ((hoff 30 (by kernel_rfl)).symm.trans h0_) (by decide)⟩
       refine steps_cons ?_ ?_
       · rintro b a w' ⟨z_, t_, ha, Q_B_p, Q_B_x, Q_B_y, Q_HB, Q_HR, Q_Z_, Q_T_⟩ hb_ hon hoff
         refine ⟨_, rfl, fun K hK => ?_⟩
         have e84 : a.tmps[84]? = some (.bool dxy) := by rw [ha]; exact putSel_on (e := (6, 84, .bool dxy)) 6 rfl rfl (hon 6 (by kernel_rfl)) rfl
         have e85 : a.tmps[85]? = some (.bool dxy) := by rw [ha]; exact putSel_on (e := (7, 85, .bool dxy)) 7 rfl rfl (hon 7 (by kernel_rfl)) rfl
         have e83 : a.tmps[83]? = some (.bool true) := by rw [ha]; exact putSel_on (e := (5, 83, .bool true)) 5 rfl rfl (hon 5 (by kernel_rfl)) rfl
         replace ha := Aside0.mk ha
         have B_p := Aside0.mk Q_B_p
         have B_x := Aside0.mk Q_B_x
         have B_y := Aside0.mk Q_B_y
         have HB := Aside0.mk Q_HB
         have HR := Aside0.mk Q_HR
         refine value_ (w1 := w') (v := .bool true) (wanted_on rfl rfl rfl (e83.trans (by first | rfl | (simp [*]; done)))) rfl ?_ ?_
         · go_simp
           (try simp only [i64_w])
           try rfl
         refine hK.out _ _ ⟨z_, t_, (by rw [ha.out]; exact putSel_upk 8 hb_ rfl rfl rfl), Q_B_p, Q_B_x, Q_B_y, Q_HB, Q_HR, fun h0_ => absurd ((hoff 21 (by kernel_rfl)).symm.trans h0_) (by decide), fun h0_ => absurd ((hoff 30 (by kernel_rfl)).symm.trans h0_) (by decide)⟩
       refine steps_cons ?_ ?_
       · rintro b a w' ⟨z_, t_, ha, Q_B_p, Q_B_x, Q_B_y, Q_HB, Q_HR, Q_Z_, Q_T_⟩ hb_ hon hoff
         refine ⟨_, rfl, fun K hK => ?_⟩
         have e83 : a.tmps[83]? = some (.bool true) := by rw [ha]; exact putSel_on (e := (5, 83, .bool true)) 5 rfl rfl (hon 5 (by kernel_rfl)) rfl
         have e86 : a.tmps[86]? = some (.bool true) := by rw [ha]; exact putSel_on (e := (8, 86, .bool true)) 8 rfl rfl (hon 8 (by kernel_rfl)) rfl
         replace ha := Aside0.mk ha
         have B_p := Aside0.mk Q_B_p
         have B_x := Aside0.mk Q_B_x
         have B_y := Aside0.mk Q_B_y
         have HB := Aside0.mk Q_HB
         have HR := Aside0.mk Q_HR
         refine value_ (w1 := w') (v := .bool true) (by rfl) rfl ?_ ?_
         · go_simp
           (try simp only [i64_w])
           try rfl
         refine hK.out _ _ ⟨z_, t_, (by rw [ha.out]; exact putSel_upk 9 hb_ rfl rfl rfl), Q_B_p, Q_B_x, Q_B_y, Q_HB, Q_HR, fun h0_ => absurd ((hoff 21 (by kernel_rfl)).symm.trans h0_) (by decide), fun h0_ => absurd ((hoff 30 (by kernel_rfl)).symm.trans h0_) (by decide)⟩
       refine steps_cons ?_ ?_
       · rintro b a w' ⟨z_, t_, ha, Q_B_p, Q_B_x, Q_B_y, Q_HB, Q_HR, Q_Z_, Q_T_⟩ hb_ hon hoff
         refine ⟨_, rfl, fun K hK => ?_⟩
         have e87 : a.tmps[87]? = some (.bool true) := by rw [ha]; exact putSel_on (e := (9, 87, .bool true)) 9 rfl rfl (hon 9 (by kernel_rfl)) rfl
         replace ha := Aside0.mk ha
         have B_p := Aside0.mk Q_B_p
         have B_x := Aside0.mk Q_B_x
         have B_y := Aside0.mk Q_B_y
         have HB := Aside0.mk Q_HB
         have HR := Aside0.mk Q_HR
         refine value_ (w1 := w') (v := .bool true) (by rfl) rfl ?_ ?_
         · go_simp
           (try simp only [i64_w])
           try rfl
         refine hK.out _ _ ⟨z_, t_, (by rw [ha.out]; exact putSel_upk 10 hb_ rfl rfl rfl), Q_B_p, Q_B_x, Q_B_y, Q_HB, Q_HR, fun h0_ => absurd ((hoff 21 (by kernel_rfl)).symm.trans h0_) (by decide), fun h0_ => absurd ((hoff 30 (by kernel_rfl)).symm.trans h0_) (by decide)⟩
       refine steps_cons ?_ ?_
       · rintro b a w' ⟨z_, t_, ha, Q_B_p, Q_B_x, Q_B_y, Q_HB, Q_HR, Q_Z_, Q_T_⟩ hb_ hon hoff
         refine ⟨_, rfl, fun K hK => ?_⟩
         have e9 : a.tmps[9]? = some (.pointer (some ⟨g_x, 0, none⟩)) := by rw [ha]; exact (putSel_off rfl).trans rfl
         have e88 : a.tmps[88]? = some (.bool true) := by rw [ha]; exact putSel_on (e := (10, 88, .bool true)) 10 rfl rfl (hon 10 (by kernel_rfl)) rfl
         replace ha := Aside0.mk ha
         have B_p := Aside0.mk Q_B_p
         have B_x := Aside0.mk Q_B_x
         have B_y := Aside0.mk Q_B_y
         have HB := Aside0.mk Q_HB
         have HR := Aside0.mk Q_HR
         refine st_load (wanted_on rfl rfl rfl (e88.trans rfl)) rfl (eval_of e9) B_x.out Tryd.underlying32 (by rfl) (by kernel_rfl) ?_
         refine hK.out _ _ ⟨z_, t_, (by rw [ha.out]; exact putSel_upk 11 hb_ rfl rfl rfl), B_p.out, B_x.out, B_y.out, HB.out, HR.out, fun h0_ => absurd ((hoff 21 (by kernel_rfl)).symm.trans h0_) (by decide), fun h0_ => absurd ((hoff 30 (by kernel_rfl)).symm.trans h0_) (by decide)⟩
       refine steps_cons ?_ ?_
       · rintro b a w' ⟨z_, t_, ha, Q_B_p, Q_B_x, Q_B_y, Q_HB, Q_HR, Q_Z_, Q_T_⟩ hb_ hon hoff
         refine ⟨_, rfl, fun K hK => ?_⟩
         have e10 : a.tmps[10]? = some (.pointer (some ⟨g_y, 0, none⟩)) := by rw [ha]; exact (putSel_off rfl).trans rfl
         have e88 : a.tmps[88]? = some (.bool true) := by rw [ha]; exact putSel_on (e := (10, 88, .bool true)) 10 rfl rfl (hon 10 (by kernel_rfl)) rfl
         replace ha := Aside0.mk ha
         have B_p := Aside0.mk Q_B_p
         have B_x := Aside0.mk Q_B_x
         have B_y := Aside0.mk Q_B_y
         have HB := Aside0.mk Q_HB
         have HR := Aside0.mk Q_HR
         refine st_load (wanted_on rfl rfl rfl (e88.trans rfl)) rfl (eval_of e10) B_y.out Tryd.underlying32 (by rfl) (by kernel_rfl) ?_
         refine hK.out _ _ ⟨z_, t_, (by rw [ha.out]; exact putSel_upk 12 hb_ rfl rfl rfl), B_p.out, B_x.out, B_y.out, HB.out, HR.out, fun h0_ => absurd ((hoff 21 (by kernel_rfl)).symm.trans h0_) (by decide), fun h0_ => absurd ((hoff 30 (by kernel_rfl)).symm.trans h0_) (by decide)⟩
       refine steps_cons ?_ ?_
       · rintro b a w' ⟨z_, t_, ha, Q_B_p, Q_B_x, Q_B_y, Q_HB, Q_HR, Q_Z_, Q_T_⟩ hb_ hon hoff
         refine ⟨_, rfl, fun K hK => ?_⟩
         have e89 : a.tmps[89]? = some (.agg (fr 7 a1 (.slice V1 n1 cv) a3 a4 a5 x3 a7 a8 x6 x7 x8 x9)) := by rw [ha]; exact putSel_on (e := (11, 89, .agg (fr 7 a1 (.slice V1 n1 cv) a3 a4 a5 x3 a7 a8 x6 x7 x8 x9))) 11 rfl rfl (hon 11 (by kernel_rfl)) rfl
         have e90 : a.tmps[90]? = some (.agg (fr 25 b1 v2 b3 b4 b5 y3 b7 b8 y6 y7 y8 y9)) := by rw [ha]; exact putSel_on (e := (12, 90, .agg (fr 25 b1 v2 b3 b4 b5 y3 b7 b8 y6 y7 y8 y9))) 12 rfl rfl (hon 12 (by kernel_rfl)) rfl
         have e88 : a.tmps[88]? = some (.bool true) := by rw [ha]; exact putSel_on (e := (10, 88, .bool true)) 10 rfl rfl (hon 10 (by kernel_rfl)) rfl
         replace ha := Aside0.mk ha
         have B_p := Aside0.mk Q_B_p
         have B_x := Aside0.mk Q_B_x
         have B_y := Aside0.mk Q_B_y
         have HB := Aside0.mk Q_HB
         have HR := Aside0.mk Q_HR
         refine goes_ Tryd.func16 (by kernel_rfl) rfl #[.agg (fr 7 a1 (.slice V1 n1 cv) a3 a4 a5 x3 a7 a8 x6 x7 x8 x9), .agg (fr 25 b1 v2 b3 b4 b5 y3 b7 b8 y6 y7 y8 y9)] (wanted_on rfl rfl rfl (e88.trans rfl)) rfl rfl (by first | (simp only [List.map_toArray, List.map_cons, List.map_nil, Act.eval, Array.getD_eq_getD_getElem?, Option.getD_some, e89, e90, e88]; done) | (simp only [List.map_toArray, List.map_cons, List.map_nil, Act.eval, Array.getD_eq_getD_getElem?, Option.getD_some, e89, e90, e88]; rfl)) ?_
         refine (ans_calls (F_X.out.below HR.out) (F_Y.out.below HR.out) (AnsNo _ _ _ _ _ _ _ _ _ _ _ _ _ _ _ _ _ _ _ _ _ _ _ _ _ _ (by decide))).mono ?_
         rintro e w1 ⟨rfl, hb⟩
         refine ⟨_, rfl, ?_⟩
         refine hK.out _ _ ⟨z_, t_, (by rw [ha.out]; exact putSel_upk 13 hb_ rfl rfl rfl), blk_below B_p.out hb, blk_below B_x.out hb, blk_below B_y.out hb, below_step HB.out hb, below_step HR.out hb, fun h0_ => absurd ((hoff 21 (by kernel_rfl)).symm.trans h0_) (by decide), fun h0_ => absurd ((hoff 30 (by kernel_rfl)).symm.trans h0_) (by decide)⟩
       refine steps_cons ?_ ?_
       · rintro b a w' ⟨z_, t_, ha, Q_B_p, Q_B_x, Q_B_y, Q_HB, Q_HR, Q_Z_, Q_T_⟩ hb_ hon hoff
         refine ⟨_, rfl, fun K hK => ?_⟩
         have e91 : a.tmps[91]? = some (.bool false) := by rw [ha]; exact putSel_on (e := (13, 91, .bool false)) 13 rfl rfl (hon 13 (by kernel_rfl)) rfl
         have e88 : a.tmps[88]? = some (.bool true) := by rw [ha]; exact putSel_on (e := (10, 88, .bool true)) 10 rfl rfl (hon 10 (by kernel_rfl)) rfl
         replace ha := Aside0.mk ha
         have B_p := Aside0.mk Q_B_p
         have B_x := Aside0.mk Q_B_x
         have B_y := Aside0.mk Q_B_y
         have HB := Aside0.mk Q_HB
         have HR := Aside0.mk Q_HR
         refine value_ (w1 := w') (v := .bool true) (wanted_on rfl rfl rfl (e88.trans (by first | rfl | (simp [*]; done)))) rfl ?_ ?_
         · go_simp
           (try simp only [i64_w])
           try rfl
         refine hK.out _ _ ⟨z_, t_, (by rw [ha.out]; exact putSel_upk 14 hb_ rfl rfl rfl), Q_B_p, Q_B_x, Q_B_y, Q_HB, Q_HR, fun h0_ => absurd ((hoff 21 (by kernel_rfl)).symm.trans h0_) (by decide), fun h0_ => absurd ((hoff 30 (by kernel_rfl)).symm.trans h0_) (by decide)⟩
       refine steps_cons ?_ ?_
       · rintro b a w' ⟨z_, t_, ha, Q_B_p, Q_B_x, Q_B_y, Q_HB, Q_HR, Q_Z_, Q_T_⟩ hb_ hon hoff
         refine ⟨_, rfl, fun K hK => ?_⟩
         have e88 : a.tmps[88]? = some (.bool true) := by rw [ha]; exact putSel_on (e := (10, 88, .bool true)) 10 rfl rfl (hon 10 (by kernel_rfl)) rfl
         have e92 : a.tmps[92]? = some (.bool true) := by rw [ha]; exact putSel_on (e := (14, 92, .bool true)) 14 rfl rfl (hon 14 (by kernel_rfl)) rfl
         replace ha := Aside0.mk ha
         have B_p := Aside0.mk Q_B_p
         have B_x := Aside0.mk Q_B_x
         have B_y := Aside0.mk Q_B_y
         have HB := Aside0.mk Q_HB
         have HR := Aside0.mk Q_HR
         refine value_ (w1 := w') (v := .bool true) (by rfl) rfl ?_ ?_
         · go_simp
           (try simp only [i64_w])
           try rfl
         refine hK.out _ _ ⟨z_, t_, (by rw [ha.out]; exact putSel_upk 15 hb_ rfl rfl rfl), Q_B_p, Q_B_x, Q_B_y, Q_HB, Q_HR, fun h0_ => absurd ((hoff 21 (by kernel_rfl)).symm.trans h0_) (by decide), fun h0_ => absurd ((hoff 30 (by kernel_rfl)).symm.trans h0_) (by decide)⟩
       refine steps_cons ?_ ?_
       · rintro b a w' ⟨z_, t_, ha, Q_B_p, Q_B_x, Q_B_y, Q_HB, Q_HR, Q_Z_, Q_T_⟩ hb_ hon hoff
         refine ⟨_, rfl, fun K hK => ?_⟩
         have e93 : a.tmps[93]? = some (.bool true) := by rw [ha]; exact putSel_on (e := (15, 93, .bool true)) 15 rfl rfl (hon 15 (by kernel_rfl)) rfl
         replace ha := Aside0.mk ha
         have B_p := Aside0.mk Q_B_p
         have B_x := Aside0.mk Q_B_x
         have B_y := Aside0.mk Q_B_y
         have HB := Aside0.mk Q_HB
         have HR := Aside0.mk Q_HR
         refine value_ (w1 := w') (v := .bool true) (by rfl) rfl ?_ ?_
         · go_simp
           (try simp only [i64_w])
           try rfl
         refine hK.out _ _ ⟨z_, t_, (by rw [ha.out]; exact putSel_upk 16 hb_ rfl rfl rfl), Q_B_p, Q_B_x, Q_B_y, Q_HB, Q_HR, fun h0_ => absurd ((hoff 21 (by kernel_rfl)).symm.trans h0_) (by decide), fun h0_ => absurd ((hoff 30 (by kernel_rfl)).symm.trans h0_) (by decide)⟩
       refine steps_cons ?_ ?_
       · rintro b a w' ⟨z_, t_, ha, Q_B_p, Q_B_x, Q_B_y, Q_HB, Q_HR, Q_Z_, Q_T_⟩ hb_ hon hoff
         refine ⟨_, rfl, fun K hK => ?_⟩
         have e4 : a.tmps[4]? = some (.pointer (some ⟨g_p, 0, none⟩)) := by rw [ha]; exact (putSel_off rfl).trans rfl
         have e94 : a.tmps[94]? = some (.bool true) := by rw [ha]; exact putSel_on (e := (16, 94, .bool true)) 16 rfl rfl (hon 16 (by kernel_rfl)) rfl
         replace ha := Aside0.mk ha
         have B_p := Aside0.mk Q_B_p
         have B_x := Aside0.mk Q_B_x
         have B_y := Aside0.mk Q_B_y
         have HB := Aside0.mk Q_HB
         have HR := Aside0.mk Q_HR
         refine value_ (w1 := w') (v := .pointer (some ⟨g_p, 3, none⟩)) (wanted_on rfl rfl rfl (e94.trans (by first | rfl | (simp [*]; done)))) rfl ?_ ?_
         · go_simp
           (try simp only [i64_w])
           try rfl
         refine hK.out _ _ ⟨z_, t_, (by rw [ha.out]; exact putSel_upk 17 hb_ rfl rfl rfl), Q_B_p, Q_B_x, Q_B_y, Q_HB, Q_HR, Q_Z_, fun h0_ => absurd ((hoff 30 (by kernel_rfl)).symm.trans h0_) (by decide)⟩
       refine steps_cons ?_ ?_
       · rintro b a w' ⟨z_, t_, ha, Q_B_p, Q_B_x, Q_B_y, Q_HB, Q_HR, Q_Z_, Q_T_⟩ hb_ hon hoff
         refine ⟨_, rfl, fun K hK => ?_⟩
         have e95 : a.tmps[95]? = some (.pointer (some ⟨g_p, 3, none⟩)) := by rw [ha]; exact putSel_on (e := (17, 95, .pointer (some ⟨g_p, 3, none⟩))) 17 rfl rfl (hon 17 (by kernel_rfl)) rfl
         have e94 : a.tmps[94]? = some (.bool true) := by rw [ha]; exact putSel_on (e := (16, 94, .bool true)) 16 rfl rfl (hon 16 (by kernel_rfl)) rfl
         replace ha := Aside0.mk ha
         have B_p := Aside0.mk Q_B_p
         have B_x := Aside0.mk Q_B_x
         have B_y := Aside0.mk Q_B_y
         have HB := Aside0.mk Q_HB
         have HR := Aside0.mk Q_HR
         refine st_loadp (wanted_on rfl rfl rfl (e94.trans rfl)) rfl (eval_of e95) B_p.out (cells := (pk a3 a4 a5 u3 a7 a8 u6 u7 u8 u9)) (pk_at _ _ _ _ _ _ _ _ _ _ _ _ _) Tryd.underlying42 (by rfl) (by kernel_rfl) ?_
         refine hK.out _ _ ⟨z_, t_, (by rw [ha.out]; exact putSel_upk 18 hb_ rfl rfl rfl), B_p.out, B_x.out, B_y.out, HB.out, HR.out, fun h0_ => (Q_Z_ h0_), fun h0_ => absurd ((hoff 30 (by kernel_rfl)).symm.trans h0_) (by decide)⟩
       refine steps_cons ?_ ?_
       · rintro b a w' ⟨z_, t_, ha, Q_B_p, Q_B_x, Q_B_y, Q_HB, Q_HR, Q_Z_, Q_T_⟩ hb_ hon hoff
         refine ⟨_, rfl, fun K hK => ?_⟩
         have e9 : a.tmps[9]? = some (.pointer (some ⟨g_x, 0, none⟩)) := by rw [ha]; exact (putSel_off rfl).trans rfl
         have e94 : a.tmps[94]? = some (.bool true) := by rw [ha]; exact putSel_on (e := (16, 94, .bool true)) 16 rfl rfl (hon 16 (by kernel_rfl)) rfl
         replace ha := Aside0.mk ha
         have B_p := Aside0.mk Q_B_p
         have B_x := Aside0.mk Q_B_x
         have B_y := Aside0.mk Q_B_y
         have HB := Aside0.mk Q_HB
         have HR := Aside0.mk Q_HR
         refine value_ (w1 := w') (v := .pointer (some ⟨g_x, 3, none⟩)) (wanted_on rfl rfl rfl (e94.trans (by first | rfl | (simp [*]; done)))) rfl ?_ ?_
         · go_simp
           (try simp only [i64_w])
           try rfl
         refine hK.out _ _ ⟨z_, t_, (by rw [ha.out]; exact putSel_upk 19 hb_ rfl rfl rfl), Q_B_p, Q_B_x, Q_B_y, Q_HB, Q_HR, fun h0_ => absurd ((hoff 21 (by kernel_rfl)).symm.trans h0_) (by decide), fun h0_ => absurd ((hoff 30 (by kernel_rfl)).symm.trans h0_) (by decide)⟩
       refine steps_cons ?_ ?_
       · rintro b a w' ⟨z_, t_, ha, Q_B_p, Q_B_x, Q_B_y, Q_HB, Q_HR, Q_Z_, Q_T_⟩ hb_ hon hoff
         refine ⟨_, rfl, fun K hK => ?_⟩
         have e97 : a.tmps[97]? = some (.pointer (some ⟨g_x, 3, none⟩)) := by rw [ha]; exact putSel_on (e := (19, 97, .pointer (some ⟨g_x, 3, none⟩))) 19 rfl rfl (hon 19 (by kernel_rfl)) rfl
         have e94 : a.tmps[94]? = some (.bool true) := by rw [ha]; exact putSel_on (e := (16, 94, .bool true)) 16 rfl rfl (hon 16 (by kernel_rfl)) rfl
         replace ha := Aside0.mk ha
         have B_p := Aside0.mk Q_B_p
         have B_x := Aside0.mk Q_B_x
         have B_y := Aside0.mk Q_B_y
         have HB := Aside0.mk Q_HB
         have HR := Aside0.mk Q_HR
         refine st_loadp (wanted_on rfl rfl rfl (e94.trans rfl)) rfl (eval_of e97) B_x.out (cells := (pk a3 a4 a5 x3 a7 a8 x6 x7 x8 x9)) (pk_at _ _ _ _ _ _ _ _ _ _ _ _ _) Tryd.underlying29 (by rfl) (by kernel_rfl) ?_
         refine hK.out _ _ ⟨z_, t_, (by rw [ha.out]; exact putSel_upk 20 hb_ rfl rfl rfl), B_p.out, B_x.out, B_y.out, HB.out, HR.out, fun h0_ => absurd ((hoff 21 (by kernel_rfl)).symm.trans h0_) (by decide), fun h0_ => absurd ((hoff 30 (by kernel_rfl)).symm.trans h0_) (by decide)⟩
       refine steps_cons ?_ ?_
       · rintro b a w' ⟨z_, t_, ha, Q_B_p, Q_B_x, Q_B_y, Q_HB, Q_HR, Q_Z_, Q_T_⟩ hb_ hon hoff
         refine ⟨_, rfl, fun K hK => ?_⟩
         have e98 : a.tmps[98]? = some (.agg (pk a3 a4 a5 x3 a7 a8 x6 x7 x8 x9)) := by rw [ha]; exact putSel_on (e := (20, 98, .agg (pk a3 a4 a5 x3 a7 a8 x6 x7 x8 x9))) 20 rfl rfl (hon 20 (by kernel_rfl)) rfl
         have e94 : a.tmps[94]? = some (.bool true) := by rw [ha]; exact putSel_on (e := (16, 94, .bool true)) 16 rfl rfl (hon 16 (by kernel_rfl)) rfl
         replace ha := Aside0.mk ha
         have B_p := Aside0.mk Q_B_p
         have B_x := Aside0.mk Q_B_x
         have B_y := Aside0.mk Q_B_y
         have HB := Aside0.mk Q_HB
         have HR := Aside0.mk Q_HR
         refine goes_ Tryd.func19 (by kernel_rfl) rfl #[.agg (pk a3 a4 a5 x3 a7 a8 x6 x7 x8 x9)] (wanted_on rfl rfl rfl (e94.trans rfl)) rfl rfl (by first | (simp only [List.map_toArray, List.map_cons, List.map_nil, Act.eval, Array.getD_eq_getD_getElem?, Option.getD_some, e98, e94]; done) | (simp only [List.map_toArray, List.map_cons, List.map_nil, Act.eval, Array.getD_eq_getD_getElem?, Option.getD_some, e98, e94]; rfl)) ?_
         refine (to15_calls ((F_X.out.below HR.out).2.in_ _ _ _ _ _) HTO.out).mono ?_
         rintro e w1 ⟨y_, rfl, hv_, hb⟩
         refine ⟨_, rfl, ?_⟩
         refine hK.out _ _ ⟨y_, t_, (by rw [ha.out]; exact putSel_upk 21 hb_ rfl rfl rfl), blk_below B_p.out hb, blk_below B_x.out hb, blk_below B_y.out hb, below_step HB.out hb, below_step HR.out hb, fun _ => hv_, fun h0_ => absurd ((hoff 30 (by kernel_rfl)).symm.trans h0_) (by decide)⟩
       refine steps_cons ?_ ?_
       · rintro b a w' ⟨z_, t_, ha, Q_B_p, Q_B_x, Q_B_y, Q_HB, Q_HR, Q_Z_, Q_T_⟩ hb_ hon hoff
         refine ⟨_, rfl, fun K hK => ?_⟩
         have e96 : a.tmps[96]? = some (.agg (pk a3 a4 a5 u3 a7 a8 u6 u7 u8 u9)) := by rw [ha]; exact putSel_on (e := (18, 96, .agg (pk a3 a4 a5 u3 a7 a8 u6 u7 u8 u9))) 18 rfl rfl (hon 18 (by kernel_rfl)) rfl
         have e99 : a.tmps[99]? = some (z_) := by rw [ha]; exact putSel_on (e := (21, 99, z_)) 21 rfl rfl (hon 21 (by kernel_rfl)) rfl
         have e94 : a.tmps[94]? = some (.bool true) := by rw [ha]; exact putSel_on (e := (16, 94, .bool true)) 16 rfl rfl (hon 16 (by kernel_rfl)) rfl
         replace ha := Aside0.mk ha
         have B_p := Aside0.mk Q_B_p
         have B_x := Aside0.mk Q_B_x
         have B_y := Aside0.mk Q_B_y
         have HB := Aside0.mk Q_HB
         have HR := Aside0.mk Q_HR
         have Z_ := Aside0.mk (Q_Z_ (hon 21 (by kernel_rfl)))
         refine goes_ Tryd.func18 (by kernel_rfl) rfl #[.agg (pk a3 a4 a5 u3 a7 a8 u6 u7 u8 u9), z_] (wanted_on rfl rfl rfl (e94.trans rfl)) rfl rfl (by first | (simp only [List.map_toArray, List.map_cons, List.map_nil, Act.eval, Array.getD_eq_getD_getElem?, Option.getD_some, e96, e99, e94]; done) | (simp only [List.map_toArray, List.map_cons, List.map_nil, Act.eval, Array.getD_eq_getD_getElem?, Option.getD_some, e96, e99, e94]; rfl)) ?_
         refine (same15_calls ((hRP.out _ HB.out).2.in_ _ _ _ _ _) Z_.out HSM.out).mono ?_
         rintro e w1 ⟨rfl, hb⟩
         refine ⟨_, rfl, ?_⟩
         refine hK.out _ _ ⟨z_, t_, (by rw [ha.out]; exact putSel_upk 22 hb_ rfl rfl rfl), blk_below B_p.out hb, blk_below B_x.out hb, blk_below B_y.out hb, below_step HB.out hb, below_step HR.out hb, fun _ => Z_.out.below hb, fun h0_ => absurd ((hoff 30 (by kernel_rfl)).symm.trans h0_) (by decide)⟩
       refine steps_cons ?_ ?_
       · rintro b a w' ⟨z_, t_, ha, Q_B_p, Q_B_x, Q_B_y, Q_HB, Q_HR, Q_Z_, Q_T_⟩ hb_ hon hoff
         refine ⟨_, rfl, fun K hK => ?_⟩
         have e94 : a.tmps[94]? = some (.bool true) := by rw [ha]; exact putSel_on (e := (16, 94, .bool true)) 16 rfl rfl (hon 16 (by kernel_rfl)) rfl
         have e100 : a.tmps[100]? = some (.bool true) := by rw [ha]; exact putSel_on (e := (22, 100, .bool true)) 22 rfl rfl (hon 22 (by kernel_rfl)) rfl
         replace ha := Aside0.mk ha
         have B_p := Aside0.mk Q_B_p
         have B_x := Aside0.mk Q_B_x
         have B_y := Aside0.mk Q_B_y
         have HB := Aside0.mk Q_HB
         have HR := Aside0.mk Q_HR
         have Z_ := Aside0.mk (Q_Z_ (hon 21 (by kernel_rfl)))
         refine value_ (w1 := w') (v := .bool true) (by rfl) rfl ?_ ?_
         · go_simp
           (try simp only [i64_w])
           try rfl
         refine hK.out _ _ ⟨z_, t_, (by rw [ha.out]; exact putSel_upk 23 hb_ rfl rfl rfl), Q_B_p, Q_B_x, Q_B_y, Q_HB, Q_HR, Q_Z_, fun h0_ => absurd ((hoff 30 (by kernel_rfl)).symm.trans h0_) (by decide)⟩
       refine steps_cons ?_ ?_
       · rintro b a w' ⟨z_, t_, ha, Q_B_p, Q_B_x, Q_B_y, Q_HB, Q_HR, Q_Z_, Q_T_⟩ hb_ hon hoff
         refine ⟨_, rfl, fun K hK => ?_⟩
         have e101 : a.tmps[101]? = some (.bool true) := by rw [ha]; exact putSel_on (e := (23, 101, .bool true)) 23 rfl rfl (hon 23 (by kernel_rfl)) rfl
         replace ha := Aside0.mk ha
         have B_p := Aside0.mk Q_B_p
         have B_x := Aside0.mk Q_B_x
         have B_y := Aside0.mk Q_B_y
         have HB := Aside0.mk Q_HB
         have HR := Aside0.mk Q_HR
         have Z_ := Aside0.mk (Q_Z_ (hon 21 (by kernel_rfl)))
         refine value_ (w1 := w') (v := .bool true) (by rfl) rfl ?_ ?_
         · go_simp
           (try simp only [i64_w])
           try rfl
         refine hK.out _ _ ⟨z_, t_, (by rw [ha.out]; exact putSel_upk 24 hb_ rfl rfl rfl), Q_B_p, Q_B_x, Q_B_y, Q_HB, Q_HR, Q_Z_, fun h0_ => absurd ((hoff 30 (by kernel_rfl)).symm.trans h0_) (by decide)⟩
       refine steps_cons ?_ ?_
       · rintro b a w' ⟨z_, t_, ha, Q_B_p, Q_B_x, Q_B_y, Q_HB, Q_HR, Q_Z_, Q_T_⟩ hb_ hon hoff
         refine ⟨_, rfl, fun K hK => ?_⟩
         have e4 : a.tmps[4]? = some (.pointer (some ⟨g_p, 0, none⟩)) := by rw [ha]; exact (putSel_off rfl).trans rfl
         have e102 : a.tmps[102]? = some (.bool true) := by rw [ha]; exact putSel_on (e := (24, 102, .bool true)) 24 rfl rfl (hon 24 (by kernel_rfl)) rfl
         replace ha := Aside0.mk ha
         have B_p := Aside0.mk Q_B_p
         have B_x := Aside0.mk Q_B_x
         have B_y := Aside0.mk Q_B_y
         have HB := Aside0.mk Q_HB
         have HR := Aside0.mk Q_HR
         have Z_ := Aside0.mk (Q_Z_ (hon 21 (by kernel_rfl)))
         refine value_ (w1 := w') (v := .pointer (some ⟨g_p, 2, none⟩)) (wanted_on rfl rfl rfl (e102.trans (by first | rfl | (simp [*]; done)))) rfl ?_ ?_
         · go_simp
           (try simp only [i64_w])
           try rfl
         refine hK.out _ _ ⟨z_, t_, (by rw [ha.out]; exact putSel_upk 25 hb_ rfl rfl rfl), Q_B_p, Q_B_x, Q_B_y, Q_HB, Q_HR, Q_Z_, Q_T_⟩
       refine steps_cons ?_ ?_
       · rintro b a w' ⟨z_, t_, ha, Q_B_p, Q_B_x, Q_B_y, Q_HB, Q_HR, Q_Z_, Q_T_⟩ hb_ hon hoff
         refine ⟨_, rfl, fun K hK => ?_⟩
         have e103 : a.tmps[103]? = some (.pointer (some ⟨g_p, 2, none⟩)) := by rw [ha]; exact putSel_on (e := (25, 103, .pointer (some ⟨g_p, 2, none⟩))) 25 rfl rfl (hon 25 (by kernel_rfl)) rfl
         have e102 : a.tmps[102]? = some (.bool true) := by rw [ha]; exact putSel_on (e := (24, 102, .bool true)) 24 rfl rfl (hon 24 (by kernel_rfl)) rfl
         replace ha := Aside0.mk ha
         have B_p := Aside0.mk Q_B_p
         have B_x := Aside0.mk Q_B_x
         have B_y := Aside0.mk Q_B_y
         have HB := Aside0.mk Q_HB
         have HR := Aside0.mk Q_HR
         have Z_ := Aside0.mk (Q_Z_ (hon 21 (by kernel_rfl)))
         refine st_loadf (wanted_on rfl rfl rfl (e102.trans rfl)) rfl (eval_of e103) B_p.out rfl Tryd.underlying39 (by rfl) ?_
         refine hK.out _ _ ⟨z_, t_, (by rw [ha.out]; exact putSel_upk 26 hb_ rfl rfl rfl), B_p.out, B_x.out, B_y.out, HB.out, HR.out, fun _ => Z_.out, fun h0_ => (Q_T_ h0_)⟩
       refine steps_cons ?_ ?_
       · rintro b a w' ⟨z_, t_, ha, Q_B_p, Q_B_x, Q_B_y, Q_HB, Q_HR, Q_Z_, Q_T_⟩ hb_ hon hoff
         refine ⟨_, rfl, fun K hK => ?_⟩
         have e9 : a.tmps[9]? = some (.pointer (some ⟨g_x, 0, none⟩)) := by rw [ha]; exact (putSel_off rfl).trans rfl
         have e102 : a.tmps[102]? = some (.bool true) := by rw [ha]; exact putSel_on (e := (24, 102, .bool true)) 24 rfl rfl (hon 24 (by kernel_rfl)) rfl
         replace ha := Aside0.mk ha
         have B_p := Aside0.mk Q_B_p
         have B_x := Aside0.mk Q_B_x
         have B_y := Aside0.mk Q_B_y
         have HB := Aside0.mk Q_HB
         have HR := Aside0.mk Q_HR
         have Z_ := Aside0.mk (Q_Z_ (hon 21 (by kernel_rfl)))
         refine value_ (w1 := w') (v := .pointer (some ⟨g_x, 2, none⟩)) (wanted_on rfl rfl rfl (e102.trans (by first | rfl | (simp [*]; done)))) rfl ?_ ?_
         · go_simp
           (try simp only [i64_w])
           try rfl
         refine hK.out _ _ ⟨z_, t_, (by rw [ha.out]; exact putSel_upk 27 hb_ rfl rfl rfl), Q_B_p, Q_B_x, Q_B_y, Q_HB, Q_HR, Q_Z_, fun h0_ => absurd ((hoff 30 (by kernel_rfl)).symm.trans h0_) (by decide)⟩
       refine steps_cons ?_ ?_
       · rintro b a w' ⟨z_, t_, ha, Q_B_p, Q_B_x, Q_B_y, Q_HB, Q_HR, Q_Z_, Q_T_⟩ hb_ hon hoff
         refine ⟨_, rfl, fun K hK => ?_⟩
         have e105 : a.tmps[105]? = some (.pointer (some ⟨g_x, 2, none⟩)) := by rw [ha]; exact putSel_on (e := (27, 105, .pointer (some ⟨g_x, 2, none⟩))) 27 rfl rfl (hon 27 (by kernel_rfl)) rfl
         have e102 : a.tmps[102]? = some (.bool true) := by rw [ha]; exact putSel_on (e := (24, 102, .bool true)) 24 rfl rfl (hon 24 (by kernel_rfl)) rfl
         replace ha := Aside0.mk ha
         have B_p := Aside0.mk Q_B_p
         have B_x := Aside0.mk Q_B_x
         have B_y := Aside0.mk Q_B_y
         have HB := Aside0.mk Q_HB
         have HR := Aside0.mk Q_HR
         have Z_ := Aside0.mk (Q_Z_ (hon 21 (by kernel_rfl)))
         refine st_loadf (wanted_on rfl rfl rfl (e102.trans rfl)) rfl (eval_of e105) B_x.out rfl Tryd.underlying30 (by rfl) ?_
         refine hK.out _ _ ⟨z_, t_, (by rw [ha.out]; exact putSel_upk 28 hb_ rfl rfl rfl), B_p.out, B_x.out, B_y.out, HB.out, HR.out, fun _ => Z_.out, fun h0_ => absurd ((hoff 30 (by kernel_rfl)).symm.trans h0_) (by decide)⟩
       refine steps_cons ?_ ?_
       · rintro b a w' ⟨z_, t_, ha, Q_B_p, Q_B_x, Q_B_y, Q_HB, Q_HR, Q_Z_, Q_T_⟩ hb_ hon hoff
         refine ⟨_, rfl, fun K hK => ?_⟩
         have e106 : a.tmps[106]? = some ((.slice V1 n1 cv)) := by rw [ha]; exact putSel_on (e := (28, 106, (.slice V1 n1 cv))) 28 rfl rfl (hon 28 (by kernel_rfl)) rfl
         have e102 : a.tmps[102]? = some (.bool true) := by rw [ha]; exact putSel_on (e := (24, 102, .bool true)) 24 rfl rfl (hon 24 (by kernel_rfl)) rfl
         replace ha := Aside0.mk ha
         have B_p := Aside0.mk Q_B_p
         have B_x := Aside0.mk Q_B_x
         have B_y := Aside0.mk Q_B_y
         have HB := Aside0.mk Q_HB
         have HR := Aside0.mk Q_HR
         have Z_ := Aside0.mk (Q_Z_ (hon 21 (by kernel_rfl)))
         refine st_cut Tryd.underlying30 (wanted_on rfl rfl rfl (e102.trans rfl)) rfl (eval_of e106) (HCUT.out _) ?_
         refine hK.out _ _ ⟨z_, t_, (by rw [ha.out]; exact putSel_upk 29 hb_ rfl rfl rfl), B_p.out, B_x.out, B_y.out, HB.out, HR.out, fun _ => Z_.out, fun h0_ => absurd ((hoff 30 (by kernel_rfl)).symm.trans h0_) (by decide)⟩
       refine steps_cons ?_ ?_
       · rintro b a w' ⟨z_, t_, ha, Q_B_p, Q_B_x, Q_B_y, Q_HB, Q_HR, Q_Z_, Q_T_⟩ hb_ hon hoff
         refine ⟨_, rfl, fun K hK => ?_⟩
         have e107 : a.tmps[107]? = some ((.slice (if cv = 1 then V1 else V1.map (·.add (1 * 2))) (n1 - 1) (cv - 1))) := by rw [ha]; exact putSel_on (e := (29, 107, (.slice (if cv = 1 then V1 else V1.map (·.add (1 * 2))) (n1 - 1) (cv - 1)))) 29 rfl rfl (hon 29 (by kernel_rfl)) rfl
         have e102 : a.tmps[102]? = some (.bool true) := by rw [ha]; exact putSel_on (e := (24, 102, .bool true)) 24 rfl rfl (hon 24 (by kernel_rfl)) rfl
         replace ha := Aside0.mk ha
         have B_p := Aside0.mk Q_B_p
         have B_x := Aside0.mk Q_B_x
         have B_y := Aside0.mk Q_B_y
         have HB := Aside0.mk Q_HB
         have HR := Aside0.mk Q_HR
         have Z_ := Aside0.mk (Q_Z_ (hon 21 (by kernel_rfl)))
         refine goes_ Tryd.func21 (by kernel_rfl) rfl #[(.slice (if cv = 1 then V1 else V1.map (·.add (1 * 2))) (n1 - 1) (cv - 1))] (wanted_on rfl rfl rfl (e102.trans rfl)) rfl rfl (by first | (simp only [List.map_toArray, List.map_cons, List.map_nil, Act.eval, Array.getD_eq_getD_getElem?, Option.getD_some, e107, e102]; done) | (simp only [List.map_toArray, List.map_cons, List.map_nil, Act.eval, Array.getD_eq_getD_getElem?, Option.getD_some, e107, e102]; rfl)) ?_
         refine (to21_calls (rd_below F_CUT.out HR.out) HT21.out).mono ?_
         rintro e w1 ⟨y_, rfl, hv_, hb⟩
         refine ⟨_, rfl, ?_⟩
         refine hK.out _ _ ⟨z_, y_, (by rw [ha.out]; exact putSel_upk 30 hb_ rfl rfl rfl), blk_below B_p.out hb, blk_below B_x.out hb, blk_below B_y.out hb, below_step HB.out hb, below_step HR.out hb, fun _ => Z_.out.below hb, fun _ => hv_⟩
       refine steps_cons ?_ ?_
       · rintro b a w' ⟨z_, t_, ha, Q_B_p, Q_B_x, Q_B_y, Q_HB, Q_HR, Q_Z_, Q_T_⟩ hb_ hon hoff
         refine ⟨_, rfl, fun K hK => ?_⟩
         have e104 : a.tmps[104]? = some (u2) := by rw [ha]; exact putSel_on (e := (26, 104, u2)) 26 rfl rfl (hon 26 (by kernel_rfl)) rfl
         have e108 : a.tmps[108]? = some (t_) := by rw [ha]; exact putSel_on (e := (30, 108, t_)) 30 rfl rfl (hon 30 (by kernel_rfl)) rfl
         have e102 : a.tmps[102]? = some (.bool true) := by rw [ha]; exact putSel_on (e := (24, 102, .bool true)) 24 rfl rfl (hon 24 (by kernel_rfl)) rfl
         replace ha := Aside0.mk ha
         have B_p := Aside0.mk Q_B_p
         have B_x := Aside0.mk Q_B_x
         have B_y := Aside0.mk Q_B_y
         have HB := Aside0.mk Q_HB
         have HR := Aside0.mk Q_HR
         have Z_ := Aside0.mk (Q_Z_ (hon 21 (by kernel_rfl)))
         have T_ := Aside0.mk (Q_T_ (hon 30 (by kernel_rfl)))
         refine goes_ Tryd.func20 (by kernel_rfl) rfl #[u2, t_] (wanted_on rfl rfl rfl (e102.trans rfl)) rfl rfl (by first | (simp only [List.map_toArray, List.map_cons, List.map_nil, Act.eval, Array.getD_eq_getD_getElem?, Option.getD_some, e104, e108, e102]; done) | (simp only [List.map_toArray, List.map_cons, List.map_nil, Act.eval, Array.getD_eq_getD_getElem?, Option.getD_some, e104, e108, e102]; rfl)) ?_
         refine (same21_calls (rd_of_v (hRP.out _ HB.out).1) T_.out HS21.out).mono ?_
         rintro e w1 ⟨rfl, hb⟩
         refine ⟨_, rfl, ?_⟩
         refine hK.out _ _ ⟨z_, t_, (by rw [ha.out]; exact putSel_upk 31 hb_ rfl rfl rfl), blk_below B_p.out hb, blk_below B_x.out hb, blk_below B_y.out hb, below_step HB.out hb, below_step HR.out hb, fun _ => Z_.out.below hb, fun _ => rd_below T_.out hb⟩
       refine steps_cons ?_ ?_
       · rintro b a w' ⟨z_, t_, ha, Q_B_p, Q_B_x, Q_B_y, Q_HB, Q_HR, Q_Z_, Q_T_⟩ hb_ hon hoff
         refine ⟨_, rfl, fun K hK => ?_⟩
         have e102 : a.tmps[102]? = some (.bool true) := by rw [ha]; exact putSel_on (e := (24, 102, .bool true)) 24 rfl rfl (hon 24 (by kernel_rfl)) rfl
         have e109 : a.tmps[109]? = some (.bool true) := by rw [ha]; exact putSel_on (e := (31, 109, .bool true)) 31 rfl rfl (hon 31 (by kernel_rfl)) rfl
         replace ha := Aside0.mk ha
         have B_p := Aside0.mk Q_B_p
         have B_x := Aside0.mk Q_B_x
         have B_y := Aside0.mk Q_B_y
         have HB := Aside0.mk Q_HB
         have HR := Aside0.mk Q_HR
         have Z_ := Aside0.mk (Q_Z_ (hon 21 (by kernel_rfl)))
         have T_ := Aside0.mk (Q_T_ (hon 30 (by kernel_rfl)))
         refine value_ (w1 := w') (v := .bool true) (by rfl) rfl ?_ ?_
         · go_simp
           (try simp only [i64_w])
           try rfl
         refine hK.out _ _ ⟨z_, t_, (by rw [ha.out]; exact putSel_upk 32 hb_ rfl rfl rfl), Q_B_p, Q_B_x, Q_B_y, Q_HB, Q_HR, Q_Z_, Q_T_⟩
       refine steps_cons ?_ ?_
       · rintro b a w' ⟨z_, t_, ha, Q_B_p, Q_B_x, Q_B_y, Q_HB, Q_HR, Q_Z_, Q_T_⟩ hb_ hon hoff
         refine ⟨_, rfl, fun K hK => ?_⟩
         have e110 : a.tmps[110]? = some (.bool true) := by rw [ha]; exact putSel_on (e := (32, 110, .bool true)) 32 rfl rfl (hon 32 (by kernel_rfl)) rfl
         replace ha := Aside0.mk ha
         have B_p := Aside0.mk Q_B_p
         have B_x := Aside0.mk Q_B_x
         have B_y := Aside0.mk Q_B_y
         have HB := Aside0.mk Q_HB
         have HR := Aside0.mk Q_HR
         have Z_ := Aside0.mk (Q_Z_ (hon 21 (by kernel_rfl)))
         have T_ := Aside0.mk (Q_T_ (hon 30 (by kernel_rfl)))
         refine value_ (w1 := w') (v := .bool true) (by rfl) rfl ?_ ?_
         · go_simp
           (try simp only [i64_w])
           try rfl
         refine hK.out _ _ ⟨z_, t_, (by rw [ha.out]; exact putSel_upk 33 hb_ rfl rfl rfl), Q_B_p, Q_B_x, Q_B_y, Q_HB, Q_HR, Q_Z_, Q_T_⟩
       exact steps_nil
     · rintro b a w' hall ⟨z_, t_, ha, Q_B_p, Q_B_x, Q_B_y, Q_HB, Q_HR, Q_Z_, Q_T_⟩
       clear B_p B_x B_y HB HR
       have hb0_ := hall 0 (by kernel_rfl)
       have hb1_ := hall 1 (by kernel_rfl)
       have hb2_ := hall 2 (by kernel_rfl)
       have hb3_ := hall 3 (by kernel_rfl)
       have hb4_ := hall 4 (by kernel_rfl)
       have hb5_ := hall 5 (by kernel_rfl)
       have hb6_ := hall 6 (by kernel_rfl)
       have hb7_ := hall 7 (by kernel_rfl)
       have hb8_ := hall 8 (by kernel_rfl)
       have hb9_ := hall 9 (by kernel_rfl)
       have hb10_ := hall 10 (by kernel_rfl)
       have hb11_ := hall 11 (by kernel_rfl)
       have hb12_ := hall 12 (by kernel_rfl)
       have hb13_ := hall 13 (by kernel_rfl)
       have hb14_ := hall 14 (by kernel_rfl)
       have hb15_ := hall 15 (by kernel_rfl)
       have hb16_ := hall 16 (by kernel_rfl)
       have hb17_ := hall 17 (by kernel_rfl)
       have hb18_ := hall 18 (by kernel_rfl)
       have hb19_ := hall 19 (by kernel_rfl)
       have hb20_ := hall 20 (by kernel_rfl)
       have hb21_ := hall 21 (by kernel_rfl)
       have hb22_ := hall 22 (by kernel_rfl)
       have hb23_ := hall 23 (by kernel_rfl)
       have hb24_ := hall 24 (by kernel_rfl)
       have hb25_ := hall 25 (by kernel_rfl)
       have hb26_ := hall 26 (by kernel_rfl)
       have hb27_ := hall 27 (by kernel_rfl)
       have hb28_ := hall 28 (by kernel_rfl)
       have hb29_ := hall 29 (by kernel_rfl)
       have hb30_ := hall 30 (by kernel_rfl)
       have hb31_ := hall 31 (by kernel_rfl)
       have hb32_ := hall 32 (by kernel_rfl)
       have hb33_ := hall 33 (by kernel_rfl)
       subst ha
       simp only [putSel, hb0_, hb1_, hb2_, hb3_, hb4_, hb5_, hb6_, hb7_, hb8_, hb9_, hb10_, hb11_, hb12_, hb13_, hb14_, hb15_, hb16_, hb17_, hb18_, hb19_, hb20_, hb21_, hb22_, hb23_, hb24_, hb25_, hb26_, hb27_, hb28_, hb29_, hb30_, hb31_, hb32_, hb33_, if_true, Act.put, List.setIfInBounds_toArray, List.set_cons_zero, List.set_cons_succ]
       have B_p := Aside0.mk Q_B_p
       clear Q_B_p
       have B_x := Aside0.mk Q_B_x
       clear Q_B_x
       have B_y := Aside0.mk Q_B_y
       clear Q_B_y
       have HB := Aside0.mk Q_HB
       clear Q_HB
       have HR := Aside0.mk Q_HR
       clear Q_HR
       have Z_ := Aside0.mk (Q_Z_ hb21_)
       clear Q_Z_
       have T_ := Aside0.mk (Q_T_ hb30_)
       clear Q_T_
       clear hall hb0_ hb1_ hb2_ hb3_ hb4_ hb5_ hb6_ hb7_ hb8_ hb9_ hb10_ hb11_ hb12_ hb13_ hb14_ hb15_ hb16_ hb17_ hb18_ hb19_ hb20_ hb21_ hb22_ hb23_ hb24_ hb25_ hb26_ hb27_ hb28_ hb29_ hb30_ hb31_ hb32_ hb33_
       go_wp2
       all_goals go_ret
       all_goals exact ⟨rfl, HB.out⟩
end Go.Proofs.YteanncchmenlkaaDoor.Hw
namespace Go.Proofs.YteanncchmenlkaaDoor.Hw
open Go.RowKit Go.Proofs.YteanncchmenlkaaDoorW.PrintWords Go.Proofs.YteanncchmenlkaaDoorW.PrintLast Go.Proofs.YteanncchmenlkaaDoorW.PrintMore Go.Proofs.YteanncchmenlkaaDoor.Print Go.Proofs.YteanncchmenlkaaDoor.Sp Go.Proofs.YteanncchmenlkaaDoor.Pl
set_option linter.unusedVariables false
set_option linter.unusedSimpArgs false
theorem u16_of {n : Int} (h : (Lit.int .u16 n).wf = true) : Sq.U16 n := by
 have h2 : IntKind.u16.min ≤ n ∧ n ≤ IntKind.u16.max := by simpa [Lit.wf] using h
 have h3 : 0 ≤ n ∧ n ≤ 65535 := h2
 exact ⟨h3.1, by omega⟩
theorem heldq_of {l : List S85} (h : (l.length ≤ 9223372036854775807 ∧ l.length * 32 ≤ 140737488351232) ∧ ∀ y0_ ∈ l, ((Lit.int .u16 y0_.f0).wf = true ∧ ((y0_.f1.length ≤ 9223372036854775807 ∧ y0_.f1.length * 1 ≤ 140737488351232) ∧ ∀ y1_ ∈ y0_.f1, (Lit.int .u8 y1_).wf = true))) : Sq.Held l :=
 ⟨h.1.2, fun o ho => ⟨u16_of (h.2 o ho).1, by have := (h.2 o ho).2.1.2; omega, bytes_of_wf (h.2 o ho).2.2⟩⟩
theorem totq {o : S85} : ∀ {l : List S85}, o ∈ l → o.f1.length ≤ Sq.tot l
 | a :: t, h => by
  unfold Sq.tot
  rcases List.mem_cons.1 h with rfl | h
  · omega
  · have := totq h; omega
theorem totp {o : S105} : ∀ {l : List S105}, o ∈ l → o.f1.length ≤ Sp.tot l
 | a :: t, h => by
  unfold Sp.tot
  rcases List.mem_cons.1 h with rfl | h
  · omega
  · have := totp h; omega
theorem eans_walk (a0_0 : Int) (a0_1 : Int) (A0_2 : Option Addr) (c0_2 : Nat) (l0_2 : List (S85)) (a0_3 : Int) (a0_4 : Int) (a0_5 : Int) (A0_6 : Option Addr) (c0_6 : Nat) (l0_6 : List (S105)) (a0_7 : Int) (a0_8 : Int) (A0_9 : Option Addr) (c0_9 : Nat) (l0_9 : List Int) (A0_10 : Option Addr) (c0_10 : Nat) (l0_10 : List Int) (A0_11 : Option Addr) (c0_11 : Nat) (l0_11 : List Int) (A0_12 : Option Addr) (c0_12 : Nat) (l0_12 : List Int) (a1_0 : Int) (a1_1 : Int) (A1_2 : Option Addr) (c1_2 : Nat) (l1_2 : List (S85)) (a1_3 : Int) (a1_4 : Int) (a1_5 : Int) (A1_6 : Option Addr) (c1_6 : Nat) (l1_6 : List (S105)) (a1_7 : Int) (a1_8 : Int) (A1_9 : Option Addr) (c1_9 : Nat) (l1_9 : List Int) (A1_10 : Option Addr) (c1_10 : Nat) (l1_10 : List Int) (A1_11 : Option Addr) (c1_11 : Nat) (l1_11 : List Int) (A1_12 : Option Addr) (c1_12 : Nat) (l1_12 : List Int) (A2 : Option Addr) (c2 : Nat) (l2 : List Int) (A3 : Option Addr) (c3 : Nat) (l3 : List Int) (w : World) (hGL : GE w) (hw0_0 : (Lit.int .u8 a0_0).wf = true) (hw0_1 : (Lit.int .u16 a0_1).wf = true) (hr0_2 : Kd.C k85 w A0_2 l0_2.length l0_2) (hc0_2 : l0_2.length ≤ c0_2) (hw0_2 : ((l0_2.length ≤ 9223372036854775807 ∧ l0_2.length * 32 ≤ 140737488351232) ∧ ∀ y0_ ∈ l0_2, ((Lit.int .u16 y0_.f0).wf = true ∧ ((y0_.f1.length ≤ 9223372036854775807 ∧ y0_.f1.length * 1 ≤ 140737488351232) ∧ ∀ y1_ ∈ y0_.f1, (Lit.int .u8 y1_).wf = true)))) (hw0_3 : (Lit.int .u16 a0_3).wf = true) (hw0_4 : (Lit.int .u8 a0_4).wf = true) (hw0_5 : (Lit.int .u8 a0_5).wf = true) (hr0_6 : Kd.C k105 w A0_6 l0_6.length l0_6) (hc0_6 : l0_6.length ≤ c0_6) (hw0_6 : ((l0_6.length ≤ 9223372036854775807 ∧ l0_6.length * 32 ≤ 140737488351232) ∧ ∀ y0_ ∈ l0_6, ((Lit.int .u8 y0_.f0).wf = true ∧ ((y0_.f1.length ≤ 9223372036854775807 ∧ y0_.f1.length * 1 ≤ 140737488351232) ∧ ∀ y1_ ∈ y0_.f1, (Lit.int .u8 y1_).wf = true)))) (hw0_7 : (Lit.int .u16 a0_7).wf = true) (hw0_8 : (Lit.int .u32 a0_8).wf = true) (hr0_9 : Kd.C (Kd.int .u8) w A0_9 l0_9.length l0_9) (hc0_9 : l0_9.length ≤ c0_9) (hw0_9 : ((l0_9.length ≤ 9223372036854775807 ∧ l0_9.length * 1 ≤ 140737488351232) ∧ ∀ y0_ ∈ l0_9, (Lit.int .u8 y0_).wf = true)) (hr0_10 : Kd.C (Kd.int .u8) w A0_10 l0_10.length l0_10) (hc0_10 : l0_10.length ≤ c0_10) (hw0_10 : ((l0_10.length ≤ 9223372036854775807 ∧ l0_10.length * 1 ≤ 140737488351232) ∧ ∀ y0_ ∈ l0_10, (Lit.int .u8 y0_).wf = true)) (hr0_11 : Kd.C (Kd.int .u8) w A0_11 l0_11.length l0_11) (hc0_11 : l0_11.length ≤ c0_11) (hw0_11 : ((l0_11.length ≤ 9223372036854775807 ∧ l0_11.length * 1 ≤ 140737488351232) ∧ ∀ y0_ ∈ l0_11, (Lit.int .u8 y0_).wf = true)) (hr0_12 : Kd.C (Kd.int .u32) w A0_12 l0_12.length l0_12) (hc0_12 : l0_12.length ≤ c0_12) (hw0_12 : ((l0_12.length ≤ 9223372036854775807 ∧ l0_12.length * 4 ≤ 140737488351232) ∧ ∀ y0_ ∈ l0_12, (Lit.int .u32 y0_).wf = true)) (hw1_0 : (Lit.int .u8 a1_0).wf = true) (hw1_1 : (Lit.int .u16 a1_1).wf = true) (hr1_2 : Kd.C k85 w A1_2 l1_2.length l1_2) (hc1_2 : l1_2.length ≤ c1_2) (hw1_2 : ((l1_2.length ≤ 9223372036854775807 ∧ l1_2.length * 32 ≤ 140737488351232) ∧ ∀ y0_ ∈ l1_2, ((Lit.int .u16 y0_.f0).wf = true ∧ ((y0_.f1.length ≤ 9223372036854775807 ∧ y0_.f1.length * 1 ≤ 140737488351232) ∧ ∀ y1_ ∈ y0_.f1, (Lit.int .u8 y1_).wf = true)))) (hw1_3 : (Lit.int .u16 a1_3).wf = true) (hw1_4 : (Lit.int .u8 a1_4).wf = true) (hw1_5 : (Lit.int .u8 a1_5).wf = true) (hr1_6 : Kd.C k105 w A1_6 l1_6.length l1_6) (hc1_6 : l1_6.length ≤ c1_6) (hw1_6 : ((l1_6.length ≤ 9223372036854775807 ∧ l1_6.length * 32 ≤ 140737488351232) ∧ ∀ y0_ ∈ l1_6, ((Lit.int .u8 y0_.f0).wf = true ∧ ((y0_.f1.length ≤ 9223372036854775807 ∧ y0_.f1.length * 1 ≤ 140737488351232) ∧ ∀ y1_ ∈ y0_.f1, (Lit.int .u8 y1_).wf = true)))) (hw1_7 : (Lit.int .u16 a1_7).wf = true) (hw1_8 : (Lit.int .u32 a1_8).wf = true) (hr1_9 : Kd.C (Kd.int .u8) w A1_9 l1_9.length l1_9) (hc1_9 : l1_9.length ≤ c1_9) (hw1_9 : ((l1_9.length ≤ 9223372036854775807 ∧ l1_9.length * 1 ≤ 140737488351232) ∧ ∀ y0_ ∈ l1_9, (Lit.int .u8 y0_).wf = true)) (hr1_10 : Kd.C (Kd.int .u8) w A1_10 l1_10.length l1_10) (hc1_10 : l1_10.length ≤ c1_10) (hw1_10 : ((l1_10.length ≤ 9223372036854775807 ∧ l1_10.length * 1 ≤ 140737488351232) ∧ ∀ y0_ ∈ l1_10, (Lit.int .u8 y0_).wf = true)) (hr1_11 : Kd.C (Kd.int .u8) w A1_11 l1_11.length l1_11) (hc1_11 : l1_11.length ≤ c1_11) (hw1_11 : ((l1_11.length ≤ 9223372036854775807 ∧ l1_11.length * 1 ≤ 140737488351232) ∧ ∀ y0_ ∈ l1_11, (Lit.int .u8 y0_).wf = true)) (hr1_12 : Kd.C (Kd.int .u32) w A1_12 l1_12.length l1_12) (hc1_12 : l1_12.length ≤ c1_12) (hw1_12 : ((l1_12.length ≤ 9223372036854775807 ∧ l1_12.length * 4 ≤ 140737488351232) ∧ ∀ y0_ ∈ l1_12, (Lit.int .u32 y0_).wf = true)) (hr2 : Kd.C (Kd.int .u8) w A2 l2.length l2) (hc2 : l2.length ≤ c2) (hm2 : l2.length ≤ maxLen) (y2 : l2.length * 1 ≤ 140737488351232) (hw2 : ∀ x ∈ l2, (Lit.int .u8 x).wf = true) (hr3 : Kd.C (Kd.int .u8) w A3 l3.length l3) (hc3 : l3.length ≤ c3) (hm3 : l3.length ≤ maxLen) (y3 : l3.length * 1 ≤ 140737488351232) (hw3 : ∀ x ∈ l3, (Lit.int .u8 x).wf = true) :
 Calls Tryd.prog 4 #[.agg #[.int .u8 a0_0, .int .u16 a0_1, .slice A0_2 l0_2.length c0_2, .int .u16 a0_3, .int .u8 a0_4, .int .u8 a0_5, .slice A0_6 l0_6.length c0_6, .int .u16 a0_7, .int .u32 a0_8, .slice A0_9 l0_9.length c0_9, .slice A0_10 l0_10.length c0_10, .slice A0_11 l0_11.length c0_11, .slice A0_12 l0_12.length c0_12], .agg #[.int .u8 a1_0, .int .u16 a1_1, .slice A1_2 l1_2.length c1_2, .int .u16 a1_3, .int .u8 a1_4, .int .u8 a1_5, .slice A1_6 l1_6.length c1_6, .int .u16 a1_7, .int .u32 a1_8, .slice A1_9 l1_9.length c1_9, .slice A1_10 l1_10.length c1_10, .slice A1_11 l1_11.length c1_11, .slice A1_12 l1_12.length c1_12], .slice A2 l2.length c2, .slice A3 l3.length c3] w fun e w' => e = .returned (.bool true) ∧ Below w.heap.size w w' := by
 have Ho := held_of hw0_6
 have Hq := held_of hw1_6
 have Ht := heldq_of hw0_2
 have Hu := heldq_of hw1_2
 obtain ⟨k0, h0⟩ := Ev.rounds (Sq.Few22 a0_0 a0_1 l0_2 a0_3 a0_4 a0_5 l0_6 a0_7 a0_8 l0_9 l0_10 l0_11 l0_12 Ht Ho)
 obtain ⟨k1, h1⟩ := Ev.rounds (Sq.Few22 a1_0 a1_1 l1_2 a1_3 a1_4 a1_5 l1_6 a1_7 a1_8 l1_9 l1_10 l1_11 l1_12 Hu Hq)
 have r0 : ∀ W, Below w.heap.size w W → FrR k85 k105 W (fun k => k < w.heap.size) (.slice A0_2 l0_2.length c0_2) (.slice A0_6 l0_6.length c0_6) (.slice A0_9 l0_9.length c0_9) (.slice A0_10 l0_10.length c0_10) (.slice A0_11 l0_11.length c0_11) (.slice A0_12 l0_12.length c0_12) l0_2 l0_6 l0_9 l0_10 l0_11 l0_12 := fun W hb => ⟨Kd.V_mk hc0_2 (Kd.F_below (Kd.C_F k85_heap hr0_2) hb), Kd.V_mk hc0_6 (Kd.F_below (Kd.C_F k105_heap hr0_6) hb), Kd.V_mk hc0_9 (Kd.F_below (Kd.C_F (Kd.heap_int .u8) hr0_9) hb), Kd.V_mk hc0_10 (Kd.F_below (Kd.C_F (Kd.heap_int .u8) hr0_10) hb), Kd.V_mk hc0_11 (Kd.F_below (Kd.C_F (Kd.heap_int .u8) hr0_11) hb), Kd.V_mk hc0_12 (Kd.F_below (Kd.C_F (Kd.heap_int .u32) hr0_12) hb)⟩
 have r1 : ∀ W, Below w.heap.size w W → FrR k85 k105 W (fun k => k < w.heap.size) (.slice A1_2 l1_2.length c1_2) (.slice A1_6 l1_6.length c1_6) (.slice A1_9 l1_9.length c1_9) (.slice A1_10 l1_10.length c1_10) (.slice A1_11 l1_11.length c1_11) (.slice A1_12 l1_12.length c1_12) l1_2 l1_6 l1_9 l1_10 l1_11 l1_12 := fun W hb => ⟨Kd.V_mk hc1_2 (Kd.F_below (Kd.C_F k85_heap hr1_2) hb), Kd.V_mk hc1_6 (Kd.F_below (Kd.C_F k105_heap hr1_6) hb), Kd.V_mk hc1_9 (Kd.F_below (Kd.C_F (Kd.heap_int .u8) hr1_9) hb), Kd.V_mk hc1_10 (Kd.F_below (Kd.C_F (Kd.heap_int .u8) hr1_10) hb), Kd.V_mk hc1_11 (Kd.F_below (Kd.C_F (Kd.heap_int .u8) hr1_11) hb), Kd.V_mk hc1_12 (Kd.F_below (Kd.C_F (Kd.heap_int .u32) hr1_12) hb)⟩
 refine eans w a0_0 a0_1 a0_3 a0_4 a0_5 a0_7 a0_8 a1_0 a1_1 a1_3 a1_4 a1_5 a1_7 a1_8 _ _ _ _ _ _ _ _ _ _ _ _ l0_2 l1_2 l0_6 l1_6 l0_9 l0_10 l0_11 l0_12 l1_9 l1_10 l1_11 l1_12 l2 l3 A2 A3 c2 c3 hGL r0 r1 (Kd.V_mk hc2 (Kd.C_F (Kd.heap_int .u8) hr2)) (Kd.V_mk hc3 (Kd.C_F (Kd.heap_int .u8) hr3)) _ _ k0 k1 h0 h1 (fun h => ?_) (fun h => ?_) (fun x hx => bytes_of_wf (hw0_2.2 x hx).2.2) (bytes_of_wf hw2) (bytes_of_wf hw3)
 · obtain ⟨ha, hb⟩ := Bool.and_eq_true_iff.1 h
   have ha := of_decide_eq_true ha
   have hb := of_decide_eq_true hb
   exact ⟨by omega, fun x hx => by have := totq hx; omega, by omega, by omega, by omega, by omega, by omega, fun x hx => by have := totp hx; unfold Lim; omega⟩
 · obtain ⟨ha, hb⟩ := Bool.and_eq_true_iff.1 h
   have ha := of_decide_eq_true ha
   have hb := of_decide_eq_true hb
   exact ⟨by omega, fun x hx => by have := totq hx; omega, by omega⟩
end Go.Proofs.YteanncchmenlkaaDoor.Hw
