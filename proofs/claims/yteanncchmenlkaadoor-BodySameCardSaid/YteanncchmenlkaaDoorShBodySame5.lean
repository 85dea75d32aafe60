/- Texts of this claim, several in one, told shortly by a program of this claim (wip/x/shrink.py): what Go functions come to, and plain words on it. -/
import Derived.Test.YteanncchmenlkaaDoorShBodySame3
import Derived.Test.YteanncchmenlkaaDoorShBodySame4
namespace Go.Proofs.YteanncchmenlkaaDoor.Sp
open Go.RowKit Go.Proofs.YteanncchmenlkaaDoor.Print Go.Proofs.YteanncchmenlkaaDoorW.PrintWords Go.Proofs.YteanncchmenlkaaDoorW.PrintLast Go.Proofs.YteanncchmenlkaaDoor.Pl
set_option linter.unusedVariables false
theorem Ev.pos {α : Type} {c : Prop} [Decidable c] {g h : Nat → Option α} {r : α} (hc : c) (k : Ev g r) : Ev (fun n => if c then g n else h n) r :=
 Ev.congr (fun n => if_pos hc) k
theorem Ev.neg {α : Type} {c : Prop} [Decidable c] {g h : Nat → Option α} {r : α} (hc : ¬ c) (k : Ev h r) : Ev (fun n => if c then g n else h n) r :=
 Ev.congr (fun n => if_neg hc) k
theorem Ev.end_ {α : Type} {x r : α} (h : x = r) : Ev (fun _ => some x) r := h ▸ Ev.now _
def Lim (l : List Int) : Prop := l.length ≤ 1000000
theorem suc (i : Nat) (h : i ≤ 2000000) : wrap64 ((i : Int) + 1) = ((i + 1 : Nat) : Int) := by rw [w64 (by omega) (by omega)]; omega
theorem Equal_l0 (a b : List Int) (hl : a.length = b.length) (ha : Lim a) : ∀ (t u : List Int) (i : Nat), a.drop i = t → b.drop i = u → Ev (fun k => marlineref01_Equal.l0 k a b i) (decide (t = u))
 | [], u, i, h1, h2 => by
  have h3 := drop_nil_len h1
  have h4 := drop_len h2
  obtain rfl : u = [] := List.eq_nil_of_length_eq_zero (by omega)
  exact Ev.step (fun k => by simp only [marlineref01_Equal.l0]; rw [if_neg (by omega)]; rfl) (Ev.now _)
 | x :: t, u, i, h1, h2 => by
  obtain ⟨e1, e2, e3⟩ := rd_drop h1
  cases u with
  | nil => have := drop_nil_len h2; omega
  | cons y u =>
   obtain ⟨f1, f2, f3⟩ := rd_drop h2
   unfold Lim at ha
   by_cases hxy : x = y
   · subst hxy
     have ih := Equal_l0 a b hl ha t u (i + 1) e2 f2
     rw [show decide (x :: t = x :: u) = decide (t = u) by simp]
     exact Ev.step (fun k => by simp only [marlineref01_Equal.l0]; rw [if_pos (by omega), if_pos (by omega), if_pos (by omega), e1, f1, if_pos rfl, suc i (by omega)]) ih
   · rw [show decide (x :: t = y :: u) = false by simp [hxy]]
     exact Ev.step (fun k => by simp only [marlineref01_Equal.l0]; rw [if_pos (by omega), if_pos (by omega), if_pos (by omega), e1, f1, if_neg hxy]) (Ev.now _)
theorem Equal (a b : List Int) (ha : Lim a) : Ev (fun k => marlineref01_Equal.f k a b) (decide (a = b)) := by
 by_cases hl : a.length = b.length
 · exact Ev.congr (fun k => by unfold marlineref01_Equal.f; rw [if_pos (by omega)]; rfl) (Equal_l0 a b hl ha a b 0 rfl rfl)
 · rw [show decide (a = b) = false by simp; rintro rfl; exact hl rfl]
   exact Ev.congr (fun k => by unfold marlineref01_Equal.f; rw [if_neg (by omega)]) (Ev.now _)
end Go.Proofs.YteanncchmenlkaaDoor.Sp
namespace Go.Proofs.YteanncchmenlkaaDoor.Sp
open Go.RowKit Go.Proofs.YteanncchmenlkaaDoor.Print Go.Proofs.YteanncchmenlkaaDoorW.PrintWords Go.Proofs.YteanncchmenlkaaDoorW.PrintLast Go.Proofs.YteanncchmenlkaaDoor.Pl
set_option linter.unusedVariables false
abbrev AO := S62
abbrev RO := S105
def ao (o : RO) : AO := ⟨o.f0, o.f1⟩
instance decAO : DecidableEq AO := fun a b => decidable_of_iff (a.f0 = b.f0 ∧ a.f1 = b.f1) (by cases a; cases b; simp)
theorem drop_get {α : Type} {z : α} {xs : List α} {i : Nat} {b : α} {t : List α} (h : xs.drop i = b :: t) : xs.getD ((i : Int)).toNat z = b ∧ xs.drop (i + 1) = t ∧ i < xs.length := by
 have hlt : i < xs.length := by
  rcases Nat.lt_or_ge i xs.length with h1 | h1
  · exact h1
  · rw [List.drop_eq_nil_of_le h1] at h; cases h
 rw [List.drop_eq_getElem_cons hlt] at h
 injection h with h1 h2
 refine ⟨?_, h2, hlt⟩
 rw [Int.toNat_natCast, List.getD_eq_getElem?_getD, List.getElem?_eq_getElem hlt]
 exact h1
theorem rdr {xs : List RO} {i : Nat} {b : RO} {t : List RO} (h : xs.drop i = b :: t) : rd_T105 xs (i : Int) = b ∧ xs.drop (i + 1) = t ∧ i < xs.length := drop_get h
theorem nil_len {α : Type} {xs : List α} {i : Nat} (h : xs.drop i = []) : xs.length ≤ i := List.drop_eq_nil_iff.1 h
theorem sucB (i : Nat) (h : i ≤ 4611686018427387904) : wrap64 ((i : Int) + 1) = ((i + 1 : Nat) : Int) := by rw [w64 (by omega) (by omega)]; omega
def tot : List RO → Nat
 | [] => 0
 | o :: t => o.f1.length + tot t
def Held (l : List RO) : Prop := l.length * 32 ≤ 140737488351232 ∧ ∀ o ∈ l, Byte o.f0 ∧ o.f1.length ≤ 140737488351232 ∧ Bytes o.f1
theorem tot_le : ∀ (t : List RO), (∀ o ∈ t, o.f1.length ≤ 140737488351232) → tot t ≤ t.length * 140737488351232
 | [], _ => by simp [tot]
 | o :: t, h => by
  have := tot_le t (fun o ho => h o (by simp [ho]))
  have := h o (by simp)
  simp only [tot, List.length_cons]
  omega
theorem Few_l0 (l : List RO) (hl : l.length ≤ 4398046511104) (hd : ∀ o ∈ l, o.f1.length ≤ 140737488351232) : ∀ (t : List RO) (i : Nat) (x : Int), l.drop i = t →
 ∃ y : Int, Ev (fun k => marlinelaw12_Few.l0 k l x l (l.length : Int) i) (if (l.length : Int) ≤ 60 then decide (y ≤ 1000) else false) ∧ (l.length ≤ 60 → 0 ≤ x → x + tot t ≤ 4611686018427387904 → y = x + tot t)
 | [], i, x, h => by
  have h3 := nil_len h
  refine ⟨x, ?_, fun _ _ _ => by simp [tot]⟩
  by_cases h6 : (l.length : Int) ≤ 60
  · rw [if_pos h6]
    exact Ev.step (fun k => by simp only [marlinelaw12_Few.l0]; rw [if_neg (by omega), if_pos h6]) (Ev.now _)
  · rw [if_neg h6]
    exact Ev.step (fun k => by simp only [marlinelaw12_Few.l0]; rw [if_neg (by omega), if_neg h6]) (Ev.now _)
 | o :: t, i, x, h => by
  obtain ⟨e1, e2, e3⟩ := rdr h
  obtain ⟨y, ih, hy⟩ := Few_l0 l hl hd t (i + 1) (wrap64 (x + (o.f1.length : Int))) e2
  refine ⟨y, Ev.step (fun k => ?_) ih, fun h6 h0 hx => ?_⟩
  · simp only [marlinelaw12_Few.l0]
    rw [if_pos (by omega), if_pos (by omega), if_pos (by omega), e1, sucB i (by omega)]
  · simp only [tot, Int.natCast_add] at hx ⊢
    have e : wrap64 (x + (o.f1.length : Int)) = x + o.f1.length := w64 (by omega) (by omega)
    rw [e] at hy
    rw [hy h6 (by omega) (by omega)]
    omega
theorem FewL (l : List RO) (hl : Held l) : Ev (fun k => marlinelaw12_Few.f k l) (decide (l.length ≤ 60 ∧ tot l ≤ 1000)) := by
 unfold marlinelaw12_Few.f
 have hd : ∀ o ∈ l, o.f1.length ≤ 140737488351232 := fun o ho => (hl.2 o ho).2.1
 have h1 := hl.1
 obtain ⟨y, hE, hy⟩ := Few_l0 l (by omega) hd l 0 0 rfl
 have ht := tot_le l hd
 have e : (if (l.length : Int) ≤ 60 then decide (y ≤ 1000) else false) = decide (l.length ≤ 60 ∧ tot l ≤ 1000) := by
  by_cases h6 : l.length ≤ 60
  · rw [if_pos (by omega), hy h6 (by omega) (by omega)]
    simp only [h6, true_and, decide_eq_decide]
    omega
  · rw [if_neg (by omega)]
    simp [h6]
 rw [← e]
 exact hE
theorem Of_l0 (l : List RO) (hl : l.length ≤ 1000000) : ∀ (t : List RO) (i : Nat) (x : List AO), l.drop i = t → x.length + t.length ≤ 1000000 →
 Ev (fun k => marlinelaw12_Of.l0 k x l (l.length : Int) i) (x ++ t.map ao)
 | [], i, x, h, _ => by
  have h3 := nil_len h
  rw [List.map_nil, List.append_nil]
  exact Ev.step (fun k => by simp only [marlinelaw12_Of.l0]; rw [if_neg (by omega)]) (Ev.now _)
 | o :: t, i, x, h, hx => by
  obtain ⟨e1, e2, e3⟩ := rdr h
  simp only [List.length_cons] at hx
  have ih := Of_l0 l hl t (i + 1) (x ++ [ao o]) e2 (by simp; omega)
  rw [List.map_cons, show x ++ ao o :: t.map ao = (x ++ [ao o]) ++ t.map ao by simp]
  refine Ev.step (fun k => ?_) ih
  simp only [marlinelaw12_Of.l0]
  rw [if_pos (by omega), if_pos (by omega), if_pos (by omega), if_pos (by omega), e1, sucB i (by omega)]
  rfl
theorem OfL (l : List RO) (hl : l.length ≤ 1000000) : Ev (fun k => marlinelaw12_Of.f k l) (l.map ao) := Of_l0 l hl l 0 [] rfl (by simpa using hl)
def size : List AO → Nat
 | [] => 0
 | o :: t => 2 + o.f1.length + size t
end Go.Proofs.YteanncchmenlkaaDoor.Sp
namespace Go.Proofs.YteanncchmenlkaaDoor.Sp
open Go.RowKit Go.Proofs.YteanncchmenlkaaDoor.Print Go.Proofs.YteanncchmenlkaaDoorW.PrintWords Go.Proofs.YteanncchmenlkaaDoorW.PrintLast Go.Proofs.YteanncchmenlkaaDoor.Pl
set_option linter.unusedVariables false
theorem ba_toList (s : ByteArray) : s.toList = s.data.toList := by
 have key : ∀ (n i : Nat) (r : List UInt8), s.size - i = n → ByteArray.toList.loop s i r = r.reverse ++ s.data.toList.drop i := by
  intro n
  induction n with
  | zero =>
   intro i r h
   unfold ByteArray.toList.loop
   rw [if_neg (by omega), List.drop_eq_nil_of_le (by show s.data.toList.length ≤ i; simp only [Array.length_toList]; have : s.data.size = s.size := rfl; omega), List.append_nil]
  | succ n ih =>
   intro i r h
   unfold ByteArray.toList.loop
   have hi : i < s.data.toList.length := by simp only [Array.length_toList]; have : s.data.size = s.size := rfl; omega
   rw [if_pos (by omega), ih (i + 1) _ (by omega), List.reverse_cons, List.append_assoc, List.drop_eq_getElem_cons hi]
   congr 1
   rw [List.singleton_append]
   congr 1
   show s.data[i]! = _
   rw [getElem!_pos s.data i (by simpa using hi)]
   simp
 have := key (s.size - 0) 0 [] rfl
 simpa [ByteArray.toList] using this
theorem octs_inj : ∀ {a b : List Int}, Bytes a → Bytes b → (a.map fun n => UInt8.ofNat n.toNat) = (b.map fun n => UInt8.ofNat n.toNat) → a = b
 | [], [], _, _, _ => rfl
 | [], _ :: _, _, _, h => by simp at h
 | _ :: _, [], _, _, h => by simp at h
 | x :: a, y :: b, ha, hb, h => by
  simp only [List.map_cons, List.cons.injEq] at h
  have e := octs_inj ha.tail hb.tail h.2
  have h1 := congrArg UInt8.toNat h.1
  have hx := ha.head; have hy := hb.head
  simp only [UInt8.toNat_ofNat'] at h1
  have hx0 := hx.1; have hx1 := hx.2; have hy0 := hy.1; have hy1 := hy.2
  rw [Nat.mod_eq_of_lt (by omega), Nat.mod_eq_of_lt (by omega)] at h1
  rw [e, show x = y by omega]
theorem sameOct {a b : List Int} (ha : Bytes a) (hb : Bytes b) : ((strOfNums a).toList == (strOfNums b).toList) = decide (a = b) := by
 rw [ba_toList, ba_toList]
 by_cases h : a = b
 · subst h; simp
 · have h2 : ¬ (strOfNums a).data.toList = (strOfNums b).data.toList := fun e => h (octs_inj ha hb (by simpa [strOfNums] using e))
   rw [decide_eq_false h, beq_eq_false_iff_ne]
   exact h2
theorem SameL : ∀ (a b : List AO), (∀ o ∈ a, Bytes o.f1) → (∀ o ∈ b, Bytes o.f1) → tlv_Same.f a b = some (decide (a = b)) := by
 intro a b ha hb
 unfold tlv_Same.f
 congr 1
 induction a generalizing b with
 | nil => cases b <;> simp
 | cons x a ih =>
  cases b with
  | nil => simp
  | cons y b =>
   have e := ih b (fun o ho => ha o (by simp [ho])) (fun o ho => hb o (by simp [ho]))
   have e1 : tlv_Same.one x y = decide (x = y) := by
    unfold tlv_Same.one
    rw [sameOct (ha x (by simp)) (hb y (by simp))]
    cases x; cases y
    rw [Bool.eq_iff_iff]
    simp
   simp only [List.length_cons, List.zip_cons_cons, List.all_cons, e1]
   rw [show ((a.length + 1 == b.length + 1) && (decide (x = y) && (a.zip b).all fun p => tlv_Same.one p.1 p.2)) = (decide (x = y) && ((a.length == b.length) && (a.zip b).all fun p => tlv_Same.one p.1 p.2)) by
    rw [show (a.length + 1 == b.length + 1) = (a.length == b.length) by simp]
    cases decide (x = y) <;> simp, e]
   simp
theorem held_of {l : List RO} (h : (l.length ≤ 9223372036854775807 ∧ l.length * 32 ≤ 140737488351232) ∧ ∀ y0_ ∈ l, ((Lit.int .u8 y0_.f0).wf = true ∧ ((y0_.f1.length ≤ 9223372036854775807 ∧ y0_.f1.length * 1 ≤ 140737488351232) ∧ ∀ y1_ ∈ y0_.f1, (Lit.int .u8 y1_).wf = true))) : Held l :=
 ⟨h.1.2, fun o ho => ⟨u8_of_wf (h.2 o ho).1, by have := (h.2 o ho).2.1.2; omega, bytes_of_wf (h.2 o ho).2.2⟩⟩
end Go.Proofs.YteanncchmenlkaaDoor.Sp
namespace Go.Proofs.YteanncchmenlkaaDoor.Sp
open Go.RowKit Go.Proofs.YteanncchmenlkaaDoor.Print Go.Proofs.YteanncchmenlkaaDoorW.PrintWords Go.Proofs.YteanncchmenlkaaDoorW.PrintLast Go.Proofs.YteanncchmenlkaaDoor.Pl
set_option linter.unusedVariables false
def few15 (o : List RO) (l6 l7 l8 l9 : List Int) : Bool := decide ((o.length ≤ 60 ∧ tot o ≤ 1000) ∧ l6.length ≤ 600 ∧ l7.length ≤ 600 ∧ l8.length ≤ 600 ∧ l9.length ≤ 40)
theorem FewP (a0 a1 a2 : Int) (o : List RO) (a4 a5 : Int) (l6 l7 l8 l9 : List Int) (ho : Held o) : Ev (fun k => marlinelaw15_Few.f k a0 a1 a2 o a4 a5 l6 l7 l8 l9) (few15 o l6 l7 l8 l9) := by
 unfold marlinelaw15_Few.f few15
 refine Ev.bind (FewL o ho) ?_
 by_cases h : o.length ≤ 60 ∧ tot o ≤ 1000
 · refine Ev.pos (by simp [h]) ?_
   by_cases h6 : (l6.length : Int) ≤ 600
   · refine Ev.pos h6 ?_
     by_cases h7 : (l7.length : Int) ≤ 600
     · refine Ev.pos h7 ?_
       by_cases h8 : (l8.length : Int) ≤ 600
       · refine Ev.pos h8 (Ev.end_ ?_)
         simp only [decide_eq_decide]
         omega
       · exact Ev.neg h8 (Ev.end_ (by rw [eq_comm, decide_eq_false_iff_not]; omega))
     · exact Ev.neg h7 (Ev.end_ (by rw [eq_comm, decide_eq_false_iff_not]; omega))
   · exact Ev.neg h6 (Ev.end_ (by rw [eq_comm, decide_eq_false_iff_not]; omega))
 · exact Ev.neg (by simpa using h) (Ev.end_ (by rw [eq_comm, decide_eq_false_iff_not]; exact fun h2 => h h2.1))
theorem OfP (a0 a1 a2 : Int) (o : List RO) (a4 a5 : Int) (l6 l7 l8 l9 : List Int) (ho : o.length ≤ 1000000) : Ev (fun k => marlinelaw15_Of.f k a0 a1 a2 o a4 a5 l6 l7 l8 l9) (a0, a1, a2, o.map ao, a4, a5, l6, l7, l8, l9) := by
 unfold marlinelaw15_Of.f
 exact Ev.bind (OfL o ho) (Ev.now _)
end Go.Proofs.YteanncchmenlkaaDoor.Sp
namespace Go.Proofs.YteanncchmenlkaaDoor.Sp
open Go.RowKit Go.Proofs.YteanncchmenlkaaDoor.Print Go.Proofs.YteanncchmenlkaaDoorW.PrintWords Go.Proofs.YteanncchmenlkaaDoorW.PrintLast Go.Proofs.YteanncchmenlkaaDoor.Pl
set_option linter.unusedVariables false
def be : Nat → Int → List Int
 | 0, _ => []
 | s + 1, n => n / 256 ^ s % 256 :: be s n
theorem be_length (s : Nat) (n : Int) : (be s n).length = s := by
 induction s with
 | zero => rfl
 | succ s ih => simp [be, ih]
theorem Put_l0 (n : Int) (hn : 0 ≤ n) : ∀ (s : Nat) (x : List Int), s ≤ 8 → x.length + s ≤ 3000000 → Ev (fun k => wire_Put.l0 k x n ((s : Int) - 1)) (x ++ be s n)
 | 0, x, h1, h2 => by
  rw [be, List.append_nil]
  exact Ev.step (fun k => by simp only [wire_Put.l0]; rw [if_neg (by omega)]) (Ev.now _)
 | s + 1, x, h1, h2 => by
  have ih := Put_l0 n hn s (x ++ [n / 256 ^ s % 256]) (by omega) (by simp; omega)
  rw [be, show x ++ n / 256 ^ s % 256 :: be s n = (x ++ [n / 256 ^ s % 256]) ++ be s n by simp]
  refine Ev.step (fun k => ?_) ih
  have e : shr .u64 n (8 * (s : Int)) = n / 256 ^ s := by
   unfold shr
   have h3 : (8 * (s : Int)).toNat = 8 * s := by omega
   rw [h3, Nat.min_eq_left (by simp [IntKind.bits]; omega), Int.pow_mul]
   rfl
  simp only [wire_Put.l0]
  rw [show (((s + 1 : Nat) : Int) - 1) = (s : Int) by omega, if_pos (by omega), w64 (x := 8 * (s : Int)) (by omega) (by omega), if_pos (by omega), if_pos (by omega), e, w64 (x := (s : Int) - 1) (by omega) (by omega)]
theorem WPut (x : List Int) (n : Int) (hn : 0 ≤ n) (s : Nat) (hs : s ≤ 8) (hx : x.length ≤ 2000000) : Ev (fun k => wire_Put.f k x n s) (x ++ be s n) := by
 unfold wire_Put.f
 simp only [w64 (x := (s : Int) - 1) (by omega) (by omega)]
 exact Put_l0 n hn s x hs (by omega)
theorem Clone (l : List Int) (hl : Lim l) : slices_Clone_byte_byte.f l = some l := by
 unfold slices_Clone_byte_byte.f; unfold Lim at hl; rw [if_pos (by omega)]
def ctlPut (a b : Int) (d : List Int) : List Int × Int := if d.length + 4 > 65535 then ([], 3) else ([a, b] ++ be 2 (d.length + 4) ++ d, 0)
theorem CPut (a b : Int) (d : List Int) (hd : Lim d) : Ev (fun k => ctl_Put.f k a b d) (ctlPut a b d) := by
 unfold ctl_Put.f ctlPut
 unfold Lim at hd
 by_cases h : d.length + 4 > 65535
 · rw [if_pos h]
   exact Ev.pos (by rw [w64 (by omega) (by omega)]; omega) (Ev.now _)
 · rw [if_neg h]
   simp only [w64 (x := (d.length : Int) + 4) (by omega) (by omega), wu64 (x := (d.length : Int) + 4) (by omega) (by omega)]
   refine Ev.neg (by omega) (Ev.bind (WPut [a, b] ((d.length : Int) + 4) (by omega) 2 (by omega) (by simp)) ?_)
   exact Ev.pos (by simp [be_length]; omega) (Ev.now _)
end Go.Proofs.YteanncchmenlkaaDoor.Sp
namespace Go.Proofs.YteanncchmenlkaaDoor.Sp
open Go.RowKit Go.Proofs.YteanncchmenlkaaDoor.Print Go.Proofs.YteanncchmenlkaaDoorW.PrintWords Go.Proofs.YteanncchmenlkaaDoorW.PrintLast Go.Proofs.YteanncchmenlkaaDoor.Pl
set_option linter.unusedVariables false
set_option linter.unusedSimpArgs false
theorem Equal32_l0 (a b : List Int) (hl : a.length = b.length) (ha : Lim a) : ∀ (t u : List Int) (i : Nat), a.drop i = t → b.drop i = u → Ev (fun k => slices_Equal_uint32_uint32.l0 k a b (a.length : Int) i) (decide (t = u))
 | [], u, i, h1, h2 => by
  have h3 := drop_nil_len h1
  have h4 := drop_len h2
  obtain rfl : u = [] := List.eq_nil_of_length_eq_zero (by omega)
  exact Ev.step (fun k => by simp only [slices_Equal_uint32_uint32.l0]; rw [if_neg (by omega)]; rfl) (Ev.now _)
 | x :: t, u, i, h1, h2 => by
  obtain ⟨e1, e2, e3⟩ := rd_drop h1
  cases u with
  | nil => have := drop_nil_len h2; omega
  | cons y u =>
   obtain ⟨f1, f2, f3⟩ := rd_drop h2
   unfold Lim at ha
   by_cases hxy : x = y
   · subst hxy
     have ih := Equal32_l0 a b hl ha t u (i + 1) e2 f2
     rw [show decide (x :: t = x :: u) = decide (t = u) by simp]
     exact Ev.step (fun k => by simp only [slices_Equal_uint32_uint32.l0]; rw [if_pos (by omega), if_pos (by omega), if_pos (by omega), if_pos (by omega), e1, f1, if_pos rfl, suc i (by omega)]) ih
   · rw [show decide (x :: t = y :: u) = false by simp [hxy]]
     exact Ev.step (fun k => by simp only [slices_Equal_uint32_uint32.l0]; rw [if_pos (by omega), if_pos (by omega), if_pos (by omega), if_pos (by omega), e1, f1, if_neg hxy]) (Ev.now _)
theorem Equal32 (a b : List Int) (ha : Lim a) : Ev (fun k => slices_Equal_uint32_uint32.f k a b) (decide (a = b)) := by
 unfold slices_Equal_uint32_uint32.f
 by_cases h : a.length = b.length
 · exact Ev.pos (by omega) (Equal32_l0 a b h ha a b 0 rfl rfl)
 · refine Ev.neg (by omega) (Ev.end_ ?_)
   rw [eq_comm, decide_eq_false_iff_not]
   rintro rfl
   exact h rfl
theorem EqualB {a b : List Int} (ha : Bytes a) (hb : Bytes b) : bytes_Equal.f a b = some (decide (a = b)) := by
 unfold bytes_Equal.f
 rw [sameOct ha hb]
def same20 (a0 a1 a2 : Int) (o : List AO) (a4 a5 : Int) (l6 l7 l8 l9 : List Int) (b0 b1 b2 : Int) (q : List AO) (b4 b5 : Int) (m6 m7 m8 m9 : List Int) : Bool :=
 decide (a0 = b0 ∧ a1 = b1 ∧ a2 = b2 ∧ o = q ∧ a4 = b4 ∧ a5 = b5 ∧ l6 = m6 ∧ l7 = m7 ∧ l8 = m8 ∧ l9 = m9)
def Fit (o : List AO) (l6 l7 l8 l9 : List Int) : Prop := (∀ x ∈ o, Bytes x.f1) ∧ Bytes l6 ∧ Bytes l7 ∧ Bytes l8 ∧ Lim l9
theorem Same20 (a0 a1 a2 : Int) (o : List AO) (a4 a5 : Int) (l6 l7 l8 l9 : List Int) (b0 b1 b2 : Int) (q : List AO) (b4 b5 : Int) (m6 m7 m8 m9 : List Int) (hf : Fit o l6 l7 l8 l9) (hg : Fit q m6 m7 m8 m9) :
 Ev (fun k => body_Same.f k a0 a1 a2 o a4 a5 l6 l7 l8 l9 b0 b1 b2 q b4 b5 m6 m7 m8 m9) (same20 a0 a1 a2 o a4 a5 l6 l7 l8 l9 b0 b1 b2 q b4 b5 m6 m7 m8 m9) := by
 obtain ⟨ho, h6, h7, h8, h9⟩ := hf
 obtain ⟨hq, g6, g7, g8, g9⟩ := hg
 have j0 : ∀ x : Bool, Ev (fun k => body_Same.j0 k x a0 a1 a2 o a4 a5 l6 l7 l8 l9 b0 b1 b2 q b4 b5 m6 m7 m8 m9) (x && decide (o = q ∧ l6 = m6 ∧ l7 = m7 ∧ l8 = m8 ∧ l9 = m9)) := by
  intro x
  refine Ev.step (f := fun k => body_Same.j0 (k + 1) x a0 a1 a2 o a4 a5 l6 l7 l8 l9 b0 b1 b2 q b4 b5 m6 m7 m8 m9) (fun k => rfl) ?_
  simp only [body_Same.j0, SameL o q ho hq, EqualB h6 g6, EqualB h7 g7, EqualB h8 g8, Option.bind_some]
  cases x with
  | false => exact Ev.neg (by decide) (Ev.end_ (by simp))
  | true =>
   refine Ev.pos rfl ?_
   by_cases e3 : o = q
   rotate_left
   · exact Ev.neg (by simp [e3]) (Ev.end_ (by simp [e3]))
   refine Ev.pos (by simp [e3]) ?_
   by_cases e6 : l6 = m6
   rotate_left
   · exact Ev.neg (by simp [e6]) (Ev.end_ (by simp [e6]))
   refine Ev.pos (by simp [e6]) ?_
   by_cases e7 : l7 = m7
   rotate_left
   · exact Ev.neg (by simp [e7]) (Ev.end_ (by simp [e7]))
   refine Ev.pos (by simp [e7]) ?_
   by_cases e8 : l8 = m8
   rotate_left
   · exact Ev.neg (by simp [e8]) (Ev.end_ (by simp [e8]))
   refine Ev.pos (by simp [e8]) ?_
   refine Ev.bind (Equal32 l9 m9 h9) (Ev.end_ ?_)
   simp [e3, e6, e7, e8]
 have no : ∀ (_ : same20 a0 a1 a2 o a4 a5 l6 l7 l8 l9 b0 b1 b2 q b4 b5 m6 m7 m8 m9 = false), Ev (fun k => body_Same.j0 k false a0 a1 a2 o a4 a5 l6 l7 l8 l9 b0 b1 b2 q b4 b5 m6 m7 m8 m9) (same20 a0 a1 a2 o a4 a5 l6 l7 l8 l9 b0 b1 b2 q b4 b5 m6 m7 m8 m9) := fun h => by
  rw [h]
  exact j0 false
 unfold body_Same.f
 by_cases e0 : a0 = b0
 rotate_left
 · exact Ev.neg e0 (no (by unfold same20; simp [e0]))
 refine Ev.pos e0 ?_
 by_cases e1 : a1 = b1
 rotate_left
 · exact Ev.neg e1 (no (by unfold same20; simp [e1]))
 refine Ev.pos e1 ?_
 by_cases e2 : a2 = b2
 rotate_left
 · exact Ev.neg e2 (no (by unfold same20; simp [e2]))
 refine Ev.pos e2 ?_
 by_cases e4 : a4 = b4
 rotate_left
 · exact Ev.neg e4 (no (by unfold same20; simp [e4]))
 refine Ev.pos e4 ?_
 have e : same20 a0 a1 a2 o a4 a5 l6 l7 l8 l9 b0 b1 b2 q b4 b5 m6 m7 m8 m9 = ((a5 == b5) && decide (o = q ∧ l6 = m6 ∧ l7 = m7 ∧ l8 = m8 ∧ l9 = m9)) := by
  unfold same20
  rw [Bool.eq_iff_iff]
  simp only [decide_eq_true_eq, Bool.and_eq_true, beq_iff_eq, e0, e1, e2, e4, true_and]
  exact ⟨fun ⟨x3, x5, x⟩ => ⟨x5, x3, x⟩, fun ⟨x5, x3, x⟩ => ⟨x3, x5, x⟩⟩
 rw [e]
 exact j0 _
theorem same_self (a0 a1 a2 : Int) (o : List AO) (a4 a5 : Int) (l6 l7 l8 l9 : List Int) : same20 a0 a1 a2 o a4 a5 l6 l7 l8 l9 a0 a1 a2 o a4 a5 l6 l7 l8 l9 = true := decide_eq_true ⟨rfl, rfl, rfl, rfl, rfl, rfl, rfl, rfl, rfl, rfl⟩
end Go.Proofs.YteanncchmenlkaaDoor.Sp
namespace Go.Proofs.YteanncchmenlkaaDoor.Hw
open Go.RowKit Go.Proofs.YteanncchmenlkaaDoorW.PrintWords Go.Proofs.YteanncchmenlkaaDoorW.PrintLast Go.Proofs.YteanncchmenlkaaDoorW.PrintMore Go.Proofs.YteanncchmenlkaaDoor.Print Go.Proofs.YteanncchmenlkaaDoor.Sp Go.Proofs.YteanncchmenlkaaDoor.Pl
set_option linter.unusedVariables false
set_option linter.unusedSimpArgs false
def GA (w : World) : Prop := ∃ (bm : Nat) (es : Array MapEntry) (clock : Nat), w.cell? ⟨1, 0, none⟩ = some (.map (some bm)) ∧ w.heap[bm]? = some (.map es clock) ∧
 ∀ W : World, W.heap[bm]? = some (.map es clock) → (Instr.lookup 132 (.map (some bm)) (.int .u16 33) true).run Tryd.prog W = .ok (.tuple #[.int .u8 0, .bool false]) W
theorem GA.below {w w1 : World} (h : GA w) (hb : Below w.heap.size w w1) : GA w1 := by
 obtain ⟨bm, es, clock, h1, h2, h3⟩ := h
 exact ⟨bm, es, clock, (hb.cell (World.block_lt_of_cell? w _ h1)).trans h1, blk_below h2 hb, h3⟩
theorem is33 (w : World) (hA : GA w) : Calls Tryd.prog 61 #[.int .u16 33] w fun e w' => e = .returned (.bool false) ∧ Below w.heap.size w w' := by
 obtain ⟨bm, es, clock, h1, h2, h3⟩ := hA
 have hrun := h3 w h2
 clear h3
 go_enter Tryd.func61, Tryd.ntmps61
 go_wp2
 go_ret
 exact ⟨rfl, Below.refl _ _⟩
theorem of33 (w : World) (hA : GA w) : Calls Tryd.prog 45 #[.int .u16 33] w fun e w' => e = .returned (.iface 113 (.agg #[])) ∧ Below w.heap.size w w' := by
 have HA := Aside0.mk hA
 clear hA
 go_enter Tryd.func45, Tryd.ntmps45
 go_wp2_with (first | (go_at_call 61; refine (is33 _ HA.out).mono ?_; rintro e w1 ⟨rfl, hb⟩; have HB := Aside0.mk hb; clear hb))
 go_ret
 exact ⟨rfl, HB.out⟩
theorem ofLcp (w : World) : Calls Tryd.prog 45 #[.int .u16 49185] w fun e w' => e = .returned (.iface 110 (.agg #[.func (.func 53) #[] #[], .func (.func 54) #[] #[]])) ∧ Below w.heap.size w w' := by
 go_enter Tryd.func45, Tryd.ntmps45
 go_wp2
 go_ret
 exact ⟨rfl, Below.refl _ _⟩
end Go.Proofs.YteanncchmenlkaaDoor.Hw
namespace Go.Proofs.YteanncchmenlkaaDoor.Sp
open Go.RowKit Go.Proofs.YteanncchmenlkaaDoor.Print Go.Proofs.YteanncchmenlkaaDoorW.PrintWords Go.Proofs.YteanncchmenlkaaDoorW.PrintLast Go.Proofs.YteanncchmenlkaaDoor.Pl
set_option linter.unusedVariables false
set_option linter.unusedSimpArgs false
def Tot {α : Type} (g : Nat → Option α) : Prop := ∃ r, Ev g r
theorem Tot.up {α : Type} {g : Nat → Option α} (h : Tot (fun k => g (k + 1))) : Tot g := by
 obtain ⟨r, K, hK⟩ := h
 refine ⟨r, K + 1, fun k hk => ?_⟩
 obtain ⟨j, rfl⟩ : ∃ j, k = j + 1 := ⟨k - 1, by omega⟩
 exact hK j (by omega)
theorem Tot.bind {α β : Type} {f : Nat → Option α} {g : α → Nat → Option β} (h : Tot f) (h2 : ∀ r, Ev f r → Tot (g r)) : Tot (fun k => (f k).bind fun r => g r k) := by
 obtain ⟨r, h⟩ := h
 obtain ⟨q, h3⟩ := h2 r h
 exact ⟨q, Ev.bind h h3⟩
theorem Ev.up {α : Type} {g : Nat → Option α} {r : α} (h : Ev (fun k => g (k + 1)) r) : Ev g r := Ev.step (fun k => rfl) h
def hasV (c : Int) : Int := if 1 ≤ c ∧ c ≤ 4 then 1 else if c = 8 then 2 else if 9 ≤ c ∧ c ≤ 11 then 3 else 0
theorem Has (c : Int) : Ev (fun k => lcp_has.f k c) (hasV c) := by
 have j0 : ∀ b : Bool, (b = decide (1 ≤ c ∧ c ≤ 4)) → Ev (fun k => lcp_has.j0 k c b) (hasV c) := by
  intro b hb
  refine Ev.up ?_
  simp only [lcp_has.j0]
  by_cases h1 : 1 ≤ c ∧ c ≤ 4
  · rw [decide_eq_true h1] at hb; exact Ev.pos hb (Ev.end_ (by unfold hasV; rw [if_pos h1]))
  · rw [decide_eq_false h1] at hb
    refine Ev.neg (by simp [hb]) ?_
    by_cases h2 : c = 8
    · exact Ev.pos h2 (Ev.end_ (by unfold hasV; rw [if_neg h1, if_pos h2]))
    · refine Ev.neg h2 ?_
      by_cases h3 : 9 ≤ c ∧ c ≤ 11
      · exact Ev.pos h3.1 (Ev.pos h3.2 (Ev.end_ (by unfold hasV; rw [if_neg h1, if_neg h2, if_pos h3])))
      · by_cases h4 : c ≥ 9
        · exact Ev.pos h4 (Ev.neg (by omega) (Ev.end_ (by unfold hasV; rw [if_neg h1, if_neg h2, if_neg h3])))
        · exact Ev.neg h4 (Ev.end_ (by unfold hasV; rw [if_neg h1, if_neg h2, if_neg h3]))
 unfold lcp_has.f
 by_cases h : c ≥ 1
 · exact Ev.pos h (j0 _ (by rw [decide_eq_decide]; omega))
 · exact Ev.neg h (j0 _ (by rw [eq_comm, decide_eq_false_iff_not]; omega))
def moreV {α : Type} (a1 : Int) (o : List α) (a4 a5 : Int) (l6 l7 l8 l9 : List Int) : Bool :=
 decide (l6.length + l7.length + l9.length > 0 ∨ (hasV a1 ≠ 1 ∧ o.length > 0) ∨ (hasV a1 = 1 ∧ l8.length > 0) ∨ (hasV a1 ≠ 2 ∧ a4 ≠ 0) ∨ (hasV a1 ≠ 3 ∧ a5 ≠ 0))
theorem More (a0 a1 a2 : Int) (o : List AO) (a4 a5 : Int) (l6 l7 l8 l9 : List Int) (h6 : l6.length ≤ 1000000) (h7 : l7.length ≤ 1000000) (h9 : l9.length ≤ 1000000) :
 Ev (fun k => lcp_more.f k a0 a1 a2 o a4 a5 l6 l7 l8 l9) (moreV a1 o a4 a5 l6 l7 l8 l9) := by
 unfold lcp_more.f
 refine Ev.bind (Has a1) ?_
 rw [w64 (x := (l6.length : Int) + l7.length) (by omega) (by omega), w64 (by omega) (by omega)]
 unfold moreV
 generalize hasV a1 = c
 by_cases h : (l6.length : Int) + l7.length + l9.length > 0
 · refine Ev.pos h (Ev.end_ ?_)
   rw [eq_comm, decide_eq_true_iff]; omega
 refine Ev.neg h ?_
 have j2 : ∀ b : Bool, Ev (fun k => lcp_more.j2 k c b a0 a1 a2 o a4 a5 l6 l7 l8 l9) (b || decide (c ≠ 3 ∧ a5 ≠ 0)) := by
  intro b
  refine Ev.up ?_
  simp only [lcp_more.j2]
  cases b with
  | true => exact Ev.pos rfl (Ev.end_ (by simp))
  | false =>
   refine Ev.neg (by decide) ?_
   by_cases h3 : c = 3
   · exact Ev.pos h3 (Ev.end_ (by simp [h3]))
   · refine Ev.neg h3 ?_
     by_cases h5 : a5 = 0
     · exact Ev.pos h5 (Ev.end_ (by simp [h5]))
     · exact Ev.neg h5 (Ev.end_ (by simp [h3, h5]))
 have j1 : ∀ b : Bool, Ev (fun k => lcp_more.j1 k c b a0 a1 a2 o a4 a5 l6 l7 l8 l9) (b || decide (c ≠ 2 ∧ a4 ≠ 0) || decide (c ≠ 3 ∧ a5 ≠ 0)) := by
  intro b
  refine Ev.up ?_
  simp only [lcp_more.j1]
  cases b with
  | true => exact Ev.pos rfl (Ev.end_ (by simp))
  | false =>
   refine Ev.neg (by decide) ?_
   by_cases h2 : c = 2
   · refine Ev.pos h2 ?_
     have := j2 false
     simpa [h2] using this
   · refine Ev.neg h2 ?_
     have := j2 (a4 != 0)
     have e : (a4 != 0) = decide (a4 ≠ 0) := by rw [Bool.eq_iff_iff]; simp
     rw [e] at this ⊢
     simpa [h2] using this
 have j0 : ∀ b : Bool, Ev (fun k => lcp_more.j0 k c b a0 a1 a2 o a4 a5 l6 l7 l8 l9) (b || decide (c = 1 ∧ l8.length > 0) || decide (c ≠ 2 ∧ a4 ≠ 0) || decide (c ≠ 3 ∧ a5 ≠ 0)) := by
  intro b
  refine Ev.up ?_
  simp only [lcp_more.j0]
  cases b with
  | true => exact Ev.pos rfl (Ev.end_ (by simp))
  | false =>
   refine Ev.neg (by decide) ?_
   by_cases h1 : c = 1
   · refine Ev.pos h1 ?_
     have := j1 (decide ((l8.length : Int) > 0))
     have e : decide ((l8.length : Int) > 0) = decide (l8.length > 0) := by rw [decide_eq_decide]; omega
     rw [e] at this ⊢
     simpa [h1] using this
   · refine Ev.neg h1 ?_
     have := j1 false
     simpa [h1] using this
 by_cases h1 : c = 1
 · refine Ev.pos h1 ?_
   have := j0 false
   have e : decide (l6.length + l7.length + l9.length > 0 ∨ (c ≠ 1 ∧ o.length > 0) ∨ (c = 1 ∧ l8.length > 0) ∨ (c ≠ 2 ∧ a4 ≠ 0) ∨ (c ≠ 3 ∧ a5 ≠ 0)) = (false || decide (c = 1 ∧ l8.length > 0) || decide (c ≠ 2 ∧ a4 ≠ 0) || decide (c ≠ 3 ∧ a5 ≠ 0)) := by
    rw [Bool.eq_iff_iff]
    simp only [decide_eq_true_eq, Bool.or_eq_true]
    have e2 : ¬ (l6.length + l7.length + l9.length > 0) := by omega
    simp only [e2, h1, false_or, ne_eq, not_true_eq_false, true_and, false_and, or_assoc, Bool.false_eq_true]
   rw [e]
   exact this
 · refine Ev.neg h1 ?_
   have := j0 (decide ((o.length : Int) > 0))
   have e : decide (l6.length + l7.length + l9.length > 0 ∨ (c ≠ 1 ∧ o.length > 0) ∨ (c = 1 ∧ l8.length > 0) ∨ (c ≠ 2 ∧ a4 ≠ 0) ∨ (c ≠ 3 ∧ a5 ≠ 0)) = (decide ((o.length : Int) > 0) || decide (c = 1 ∧ l8.length > 0) || decide (c ≠ 2 ∧ a4 ≠ 0) || decide (c ≠ 3 ∧ a5 ≠ 0)) := by
    rw [Bool.eq_iff_iff]
    simp only [decide_eq_true_eq, Bool.or_eq_true]
    have e1 : ((o.length : Int) > 0) ↔ (o.length > 0) := by omega
    have e2 : ¬ (l6.length + l7.length + l9.length > 0) := by omega
    rw [e1]
    simp only [e2, h1, false_or, ne_eq, not_false_eq_true, true_and, false_and, or_assoc, or_false]
   rw [e]
   exact this
end Go.Proofs.YteanncchmenlkaaDoor.Sp
namespace Go.Proofs.YteanncchmenlkaaDoor.Hw
open Go.RowKit Go.Proofs.YteanncchmenlkaaDoorW.PrintWords Go.Proofs.YteanncchmenlkaaDoorW.PrintLast Go.Proofs.YteanncchmenlkaaDoorW.PrintMore Go.Proofs.YteanncchmenlkaaDoor.Print Go.Proofs.YteanncchmenlkaaDoor.Sp Go.Proofs.YteanncchmenlkaaDoor.Pl
set_option linter.unusedVariables false
set_option linter.unusedSimpArgs false
theorem same_calls {W : World} {x y : Value} {a0 a1 a2 a4 a5 b0 b1 b2 b4 b5 : Int} {o q : List AO} {l6 l7 l8 l9 m6 m7 m8 m9 : List Int} {k : Nat} {r : Bool} (h : PkIn k62 W x a0 a1 a2 o a4 a5 l6 l7 l8 l9) (g : PkIn k62 W y b0 b1 b2 q b4 b5 m6 m7 m8 m9)
 (hf : body_Same.f k a0 a1 a2 o a4 a5 l6 l7 l8 l9 b0 b1 b2 q b4 b5 m6 m7 m8 m9 = some r) :
 Calls Tryd.prog 25 #[x, y] W fun e w' => e = .returned (.bool r) ∧ Below W.heap.size W w' := by
 obtain ⟨v3, v6, v7, v8, v9, rfl, ⟨A3, c3, rfl, n3, f3⟩, ⟨A6, c6, rfl, n6, f6⟩, ⟨A7, c7, rfl, n7, f7⟩, ⟨A8, c8, rfl, n8, f8⟩, ⟨A9, c9, rfl, n9, f9⟩⟩ := h
 obtain ⟨u3, u6, u7, u8, u9, rfl, ⟨B3, d3, rfl, p3, g3⟩, ⟨B6, d6, rfl, p6, g6⟩, ⟨B7, d7, rfl, p7, g7⟩, ⟨B8, d8, rfl, p8, g8⟩, ⟨B9, d9, rfl, p9, g9⟩⟩ := g
 exact body_Same.calls k a0 a1 a2 A3 c3 o a4 a5 A6 c6 l6 A7 c7 l7 A8 c8 l8 A9 c9 l9 b0 b1 b2 B3 d3 q b4 b5 B6 d6 m6 B7 d7 m7 B8 d8 m8 B9 d9 m9 r W (Kd.F_now f3) n3 (Kd.F_now f6) n6 (Kd.F_now f7) n7 (Kd.F_now f8) n8 (Kd.F_now f9) n9 (Kd.F_now g3) p3 (Kd.F_now g6) p6 (Kd.F_now g7) p7 (Kd.F_now g8) p8 (Kd.F_now g9) p9 hf
theorem clone_calls {W : World} {v : Value} {l : List Int} {B_ : Nat} (h : Kd.V (Kd.int .u8) 0 W 0 (fun k => k < B_) v l) (hf : slices_Clone_byte_byte.f l = some l) :
 Calls Tryd.prog 69 #[v] W fun e w' => ∃ u, e = .returned u ∧ Rd (Kd.int .u8) w' u l ∧ Below W.heap.size W w' := by
 obtain ⟨A, c, rfl, n, f⟩ := h
 refine (slices_Clone_byte_byte.calls A c l _ W (Kd.F_now f) n hf).mono ?_
 rintro e w' ⟨u, rfl, hu, hb⟩
 exact ⟨_, rfl, rd_of_n (Kd.R_N hu), hb⟩
theorem rd_nil {α : Type} (d : Kd α) (W : World) : Rd d W (.slice none 0 0) [] := Kd.V_nil d 0 W 0 _
theorem _root_.Go.Proofs.YteanncchmenlkaaDoorW.PrintWords.Kd.V.old2 {α : Type} {d : Kd α} {W w1 : World} {B : Nat} {v : Value} {xs : List α} (h : Kd.V d 0 W 0 (fun k => k < B) v xs) (hb : Below W.heap.size W w1) : Kd.V d 0 w1 0 (fun k => k < B) v xs := Kd.V_below h hb
theorem _root_.Go.Proofs.YteanncchmenlkaaDoorW.PrintWords.Kd.V.only2 {α : Type} {d : Kd α} {W w1 : World} {B g : Nat} {v : Value} {xs : List α} (h : Kd.V d 0 W 0 (fun k => k < B) v xs) (ho : OnlyG W w1 g) (hk : ∀ k, k < B → k ≠ g) : Kd.V d 0 w1 0 (fun k => k < B) v xs := Kd.V_step h (fun k hk' _ => ho.block k (hk k hk'))
theorem plain_in {W : World} {B : Nat} {v8 : Value} {l8 : List Int} (h : Kd.V (Kd.int .u8) 0 W 0 (fun k => k < B) v8 l8) : PkIn k62 W (.agg (pk 33 0 0 (.slice none 0 0) 0 0 (.slice none 0 0) (.slice none 0 0) v8 (.slice none 0 0))) 33 0 0 [] 0 0 [] [] l8 [] :=
 ⟨_, _, _, _, _, rfl, rd_nil _ _, rd_nil _ _, rd_nil _ _, rd_of_v h, rd_nil _ _⟩
theorem right_calls (a : Int) (r : Bool) (w : World) (h : proto_Right.f a = some r) : Calls Tryd.prog 44 #[.int .u16 a] w fun e w' => e = .returned (.bool r) ∧ Below w.heap.size w w' := (proto_Right.calls a r w h).mono fun e w' h => ⟨h.1, h.2.below⟩
set_option maxHeartbeats 8000000 in
set_option maxRecDepth 100000 in
theorem plain_put {v8 : Value} {B : Nat} (w : World) (l8 : List Int) (h8 : Kd.V (Kd.int .u8) 0 w 0 (fun k => k < B) v8 l8) (hB : B ≤ w.heap.size) (hby : Bytes l8) (hL : Lim l8) :
 Calls Tryd.prog 109 #[.agg #[], .agg (pk 33 0 0 (.slice none 0 0) 0 0 (.slice none 0 0) (.slice none 0 0) v8 (.slice none 0 0))] w fun e w' => ∃ v, e = .returned (.tuple #[v, .int .i64 0]) ∧ Rd (Kd.int .u8) w' v l8 ∧ Below w.heap.size w w' := by
 have hu29 := Tryd.underlying29
 have hu113 := Tryd.underlying113
 have pone := Aside0.mk (pk_one (a0 := 33) (a1 := 0) (a2 := 0) (a4 := 0) (a5 := 0) (v3 := .slice none 0 0) (v6 := .slice none 0 0) (v7 := .slice none 0 0) (v9 := .slice none 0 0) rfl rfl rfl (rd_one (rd_of_v h8)) rfl)
 obtain ⟨ks, hs⟩ := Ev.rounds (Same20 33 0 0 [] 0 0 [] [] l8 [] 33 0 0 [] 0 0 [] [] l8 [] ⟨fun _ h => by simp at h, Bytes.nil, Bytes.nil, hby, by unfold Lim; simp⟩ ⟨fun _ h => by simp at h, Bytes.nil, Bytes.nil, hby, by unfold Lim; simp⟩)
 rw [same_self] at hs
 have HS := Aside0.mk hs
 have HC := Aside0.mk (Clone l8 hL)
 have R8 := Aside0.mk h8
 have HBs := Aside0.mk hB
 clear hs hby hL hB
 obtain ⟨A8, c8, rfl, n8, f8⟩ := h8
 clear n8 f8
 have HB := Aside0.mk (Below.refl w.heap.size w)
 go_enter Tryd.func109, Tryd.ntmps109
 go_wp2_with (first | ((with_reducible refine gate_dst (N := 2) rfl ?_); refine gate_guard (by rfl) ?_; refine ev_box rfl rfl (cs := #[]) (by rfl) ?_; intro g_k hg w1 hn hb; have G_k := Aside0.mk (show w.heap.size ≤ g_k from by rw [hg]; exact below_size HB.out); replace R8 := Aside0.mk (R8.out.old2 hb); replace HB := Aside0.mk (below_step HB.out hb); clear hb; have B_k := Aside0.mk hn; clear hn hg) | ((with_reducible refine gate_dst (N := 3) rfl ?_); refine gate_guard (by rfl) ?_; refine ev_box rfl rfl (cs := (pk 33 0 0 (.slice none 0 0) 0 0 (.slice none 0 0) (.slice none 0 0) (.slice A8 l8.length c8) (.slice none 0 0))) (by rfl) ?_; intro g_p hg w2 hn hb; have N_k_p := Aside0.mk (show g_k ≠ g_p from by rw [hg]; exact Nat.ne_of_lt (blk_lt B_k.out)); have N_p_k := Aside0.mk (N_k_p.out).symm; have G_p := Aside0.mk (show w.heap.size ≤ g_p from by rw [hg]; exact below_size HB.out); replace B_k := Aside0.mk (blk_below B_k.out hb); replace R8 := Aside0.mk (R8.out.old2 hb); replace HB := Aside0.mk (below_step HB.out hb); clear hb; have B_p := Aside0.mk hn; clear hn hg) | ((with_reducible refine gate_dst (N := 8) rfl ?_); refine gate_guard (by rfl) ?_; refine ev_loadf rfl rfl rfl B_p.out rfl Tryd.underlying22 rfl ?_) | ((with_reducible refine gate_dst (N := 10) rfl ?_); refine gate_guard (by rfl) ?_; refine ev_loadf rfl rfl rfl B_p.out rfl Tryd.underlying24 rfl ?_) | ((with_reducible refine gate_dst (N := 6) rfl ?_); refine gate_guard (by rfl) ?_; refine box_event rfl (N := 6) rfl (cs := #[.int .u16 0, .int .u8 0, .int .u8 0, .slice none 0 0, .int .u16 0, .int .u32 0, .slice none 0 0, .slice none 0 0, .slice none 0 0, .slice none 0 0]) (t := 29) (by first | (go_simp; done) | (go_simp; rfl)) ?_; intro g_b hg w3 hn hb; have N_k_b := Aside0.mk (show g_k ≠ g_b from by rw [hg]; exact Nat.ne_of_lt (blk_lt B_k.out)); have N_b_k := Aside0.mk (N_k_b.out).symm; have N_p_b := Aside0.mk (show g_p ≠ g_b from by rw [hg]; exact Nat.ne_of_lt (blk_lt B_p.out)); have N_b_p := Aside0.mk (N_p_b.out).symm; have G_b := Aside0.mk (show w.heap.size ≤ g_b from by rw [hg]; exact below_size HB.out); replace B_k := Aside0.mk (blk_below B_k.out hb); replace B_p := Aside0.mk (blk_below B_p.out hb); replace R8 := Aside0.mk (R8.out.old2 hb); replace HB := Aside0.mk (below_step HB.out hb); clear hb; have B_b := Aside0.mk hn; clear hn hg) | ((with_reducible refine gate_store (p := 6) rfl ?_); refine ev_store rfl rfl rfl (cells := (pk 33 0 0 (.slice none 0 0) 0 0 (.slice none 0 0) (.slice none 0 0) (.slice A8 l8.length c8) (.slice none 0 0))) rfl B_b.out rfl (by kernel_rfl) pone.out ?_; intro w4 hn ho; replace B_k := Aside0.mk (blk_only B_k.out ho N_k_b.out); replace B_p := Aside0.mk (blk_only B_p.out ho N_p_b.out); replace B_b := Aside0.mk hn; replace R8 := Aside0.mk (R8.out.only2 ho (fun k hk => by have h1 := G_b.out; have h2 := HBs.out; omega)); replace HB := Aside0.mk (below_only HB.out ho G_b.out); clear hn ho) | ((with_reducible refine gate_dst (N := 12) rfl ?_); refine gate_guard (by rfl) ?_; refine ev_load rfl rfl rfl B_p.out Tryd.underlying29 rfl (by kernel_rfl) ?_) | ((with_reducible refine gate_dst (N := 13) rfl ?_); refine gate_guard (by rfl) ?_; refine ev_load rfl rfl rfl B_b.out Tryd.underlying29 rfl (by kernel_rfl) ?_) | ((with_reducible refine gate_dst (N := 14) rfl ?_); refine gate_guard (by rfl) ?_; refine goesL_ (some 14) rfl rfl Tryd.func25 (by kernel_rfl) rfl #[.agg (pk 33 0 0 (.slice none 0 0) 0 0 (.slice none 0 0) (.slice none 0 0) (.slice A8 l8.length c8) (.slice none 0 0)), .agg (pk 33 0 0 (.slice none 0 0) 0 0 (.slice none 0 0) (.slice none 0 0) (.slice A8 l8.length c8) (.slice none 0 0))] rfl (by first | rfl | (simp only [List.map_toArray, List.map_cons, List.map_nil]; done) | (simp only [List.map_toArray, List.map_cons, List.map_nil]; rfl)) ?_; refine (same_calls (plain_in R8.out) (plain_in R8.out) HS.out).mono ?_; rintro e w5 ⟨rfl, hb⟩; refine ⟨_, rfl, ?_⟩; replace B_k := Aside0.mk (blk_below B_k.out hb); replace B_p := Aside0.mk (blk_below B_p.out hb); replace B_b := Aside0.mk (blk_below B_b.out hb); replace R8 := Aside0.mk (R8.out.old2 hb); replace HB := Aside0.mk (below_step HB.out hb); clear hb) | ((with_reducible refine gate_dst (N := 17) rfl ?_); refine gate_guard (by rfl) ?_; refine ev_loadf rfl rfl rfl B_p.out rfl Tryd.underlying24 rfl ?_) | ((with_reducible refine gate_dst (N := 18) rfl ?_); refine gate_guard (by rfl) ?_; refine goesL_ (some 18) rfl rfl Tryd.func69 (by kernel_rfl) rfl #[.slice A8 l8.length c8] rfl (by first | rfl | (simp only [List.map_toArray, List.map_cons, List.map_nil]; done) | (simp only [List.map_toArray, List.map_cons, List.map_nil]; rfl)) ?_; refine (clone_calls R8.out HC.out).mono ?_; rintro e w6 ⟨v_, rfl, hv, hb⟩; refine ⟨_, rfl, ?_⟩; have RV := Aside0.mk hv; clear hv; replace B_k := Aside0.mk (blk_below B_k.out hb); replace B_p := Aside0.mk (blk_below B_p.out hb); replace B_b := Aside0.mk (blk_below B_b.out hb); replace R8 := Aside0.mk (R8.out.old2 hb); replace HB := Aside0.mk (below_step HB.out hb); clear hb))
 go_ret2
 exact ⟨_, rfl, RV.out, HB.out⟩
theorem lcp5 (w : World) : Calls Tryd.prog 53 #[.agg (pk 49185 5 0 (.slice none 0 0) 0 0 (.slice none 0 0) (.slice none 0 0) (.slice none 0 0) (.slice none 0 0))] w fun e w' => ∃ v, e = .returned (.tuple #[v, .int .i64 0]) ∧ Rd (Kd.int .u8) w' v [5, 0, 0, 4] ∧ Below w.heap.size w w' := by
 have h : Ev (fun k => lcp_Put.f k 49185 5 0 ([] : List AO) 0 0 [] [] [] []) ([5, 0, 0, 4], 0) := by
  unfold lcp_Put.f
  refine Ev.pos rfl (Ev.bind (More _ _ _ _ _ _ _ _ _ _ (by decide) (by decide) (by decide)) (Ev.neg (by decide) (Ev.bind (Has 5) (Ev.neg (by decide) (Ev.neg (by decide) (Ev.neg (by decide) ?_))))))
  refine Ev.up ?_
  simp only [lcp_Put.j0]
  exact Ev.pos (by decide) (Ev.bind (CPut 5 0 ([] ++ []) (by unfold Lim; decide)) (Ev.end_ (by decide)))
 obtain ⟨k, hk⟩ := Ev.rounds h
 refine (lcp_Put.calls k 49185 5 0 none 0 [] 0 0 none 0 [] none 0 [] none 0 [] none 0 [] _ _ w (Kd.C_nil _ _) (Nat.le_refl 0) (Kd.C_nil _ _) (Nat.le_refl 0) (Kd.C_nil _ _) (Nat.le_refl 0) (Kd.C_nil _ _) (Nat.le_refl 0) (Kd.C_nil _ _) (Nat.le_refl 0) hk).mono ?_
 rintro e w' ⟨v, rfl, hv, hb⟩
 exact ⟨_, rfl, rd_of_n (Kd.R_N hv), hb⟩
set_option maxHeartbeats 8000000 in
set_option maxRecDepth 100000 in
theorem known_put (w : World) : Calls Tryd.prog 102 #[.agg #[.func (.func 53) #[] #[], .func (.func 54) #[] #[]], .agg (pk 49185 5 0 (.slice none 0 0) 0 0 (.slice none 0 0) (.slice none 0 0) (.slice none 0 0) (.slice none 0 0))] w fun e w' => ∃ v, e = .returned (.tuple #[v, .int .i64 0]) ∧ Rd (Kd.int .u8) w' v [5, 0, 0, 4] ∧ Below w.heap.size w w' := by
 have hu29 := Tryd.underlying29
 have hu110 := Tryd.underlying110
 have HB := Aside0.mk (Below.refl w.heap.size w)
 go_enter Tryd.func102, Tryd.ntmps102
 go_wp2_with (first | ((with_reducible refine gate_dst (N := 2) rfl ?_); refine gate_guard (by rfl) ?_; refine ev_box rfl rfl (cs := #[.func (.func 53) #[] #[], .func (.func 54) #[] #[]]) (by rfl) ?_; intro g_k hg w1 hn hb; have G_k := Aside0.mk (show w.heap.size ≤ g_k from by rw [hg]; exact below_size HB.out); replace HB := Aside0.mk (below_step HB.out hb); clear hb; have B_k := Aside0.mk hn; clear hn hg) | ((with_reducible refine gate_dst (N := 3) rfl ?_); refine gate_guard (by rfl) ?_; refine ev_box rfl rfl (cs := (pk 49185 5 0 (.slice none 0 0) 0 0 (.slice none 0 0) (.slice none 0 0) (.slice none 0 0) (.slice none 0 0))) (by rfl) ?_; intro g_p hg w2 hn hb; have N_k_p := Aside0.mk (show g_k ≠ g_p from by rw [hg]; exact Nat.ne_of_lt (blk_lt B_k.out)); have N_p_k := Aside0.mk (N_k_p.out).symm; have G_p := Aside0.mk (show w.heap.size ≤ g_p from by rw [hg]; exact below_size HB.out); replace B_k := Aside0.mk (blk_below B_k.out hb); replace HB := Aside0.mk (below_step HB.out hb); clear hb; have B_p := Aside0.mk hn; clear hn hg) | ((with_reducible refine gate_dst (N := 7) rfl ?_); refine gate_guard (by rfl) ?_; refine ev_loadf rfl rfl rfl B_k.out rfl Tryd.underlying64 rfl ?_) | ((with_reducible refine gate_dst (N := 8) rfl ?_); refine gate_guard (by rfl) ?_; refine ev_load rfl rfl rfl B_p.out Tryd.underlying29 rfl (by kernel_rfl) ?_) | (go_at_call 53; refine (lcp5 _).mono ?_; rintro e wz ⟨v_, rfl, hv, hb⟩; have RV := Aside0.mk hv; clear hv; replace HB := Aside0.mk (below_step HB.out hb); clear hb))
 go_ret2
 exact ⟨_, rfl, RV.out, HB.out⟩
def T26 : Bool × List (List Nat × List Nat) := (true, [([], []), ([0], [0]), ([1], [1]), ([], []), ([2, 3, 2], [2, 3]), ([4], [4]), ([4], [4]), ([5, 4, 0, 1, 2, 3, 4, 5, 6], [5]), ([6, 7, 0, 1, 2, 3, 4, 5, 6, 7], [6])])
def B26 : List Nat := [0, 1, 3, 0, 15, 31, 31, 127, 255]
theorem tab26 : rtab .any (opsOf Tryd.f26 3) = T26 := by kernel_rfl
theorem bits26 : waitsOk T26.2 B26 = true := by kernel_rfl
set_option maxHeartbeats 8000000 in
set_option maxRecDepth 100000 in
theorem put33 {v8 : Value} (w : World) (l8 : List Int) (hA : GA w) (h8 : Kd.V (Kd.int .u8) 0 w 0 (fun k => k < w.heap.size) v8 l8) (hby : Bytes l8) (hL : Lim l8) :
 Calls Tryd.prog 26 #[.agg (pk 33 0 0 (.slice none 0 0) 0 0 (.slice none 0 0) (.slice none 0 0) v8 (.slice none 0 0))] w fun e w' => ∃ v, e = .returned (.tuple #[v, .int .i64 0]) ∧ Rd (Kd.int .u8) w' v l8 ∧ Below w.heap.size w w' := by
 have hu29 := Tryd.underlying29
 have HA := Aside0.mk hA
 have R8 := Aside0.mk h8
 have HBy := Aside0.mk hby
 have HL := Aside0.mk hL
 clear hA h8 hby hL
 have HB := Aside0.mk (Below.refl w.heap.size w)
 go_enter Tryd.func26, Tryd.ntmps26
 go_upto_region 3 with (first | ((with_reducible refine gate_dst (N := 1) rfl ?_); refine gate_guard (by rfl) ?_; refine ev_box rfl rfl (cs := (pk 33 0 0 (.slice none 0 0) 0 0 (.slice none 0 0) (.slice none 0 0) v8 (.slice none 0 0))) (by rfl) ?_; intro g_p hg w1 hn hb; have G_p := Aside0.mk (show w.heap.size ≤ g_p from by rw [hg]; exact below_size HB.out); replace R8 := Aside0.mk (R8.out.old2 hb); replace HB := Aside0.mk (below_step HB.out hb); clear hb; have B_p := Aside0.mk hn; clear hn hg) | ((with_reducible refine gate_dst (N := 5) rfl ?_); refine gate_guard (by rfl) ?_; refine ev_loadf rfl rfl rfl B_p.out rfl Tryd.underlying22 rfl ?_) | (go_at_call 44; refine (right_calls _ _ _ rfl).mono ?_; rintro e wr ⟨rfl, hb⟩; replace B_p := Aside0.mk (blk_below B_p.out hb); replace R8 := Aside0.mk (R8.out.old2 hb); replace HB := Aside0.mk (below_step HB.out hb); clear hb))
 replace B_p := Aside0.mk (blk_drew B_p.out)
 replace R8 := Aside0.mk (R8.out.old2 (below_drew (Below.refl _ _)))
 replace HB := Aside0.mk (below_drew1 HB.out)
 refine start_ (n := 9) (S := fun w' => w'.cell? ⟨g_p, 0, none⟩ = some (.int .u16 33) ∧ w'.cell? ⟨g_p, 1, none⟩ = some (.int .u8 0) ∧ w'.cell? ⟨g_p, 2, none⟩ = some (.int .u8 0) ∧ w'.cell? ⟨g_p, 3, none⟩ = some ((.slice none 0 0)) ∧ w'.cell? ⟨g_p, 4, none⟩ = some (.int .u16 0) ∧ w'.cell? ⟨g_p, 5, none⟩ = some (.int .u32 0) ∧ w'.cell? ⟨g_p, 6, none⟩ = some ((.slice none 0 0)) ∧ w'.cell? ⟨g_p, 7, none⟩ = some ((.slice none 0 0)) ∧ w'.cell? ⟨g_p, 8, none⟩ = some (v8) ∧ w'.cell? ⟨g_p, 9, none⟩ = some ((.slice none 0 0))) (ds := []) #[false, false, false, false, false, false, false, false, false] (by kernel_rfl) rfl rfl ⟨(blk_cell B_p.out 0).trans rfl, (blk_cell B_p.out 1).trans rfl, (blk_cell B_p.out 2).trans rfl, (blk_cell B_p.out 3).trans rfl, (blk_cell B_p.out 4).trans rfl, (blk_cell B_p.out 5).trans rfl, (blk_cell B_p.out 6).trans rfl, (blk_cell B_p.out 7).trans rfl, (blk_cell B_p.out 8).trans rfl, (blk_cell B_p.out 9).trans rfl⟩ (fun hHeld => ?_)
 refine with_tabW tab26 bits26 (fun HT_ HW_ => ?_)
 generalize wr.drew = wd at B_p R8 HB hHeld ⊢
 refine pure_ (i := 0) (N := some 8) (v := ?_) (a' := ?_) #[true, false, false, false, false, false, false, false, false] rfl rfl (any_of HT_.out (by kernel_rfl)) (fun _ _ _ h => h) (Or.inl ⟨by rfl, ?_⟩) ?_ ?_
 rotate_left
 · intro w'
   go_simp
   try with_reducible rfl
 rotate_left
 · simp only [Act.put, List.setIfInBounds_toArray, List.set_cons_zero, List.set_cons_succ, i64_w, i32_w]
   rfl
 refine take_ (i := 1) (N := some 9) (v := ?_) (a' := ?_) #[true, true, false, false, false, false, false, false, false] rfl rfl (take_ofW HT_.out HW_.out (by kernel_rfl)) (fun _ _ _ h => h) (Or.inl ⟨by rfl, ?_⟩) hHeld ?_ ?_
 rotate_left
 · rintro w' ⟨s0, s1, s2, s3, s4, s5, s6, s7, s8, s9⟩
   go_simp
   try with_reducible rfl
 rotate_left
 · simp only [Act.put, List.setIfInBounds_toArray, List.set_cons_zero, List.set_cons_succ, i64_w, i32_w]
   rfl
 refine take_ (i := 3) (N := some 11) (v := ?_) (a' := ?_) #[true, true, false, true, false, false, false, false, false] rfl rfl (take_ofW HT_.out HW_.out (by kernel_rfl)) (fun _ _ _ h => h) (Or.inl ⟨by rfl, ?_⟩) hHeld ?_ ?_
 rotate_left
 · rintro w' ⟨s0, s1, s2, s3, s4, s5, s6, s7, s8, s9⟩
   go_simp
   try with_reducible rfl
 rotate_left
 · simp only [Act.put, List.setIfInBounds_toArray, List.set_cons_zero, List.set_cons_succ, i64_w, i32_w]
   rfl
 refine one_ (i := 2) (N := some 10) #[true, true, true, true, false, false, false, false, false] rfl rfl (one_of HT_.out (by kernel_rfl)) (by decide) (fun K hK => ?_)
 refine goes_ Tryd.func45 (by kernel_rfl) rfl #[.int .u16 33] (by rfl) rfl rfl (by first | rfl | (simp only [List.map_toArray, List.map_cons, List.map_nil]; done) | (simp only [List.map_toArray, List.map_cons, List.map_nil]; rfl)) ?_
 refine (of33 _ (HA.out.below HB.out)).mono ?_
 rintro e w1 ⟨rfl, hb⟩
 refine ⟨_, rfl, ?_⟩
 replace B_p := Aside0.mk (blk_below B_p.out hb)
 replace R8 := Aside0.mk (R8.out.old2 hb)
 replace HB := Aside0.mk (below_step HB.out hb)
 clear hb
 refine hK.out _ _ ⟨(blk_cell B_p.out 0).trans rfl, (blk_cell B_p.out 1).trans rfl, (blk_cell B_p.out 2).trans rfl, (blk_cell B_p.out 3).trans rfl, (blk_cell B_p.out 4).trans rfl, (blk_cell B_p.out 5).trans rfl, (blk_cell B_p.out 6).trans rfl, (blk_cell B_p.out 7).trans rfl, (blk_cell B_p.out 8).trans rfl, (blk_cell B_p.out 9).trans rfl⟩ (fun hHeld => ?_)
 clear hK K
 refine norm_ (a' := ?_) ?_ ?_
 rotate_left
 · show Act.put _ (some 10) _ = _
   simp only [Act.put, List.setIfInBounds_toArray, List.set_cons_zero, List.set_cons_succ, i64_w, i32_w]
   rfl
 refine one_ (i := 4) (N := some 12) #[true, true, true, true, true, false, false, false, false] rfl rfl (one_of HT_.out (by kernel_rfl)) (by decide) (fun K hK => ?_)
 refine call_ 109 #[.agg #[], .agg (pk 33 0 0 (.slice none 0 0) 0 0 (.slice none 0 0) (.slice none 0 0) v8 (.slice none 0 0))] (by rfl) rfl (by go_simp; try rfl) ?_
 refine (plain_put _ l8 R8.out HB.out.size HBy.out HL.out).mono ?_
 rintro e w2 ⟨v_, rfl, hv, hb⟩
 refine ⟨_, rfl, ?_⟩
 have RV := Aside0.mk hv
 clear hv
 replace B_p := Aside0.mk (blk_below B_p.out hb)
 replace R8 := Aside0.mk (R8.out.old2 hb)
 replace HB := Aside0.mk (below_step HB.out hb)
 clear hb
 refine hK.out _ _ ⟨(blk_cell B_p.out 0).trans rfl, (blk_cell B_p.out 1).trans rfl, (blk_cell B_p.out 2).trans rfl, (blk_cell B_p.out 3).trans rfl, (blk_cell B_p.out 4).trans rfl, (blk_cell B_p.out 5).trans rfl, (blk_cell B_p.out 6).trans rfl, (blk_cell B_p.out 7).trans rfl, (blk_cell B_p.out 8).trans rfl, (blk_cell B_p.out 9).trans rfl⟩ (fun hHeld => ?_)
 clear hK K
 refine norm_ (a' := ?_) ?_ ?_
 rotate_left
 · show Act.put _ (some 12) _ = _
   simp only [Act.put, List.setIfInBounds_toArray, List.set_cons_zero, List.set_cons_succ, i64_w, i32_w]
   rfl
 refine pure_ (i := 5) (N := some 13) (v := ?_) (a' := ?_) #[true, true, true, true, true, true, false, false, false] rfl rfl (any_of HT_.out (by kernel_rfl)) (fun _ _ _ h => h) (Or.inl ⟨by rfl, ?_⟩) ?_ ?_
 rotate_left
 · intro w'
   go_simp
   try with_reducible rfl
 rotate_left
 · simp only [Act.put, List.setIfInBounds_toArray, List.set_cons_zero, List.set_cons_succ, i64_w, i32_w]
   rfl
 refine pure_ (i := 6) (N := some 14) (v := ?_) (a' := ?_) #[true, true, true, true, true, true, true, false, false] rfl rfl (any_of HT_.out (by kernel_rfl)) (fun _ _ _ h => h) (Or.inl ⟨by rfl, ?_⟩) ?_ ?_
 rotate_left
 · intro w'
   go_simp
   try with_reducible rfl
 rotate_left
 · simp only [Act.put, List.setIfInBounds_toArray, List.set_cons_zero, List.set_cons_succ, i64_w, i32_w]
   rfl
 refine pure_ (i := 7) (N := some 2) (v := ?_) (a' := ?_) #[true, true, true, true, true, true, true, true, false] rfl rfl (any_of HT_.out (by kernel_rfl)) (fun _ _ _ h => h) (Or.inl ⟨by rfl, ?_⟩) ?_ ?_
 rotate_left
 · intro w'
   go_simp
   try with_reducible rfl
 rotate_left
 · simp only [Act.put, List.setIfInBounds_toArray, List.set_cons_zero, List.set_cons_succ, i64_w, i32_w]
   rfl
 refine pure_ (i := 8) (N := some 3) (v := ?_) (a' := ?_) #[true, true, true, true, true, true, true, true, true] rfl rfl (any_of HT_.out (by kernel_rfl)) (fun _ _ _ h => h) (Or.inl ⟨by rfl, ?_⟩) ?_ ?_
 rotate_left
 · intro w'
   go_simp
   try with_reducible rfl
 rotate_left
 · simp only [Act.put, List.setIfInBounds_toArray, List.set_cons_zero, List.set_cons_succ, i64_w, i32_w]
   rfl
 refine done_ (done_of HT_.out (by kernel_rfl)) ?_
 try go_wp2
 go_ret2
 exact ⟨_, rfl, RV.out, HB.out⟩
set_option maxHeartbeats 8000000 in
set_option maxRecDepth 100000 in
theorem putLcp (w : World) : Calls Tryd.prog 26 #[.agg (pk 49185 5 0 (.slice none 0 0) 0 0 (.slice none 0 0) (.slice none 0 0) (.slice none 0 0) (.slice none 0 0))] w fun e w' => ∃ v, e = .returned (.tuple #[v, .int .i64 0]) ∧ Rd (Kd.int .u8) w' v [5, 0, 0, 4] ∧ Below w.heap.size w w' := by
 have hu29 := Tryd.underlying29
 have HB := Aside0.mk (Below.refl w.heap.size w)
 go_enter Tryd.func26, Tryd.ntmps26
 go_upto_region 3 with (first | ((with_reducible refine gate_dst (N := 1) rfl ?_); refine gate_guard (by rfl) ?_; refine ev_box rfl rfl (cs := (pk 49185 5 0 (.slice none 0 0) 0 0 (.slice none 0 0) (.slice none 0 0) (.slice none 0 0) (.slice none 0 0))) (by rfl) ?_; intro g_p hg w1 hn hb; have G_p := Aside0.mk (show w.heap.size ≤ g_p from by rw [hg]; exact below_size HB.out); replace HB := Aside0.mk (below_step HB.out hb); clear hb; have B_p := Aside0.mk hn; clear hn hg) | ((with_reducible refine gate_dst (N := 5) rfl ?_); refine gate_guard (by rfl) ?_; refine ev_loadf rfl rfl rfl B_p.out rfl Tryd.underlying22 rfl ?_) | (go_at_call 44; refine (right_calls _ _ _ rfl).mono ?_; rintro e wr ⟨rfl, hb⟩; replace B_p := Aside0.mk (blk_below B_p.out hb); replace HB := Aside0.mk (below_step HB.out hb); clear hb))
 replace B_p := Aside0.mk (blk_drew B_p.out)
 replace HB := Aside0.mk (below_drew1 HB.out)
 refine start_ (n := 9) (S := fun w' => w'.cell? ⟨g_p, 0, none⟩ = some (.int .u16 49185) ∧ w'.cell? ⟨g_p, 1, none⟩ = some (.int .u8 5) ∧ w'.cell? ⟨g_p, 2, none⟩ = some (.int .u8 0) ∧ w'.cell? ⟨g_p, 3, none⟩ = some ((.slice none 0 0)) ∧ w'.cell? ⟨g_p, 4, none⟩ = some (.int .u16 0) ∧ w'.cell? ⟨g_p, 5, none⟩ = some (.int .u32 0) ∧ w'.cell? ⟨g_p, 6, none⟩ = some ((.slice none 0 0)) ∧ w'.cell? ⟨g_p, 7, none⟩ = some ((.slice none 0 0)) ∧ w'.cell? ⟨g_p, 8, none⟩ = some ((.slice none 0 0)) ∧ w'.cell? ⟨g_p, 9, none⟩ = some ((.slice none 0 0))) (ds := []) #[false, false, false, false, false, false, false, false, false] (by kernel_rfl) rfl rfl ⟨(blk_cell B_p.out 0).trans rfl, (blk_cell B_p.out 1).trans rfl, (blk_cell B_p.out 2).trans rfl, (blk_cell B_p.out 3).trans rfl, (blk_cell B_p.out 4).trans rfl, (blk_cell B_p.out 5).trans rfl, (blk_cell B_p.out 6).trans rfl, (blk_cell B_p.out 7).trans rfl, (blk_cell B_p.out 8).trans rfl, (blk_cell B_p.out 9).trans rfl⟩ (fun hHeld => ?_)
 refine with_tabW tab26 bits26 (fun HT_ HW_ => ?_)
 generalize wr.drew = wd at B_p HB hHeld ⊢
 refine pure_ (i := 0) (N := some 8) (v := ?_) (a' := ?_) #[true, false, false, false, false, false, false, false, false] rfl rfl (any_of HT_.out (by kernel_rfl)) (fun _ _ _ h => h) (Or.inl ⟨by rfl, ?_⟩) ?_ ?_
 rotate_left
 · intro w'
   go_simp
   try with_reducible rfl
 rotate_left
 · simp only [Act.put, List.setIfInBounds_toArray, List.set_cons_zero, List.set_cons_succ, i64_w, i32_w]
   rfl
 refine take_ (i := 1) (N := some 9) (v := ?_) (a' := ?_) #[true, true, false, false, false, false, false, false, false] rfl rfl (take_ofW HT_.out HW_.out (by kernel_rfl)) (fun _ _ _ h => h) (Or.inl ⟨by rfl, ?_⟩) hHeld ?_ ?_
 rotate_left
 · rintro w' ⟨s0, s1, s2, s3, s4, s5, s6, s7, s8, s9⟩
   go_simp
   try with_reducible rfl
 rotate_left
 · simp only [Act.put, List.setIfInBounds_toArray, List.set_cons_zero, List.set_cons_succ, i64_w, i32_w]
   rfl
 refine take_ (i := 3) (N := some 11) (v := ?_) (a' := ?_) #[true, true, false, true, false, false, false, false, false] rfl rfl (take_ofW HT_.out HW_.out (by kernel_rfl)) (fun _ _ _ h => h) (Or.inl ⟨by rfl, ?_⟩) hHeld ?_ ?_
 rotate_left
 · rintro w' ⟨s0, s1, s2, s3, s4, s5, s6, s7, s8, s9⟩
   go_simp
   try with_reducible rfl
 rotate_left
 · simp only [Act.put, List.setIfInBounds_toArray, List.set_cons_zero, List.set_cons_succ, i64_w, i32_w]
   rfl
 refine one_ (i := 2) (N := some 10) #[true, true, true, true, false, false, false, false, false] rfl rfl (one_of HT_.out (by kernel_rfl)) (by decide) (fun K hK => ?_)
 refine goes_ Tryd.func45 (by kernel_rfl) rfl #[.int .u16 49185] (by rfl) rfl rfl (by first | rfl | (simp only [List.map_toArray, List.map_cons, List.map_nil]; done) | (simp only [List.map_toArray, List.map_cons, List.map_nil]; rfl)) ?_
 refine (ofLcp _).mono ?_
 rintro e w1 ⟨rfl, hb⟩
 refine ⟨_, rfl, ?_⟩
 replace B_p := Aside0.mk (blk_below B_p.out hb)
 replace HB := Aside0.mk (below_step HB.out hb)
 clear hb
 refine hK.out _ _ ⟨(blk_cell B_p.out 0).trans rfl, (blk_cell B_p.out 1).trans rfl, (blk_cell B_p.out 2).trans rfl, (blk_cell B_p.out 3).trans rfl, (blk_cell B_p.out 4).trans rfl, (blk_cell B_p.out 5).trans rfl, (blk_cell B_p.out 6).trans rfl, (blk_cell B_p.out 7).trans rfl, (blk_cell B_p.out 8).trans rfl, (blk_cell B_p.out 9).trans rfl⟩ (fun hHeld => ?_)
 clear hK K
 refine norm_ (a' := ?_) ?_ ?_
 rotate_left
 · show Act.put _ (some 10) _ = _
   simp only [Act.put, List.setIfInBounds_toArray, List.set_cons_zero, List.set_cons_succ, i64_w, i32_w]
   rfl
 refine one_ (i := 4) (N := some 12) #[true, true, true, true, true, false, false, false, false] rfl rfl (one_of HT_.out (by kernel_rfl)) (by decide) (fun K hK => ?_)
 refine call_ 102 #[.agg #[.func (.func 53) #[] #[], .func (.func 54) #[] #[]], .agg (pk 49185 5 0 (.slice none 0 0) 0 0 (.slice none 0 0) (.slice none 0 0) (.slice none 0 0) (.slice none 0 0))] (by rfl) rfl (by go_simp; try rfl) ?_
 refine (known_put _).mono ?_
 rintro e w2 ⟨v_, rfl, hv, hb⟩
 refine ⟨_, rfl, ?_⟩
 have RV := Aside0.mk hv
 clear hv
 replace B_p := Aside0.mk (blk_below B_p.out hb)
 replace HB := Aside0.mk (below_step HB.out hb)
 clear hb
 refine hK.out _ _ ⟨(blk_cell B_p.out 0).trans rfl, (blk_cell B_p.out 1).trans rfl, (blk_cell B_p.out 2).trans rfl, (blk_cell B_p.out 3).trans rfl, (blk_cell B_p.out 4).trans rfl, (blk_cell B_p.out 5).trans rfl, (blk_cell B_p.out 6).trans rfl, (blk_cell B_p.out 7).trans rfl, (blk_cell B_p.out 8).trans rfl, (blk_cell B_p.out 9).trans rfl⟩ (fun hHeld => ?_)
 clear hK K
 refine norm_ (a' := ?_) ?_ ?_
 rotate_left
 · show Act.put _ (some 12) _ = _
   simp only [Act.put, List.setIfInBounds_toArray, List.set_cons_zero, List.set_cons_succ, i64_w, i32_w]
   rfl
 refine pure_ (i := 5) (N := some 13) (v := ?_) (a' := ?_) #[true, true, true, true, true, true, false, false, false] rfl rfl (any_of HT_.out (by kernel_rfl)) (fun _ _ _ h => h) (Or.inl ⟨by rfl, ?_⟩) ?_ ?_
 rotate_left
 · intro w'
   go_simp
   try with_reducible rfl
 rotate_left
 · simp only [Act.put, List.setIfInBounds_toArray, List.set_cons_zero, List.set_cons_succ, i64_w, i32_w]
   rfl
 refine pure_ (i := 6) (N := some 14) (v := ?_) (a' := ?_) #[true, true, true, true, true, true, true, false, false] rfl rfl (any_of HT_.out (by kernel_rfl)) (fun _ _ _ h => h) (Or.inl ⟨by rfl, ?_⟩) ?_ ?_
 rotate_left
 · intro w'
   go_simp
   try with_reducible rfl
 rotate_left
 · simp only [Act.put, List.setIfInBounds_toArray, List.set_cons_zero, List.set_cons_succ, i64_w, i32_w]
   rfl
 refine pure_ (i := 7) (N := some 2) (v := ?_) (a' := ?_) #[true, true, true, true, true, true, true, true, false] rfl rfl (any_of HT_.out (by kernel_rfl)) (fun _ _ _ h => h) (Or.inl ⟨by rfl, ?_⟩) ?_ ?_
 rotate_left
 · intro w'
   go_simp
   try with_reducible rfl
 rotate_left
 · simp only [Act.put, List.setIfInBounds_toArray, List.set_cons_zero, List.set_cons_succ, i64_w, i32_w]
   rfl
 refine pure_ (i := 8) (N := some 3) (v := ?_) (a' := ?_) #[true, true, true, true, true, true, true, true, true] rfl rfl (any_of HT_.out (by kernel_rfl)) (fun _ _ _ h => h) (Or.inl ⟨by rfl, ?_⟩) ?_ ?_
 rotate_left
 · intro w'
   go_simp
   try with_reducible rfl
 rotate_left
 · simp only [Act.put, List.setIfInBounds_toArray, List.set_cons_zero, List.set_cons_succ, i64_w, i32_w]
   rfl
 refine done_ (done_of HT_.out (by kernel_rfl)) ?_
 try go_wp2
 go_ret2
 exact ⟨_, rfl, RV.out, HB.out⟩
end Go.Proofs.YteanncchmenlkaaDoor.Hw
namespace Go.Proofs.YteanncchmenlkaaDoor.Hw
open Go.RowKit Go.Proofs.YteanncchmenlkaaDoorW.PrintWords Go.Proofs.YteanncchmenlkaaDoorW.PrintLast Go.Proofs.YteanncchmenlkaaDoorW.PrintMore Go.Proofs.YteanncchmenlkaaDoor.Print Go.Proofs.YteanncchmenlkaaDoor.Sp Go.Proofs.YteanncchmenlkaaDoor.Pl
set_option linter.unusedVariables false
set_option linter.unusedSimpArgs false
theorem equal_calls {W : World} {u v : Value} {a b : List Int} {k : Nat} {r : Bool} (hu : Rd (Kd.int .u8) W u a) (hv : Rd (Kd.int .u8) W v b) (hf : marlineref01_Equal.f k a b = some r) :
 Calls Tryd.prog 17 #[u, v] W fun e w' => e = .returned (.bool r) ∧ Below W.heap.size W w' := by
 obtain ⟨A, c, rfl, n, f⟩ := hu
 obtain ⟨B, d, rfl, m, g⟩ := hv
 exact (marlineref01_Equal.calls k A c a B d b r W (Kd.F_now f) n (Kd.F_now g) m hf).mono fun e w' h => ⟨h.1, h.2.below⟩
set_option maxHeartbeats 8000000 in
set_option maxRecDepth 100000 in
theorem speaks20 (w : World) (hA : GA w) : Calls Tryd.prog 22 #[] w fun e w' => e = .returned (.bool true) ∧ Below w.heap.size w w' := by
 have hu29 := Tryd.underlying29
 obtain ⟨k1, h1⟩ := Ev.rounds (Equal [1, 2] [1, 2] (by unfold Lim; decide))
 obtain ⟨k2, h2⟩ := Ev.rounds (Equal [5, 0, 0, 4] [5, 0, 0, 4] (by unfold Lim; decide))
 have HE1 := Aside0.mk h1
 have HE2 := Aside0.mk h2
 have HA := Aside0.mk hA
 have HY := Aside0.mk (show Bytes [1, 2] from Bytes.cons (by unfold Byte; decide) (Bytes.cons (by unfold Byte; decide) Bytes.nil))
 have HL := Aside0.mk (show Lim [1, 2] by unfold Lim; decide)
 clear h1 h2 hA
 have HB := Aside0.mk (Below.refl w.heap.size w)
 go_enter Tryd.func22, Tryd.ntmps22
 go_wp2_with (first | ((with_reducible refine gate_dst (N := 6) rfl ?_); refine gate_guard (by rfl) ?_; refine ev_slice rfl (n := 2) (cs := #[.int .u8 1, .int .u8 2]) (e := 5) (by first | (go_simp; done) | (go_simp; rfl)) ?_; intro g_a hg w1 hn hb; have G_a := Aside0.mk (show w.heap.size ≤ g_a from by rw [hg]; exact below_size HB.out); replace HB := Aside0.mk (below_step HB.out hb); clear hb; have B_a := Aside0.mk hn; clear hn hg) | ((with_reducible refine gate_dst (N := 8) rfl ?_); refine gate_guard (by rfl) ?_; refine goesL_ (some 8) rfl rfl Tryd.func26 (by kernel_rfl) rfl #[.agg (pk 33 0 0 (.slice none 0 0) 0 0 (.slice none 0 0) (.slice none 0 0) (.slice (some ⟨g_a, 0, none⟩) 2 2) (.slice none 0 0))] rfl (by first | rfl | (simp only [List.map_toArray, List.map_cons, List.map_nil]; done) | (simp only [List.map_toArray, List.map_cons, List.map_nil]; rfl)) ?_; refine (put33 _ [1, 2] (HA.out.below HB.out) (v_blk_ints B_a.out rfl rfl (by decide)) HY.out HL.out).mono ?_; rintro e w2 ⟨v1, rfl, hv, hb⟩; refine ⟨_, rfl, ?_⟩; have F_1 := Aside0.mk hv; clear hv; replace B_a := Aside0.mk (blk_below B_a.out hb); replace HB := Aside0.mk (below_step HB.out hb); clear hb) | ((with_reducible refine gate_dst (N := 13) rfl ?_); refine gate_guard (by rfl) ?_; refine goesL_ (some 13) rfl rfl Tryd.func26 (by kernel_rfl) rfl #[.agg (pk 49185 5 0 (.slice none 0 0) 0 0 (.slice none 0 0) (.slice none 0 0) (.slice none 0 0) (.slice none 0 0))] rfl (by first | rfl | (simp only [List.map_toArray, List.map_cons, List.map_nil]; done) | (simp only [List.map_toArray, List.map_cons, List.map_nil]; rfl)) ?_; refine (putLcp _).mono ?_; rintro e w3 ⟨v2, rfl, hv, hb⟩; refine ⟨_, rfl, ?_⟩; have F_2 := Aside0.mk hv; clear hv; replace B_a := Aside0.mk (blk_below B_a.out hb); replace F_1 := Aside0.mk (F_1.out.below hb); replace HB := Aside0.mk (below_step HB.out hb); clear hb) | ((with_reducible refine gate_dst (N := 24) rfl ?_); refine gate_guard (by rfl) ?_; refine ev_slice rfl (n := 2) (cs := #[.int .u8 1, .int .u8 2]) (e := 5) (by first | (go_simp; done) | (go_simp; rfl)) ?_; intro g_b hg w4 hn hb; have G_b := Aside0.mk (show w.heap.size ≤ g_b from by rw [hg]; exact below_size HB.out); replace B_a := Aside0.mk (blk_below B_a.out hb); replace F_1 := Aside0.mk (F_1.out.below hb); replace F_2 := Aside0.mk (F_2.out.below hb); replace HB := Aside0.mk (below_step HB.out hb); clear hb; have B_b := Aside0.mk hn; clear hn hg) | ((with_reducible refine gate_dst (N := 25) rfl ?_); refine gate_guard (by rfl) ?_; refine goesL_ (some 25) rfl rfl Tryd.func17 (by kernel_rfl) rfl #[v1, .slice (some ⟨g_b, 0, none⟩) 2 2] rfl (by first | rfl | (simp only [List.map_toArray, List.map_cons, List.map_nil]; done) | (simp only [List.map_toArray, List.map_cons, List.map_nil]; rfl)) ?_; refine (equal_calls F_1.out (rd_of_v (v_blk_ints B_b.out rfl rfl (by decide))) HE1.out).mono ?_; rintro e w5 ⟨rfl, hb⟩; refine ⟨_, rfl, ?_⟩; replace B_a := Aside0.mk (blk_below B_a.out hb); replace B_b := Aside0.mk (blk_below B_b.out hb); replace F_1 := Aside0.mk (F_1.out.below hb); replace F_2 := Aside0.mk (F_2.out.below hb); replace HB := Aside0.mk (below_step HB.out hb); clear hb) | ((with_reducible refine gate_dst (N := 29) rfl ?_); refine gate_guard (by rfl) ?_; refine ev_slice rfl (n := 4) (cs := #[.int .u8 5, .int .u8 0, .int .u8 0, .int .u8 4]) (e := 5) (by first | (go_simp; done) | (go_simp; rfl)) ?_; intro g_c hg w6 hn hb; have G_c := Aside0.mk (show w.heap.size ≤ g_c from by rw [hg]; exact below_size HB.out); replace B_a := Aside0.mk (blk_below B_a.out hb); replace B_b := Aside0.mk (blk_below B_b.out hb); replace F_1 := Aside0.mk (F_1.out.below hb); replace F_2 := Aside0.mk (F_2.out.below hb); replace HB := Aside0.mk (below_step HB.out hb); clear hb; have B_c := Aside0.mk hn; clear hn hg) | ((with_reducible refine gate_dst (N := 30) rfl ?_); refine gate_guard (by rfl) ?_; refine goesL_ (some 30) rfl rfl Tryd.func17 (by kernel_rfl) rfl #[v2, .slice (some ⟨g_c, 0, none⟩) 4 4] rfl (by first | rfl | (simp only [List.map_toArray, List.map_cons, List.map_nil]; done) | (simp only [List.map_toArray, List.map_cons, List.map_nil]; rfl)) ?_; refine (equal_calls F_2.out (rd_of_v (v_blk_ints B_c.out rfl rfl (by decide))) HE2.out).mono ?_; rintro e w7 ⟨rfl, hb⟩; refine ⟨_, rfl, ?_⟩; replace B_a := Aside0.mk (blk_below B_a.out hb); replace B_b := Aside0.mk (blk_below B_b.out hb); replace B_c := Aside0.mk (blk_below B_c.out hb); replace F_1 := Aside0.mk (F_1.out.below hb); replace F_2 := Aside0.mk (F_2.out.below hb); replace HB := Aside0.mk (below_step HB.out hb); clear hb))
 go_ret
 exact ⟨rfl, HB.out⟩
end Go.Proofs.YteanncchmenlkaaDoor.Hw
namespace Go.Proofs.YteanncchmenlkaaDoor.Hw
open Go.RowKit Go.Proofs.YteanncchmenlkaaDoorW.PrintWords Go.Proofs.YteanncchmenlkaaDoorW.PrintLast Go.Proofs.YteanncchmenlkaaDoorW.PrintMore Go.Proofs.YteanncchmenlkaaDoor.Print Go.Proofs.YteanncchmenlkaaDoor.Sp Go.Proofs.YteanncchmenlkaaDoor.Pl
set_option linter.unusedVariables false
set_option linter.unusedSimpArgs false
def TB3 : Bool × List (List Nat × List Nat) := (true, [([], []), ([0], [0]), ([], []), ([2, 1], [2]), ([], []), ([], []), ([4, 1, 3, 0, 1, 4, 5], [1, 4]), ([5, 3, 6, 0, 1, 2, 3, 4, 5, 6], [3, 5])])
def BB3 : List Nat := [0, 1, 0, 7, 0, 0, 63, 127]
theorem tabB3 : rtab .any (opsOf Tryd.f5 3) = TB3 := by kernel_rfl
theorem bitsB3 : waitsOk TB3.2 BB3 = true := by kernel_rfl
theorem rep_opt0 (W : World) (base : Nat) (okp : Nat → Prop) : Reps (k62.M W base okp) k62.sz [⟨0, []⟩] [.int .u8 0, .slice none 0 0] :=
 ⟨rfl, fun j p hj => by
  cases j with
  | zero =>
   have hp : (⟨0, []⟩ : S62) = p := by simpa using hj
   subst hp
   exact ⟨[.int .u8 0], [.slice none 0 0], rfl, rfl, ⟨_, rfl, Kd.R_nil _ _ _ _ _⟩⟩
  | succ j => simp at hj⟩
theorem one_byte : Byte 1 := by unfold Byte; decide
set_option maxHeartbeats 64000000 in
set_option maxRecDepth 100000 in
theorem bsame (w : World) (p0 p1 p2 p4 p5 a1 : Int) (o : List RO) (l6 l7 l8 l9 : List Int) (A3 A6 A7 A8 A9 : Option Addr) (c3 c6 c7 c8 c9 : Nat) (fp : Bool) (hA : GA w)
 (cfew : ∀ W, Below w.heap.size w W → Calls Tryd.prog 23 #[.agg (pk p0 p1 p2 (.slice A3 o.length c3) p4 p5 (.slice A6 l6.length c6) (.slice A7 l7.length c7) (.slice A8 l8.length c8) (.slice A9 l9.length c9))] W fun e w' => e = .returned (.bool fp) ∧ Below W.heap.size W w')
 (rr : ∀ W, Below w.heap.size w W → PkR k105 W (fun k => k < w.heap.size) (.slice A3 o.length c3) (.slice A6 l6.length c6) (.slice A7 l7.length c7) (.slice A8 l8.length c8) (.slice A9 l9.length c9) o l6 l7 l8 l9)
 (hl : fp = true → o.length ≤ 1000 ∧ l6.length ≤ 1000 ∧ l7.length ≤ 1000 ∧ l8.length ≤ 1000 ∧ l9.length ≤ 1000) (hfit : fp = true → Fit (o.map ao) l6 l7 l8 l9)
 (h0 : 0 ≤ p0 ∧ p0 ≤ 65535) (h1 : 0 ≤ p1 ∧ p1 ≤ 255) (h2 : 0 ≤ p2 ∧ p2 ≤ 255) (h4 : 0 ≤ p4 ∧ p4 ≤ 65535) (h5 : 0 ≤ p5 ∧ p5 ≤ 4294967295) (ha : 0 ≤ a1 ∧ a1 ≤ 255) :
 Calls Tryd.prog 5 #[.agg (pk p0 p1 p2 (.slice A3 o.length c3) p4 p5 (.slice A6 l6.length c6) (.slice A7 l7.length c7) (.slice A8 l8.length c8) (.slice A9 l9.length c9)), .int .u8 a1] w fun e w' => e = .returned (.bool true) ∧ Below w.heap.size w w' := by
 have hu42 := Tryd.underlying42
 have hu29 := Tryd.underlying29
 have HB := Aside0.mk (Below.refl w.heap.size w)
 have HA := Aside0.mk hA
 have hfew := Aside0.mk cfew
 have hR := Aside0.mk rr
 clear hA cfew rr
 obtain ⟨h00, h01⟩ := h0
 obtain ⟨h10, h11⟩ := h1
 obtain ⟨h20, h21⟩ := h2
 obtain ⟨h40, h41⟩ := h4
 obtain ⟨h50, h51⟩ := h5
 obtain ⟨ha0, ha1⟩ := ha
 cases fp
 · clear hl hfit
   go_enter Tryd.func5, Tryd.ntmps5
   go_wp2_with (first | ((with_reducible refine gate_dst (N := 2) rfl ?_); refine gate_guard (by rfl) ?_; refine ev_box rfl rfl (cs := (pk p0 p1 p2 (.slice A3 o.length c3) p4 p5 (.slice A6 l6.length c6) (.slice A7 l7.length c7) (.slice A8 l8.length c8) (.slice A9 l9.length c9))) (by rfl) ?_; intro g_p hg w1 hn hb; have G_p := Aside0.mk (show w.heap.size ≤ g_p from by rw [hg]; exact below_size HB.out); replace HB := Aside0.mk (below_step HB.out hb); clear hb; have B_p := Aside0.mk hn; clear hn hg) | ((with_reducible refine gate_dst (N := 7) rfl ?_); refine gate_guard (by rfl) ?_; refine goesL_ (some 7) rfl rfl Tryd.func22 (by kernel_rfl) rfl #[] rfl (by first | rfl | (simp only [List.map_toArray, List.map_cons, List.map_nil]; done) | (simp only [List.map_toArray, List.map_cons, List.map_nil]; rfl)) ?_; refine (speaks20 _ (HA.out.below HB.out)).mono ?_; rintro e w2 ⟨rfl, hb⟩; refine ⟨_, rfl, ?_⟩; replace B_p := Aside0.mk (blk_below B_p.out hb); replace HB := Aside0.mk (below_step HB.out hb); clear hb) | ((with_reducible refine gate_dst (N := 10) rfl ?_); refine gate_guard (by rfl) ?_; refine ev_load rfl rfl rfl B_p.out Tryd.underlying42 rfl (by kernel_rfl) ?_) | ((with_reducible refine gate_dst (N := 11) rfl ?_); refine gate_guard (by rfl) ?_; refine goesL_ (some 11) rfl rfl Tryd.func23 (by kernel_rfl) rfl #[.agg (pk p0 p1 p2 (.slice A3 o.length c3) p4 p5 (.slice A6 l6.length c6) (.slice A7 l7.length c7) (.slice A8 l8.length c8) (.slice A9 l9.length c9))] rfl (by first | rfl | (simp only [List.map_toArray, List.map_cons, List.map_nil]; done) | (simp only [List.map_toArray, List.map_cons, List.map_nil]; rfl)) ?_; refine (hfew.out _ HB.out).mono ?_; rintro e w3 ⟨rfl, hb⟩; refine ⟨_, rfl, ?_⟩; replace B_p := Aside0.mk (blk_below B_p.out hb); replace HB := Aside0.mk (below_step HB.out hb); clear hb) | ((with_reducible refine gate_dst (N := 14) rfl ?_); refine gate_guard (by rfl) ?_; refine goesL_ (some 14) rfl rfl Tryd.func22 (by kernel_rfl) rfl #[] rfl (by first | rfl | (simp only [List.map_toArray, List.map_cons, List.map_nil]; done) | (simp only [List.map_toArray, List.map_cons, List.map_nil]; rfl)) ?_; refine (speaks20 _ (HA.out.below HB.out)).mono ?_; rintro e w4 ⟨rfl, hb⟩; refine ⟨_, rfl, ?_⟩; replace B_p := Aside0.mk (blk_below B_p.out hb); replace HB := Aside0.mk (below_step HB.out hb); clear hb))
   go_ret
   exact ⟨rfl, HB.out⟩
 have hlen := hl rfl
 have HF := Aside0.mk (hfit rfl)
 clear hl hfit
 obtain ⟨ko, ho⟩ := Ev.rounds (OfP p0 p1 p2 o p4 p5 l6 l7 l8 l9 (by omega))
 have HO := Aside0.mk ho
 obtain ⟨ks, hs⟩ := Ev.rounds (Same20 p0 p1 p2 (o.map ao) p4 p5 l6 l7 l8 l9 p0 p1 p2 (o.map ao) p4 p5 l6 l7 l8 l9 HF.out HF.out)
 rw [same_self] at hs
 have HS := Aside0.mk hs
 clear ho hs
 go_enter Tryd.func5, Tryd.ntmps5
 go_upto_region 3 with (first | ((with_reducible refine gate_dst (N := 2) rfl ?_); refine gate_guard (by rfl) ?_; refine ev_box rfl rfl (cs := (pk p0 p1 p2 (.slice A3 o.length c3) p4 p5 (.slice A6 l6.length c6) (.slice A7 l7.length c7) (.slice A8 l8.length c8) (.slice A9 l9.length c9))) (by rfl) ?_; intro g_p hg w1 hn hb; have G_p := Aside0.mk (show w.heap.size ≤ g_p from by rw [hg]; exact below_size HB.out); replace HB := Aside0.mk (below_step HB.out hb); clear hb; have B_p := Aside0.mk hn; clear hn hg) | ((with_reducible refine gate_dst (N := 7) rfl ?_); refine gate_guard (by rfl) ?_; refine goesL_ (some 7) rfl rfl Tryd.func22 (by kernel_rfl) rfl #[] rfl (by first | rfl | (simp only [List.map_toArray, List.map_cons, List.map_nil]; done) | (simp only [List.map_toArray, List.map_cons, List.map_nil]; rfl)) ?_; refine (speaks20 _ (HA.out.below HB.out)).mono ?_; rintro e w2 ⟨rfl, hb⟩; refine ⟨_, rfl, ?_⟩; replace B_p := Aside0.mk (blk_below B_p.out hb); replace HB := Aside0.mk (below_step HB.out hb); clear hb) | ((with_reducible refine gate_dst (N := 10) rfl ?_); refine gate_guard (by rfl) ?_; refine ev_load rfl rfl rfl B_p.out Tryd.underlying42 rfl (by kernel_rfl) ?_) | ((with_reducible refine gate_dst (N := 11) rfl ?_); refine gate_guard (by rfl) ?_; refine goesL_ (some 11) rfl rfl Tryd.func23 (by kernel_rfl) rfl #[.agg (pk p0 p1 p2 (.slice A3 o.length c3) p4 p5 (.slice A6 l6.length c6) (.slice A7 l7.length c7) (.slice A8 l8.length c8) (.slice A9 l9.length c9))] rfl (by first | rfl | (simp only [List.map_toArray, List.map_cons, List.map_nil]; done) | (simp only [List.map_toArray, List.map_cons, List.map_nil]; rfl)) ?_; refine (hfew.out _ HB.out).mono ?_; rintro e w3 ⟨rfl, hb⟩; refine ⟨_, rfl, ?_⟩; replace B_p := Aside0.mk (blk_below B_p.out hb); replace HB := Aside0.mk (below_step HB.out hb); clear hb))
 refine start_ (n := 8) (S := fun w' => True) (ds := []) #[false, false, false, false, false, false, false, false] (by kernel_rfl) rfl rfl trivial (fun hHeld => ?_)
 refine with_tabW tabB3 bitsB3 (fun HT_ HW_ => ?_)
 replace B_p := Aside0.mk (blk_drew B_p.out)
 replace HB := Aside0.mk (below_drew1 HB.out)
 generalize w3.drew = wd at B_p HB ⊢
 have L_x := Aside0.mk (blk_lt B_p.out)
 have L_y := Aside0.mk (blk_lt B_p.out)
 have N_ := Aside0.mk (show g_p = g_p → g_p = g_p from fun h => h)
 have G_x := Aside0.mk G_p.out
 have G_y := Aside0.mk G_p.out
 refine inv_at [0, 1, 2, 3, 4, 5, 6, 7] (fun a0_ b a w' => ∃ (x_ : Value) (y_ : Value) (g_x : Nat) (g_y : Nat) (m4_ : Value) (m5_ : Value), a = putSel a0_ b [(0, 15, .agg (pk p0 p1 p2 (.slice A3 o.length c3) p4 p5 (.slice A6 l6.length c6) (.slice A7 l7.length c7) (.slice A8 l8.length c8) (.slice A9 l9.length c9))), (1, 16, x_), (2, 17, .agg (pk p0 p1 p2 (.slice A3 o.length c3) p4 p5 (.slice A6 l6.length c6) (.slice A7 l7.length c7) (.slice A8 l8.length c8) (.slice A9 l9.length c9))), (3, 18, y_), (4, 5, m4_), (5, 6, m5_)] ∧ (w'.heap[g_p]? = some (.cells (pk p0 p1 p2 (.slice A3 o.length c3) p4 p5 (.slice A6 l6.length c6) (.slice A7 l7.length c7) (.slice A8 l8.length c8) (.slice A9 l9.length c9)) 42 (0, 0))) ∧ (Below w.heap.size w w') ∧ (b 1 = true → PkF k62 w' (fun k => k ≠ g_x ∧ k ≠ g_y) x_ p0 p1 p2 (o.map ao) p4 p5 l6 l7 l8 l9) ∧ (b 3 = true → PkF k62 w' (fun k => k ≠ g_x ∧ k ≠ g_y) y_ p0 p1 p2 (o.map ao) p4 p5 l6 l7 l8 l9) ∧ (g_x < w'.heap.size) ∧ (g_y < w'.heap.size) ∧ (g_x = g_y → g_x = g_p) ∧ (w.heap.size ≤ g_x) ∧ (w.heap.size ≤ g_y) ∧ (b 4 = true → g_p ≠ g_x) ∧ (b 5 = true → g_p ≠ g_y) ∧ (b 4 = true → b 6 = false → w'.heap[g_x]? = some (.cells #[.int .u16 0, .int .u8 0, .int .u8 0, .slice none 0 0, .int .u16 0, .int .u32 0, .slice none 0 0, .slice none 0 0, .slice none 0 0, .slice none 0 0] 29 (0, 0))) ∧ (b 5 = true → b 7 = false → w'.heap[g_y]? = some (.cells #[.int .u16 0, .int .u8 0, .int .u8 0, .slice none 0 0, .int .u16 0, .int .u32 0, .slice none 0 0, .slice none 0 0, .slice none 0 0, .slice none 0 0] 29 (0, 0))) ∧ (b 6 = true → w'.heap[g_x]? = some (.cells x_.cells 29 (0, 0))) ∧ (b 7 = true → w'.heap[g_y]? = some (.cells y_.cells 29 (0, 0))) ∧ (b 4 = true → (m4_ : Value) = .pointer (some ⟨g_x, 0, none⟩)) ∧ (b 5 = true → (m5_ : Value) = .pointer (some ⟨g_y, 0, none⟩))) HT_.out HW_.out (by kernel_rfl) (by kernel_rfl) ?_ ?_ ?_
 · exact ⟨.bool false, .bool false, g_p, g_p, .bool false, .bool false, by simp only [putSel, Bool.false_eq_true, if_false], B_p.out, HB.out, fun h_ => absurd h_ (by decide), fun h_ => absurd h_ (by decide), L_x.out, L_y.out, N_.out, G_x.out, G_y.out, fun h_ => absurd h_ (by decide), fun h_ => absurd h_ (by decide), fun h_ => absurd h_ (by decide), fun h_ => absurd h_ (by decide), fun h_ => absurd h_ (by decide), fun h_ => absurd h_ (by decide), fun h_ => absurd h_ (by decide), fun h_ => absurd h_ (by decide)⟩
 · skip
   clear B_p G_x G_y HB L_x L_y N_
   refine steps_cons ?_ ?_
   · rintro b a w' ⟨x_, y_, g_x, g_y, m4_, m5_, ha, Q_B_p, Q_HB, Q_X_, Q_Y_, Q_L_x, Q_L_y, Q_N_, Q_G_x, Q_G_y, Q_N_p_x, Q_N_p_y, Q_Z_x, Q_Z_y, Q_B_x, Q_B_y, Q_X4_, Q_X5_⟩ hb_ hon hoff
     refine ⟨_, rfl, fun K hK => ?_⟩
     have e2 : a.tmps[2]? = some (.pointer (some ⟨g_p, 0, none⟩)) := by rw [ha]; exact (putSel_off rfl).trans rfl
     replace ha := Aside0.mk ha
     have B_p := Aside0.mk Q_B_p
     have HB := Aside0.mk Q_HB
     have L_x := Aside0.mk Q_L_x
     have L_y := Aside0.mk Q_L_y
     have N_ := Aside0.mk Q_N_
     have G_x := Aside0.mk Q_G_x
     have G_y := Aside0.mk Q_G_y
     refine st_load (by rfl) rfl (eval_of e2) B_p.out Tryd.underlying42 (by rfl) (by kernel_rfl) ?_
     refine hK.out _ _ ⟨x_, y_, g_x, g_y, m4_, m5_, (by rw [ha.out]; exact putSel_upk 0 hb_ rfl rfl rfl), B_p.out, HB.out, fun h0_ => absurd ((hoff 1 (by kernel_rfl)).symm.trans h0_) (by decide), fun h0_ => absurd ((hoff 3 (by kernel_rfl)).symm.trans h0_) (by decide), L_x.out, L_y.out, Q_N_, Q_G_x, Q_G_y, Q_N_p_x, Q_N_p_y, fun h0_ h1_ => (Q_Z_x h0_ h1_), fun h0_ h1_ => (Q_Z_y h0_ h1_), fun h0_ => absurd ((hoff 6 (by kernel_rfl)).symm.trans h0_) (by decide), fun h0_ => absurd ((hoff 7 (by kernel_rfl)).symm.trans h0_) (by decide), Q_X4_, Q_X5_⟩
   refine steps_cons ?_ ?_
   · rintro b a w' ⟨x_, y_, g_x, g_y, m4_, m5_, ha, Q_B_p, Q_HB, Q_X_, Q_Y_, Q_L_x, Q_L_y, Q_N_, Q_G_x, Q_G_y, Q_N_p_x, Q_N_p_y, Q_Z_x, Q_Z_y, Q_B_x, Q_B_y, Q_X4_, Q_X5_⟩ hb_ hon hoff
     refine ⟨_, rfl, fun K hK => ?_⟩
     have e15 : a.tmps[15]? = some (.agg (pk p0 p1 p2 (.slice A3 o.length c3) p4 p5 (.slice A6 l6.length c6) (.slice A7 l7.length c7) (.slice A8 l8.length c8) (.slice A9 l9.length c9))) := by rw [ha]; exact putSel_on (e := (0, 15, .agg (pk p0 p1 p2 (.slice A3 o.length c3) p4 p5 (.slice A6 l6.length c6) (.slice A7 l7.length c7) (.slice A8 l8.length c8) (.slice A9 l9.length c9)))) 0 rfl rfl (hon 0 (by kernel_rfl)) rfl
     replace ha := Aside0.mk ha
     have B_p := Aside0.mk Q_B_p
     have HB := Aside0.mk Q_HB
     have L_x := Aside0.mk Q_L_x
     have L_y := Aside0.mk Q_L_y
     have N_ := Aside0.mk Q_N_
     have G_x := Aside0.mk Q_G_x
     have G_y := Aside0.mk Q_G_y
     refine goes_ Tryd.func24 (by kernel_rfl) rfl #[.agg (pk p0 p1 p2 (.slice A3 o.length c3) p4 p5 (.slice A6 l6.length c6) (.slice A7 l7.length c7) (.slice A8 l8.length c8) (.slice A9 l9.length c9))] (by rfl) rfl rfl (by first | (simp only [List.map_toArray, List.map_cons, List.map_nil, Act.eval, Array.getD_eq_getD_getElem?, Option.getD_some, e15]; done) | (simp only [List.map_toArray, List.map_cons, List.map_nil, Act.eval, Array.getD_eq_getD_getElem?, Option.getD_some, e15]; rfl)) ?_
     refine (of_blocks (hR.out _ HB.out) HO.out).mono ?_
     rintro e w1 ⟨v_, rfl, hv_, hb⟩
     refine ⟨_, rfl, ?_⟩
     have m1 := L_x.out
     have m2 := L_y.out
     have m3 := G_x.out
     have m4 := G_y.out
     refine hK.out _ _ ⟨v_, y_, g_x, g_y, m4_, m5_, (by rw [ha.out]; exact putSel_upk 1 hb_ rfl rfl rfl), blk_below B_p.out hb, below_step HB.out hb, fun _ => hv_.mono (fun k hk => by omega), fun h0_ => absurd ((hoff 3 (by kernel_rfl)).symm.trans h0_) (by decide), Nat.lt_of_lt_of_le L_x.out hb.size, Nat.lt_of_lt_of_le L_y.out hb.size, Q_N_, Q_G_x, Q_G_y, Q_N_p_x, Q_N_p_y, fun h0_ h1_ => blk_below (Q_Z_x h0_ h1_) hb, fun h0_ h1_ => blk_below (Q_Z_y h0_ h1_) hb, fun h0_ => absurd ((hoff 6 (by kernel_rfl)).symm.trans h0_) (by decide), fun h0_ => absurd ((hoff 7 (by kernel_rfl)).symm.trans h0_) (by decide), Q_X4_, Q_X5_⟩
   refine steps_cons ?_ ?_
   · rintro b a w' ⟨x_, y_, g_x, g_y, m4_, m5_, ha, Q_B_p, Q_HB, Q_X_, Q_Y_, Q_L_x, Q_L_y, Q_N_, Q_G_x, Q_G_y, Q_N_p_x, Q_N_p_y, Q_Z_x, Q_Z_y, Q_B_x, Q_B_y, Q_X4_, Q_X5_⟩ hb_ hon hoff
     refine ⟨_, rfl, fun K hK => ?_⟩
     have e2 : a.tmps[2]? = some (.pointer (some ⟨g_p, 0, none⟩)) := by rw [ha]; exact (putSel_off rfl).trans rfl
     replace ha := Aside0.mk ha
     have B_p := Aside0.mk Q_B_p
     have HB := Aside0.mk Q_HB
     have L_x := Aside0.mk Q_L_x
     have L_y := Aside0.mk Q_L_y
     have N_ := Aside0.mk Q_N_
     have G_x := Aside0.mk Q_G_x
     have G_y := Aside0.mk Q_G_y
     refine st_load (by rfl) rfl (eval_of e2) B_p.out Tryd.underlying42 (by rfl) (by kernel_rfl) ?_
     refine hK.out _ _ ⟨x_, y_, g_x, g_y, m4_, m5_, (by rw [ha.out]; exact putSel_upk 2 hb_ rfl rfl rfl), B_p.out, HB.out, fun h0_ => (Q_X_ h0_), fun h0_ => absurd ((hoff 3 (by kernel_rfl)).symm.trans h0_) (by decide), L_x.out, L_y.out, Q_N_, Q_G_x, Q_G_y, Q_N_p_x, Q_N_p_y, fun h0_ h1_ => (Q_Z_x h0_ h1_), fun h0_ h1_ => (Q_Z_y h0_ h1_), fun h0_ => absurd ((hoff 6 (by kernel_rfl)).symm.trans h0_) (by decide), fun h0_ => absurd ((hoff 7 (by kernel_rfl)).symm.trans h0_) (by decide), Q_X4_, Q_X5_⟩
   refine steps_cons ?_ ?_
   · rintro b a w' ⟨x_, y_, g_x, g_y, m4_, m5_, ha, Q_B_p, Q_HB, Q_X_, Q_Y_, Q_L_x, Q_L_y, Q_N_, Q_G_x, Q_G_y, Q_N_p_x, Q_N_p_y, Q_Z_x, Q_Z_y, Q_B_x, Q_B_y, Q_X4_, Q_X5_⟩ hb_ hon hoff
     refine ⟨_, rfl, fun K hK => ?_⟩
     have e17 : a.tmps[17]? = some (.agg (pk p0 p1 p2 (.slice A3 o.length c3) p4 p5 (.slice A6 l6.length c6) (.slice A7 l7.length c7) (.slice A8 l8.length c8) (.slice A9 l9.length c9))) := by rw [ha]; exact putSel_on (e := (2, 17, .agg (pk p0 p1 p2 (.slice A3 o.length c3) p4 p5 (.slice A6 l6.length c6) (.slice A7 l7.length c7) (.slice A8 l8.length c8) (.slice A9 l9.length c9)))) 2 rfl rfl (hon 2 (by kernel_rfl)) rfl
     replace ha := Aside0.mk ha
     have B_p := Aside0.mk Q_B_p
     have HB := Aside0.mk Q_HB
     have X_ := Aside0.mk (Q_X_ (hon 1 (by kernel_rfl)))
     have L_x := Aside0.mk Q_L_x
     have L_y := Aside0.mk Q_L_y
     have N_ := Aside0.mk Q_N_
     have G_x := Aside0.mk Q_G_x
     have G_y := Aside0.mk Q_G_y
     refine goes_ Tryd.func24 (by kernel_rfl) rfl #[.agg (pk p0 p1 p2 (.slice A3 o.length c3) p4 p5 (.slice A6 l6.length c6) (.slice A7 l7.length c7) (.slice A8 l8.length c8) (.slice A9 l9.length c9))] (by rfl) rfl rfl (by first | (simp only [List.map_toArray, List.map_cons, List.map_nil, Act.eval, Array.getD_eq_getD_getElem?, Option.getD_some, e17]; done) | (simp only [List.map_toArray, List.map_cons, List.map_nil, Act.eval, Array.getD_eq_getD_getElem?, Option.getD_some, e17]; rfl)) ?_
     refine (of_blocks (hR.out _ HB.out) HO.out).mono ?_
     rintro e w1 ⟨v_, rfl, hv_, hb⟩
     refine ⟨_, rfl, ?_⟩
     have m1 := L_x.out
     have m2 := L_y.out
     have m3 := G_x.out
     have m4 := G_y.out
     refine hK.out _ _ ⟨x_, v_, g_x, g_y, m4_, m5_, (by rw [ha.out]; exact putSel_upk 3 hb_ rfl rfl rfl), blk_below B_p.out hb, below_step HB.out hb, fun _ => X_.out.below hb, fun _ => hv_.mono (fun k hk => by omega), Nat.lt_of_lt_of_le L_x.out hb.size, Nat.lt_of_lt_of_le L_y.out hb.size, Q_N_, Q_G_x, Q_G_y, Q_N_p_x, Q_N_p_y, fun h0_ h1_ => blk_below (Q_Z_x h0_ h1_) hb, fun h0_ h1_ => blk_below (Q_Z_y h0_ h1_) hb, fun h0_ => absurd ((hoff 6 (by kernel_rfl)).symm.trans h0_) (by decide), fun h0_ => absurd ((hoff 7 (by kernel_rfl)).symm.trans h0_) (by decide), Q_X4_, Q_X5_⟩
   refine steps_cons ?_ ?_
   · rintro b a w' ⟨x_, y_, g_x, g_y, m4_, m5_, ha, Q_B_p, Q_HB, Q_X_, Q_Y_, Q_L_x, Q_L_y, Q_N_, Q_G_x, Q_G_y, Q_N_p_x, Q_N_p_y, Q_Z_x, Q_Z_y, Q_B_x, Q_B_y, Q_X4_, Q_X5_⟩ hb_ hon hoff
     refine ⟨_, rfl, fun K hK => ?_⟩
     replace ha := Aside0.mk ha
     have B_p := Aside0.mk Q_B_p
     have HB := Aside0.mk Q_HB
     have L_x := Aside0.mk Q_L_x
     have L_y := Aside0.mk Q_L_y
     have N_ := Aside0.mk Q_N_
     have G_x := Aside0.mk Q_G_x
     have G_y := Aside0.mk Q_G_y
     refine box_step (by rfl) rfl (cs := #[.int .u16 0, .int .u8 0, .int .u8 0, .slice none 0 0, .int .u16 0, .int .u32 0, .slice none 0 0, .slice none 0 0, .slice none 0 0, .slice none 0 0]) (t := 29) (by first | (go_simp; done) | (go_simp; rfl)) ?_
     rintro g_ hg w1 hn hb
     have m1 := L_x.out
     have m2 := L_y.out
     have m5 := blk_lt B_p.out
     refine hK.out _ _ ⟨x_, y_, g_, g_y, (.pointer (some ⟨g_, 0, none⟩)), m5_, (by rw [ha.out]; exact putSel_upk 4 hb_ rfl rfl rfl), blk_below B_p.out hb, below_step HB.out hb, fun h0_ => (Q_X_ h0_).old hb (fun k hk hlt => by omega), fun h0_ => (Q_Y_ h0_).old hb (fun k hk hlt => by omega), blk_lt hn, Nat.lt_of_lt_of_le L_y.out hb.size, by intro he; omega, by rw [hg]; exact HB.out.size, Q_G_y, fun _ => by omega, Q_N_p_y, fun _ _ => hn, fun h0_ h1_ => blk_below (Q_Z_y h0_ h1_) hb, fun h0_ => absurd ((hoff 6 (by kernel_rfl)).symm.trans h0_) (by decide), fun h0_ => absurd ((hoff 7 (by kernel_rfl)).symm.trans h0_) (by decide), fun _ => rfl, Q_X5_⟩
   refine steps_cons ?_ ?_
   · rintro b a w' ⟨x_, y_, g_x, g_y, m4_, m5_, ha, Q_B_p, Q_HB, Q_X_, Q_Y_, Q_L_x, Q_L_y, Q_N_, Q_G_x, Q_G_y, Q_N_p_x, Q_N_p_y, Q_Z_x, Q_Z_y, Q_B_x, Q_B_y, Q_X4_, Q_X5_⟩ hb_ hon hoff
     refine ⟨_, rfl, fun K hK => ?_⟩
     replace ha := Aside0.mk ha
     have B_p := Aside0.mk Q_B_p
     have HB := Aside0.mk Q_HB
     have L_x := Aside0.mk Q_L_x
     have L_y := Aside0.mk Q_L_y
     have N_ := Aside0.mk Q_N_
     have G_x := Aside0.mk Q_G_x
     have G_y := Aside0.mk Q_G_y
     refine box_step (by rfl) rfl (cs := #[.int .u16 0, .int .u8 0, .int .u8 0, .slice none 0 0, .int .u16 0, .int .u32 0, .slice none 0 0, .slice none 0 0, .slice none 0 0, .slice none 0 0]) (t := 29) (by first | (go_simp; done) | (go_simp; rfl)) ?_
     rintro g_ hg w1 hn hb
     have m1 := L_x.out
     have m2 := L_y.out
     have m5 := blk_lt B_p.out
     refine hK.out _ _ ⟨x_, y_, g_x, g_, m4_, (.pointer (some ⟨g_, 0, none⟩)), (by rw [ha.out]; exact putSel_upk 5 hb_ rfl rfl rfl), blk_below B_p.out hb, below_step HB.out hb, fun h0_ => (Q_X_ h0_).old hb (fun k hk hlt => by omega), fun h0_ => (Q_Y_ h0_).old hb (fun k hk hlt => by omega), Nat.lt_of_lt_of_le L_x.out hb.size, blk_lt hn, by intro he; omega, Q_G_x, by rw [hg]; exact HB.out.size, Q_N_p_x, fun _ => by omega, fun h0_ h1_ => blk_below (Q_Z_x h0_ h1_) hb, fun _ _ => hn, fun h0_ => absurd ((hoff 6 (by kernel_rfl)).symm.trans h0_) (by decide), fun h0_ => absurd ((hoff 7 (by kernel_rfl)).symm.trans h0_) (by decide), Q_X4_, fun _ => rfl⟩
   refine steps_cons ?_ ?_
   · rintro b a w' ⟨x_, y_, g_x, g_y, m4_, m5_, ha, Q_B_p, Q_HB, Q_X_, Q_Y_, Q_L_x, Q_L_y, Q_N_, Q_G_x, Q_G_y, Q_N_p_x, Q_N_p_y, Q_Z_x, Q_Z_y, Q_B_x, Q_B_y, Q_X4_, Q_X5_⟩ hb_ hon hoff
     refine ⟨_, rfl, fun K hK => ?_⟩
     have e5 : a.tmps[5]? = some (m4_) := by rw [ha]; exact putSel_on (e := (4, 5, m4_)) 4 rfl rfl (hon 4 (by kernel_rfl)) rfl
     rw [Q_X4_ (hon 4 (by kernel_rfl))] at e5
     have e16 : a.tmps[16]? = some (x_) := by rw [ha]; exact putSel_on (e := (1, 16, x_)) 1 rfl rfl (hon 1 (by kernel_rfl)) rfl
     replace ha := Aside0.mk ha
     have B_p := Aside0.mk Q_B_p
     have HB := Aside0.mk Q_HB
     have X_ := Aside0.mk (Q_X_ (hon 1 (by kernel_rfl)))
     have Y_ := Aside0.mk (Q_Y_ (hon 3 (by kernel_rfl)))
     have L_x := Aside0.mk Q_L_x
     have L_y := Aside0.mk Q_L_y
     have N_ := Aside0.mk Q_N_
     have G_x := Aside0.mk Q_G_x
     have G_y := Aside0.mk Q_G_y
     have N_p_x := Aside0.mk (Q_N_p_x (hon 4 (by kernel_rfl)))
     have N_p_y := Aside0.mk (Q_N_p_y (hon 5 (by kernel_rfl)))
     have Z_x := Aside0.mk (Q_Z_x (hon 4 (by kernel_rfl)) hb_)
     have Z_y := Aside0.mk (Q_Z_y (hon 5 (by kernel_rfl)) (hoff 7 (by kernel_rfl)))
     obtain ⟨u3, u6, u7, u8, u9, hx, hr⟩ := X_.out
     refine st_store (by rfl) rfl (eval_of e5) ((eval_of e16).trans hx) Z_x.out (by rfl) (by kernel_rfl) (hr.one _ _ _ _ _) ?_
     intro w1 hn ho
     refine hK.out _ _ ⟨x_, y_, g_x, g_y, m4_, m5_, (by rw [ha.out]; exact putSel_none (v := undef) rfl), blk_only B_p.out ho N_p_x.out, below_only HB.out ho G_x.out, fun _ => X_.out.only ho (fun k hk => hk.1), fun _ => Y_.out.only ho (fun k hk => hk.1), by rw [ho.size]; exact L_x.out, by rw [ho.size]; exact L_y.out, Q_N_, Q_G_x, Q_G_y, Q_N_p_x, Q_N_p_y, fun _ h1_ => absurd ((up_self b 6).symm.trans h1_) (by decide), fun _ _ => blk_only Z_y.out ho (fun he => N_p_x.out (N_.out he.symm).symm), fun _ => by rw [hx]; exact hn, fun h0_ => absurd ((hoff 7 (by kernel_rfl)).symm.trans h0_) (by decide), Q_X4_, Q_X5_⟩
   refine steps_cons ?_ ?_
   · rintro b a w' ⟨x_, y_, g_x, g_y, m4_, m5_, ha, Q_B_p, Q_HB, Q_X_, Q_Y_, Q_L_x, Q_L_y, Q_N_, Q_G_x, Q_G_y, Q_N_p_x, Q_N_p_y, Q_Z_x, Q_Z_y, Q_B_x, Q_B_y, Q_X4_, Q_X5_⟩ hb_ hon hoff
     refine ⟨_, rfl, fun K hK => ?_⟩
     have e6 : a.tmps[6]? = some (m5_) := by rw [ha]; exact putSel_on (e := (5, 6, m5_)) 5 rfl rfl (hon 5 (by kernel_rfl)) rfl
     rw [Q_X5_ (hon 5 (by kernel_rfl))] at e6
     have e18 : a.tmps[18]? = some (y_) := by rw [ha]; exact putSel_on (e := (3, 18, y_)) 3 rfl rfl (hon 3 (by kernel_rfl)) rfl
     replace ha := Aside0.mk ha
     have B_p := Aside0.mk Q_B_p
     have HB := Aside0.mk Q_HB
     have X_ := Aside0.mk (Q_X_ (hon 1 (by kernel_rfl)))
     have Y_ := Aside0.mk (Q_Y_ (hon 3 (by kernel_rfl)))
     have L_x := Aside0.mk Q_L_x
     have L_y := Aside0.mk Q_L_y
     have N_ := Aside0.mk Q_N_
     have G_x := Aside0.mk Q_G_x
     have G_y := Aside0.mk Q_G_y
     have N_p_x := Aside0.mk (Q_N_p_x (hon 4 (by kernel_rfl)))
     have N_p_y := Aside0.mk (Q_N_p_y (hon 5 (by kernel_rfl)))
     have Z_y := Aside0.mk (Q_Z_y (hon 5 (by kernel_rfl)) hb_)
     have B_x := Aside0.mk (Q_B_x (hon 6 (by kernel_rfl)))
     obtain ⟨u3, u6, u7, u8, u9, hx, hr⟩ := Y_.out
     refine st_store (by rfl) rfl (eval_of e6) ((eval_of e18).trans hx) Z_y.out (by rfl) (by kernel_rfl) (hr.one _ _ _ _ _) ?_
     intro w1 hn ho
     refine hK.out _ _ ⟨x_, y_, g_x, g_y, m4_, m5_, (by rw [ha.out]; exact putSel_none (v := undef) rfl), blk_only B_p.out ho N_p_y.out, below_only HB.out ho G_y.out, fun _ => X_.out.only ho (fun k hk => hk.2), fun _ => Y_.out.only ho (fun k hk => hk.2), by rw [ho.size]; exact L_x.out, by rw [ho.size]; exact L_y.out, Q_N_, Q_G_x, Q_G_y, Q_N_p_x, Q_N_p_y, fun _ h1_ => absurd ((hon 6 (by kernel_rfl)).symm.trans h1_) (by decide), fun _ h1_ => absurd ((up_self b 7).symm.trans h1_) (by decide), fun _ => blk_only B_x.out ho (fun he => N_p_x.out (N_.out he).symm), fun _ => by rw [hx]; exact hn, Q_X4_, Q_X5_⟩
   exact steps_nil
 · rintro b a w' hall ⟨x_, y_, g_x, g_y, m4_, m5_, ha, Q_B_p, Q_HB, Q_X_, Q_Y_, Q_L_x, Q_L_y, Q_N_, Q_G_x, Q_G_y, Q_N_p_x, Q_N_p_y, Q_Z_x, Q_Z_y, Q_B_x, Q_B_y, Q_X4_, Q_X5_⟩
   clear B_p G_x G_y HB L_x L_y N_
   have hb0_ := hall 0 (by kernel_rfl)
   have hb1_ := hall 1 (by kernel_rfl)
   have hb2_ := hall 2 (by kernel_rfl)
   have hb3_ := hall 3 (by kernel_rfl)
   have hb4_ := hall 4 (by kernel_rfl)
   have hb5_ := hall 5 (by kernel_rfl)
   have hb6_ := hall 6 (by kernel_rfl)
   have hb7_ := hall 7 (by kernel_rfl)
   subst ha
   obtain rfl := Q_X4_ hb4_
   obtain rfl := Q_X5_ hb5_
   simp only [putSel, hb0_, hb1_, hb2_, hb3_, hb4_, hb5_, hb6_, hb7_, if_true, Act.put, List.setIfInBounds_toArray, List.set_cons_zero, List.set_cons_succ]
   have B_p := Aside0.mk Q_B_p
   clear Q_B_p
   have HB := Aside0.mk Q_HB
   clear Q_HB
   have X_ := Aside0.mk (Q_X_ hb1_)
   clear Q_X_
   have Y_ := Aside0.mk (Q_Y_ hb3_)
   clear Q_Y_
   have L_x := Aside0.mk Q_L_x
   clear Q_L_x
   have L_y := Aside0.mk Q_L_y
   clear Q_L_y
   have N_ := Aside0.mk Q_N_
   clear Q_N_
   have G_x := Aside0.mk Q_G_x
   clear Q_G_x
   have G_y := Aside0.mk Q_G_y
   clear Q_G_y
   have N_p_x := Aside0.mk (Q_N_p_x hb4_)
   clear Q_N_p_x
   have N_p_y := Aside0.mk (Q_N_p_y hb5_)
   clear Q_N_p_y
   clear Q_Z_x
   clear Q_Z_y
   have B_x := Aside0.mk (Q_B_x hb6_)
   clear Q_B_x
   have B_y := Aside0.mk (Q_B_y hb7_)
   clear Q_B_y
   clear hall hb0_ hb1_ hb2_ hb3_ hb4_ hb5_ hb6_ hb7_
   obtain ⟨x3, x6, x7, x8, x9, rfl, RX⟩ := X_.out
   obtain ⟨y3, y6, y7, y8, y9, rfl, RY⟩ := Y_.out
   clear X_ Y_
   have N_x_y := Aside0.mk (show g_x ≠ g_y from fun he => N_p_x.out (N_.out he).symm)
   clear N_ N_p_x N_p_y L_x L_y
   obtain ⟨B3, d3, rfl, _, _⟩ := RY.1
   obtain ⟨B6, d6, rfl, _, _⟩ := RY.2.1
   obtain ⟨B7, d7, rfl, _, _⟩ := RY.2.2.1
   obtain ⟨B8, d8, rfl, _, _⟩ := RY.2.2.2.1
   obtain ⟨B9, d9, rfl, _, _⟩ := RY.2.2.2.2
   have F_X := Aside0.mk RX
   have F_Y := Aside0.mk RY
   clear RX RY B_p hR HO hfew HA
   replace B_x : Aside0 (w'.heap[g_x]? = some (.cells (pk p0 p1 p2 x3 p4 p5 x6 x7 x8 x9) 29 (0, 0))) := Aside0.mk B_x.out
   replace B_y : Aside0 (w'.heap[g_y]? = some (.cells (pk p0 p1 p2 (.slice B3 (o.map ao).length d3) p4 p5 (.slice B6 l6.length d6) (.slice B7 l7.length d7) (.slice B8 l8.length d8) (.slice B9 l9.length d9)) 29 (0, 0))) := Aside0.mk B_y.out
   by_cases hc : a1 % 9 = 0
   · obtain ⟨kd1, hd1⟩ := Ev.rounds (Same20 p0 p1 p2 (o.map ao) p4 p5 l6 l7 l8 l9 ((p0 + 1) % 65536) p1 p2 (o.map ao) p4 p5 l6 l7 l8 l9 HF.out HF.out)
     rw [show same20 p0 p1 p2 (o.map ao) p4 p5 l6 l7 l8 l9 ((p0 + 1) % 65536) p1 p2 (o.map ao) p4 p5 l6 l7 l8 l9 = false from (by unfold same20; rw [decide_eq_false_iff_not]; intro h; have := h.1; omega)] at hd1
     obtain ⟨kd2, hd2⟩ := Ev.rounds (Same20 ((p0 + 1) % 65536) p1 p2 (o.map ao) p4 p5 l6 l7 l8 l9 p0 p1 p2 (o.map ao) p4 p5 l6 l7 l8 l9 HF.out HF.out)
     rw [show same20 ((p0 + 1) % 65536) p1 p2 (o.map ao) p4 p5 l6 l7 l8 l9 p0 p1 p2 (o.map ao) p4 p5 l6 l7 l8 l9 = false from (by unfold same20; rw [decide_eq_false_iff_not]; intro h; have := h.1; omega)] at hd2
     have HD1 := Aside0.mk hd1
     have HD2 := Aside0.mk hd2
     clear hd1 hd2
     have hm0 : (a1 % 9 == 0) = true := by rw [beq_iff_eq]; omega
     have hm1 : (a1 % 9 == 1) = false := by rw [beq_eq_false_iff_ne, ne_eq]; omega
     have hm2 : (a1 % 9 == 2) = false := by rw [beq_eq_false_iff_ne, ne_eq]; omega
     have hm3 : (a1 % 9 == 3) = false := by rw [beq_eq_false_iff_ne, ne_eq]; omega
     have hm4 : (a1 % 9 == 4) = false := by rw [beq_eq_false_iff_ne, ne_eq]; omega
     have hm5 : (a1 % 9 == 5) = false := by rw [beq_eq_false_iff_ne, ne_eq]; omega
     have hm6 : (a1 % 9 == 6) = false := by rw [beq_eq_false_iff_ne, ne_eq]; omega
     have hm7 : (a1 % 9 == 7) = false := by rw [beq_eq_false_iff_ne, ne_eq]; omega
     have HLEN := Aside0.mk hlen
     clear hlen
     clear hc
     go_wp2_with (first | ((with_reducible refine gate_dst (N := 19) rfl ?_); refine gate_guard (by rfl) ?_; refine ev_load rfl rfl rfl B_x.out Tryd.underlying29 rfl (by kernel_rfl) ?_) | ((with_reducible refine gate_dst (N := 20) rfl ?_); refine gate_guard (by rfl) ?_; refine ev_load rfl rfl rfl B_y.out Tryd.underlying29 rfl (by kernel_rfl) ?_) | ((with_reducible refine gate_dst (N := 21) rfl ?_); refine gate_guard (by rfl) ?_; refine goesL_ (some 21) rfl rfl Tryd.func25 (by kernel_rfl) rfl #[.agg (pk p0 p1 p2 x3 p4 p5 x6 x7 x8 x9), .agg (pk p0 p1 p2 (.slice B3 (o.map ao).length d3) p4 p5 (.slice B6 l6.length d6) (.slice B7 l7.length d7) (.slice B8 l8.length d8) (.slice B9 l9.length d9))] rfl (by first | rfl | (simp only [List.map_toArray, List.map_cons, List.map_nil]; done) | (simp only [List.map_toArray, List.map_cons, List.map_nil]; rfl)) ?_; refine (same_calls (F_X.out.in_ _ _ _ _ _) (F_Y.out.in_ _ _ _ _ _) HS.out).mono ?_; rintro e r1 ⟨rfl, hb⟩; refine ⟨_, rfl, ?_⟩; replace B_x := Aside0.mk (blk_below B_x.out hb); replace B_y := Aside0.mk (blk_below B_y.out hb); replace F_X := Aside0.mk (F_X.out.below hb); replace F_Y := Aside0.mk (F_Y.out.below hb); replace HB := Aside0.mk (below_step HB.out hb); clear hb) | ((with_reducible refine gate_dst (N := 33) rfl ?_); refine gate_guard (by rfl) ?_; refine ev_loadf rfl rfl rfl B_y.out rfl Tryd.underlying22 rfl ?_) | ((with_reducible refine gate_store (p := 35) rfl ?_); refine ev_storef rfl rfl rfl (v := .int .u16 ((p0 + 1) % 65536)) rfl B_y.out (Nat.le_of_ble_eq_true rfl) (by kernel_rfl) rfl (cells := (pk ((p0 + 1) % 65536) p1 p2 (.slice B3 (o.map ao).length d3) p4 p5 (.slice B6 l6.length d6) (.slice B7 l7.length d7) (.slice B8 l8.length d8) (.slice B9 l9.length d9))) rfl ?_; intro r2 hn ho; replace B_x := Aside0.mk (blk_only B_x.out ho N_x_y.out); replace F_X := Aside0.mk (F_X.out.only ho (fun k hk => hk.2)); replace F_Y := Aside0.mk (F_Y.out.only ho (fun k hk => hk.2)); replace B_y := Aside0.mk hn; replace HB := Aside0.mk (below_only HB.out ho G_y.out); clear hn ho) | ((with_reducible refine gate_dst (N := 82) rfl ?_); refine gate_guard (by rfl) ?_; refine ev_load rfl rfl rfl B_x.out Tryd.underlying29 rfl (by kernel_rfl) ?_) | ((with_reducible refine gate_dst (N := 83) rfl ?_); refine gate_guard (by rfl) ?_; refine ev_load rfl rfl rfl B_y.out Tryd.underlying29 rfl (by kernel_rfl) ?_) | ((with_reducible refine gate_dst (N := 84) rfl ?_); refine gate_guard (by rfl) ?_; refine goesL_ (some 84) rfl rfl Tryd.func25 (by kernel_rfl) rfl #[.agg (pk p0 p1 p2 x3 p4 p5 x6 x7 x8 x9), .agg (pk ((p0 + 1) % 65536) p1 p2 (.slice B3 (o.map ao).length d3) p4 p5 (.slice B6 l6.length d6) (.slice B7 l7.length d7) (.slice B8 l8.length d8) (.slice B9 l9.length d9))] rfl (by first | rfl | (simp only [List.map_toArray, List.map_cons, List.map_nil]; done) | (simp only [List.map_toArray, List.map_cons, List.map_nil]; rfl)) ?_; refine (same_calls (F_X.out.in_ _ _ _ _ _) (F_Y.out.in_ _ _ _ _ _) HD1.out).mono ?_; rintro e r3 ⟨rfl, hb⟩; refine ⟨_, rfl, ?_⟩; replace B_x := Aside0.mk (blk_below B_x.out hb); replace B_y := Aside0.mk (blk_below B_y.out hb); replace F_X := Aside0.mk (F_X.out.below hb); replace F_Y := Aside0.mk (F_Y.out.below hb); replace HB := Aside0.mk (below_step HB.out hb); clear hb) | ((with_reducible refine gate_dst (N := 87) rfl ?_); refine gate_guard (by rfl) ?_; refine ev_load rfl rfl rfl B_y.out Tryd.underlying29 rfl (by kernel_rfl) ?_) | ((with_reducible refine gate_dst (N := 88) rfl ?_); refine gate_guard (by rfl) ?_; refine ev_load rfl rfl rfl B_x.out Tryd.underlying29 rfl (by kernel_rfl) ?_) | ((with_reducible refine gate_dst (N := 89) rfl ?_); refine gate_guard (by rfl) ?_; refine goesL_ (some 89) rfl rfl Tryd.func25 (by kernel_rfl) rfl #[.agg (pk ((p0 + 1) % 65536) p1 p2 (.slice B3 (o.map ao).length d3) p4 p5 (.slice B6 l6.length d6) (.slice B7 l7.length d7) (.slice B8 l8.length d8) (.slice B9 l9.length d9)), .agg (pk p0 p1 p2 x3 p4 p5 x6 x7 x8 x9)] rfl (by first | rfl | (simp only [List.map_toArray, List.map_cons, List.map_nil]; done) | (simp only [List.map_toArray, List.map_cons, List.map_nil]; rfl)) ?_; refine (same_calls (F_Y.out.in_ _ _ _ _ _) (F_X.out.in_ _ _ _ _ _) HD2.out).mono ?_; rintro e r4 ⟨rfl, hb⟩; refine ⟨_, rfl, ?_⟩; replace B_x := Aside0.mk (blk_below B_x.out hb); replace B_y := Aside0.mk (blk_below B_y.out hb); replace F_X := Aside0.mk (F_X.out.below hb); replace F_Y := Aside0.mk (F_Y.out.below hb); replace HB := Aside0.mk (below_step HB.out hb); clear hb))
     go_ret
     exact ⟨rfl, HB.out⟩
   have hc0 := hc
   clear hc
   by_cases hc : a1 % 9 = 1
   · obtain ⟨kd1, hd1⟩ := Ev.rounds (Same20 p0 p1 p2 (o.map ao) p4 p5 l6 l7 l8 l9 p0 ((p1 + 1) % 256) p2 (o.map ao) p4 p5 l6 l7 l8 l9 HF.out HF.out)
     rw [show same20 p0 p1 p2 (o.map ao) p4 p5 l6 l7 l8 l9 p0 ((p1 + 1) % 256) p2 (o.map ao) p4 p5 l6 l7 l8 l9 = false from (by unfold same20; rw [decide_eq_false_iff_not]; intro h; have := h.2.1; omega)] at hd1
     obtain ⟨kd2, hd2⟩ := Ev.rounds (Same20 p0 ((p1 + 1) % 256) p2 (o.map ao) p4 p5 l6 l7 l8 l9 p0 p1 p2 (o.map ao) p4 p5 l6 l7 l8 l9 HF.out HF.out)
     rw [show same20 p0 ((p1 + 1) % 256) p2 (o.map ao) p4 p5 l6 l7 l8 l9 p0 p1 p2 (o.map ao) p4 p5 l6 l7 l8 l9 = false from (by unfold same20; rw [decide_eq_false_iff_not]; intro h; have := h.2.1; omega)] at hd2
     have HD1 := Aside0.mk hd1
     have HD2 := Aside0.mk hd2
     clear hd1 hd2
     have hm0 : (a1 % 9 == 0) = false := by rw [beq_eq_false_iff_ne, ne_eq]; omega
     have hm1 : (a1 % 9 == 1) = true := by rw [beq_iff_eq]; omega
     have hm2 : (a1 % 9 == 2) = false := by rw [beq_eq_false_iff_ne, ne_eq]; omega
     have hm3 : (a1 % 9 == 3) = false := by rw [beq_eq_false_iff_ne, ne_eq]; omega
     have hm4 : (a1 % 9 == 4) = false := by rw [beq_eq_false_iff_ne, ne_eq]; omega
     have hm5 : (a1 % 9 == 5) = false := by rw [beq_eq_false_iff_ne, ne_eq]; omega
     have hm6 : (a1 % 9 == 6) = false := by rw [beq_eq_false_iff_ne, ne_eq]; omega
     have hm7 : (a1 % 9 == 7) = false := by rw [beq_eq_false_iff_ne, ne_eq]; omega
     have HLEN := Aside0.mk hlen
     clear hlen
     clear hc
     go_wp2_with (first | ((with_reducible refine gate_dst (N := 19) rfl ?_); refine gate_guard (by rfl) ?_; refine ev_load rfl rfl rfl B_x.out Tryd.underlying29 rfl (by kernel_rfl) ?_) | ((with_reducible refine gate_dst (N := 20) rfl ?_); refine gate_guard (by rfl) ?_; refine ev_load rfl rfl rfl B_y.out Tryd.underlying29 rfl (by kernel_rfl) ?_) | ((with_reducible refine gate_dst (N := 21) rfl ?_); refine gate_guard (by rfl) ?_; refine goesL_ (some 21) rfl rfl Tryd.func25 (by kernel_rfl) rfl #[.agg (pk p0 p1 p2 x3 p4 p5 x6 x7 x8 x9), .agg (pk p0 p1 p2 (.slice B3 (o.map ao).length d3) p4 p5 (.slice B6 l6.length d6) (.slice B7 l7.length d7) (.slice B8 l8.length d8) (.slice B9 l9.length d9))] rfl (by first | rfl | (simp only [List.map_toArray, List.map_cons, List.map_nil]; done) | (simp only [List.map_toArray, List.map_cons, List.map_nil]; rfl)) ?_; refine (same_calls (F_X.out.in_ _ _ _ _ _) (F_Y.out.in_ _ _ _ _ _) HS.out).mono ?_; rintro e r1 ⟨rfl, hb⟩; refine ⟨_, rfl, ?_⟩; replace B_x := Aside0.mk (blk_below B_x.out hb); replace B_y := Aside0.mk (blk_below B_y.out hb); replace F_X := Aside0.mk (F_X.out.below hb); replace F_Y := Aside0.mk (F_Y.out.below hb); replace HB := Aside0.mk (below_step HB.out hb); clear hb) | ((with_reducible refine gate_dst (N := 39) rfl ?_); refine gate_guard (by rfl) ?_; refine ev_loadf rfl rfl rfl B_y.out rfl Tryd.underlying5 rfl ?_) | ((with_reducible refine gate_store (p := 41) rfl ?_); refine ev_storef rfl rfl rfl (v := .int .u8 ((p1 + 1) % 256)) rfl B_y.out (Nat.le_of_ble_eq_true rfl) (by kernel_rfl) rfl (cells := (pk p0 ((p1 + 1) % 256) p2 (.slice B3 (o.map ao).length d3) p4 p5 (.slice B6 l6.length d6) (.slice B7 l7.length d7) (.slice B8 l8.length d8) (.slice B9 l9.length d9))) rfl ?_; intro r2 hn ho; replace B_x := Aside0.mk (blk_only B_x.out ho N_x_y.out); replace F_X := Aside0.mk (F_X.out.only ho (fun k hk => hk.2)); replace F_Y := Aside0.mk (F_Y.out.only ho (fun k hk => hk.2)); replace B_y := Aside0.mk hn; replace HB := Aside0.mk (below_only HB.out ho G_y.out); clear hn ho) | ((with_reducible refine gate_dst (N := 82) rfl ?_); refine gate_guard (by rfl) ?_; refine ev_load rfl rfl rfl B_x.out Tryd.underlying29 rfl (by kernel_rfl) ?_) | ((with_reducible refine gate_dst (N := 83) rfl ?_); refine gate_guard (by rfl) ?_; refine ev_load rfl rfl rfl B_y.out Tryd.underlying29 rfl (by kernel_rfl) ?_) | ((with_reducible refine gate_dst (N := 84) rfl ?_); refine gate_guard (by rfl) ?_; refine goesL_ (some 84) rfl rfl Tryd.func25 (by kernel_rfl) rfl #[.agg (pk p0 p1 p2 x3 p4 p5 x6 x7 x8 x9), .agg (pk p0 ((p1 + 1) % 256) p2 (.slice B3 (o.map ao).length d3) p4 p5 (.slice B6 l6.length d6) (.slice B7 l7.length d7) (.slice B8 l8.length d8) (.slice B9 l9.length d9))] rfl (by first | rfl | (simp only [List.map_toArray, List.map_cons, List.map_nil]; done) | (simp only [List.map_toArray, List.map_cons, List.map_nil]; rfl)) ?_; refine (same_calls (F_X.out.in_ _ _ _ _ _) (F_Y.out.in_ _ _ _ _ _) HD1.out).mono ?_; rintro e r3 ⟨rfl, hb⟩; refine ⟨_, rfl, ?_⟩; replace B_x := Aside0.mk (blk_below B_x.out hb); replace B_y := Aside0.mk (blk_below B_y.out hb); replace F_X := Aside0.mk (F_X.out.below hb); replace F_Y := Aside0.mk (F_Y.out.below hb); replace HB := Aside0.mk (below_step HB.out hb); clear hb) | ((with_reducible refine gate_dst (N := 87) rfl ?_); refine gate_guard (by rfl) ?_; refine ev_load rfl rfl rfl B_y.out Tryd.underlying29 rfl (by kernel_rfl) ?_) | ((with_reducible refine gate_dst (N := 88) rfl ?_); refine gate_guard (by rfl) ?_; refine ev_load rfl rfl rfl B_x.out Tryd.underlying29 rfl (by kernel_rfl) ?_) | ((with_reducible refine gate_dst (N := 89) rfl ?_); refine gate_guard (by rfl) ?_; refine goesL_ (some 89) rfl rfl Tryd.func25 (by kernel_rfl) rfl #[.agg (pk p0 ((p1 + 1) % 256) p2 (.slice B3 (o.map ao).length d3) p4 p5 (.slice B6 l6.length d6) (.slice B7 l7.length d7) (.slice B8 l8.length d8) (.slice B9 l9.length d9)), .agg (pk p0 p1 p2 x3 p4 p5 x6 x7 x8 x9)] rfl (by first | rfl | (simp only [List.map_toArray, List.map_cons, List.map_nil]; done) | (simp only [List.map_toArray, List.map_cons, List.map_nil]; rfl)) ?_; refine (same_calls (F_Y.out.in_ _ _ _ _ _) (F_X.out.in_ _ _ _ _ _) HD2.out).mono ?_; rintro e r4 ⟨rfl, hb⟩; refine ⟨_, rfl, ?_⟩; replace B_x := Aside0.mk (blk_below B_x.out hb); replace B_y := Aside0.mk (blk_below B_y.out hb); replace F_X := Aside0.mk (F_X.out.below hb); replace F_Y := Aside0.mk (F_Y.out.below hb); replace HB := Aside0.mk (below_step HB.out hb); clear hb))
     go_ret
     exact ⟨rfl, HB.out⟩
   have hc1 := hc
   clear hc
   by_cases hc : a1 % 9 = 2
   · obtain ⟨kd1, hd1⟩ := Ev.rounds (Same20 p0 p1 p2 (o.map ao) p4 p5 l6 l7 l8 l9 p0 p1 ((p2 + 1) % 256) (o.map ao) p4 p5 l6 l7 l8 l9 HF.out HF.out)
     rw [show same20 p0 p1 p2 (o.map ao) p4 p5 l6 l7 l8 l9 p0 p1 ((p2 + 1) % 256) (o.map ao) p4 p5 l6 l7 l8 l9 = false from (by unfold same20; rw [decide_eq_false_iff_not]; intro h; have := h.2.2.1; omega)] at hd1
     obtain ⟨kd2, hd2⟩ := Ev.rounds (Same20 p0 p1 ((p2 + 1) % 256) (o.map ao) p4 p5 l6 l7 l8 l9 p0 p1 p2 (o.map ao) p4 p5 l6 l7 l8 l9 HF.out HF.out)
     rw [show same20 p0 p1 ((p2 + 1) % 256) (o.map ao) p4 p5 l6 l7 l8 l9 p0 p1 p2 (o.map ao) p4 p5 l6 l7 l8 l9 = false from (by unfold same20; rw [decide_eq_false_iff_not]; intro h; have := h.2.2.1; omega)] at hd2
     have HD1 := Aside0.mk hd1
     have HD2 := Aside0.mk hd2
     clear hd1 hd2
     have hm0 : (a1 % 9 == 0) = false := by rw [beq_eq_false_iff_ne, ne_eq]; omega
     have hm1 : (a1 % 9 == 1) = false := by rw [beq_eq_false_iff_ne, ne_eq]; omega
     have hm2 : (a1 % 9 == 2) = true := by rw [beq_iff_eq]; omega
     have hm3 : (a1 % 9 == 3) = false := by rw [beq_eq_false_iff_ne, ne_eq]; omega
     have hm4 : (a1 % 9 == 4) = false := by rw [beq_eq_false_iff_ne, ne_eq]; omega
     have hm5 : (a1 % 9 == 5) = false := by rw [beq_eq_false_iff_ne, ne_eq]; omega
     have hm6 : (a1 % 9 == 6) = false := by rw [beq_eq_false_iff_ne, ne_eq]; omega
     have hm7 : (a1 % 9 == 7) = false := by rw [beq_eq_false_iff_ne, ne_eq]; omega
     have HLEN := Aside0.mk hlen
     clear hlen
     clear hc
     go_wp2_with (first | ((with_reducible refine gate_dst (N := 19) rfl ?_); refine gate_guard (by rfl) ?_; refine ev_load rfl rfl rfl B_x.out Tryd.underlying29 rfl (by kernel_rfl) ?_) | ((with_reducible refine gate_dst (N := 20) rfl ?_); refine gate_guard (by rfl) ?_; refine ev_load rfl rfl rfl B_y.out Tryd.underlying29 rfl (by kernel_rfl) ?_) | ((with_reducible refine gate_dst (N := 21) rfl ?_); refine gate_guard (by rfl) ?_; refine goesL_ (some 21) rfl rfl Tryd.func25 (by kernel_rfl) rfl #[.agg (pk p0 p1 p2 x3 p4 p5 x6 x7 x8 x9), .agg (pk p0 p1 p2 (.slice B3 (o.map ao).length d3) p4 p5 (.slice B6 l6.length d6) (.slice B7 l7.length d7) (.slice B8 l8.length d8) (.slice B9 l9.length d9))] rfl (by first | rfl | (simp only [List.map_toArray, List.map_cons, List.map_nil]; done) | (simp only [List.map_toArray, List.map_cons, List.map_nil]; rfl)) ?_; refine (same_calls (F_X.out.in_ _ _ _ _ _) (F_Y.out.in_ _ _ _ _ _) HS.out).mono ?_; rintro e r1 ⟨rfl, hb⟩; refine ⟨_, rfl, ?_⟩; replace B_x := Aside0.mk (blk_below B_x.out hb); replace B_y := Aside0.mk (blk_below B_y.out hb); replace F_X := Aside0.mk (F_X.out.below hb); replace F_Y := Aside0.mk (F_Y.out.below hb); replace HB := Aside0.mk (below_step HB.out hb); clear hb) | ((with_reducible refine gate_dst (N := 45) rfl ?_); refine gate_guard (by rfl) ?_; refine ev_loadf rfl rfl rfl B_y.out rfl Tryd.underlying5 rfl ?_) | ((with_reducible refine gate_store (p := 47) rfl ?_); refine ev_storef rfl rfl rfl (v := .int .u8 ((p2 + 1) % 256)) rfl B_y.out (Nat.le_of_ble_eq_true rfl) (by kernel_rfl) rfl (cells := (pk p0 p1 ((p2 + 1) % 256) (.slice B3 (o.map ao).length d3) p4 p5 (.slice B6 l6.length d6) (.slice B7 l7.length d7) (.slice B8 l8.length d8) (.slice B9 l9.length d9))) rfl ?_; intro r2 hn ho; replace B_x := Aside0.mk (blk_only B_x.out ho N_x_y.out); replace F_X := Aside0.mk (F_X.out.only ho (fun k hk => hk.2)); replace F_Y := Aside0.mk (F_Y.out.only ho (fun k hk => hk.2)); replace B_y := Aside0.mk hn; replace HB := Aside0.mk (below_only HB.out ho G_y.out); clear hn ho) | ((with_reducible refine gate_dst (N := 82) rfl ?_); refine gate_guard (by rfl) ?_; refine ev_load rfl rfl rfl B_x.out Tryd.underlying29 rfl (by kernel_rfl) ?_) | ((with_reducible refine gate_dst (N := 83) rfl ?_); refine gate_guard (by rfl) ?_; refine ev_load rfl rfl rfl B_y.out Tryd.underlying29 rfl (by kernel_rfl) ?_) | ((with_reducible refine gate_dst (N := 84) rfl ?_); refine gate_guard (by rfl) ?_; refine goesL_ (some 84) rfl rfl Tryd.func25 (by kernel_rfl) rfl #[.agg (pk p0 p1 p2 x3 p4 p5 x6 x7 x8 x9), .agg (pk p0 p1 ((p2 + 1) % 256) (.slice B3 (o.map ao).length d3) p4 p5 (.slice B6 l6.length d6) (.slice B7 l7.length d7) (.slice B8 l8.length d8) (.slice B9 l9.length d9))] rfl (by first | rfl | (simp only [List.map_toArray, List.map_cons, List.map_nil]; done) | (simp only [List.map_toArray, List.map_cons, List.map_nil]; rfl)) ?_; refine (same_calls (F_X.out.in_ _ _ _ _ _) (F_Y.out.in_ _ _ _ _ _) HD1.out).mono ?_; rintro e r3 ⟨rfl, hb⟩; refine ⟨_, rfl, ?_⟩; replace B_x := Aside0.mk (blk_below B_x.out hb); replace B_y := Aside0.mk (blk_below B_y.out hb); replace F_X := Aside0.mk (F_X.out.below hb); replace F_Y := Aside0.mk (F_Y.out.below hb); replace HB := Aside0.mk (below_step HB.out hb); clear hb) | ((with_reducible refine gate_dst (N := 87) rfl ?_); refine gate_guard (by rfl) ?_; refine ev_load rfl rfl rfl B_y.out Tryd.underlying29 rfl (by kernel_rfl) ?_) | ((with_reducible refine gate_dst (N := 88) rfl ?_); refine gate_guard (by rfl) ?_; refine ev_load rfl rfl rfl B_x.out Tryd.underlying29 rfl (by kernel_rfl) ?_) | ((with_reducible refine gate_dst (N := 89) rfl ?_); refine gate_guard (by rfl) ?_; refine goesL_ (some 89) rfl rfl Tryd.func25 (by kernel_rfl) rfl #[.agg (pk p0 p1 ((p2 + 1) % 256) (.slice B3 (o.map ao).length d3) p4 p5 (.slice B6 l6.length d6) (.slice B7 l7.length d7) (.slice B8 l8.length d8) (.slice B9 l9.length d9)), .agg (pk p0 p1 p2 x3 p4 p5 x6 x7 x8 x9)] rfl (by first | rfl | (simp only [List.map_toArray, List.map_cons, List.map_nil]; done) | (simp only [List.map_toArray, List.map_cons, List.map_nil]; rfl)) ?_; refine (same_calls (F_Y.out.in_ _ _ _ _ _) (F_X.out.in_ _ _ _ _ _) HD2.out).mono ?_; rintro e r4 ⟨rfl, hb⟩; refine ⟨_, rfl, ?_⟩; replace B_x := Aside0.mk (blk_below B_x.out hb); replace B_y := Aside0.mk (blk_below B_y.out hb); replace F_X := Aside0.mk (F_X.out.below hb); replace F_Y := Aside0.mk (F_Y.out.below hb); replace HB := Aside0.mk (below_step HB.out hb); clear hb))
     go_ret
     exact ⟨rfl, HB.out⟩
   have hc2 := hc
   clear hc
   by_cases hc : a1 % 9 = 3
   · obtain ⟨kd1, hd1⟩ := Ev.rounds (Same20 p0 p1 p2 (o.map ao) p4 p5 l6 l7 l8 l9 p0 p1 p2 (([⟨0, []⟩] : List AO) ++ (o.map ao)) p4 p5 l6 l7 l8 l9 HF.out ⟨fun x hx => (List.mem_append.1 hx).elim (fun h => by rw [List.mem_singleton.1 h]; exact Bytes.nil) (fun h => HF.out.1 x h), HF.out.2⟩)
     rw [show same20 p0 p1 p2 (o.map ao) p4 p5 l6 l7 l8 l9 p0 p1 p2 (([⟨0, []⟩] : List AO) ++ (o.map ao)) p4 p5 l6 l7 l8 l9 = false from (by unfold same20; rw [decide_eq_false_iff_not]; intro h; have := congrArg List.length h.2.2.2.1; simp at this)] at hd1
     obtain ⟨kd2, hd2⟩ := Ev.rounds (Same20 p0 p1 p2 (([⟨0, []⟩] : List AO) ++ (o.map ao)) p4 p5 l6 l7 l8 l9 p0 p1 p2 (o.map ao) p4 p5 l6 l7 l8 l9 ⟨fun x hx => (List.mem_append.1 hx).elim (fun h => by rw [List.mem_singleton.1 h]; exact Bytes.nil) (fun h => HF.out.1 x h), HF.out.2⟩ HF.out)
     rw [show same20 p0 p1 p2 (([⟨0, []⟩] : List AO) ++ (o.map ao)) p4 p5 l6 l7 l8 l9 p0 p1 p2 (o.map ao) p4 p5 l6 l7 l8 l9 = false from (by unfold same20; rw [decide_eq_false_iff_not]; intro h; have := congrArg List.length h.2.2.2.1; simp at this)] at hd2
     have HD1 := Aside0.mk hd1
     have HD2 := Aside0.mk hd2
     clear hd1 hd2
     have hm0 : (a1 % 9 == 0) = false := by rw [beq_eq_false_iff_ne, ne_eq]; omega
     have hm1 : (a1 % 9 == 1) = false := by rw [beq_eq_false_iff_ne, ne_eq]; omega
     have hm2 : (a1 % 9 == 2) = false := by rw [beq_eq_false_iff_ne, ne_eq]; omega
     have hm3 : (a1 % 9 == 3) = true := by rw [beq_iff_eq]; omega
     have hm4 : (a1 % 9 == 4) = false := by rw [beq_eq_false_iff_ne, ne_eq]; omega
     have hm5 : (a1 % 9 == 5) = false := by rw [beq_eq_false_iff_ne, ne_eq]; omega
     have hm6 : (a1 % 9 == 6) = false := by rw [beq_eq_false_iff_ne, ne_eq]; omega
     have hm7 : (a1 % 9 == 7) = false := by rw [beq_eq_false_iff_ne, ne_eq]; omega
     have HLEN := Aside0.mk hlen
     clear hlen
     clear hc
     go_wp2_with (first | ((with_reducible refine gate_dst (N := 19) rfl ?_); refine gate_guard (by rfl) ?_; refine ev_load rfl rfl rfl B_x.out Tryd.underlying29 rfl (by kernel_rfl) ?_) | ((with_reducible refine gate_dst (N := 20) rfl ?_); refine gate_guard (by rfl) ?_; refine ev_load rfl rfl rfl B_y.out Tryd.underlying29 rfl (by kernel_rfl) ?_) | ((with_reducible refine gate_dst (N := 21) rfl ?_); refine gate_guard (by rfl) ?_; refine goesL_ (some 21) rfl rfl Tryd.func25 (by kernel_rfl) rfl #[.agg (pk p0 p1 p2 x3 p4 p5 x6 x7 x8 x9), .agg (pk p0 p1 p2 (.slice B3 (o.map ao).length d3) p4 p5 (.slice B6 l6.length d6) (.slice B7 l7.length d7) (.slice B8 l8.length d8) (.slice B9 l9.length d9))] rfl (by first | rfl | (simp only [List.map_toArray, List.map_cons, List.map_nil]; done) | (simp only [List.map_toArray, List.map_cons, List.map_nil]; rfl)) ?_; refine (same_calls (F_X.out.in_ _ _ _ _ _) (F_Y.out.in_ _ _ _ _ _) HS.out).mono ?_; rintro e r1 ⟨rfl, hb⟩; refine ⟨_, rfl, ?_⟩; replace B_x := Aside0.mk (blk_below B_x.out hb); replace B_y := Aside0.mk (blk_below B_y.out hb); replace F_X := Aside0.mk (F_X.out.below hb); replace F_Y := Aside0.mk (F_Y.out.below hb); replace HB := Aside0.mk (below_step HB.out hb); clear hb) | ((with_reducible refine gate_dst (N := 51) rfl ?_); refine gate_guard (by rfl) ?_; have L_x := Aside0.mk (blk_lt B_x.out); have L_y := Aside0.mk (blk_lt B_y.out); have GW := Aside0.mk (below_size HB.out); have lx := L_x.out; have ly := L_y.out; refine Kd.R_lit k62 _ 62 rfl (N := 51) rfl (xs := ([⟨0, []⟩] : List AO)) (inner := [.int .u8 0, .slice none 0 0]) (ok := (fun k => k ≠ g_x ∧ k ≠ g_y)) (okp := fun _ => False) (by first | (go_simp; done) | (go_simp; rfl)) (rep_opt0 _ _ _) (fun _ hk => hk.elim) ⟨by omega, by omega⟩ (Below.refl _ _) (Nat.le_refl _) (by simp) ?_; intro v_ r2 hn hb hg1 hg2; clear hg1 hg2 lx ly; have F_N := Aside0.mk (Kd.R_N hn); clear hn; have F_O := Aside0.mk (Kd.V_old F_Y.out.1 hb); replace F_X := Aside0.mk (F_X.out.old (ok' := fun k => (k ≠ g_x ∧ k ≠ g_y) ∧ k < r1.heap.size) hb (fun k hk hlt => ⟨hk, hlt⟩)); replace F_Y := Aside0.mk (F_Y.out.old (ok' := fun k => (k ≠ g_x ∧ k ≠ g_y) ∧ k < r1.heap.size) hb (fun k hk hlt => ⟨hk, hlt⟩)); replace B_x := Aside0.mk (blk_below B_x.out hb); replace B_y := Aside0.mk (blk_below B_y.out hb); replace HB := Aside0.mk (below_step HB.out hb); have HZ := Aside0.mk hb.size; clear hb) | ((with_reducible refine gate_dst (N := 53) rfl ?_); refine gate_guard (by rfl) ?_; refine ev_loadf rfl rfl rfl B_y.out rfl Tryd.underlying25 rfl ?_) | ((with_reducible refine gate_dst (N := 54) rfl ?_); refine gate_guard (by rfl) ?_; have lx := L_x.out; have ly := L_y.out; have hz := HZ.out; have hlen := HLEN.out; refine Kd.N_append_rows k62 (w0 := r2) r1.heap.size rfl (.tmp 51) (.tmp 53) 25 62 (.agg #[(.int .u8 0), (.slice none 0 0)]) 32 rfl Tryd.underlying25 info62 rfl (Nat.le_of_ble_eq_true rfl) (Nat.le_of_ble_eq_true rfl) v_ _ (o.map ao) B3 (o.map ao).length _ (fun k => k ≠ g_x ∧ k ≠ g_y) (fun k => (k ≠ g_x ∧ k ≠ g_y) ∧ k < r1.heap.size) rfl rfl F_N.out (Kd.V_F F_O.out) (fun k hk => ⟨hk.1, fun he => by have := Kd.N_base F_N.out k he.symm; omega⟩) (fun k hk => by omega) (Below.refl _ _) hz (by simp only [List.length_cons, List.length_nil, List.length_map]; omega) ?_; intro v1 r3 hn hb hg1 hg2; clear hg1 hg2 lx ly hz hlen; have F_V := Aside0.mk (v_of_n hn); clear hn; replace B_x := Aside0.mk ((hb.block _ L_x.out).trans B_x.out); replace B_y := Aside0.mk ((hb.block _ L_y.out).trans B_y.out); replace HB := Aside0.mk (below_weaken HB.out GW.out hb); replace F_X := Aside0.mk ((F_X.out.keep hb (fun k hk => hk.2)).mono (fun k hk => hk.1)); replace F_Y := Aside0.mk ((F_Y.out.keep hb (fun k hk => hk.2)).mono (fun k hk => hk.1)); clear F_N F_O hb HZ) | ((with_reducible refine gate_store (p := 55) rfl ?_); refine ev_storef rfl rfl rfl (v := v1) rfl B_y.out (Nat.le_of_ble_eq_true rfl) (by kernel_rfl) (rd_one (rd_of_v F_V.out)) (cells := (pk p0 p1 p2 v1 p4 p5 (.slice B6 l6.length d6) (.slice B7 l7.length d7) (.slice B8 l8.length d8) (.slice B9 l9.length d9))) rfl ?_; intro r4 hn ho; replace B_x := Aside0.mk (blk_only B_x.out ho N_x_y.out); replace F_X := Aside0.mk (F_X.out.only ho (fun k hk => hk.2)); replace F_Y := Aside0.mk (F_Y.out.only ho (fun k hk => hk.2)); replace F_V := Aside0.mk (F_V.out.only ho (fun k hk => hk.2)); replace B_y := Aside0.mk hn; replace HB := Aside0.mk (below_only HB.out ho G_y.out); clear hn ho) | ((with_reducible refine gate_dst (N := 82) rfl ?_); refine gate_guard (by rfl) ?_; refine ev_load rfl rfl rfl B_x.out Tryd.underlying29 rfl (by kernel_rfl) ?_) | ((with_reducible refine gate_dst (N := 83) rfl ?_); refine gate_guard (by rfl) ?_; refine ev_load rfl rfl rfl B_y.out Tryd.underlying29 rfl (by kernel_rfl) ?_) | ((with_reducible refine gate_dst (N := 84) rfl ?_); refine gate_guard (by rfl) ?_; refine goesL_ (some 84) rfl rfl Tryd.func25 (by kernel_rfl) rfl #[.agg (pk p0 p1 p2 x3 p4 p5 x6 x7 x8 x9), .agg (pk p0 p1 p2 v1 p4 p5 (.slice B6 l6.length d6) (.slice B7 l7.length d7) (.slice B8 l8.length d8) (.slice B9 l9.length d9))] rfl (by first | rfl | (simp only [List.map_toArray, List.map_cons, List.map_nil]; done) | (simp only [List.map_toArray, List.map_cons, List.map_nil]; rfl)) ?_; refine (same_calls (F_X.out.in_ _ _ _ _ _) (PkR.in_ ⟨F_V.out, F_Y.out.2.1, F_Y.out.2.2.1, F_Y.out.2.2.2.1, F_Y.out.2.2.2.2⟩ _ _ _ _ _) HD1.out).mono ?_; rintro e r5 ⟨rfl, hb⟩; refine ⟨_, rfl, ?_⟩; replace B_x := Aside0.mk (blk_below B_x.out hb); replace B_y := Aside0.mk (blk_below B_y.out hb); replace F_X := Aside0.mk (F_X.out.below hb); replace F_Y := Aside0.mk (F_Y.out.below hb); replace F_V := Aside0.mk (F_V.out.below hb); replace HB := Aside0.mk (below_step HB.out hb); clear hb) | ((with_reducible refine gate_dst (N := 87) rfl ?_); refine gate_guard (by rfl) ?_; refine ev_load rfl rfl rfl B_y.out Tryd.underlying29 rfl (by kernel_rfl) ?_) | ((with_reducible refine gate_dst (N := 88) rfl ?_); refine gate_guard (by rfl) ?_; refine ev_load rfl rfl rfl B_x.out Tryd.underlying29 rfl (by kernel_rfl) ?_) | ((with_reducible refine gate_dst (N := 89) rfl ?_); refine gate_guard (by rfl) ?_; refine goesL_ (some 89) rfl rfl Tryd.func25 (by kernel_rfl) rfl #[.agg (pk p0 p1 p2 v1 p4 p5 (.slice B6 l6.length d6) (.slice B7 l7.length d7) (.slice B8 l8.length d8) (.slice B9 l9.length d9)), .agg (pk p0 p1 p2 x3 p4 p5 x6 x7 x8 x9)] rfl (by first | rfl | (simp only [List.map_toArray, List.map_cons, List.map_nil]; done) | (simp only [List.map_toArray, List.map_cons, List.map_nil]; rfl)) ?_; refine (same_calls (PkR.in_ ⟨F_V.out, F_Y.out.2.1, F_Y.out.2.2.1, F_Y.out.2.2.2.1, F_Y.out.2.2.2.2⟩ _ _ _ _ _) (F_X.out.in_ _ _ _ _ _) HD2.out).mono ?_; rintro e r6 ⟨rfl, hb⟩; refine ⟨_, rfl, ?_⟩; replace B_x := Aside0.mk (blk_below B_x.out hb); replace B_y := Aside0.mk (blk_below B_y.out hb); replace F_X := Aside0.mk (F_X.out.below hb); replace F_Y := Aside0.mk (F_Y.out.below hb); replace F_V := Aside0.mk (F_V.out.below hb); replace HB := Aside0.mk (below_step HB.out hb); clear hb))
     go_ret
     exact ⟨rfl, HB.out⟩
   have hc3 := hc
   clear hc
   by_cases hc : a1 % 9 = 4
   · obtain ⟨kd1, hd1⟩ := Ev.rounds (Same20 p0 p1 p2 (o.map ao) p4 p5 l6 l7 l8 l9 p0 p1 p2 (o.map ao) ((p4 + 1) % 65536) p5 l6 l7 l8 l9 HF.out HF.out)
     rw [show same20 p0 p1 p2 (o.map ao) p4 p5 l6 l7 l8 l9 p0 p1 p2 (o.map ao) ((p4 + 1) % 65536) p5 l6 l7 l8 l9 = false from (by unfold same20; rw [decide_eq_false_iff_not]; intro h; have := h.2.2.2.2.1; omega)] at hd1
     obtain ⟨kd2, hd2⟩ := Ev.rounds (Same20 p0 p1 p2 (o.map ao) ((p4 + 1) % 65536) p5 l6 l7 l8 l9 p0 p1 p2 (o.map ao) p4 p5 l6 l7 l8 l9 HF.out HF.out)
     rw [show same20 p0 p1 p2 (o.map ao) ((p4 + 1) % 65536) p5 l6 l7 l8 l9 p0 p1 p2 (o.map ao) p4 p5 l6 l7 l8 l9 = false from (by unfold same20; rw [decide_eq_false_iff_not]; intro h; have := h.2.2.2.2.1; omega)] at hd2
     have HD1 := Aside0.mk hd1
     have HD2 := Aside0.mk hd2
     clear hd1 hd2
     have hm0 : (a1 % 9 == 0) = false := by rw [beq_eq_false_iff_ne, ne_eq]; omega
     have hm1 : (a1 % 9 == 1) = false := by rw [beq_eq_false_iff_ne, ne_eq]; omega
     have hm2 : (a1 % 9 == 2) = false := by rw [beq_eq_false_iff_ne, ne_eq]; omega
     have hm3 : (a1 % 9 == 3) = false := by rw [beq_eq_false_iff_ne, ne_eq]; omega
     have hm4 : (a1 % 9 == 4) = true := by rw [beq_iff_eq]; omega
     have hm5 : (a1 % 9 == 5) = false := by rw [beq_eq_false_iff_ne, ne_eq]; omega
     have hm6 : (a1 % 9 == 6) = false := by rw [beq_eq_false_iff_ne, ne_eq]; omega
     have hm7 : (a1 % 9 == 7) = false := by rw [beq_eq_false_iff_ne, ne_eq]; omega
     have HLEN := Aside0.mk hlen
     clear hlen
     clear hc
     go_wp2_with (first | ((with_reducible refine gate_dst (N := 19) rfl ?_); refine gate_guard (by rfl) ?_; refine ev_load rfl rfl rfl B_x.out Tryd.underlying29 rfl (by kernel_rfl) ?_) | ((with_reducible refine gate_dst (N := 20) rfl ?_); refine gate_guard (by rfl) ?_; refine ev_load rfl rfl rfl B_y.out Tryd.underlying29 rfl (by kernel_rfl) ?_) | ((with_reducible refine gate_dst (N := 21) rfl ?_); refine gate_guard (by rfl) ?_; refine goesL_ (some 21) rfl rfl Tryd.func25 (by kernel_rfl) rfl #[.agg (pk p0 p1 p2 x3 p4 p5 x6 x7 x8 x9), .agg (pk p0 p1 p2 (.slice B3 (o.map ao).length d3) p4 p5 (.slice B6 l6.length d6) (.slice B7 l7.length d7) (.slice B8 l8.length d8) (.slice B9 l9.length d9))] rfl (by first | rfl | (simp only [List.map_toArray, List.map_cons, List.map_nil]; done) | (simp only [List.map_toArray, List.map_cons, List.map_nil]; rfl)) ?_; refine (same_calls (F_X.out.in_ _ _ _ _ _) (F_Y.out.in_ _ _ _ _ _) HS.out).mono ?_; rintro e r1 ⟨rfl, hb⟩; refine ⟨_, rfl, ?_⟩; replace B_x := Aside0.mk (blk_below B_x.out hb); replace B_y := Aside0.mk (blk_below B_y.out hb); replace F_X := Aside0.mk (F_X.out.below hb); replace F_Y := Aside0.mk (F_Y.out.below hb); replace HB := Aside0.mk (below_step HB.out hb); clear hb) | ((with_reducible refine gate_dst (N := 59) rfl ?_); refine gate_guard (by rfl) ?_; refine ev_loadf rfl rfl rfl B_y.out rfl Tryd.underlying22 rfl ?_) | ((with_reducible refine gate_store (p := 61) rfl ?_); refine ev_storef rfl rfl rfl (v := .int .u16 ((p4 + 1) % 65536)) rfl B_y.out (Nat.le_of_ble_eq_true rfl) (by kernel_rfl) rfl (cells := (pk p0 p1 p2 (.slice B3 (o.map ao).length d3) ((p4 + 1) % 65536) p5 (.slice B6 l6.length d6) (.slice B7 l7.length d7) (.slice B8 l8.length d8) (.slice B9 l9.length d9))) rfl ?_; intro r2 hn ho; replace B_x := Aside0.mk (blk_only B_x.out ho N_x_y.out); replace F_X := Aside0.mk (F_X.out.only ho (fun k hk => hk.2)); replace F_Y := Aside0.mk (F_Y.out.only ho (fun k hk => hk.2)); replace B_y := Aside0.mk hn; replace HB := Aside0.mk (below_only HB.out ho G_y.out); clear hn ho) | ((with_reducible refine gate_dst (N := 82) rfl ?_); refine gate_guard (by rfl) ?_; refine ev_load rfl rfl rfl B_x.out Tryd.underlying29 rfl (by kernel_rfl) ?_) | ((with_reducible refine gate_dst (N := 83) rfl ?_); refine gate_guard (by rfl) ?_; refine ev_load rfl rfl rfl B_y.out Tryd.underlying29 rfl (by kernel_rfl) ?_) | ((with_reducible refine gate_dst (N := 84) rfl ?_); refine gate_guard (by rfl) ?_; refine goesL_ (some 84) rfl rfl Tryd.func25 (by kernel_rfl) rfl #[.agg (pk p0 p1 p2 x3 p4 p5 x6 x7 x8 x9), .agg (pk p0 p1 p2 (.slice B3 (o.map ao).length d3) ((p4 + 1) % 65536) p5 (.slice B6 l6.length d6) (.slice B7 l7.length d7) (.slice B8 l8.length d8) (.slice B9 l9.length d9))] rfl (by first | rfl | (simp only [List.map_toArray, List.map_cons, List.map_nil]; done) | (simp only [List.map_toArray, List.map_cons, List.map_nil]; rfl)) ?_; refine (same_calls (F_X.out.in_ _ _ _ _ _) (F_Y.out.in_ _ _ _ _ _) HD1.out).mono ?_; rintro e r3 ⟨rfl, hb⟩; refine ⟨_, rfl, ?_⟩; replace B_x := Aside0.mk (blk_below B_x.out hb); replace B_y := Aside0.mk (blk_below B_y.out hb); replace F_X := Aside0.mk (F_X.out.below hb); replace F_Y := Aside0.mk (F_Y.out.below hb); replace HB := Aside0.mk (below_step HB.out hb); clear hb) | ((with_reducible refine gate_dst (N := 87) rfl ?_); refine gate_guard (by rfl) ?_; refine ev_load rfl rfl rfl B_y.out Tryd.underlying29 rfl (by kernel_rfl) ?_) | ((with_reducible refine gate_dst (N := 88) rfl ?_); refine gate_guard (by rfl) ?_; refine ev_load rfl rfl rfl B_x.out Tryd.underlying29 rfl (by kernel_rfl) ?_) | ((with_reducible refine gate_dst (N := 89) rfl ?_); refine gate_guard (by rfl) ?_; refine goesL_ (some 89) rfl rfl Tryd.func25 (by kernel_rfl) rfl #[.agg (pk p0 p1 p2 (.slice B3 (o.map ao).length d3) ((p4 + 1) % 65536) p5 (.slice B6 l6.length d6) (.slice B7 l7.length d7) (.slice B8 l8.length d8) (.slice B9 l9.length d9)), .agg (pk p0 p1 p2 x3 p4 p5 x6 x7 x8 x9)] rfl (by first | rfl | (simp only [List.map_toArray, List.map_cons, List.map_nil]; done) | (simp only [List.map_toArray, List.map_cons, List.map_nil]; rfl)) ?_; refine (same_calls (F_Y.out.in_ _ _ _ _ _) (F_X.out.in_ _ _ _ _ _) HD2.out).mono ?_; rintro e r4 ⟨rfl, hb⟩; refine ⟨_, rfl, ?_⟩; replace B_x := Aside0.mk (blk_below B_x.out hb); replace B_y := Aside0.mk (blk_below B_y.out hb); replace F_X := Aside0.mk (F_X.out.below hb); replace F_Y := Aside0.mk (F_Y.out.below hb); replace HB := Aside0.mk (below_step HB.out hb); clear hb))
     go_ret
     exact ⟨rfl, HB.out⟩
   have hc4 := hc
   clear hc
   by_cases hc : a1 % 9 = 5
   · obtain ⟨kd1, hd1⟩ := Ev.rounds (Same20 p0 p1 p2 (o.map ao) p4 p5 l6 l7 l8 l9 p0 p1 p2 (o.map ao) p4 ((p5 + 1) % 4294967296) l6 l7 l8 l9 HF.out HF.out)
     rw [show same20 p0 p1 p2 (o.map ao) p4 p5 l6 l7 l8 l9 p0 p1 p2 (o.map ao) p4 ((p5 + 1) % 4294967296) l6 l7 l8 l9 = false from (by unfold same20; rw [decide_eq_false_iff_not]; intro h; have := h.2.2.2.2.2.1; omega)] at hd1
     obtain ⟨kd2, hd2⟩ := Ev.rounds (Same20 p0 p1 p2 (o.map ao) p4 ((p5 + 1) % 4294967296) l6 l7 l8 l9 p0 p1 p2 (o.map ao) p4 p5 l6 l7 l8 l9 HF.out HF.out)
     rw [show same20 p0 p1 p2 (o.map ao) p4 ((p5 + 1) % 4294967296) l6 l7 l8 l9 p0 p1 p2 (o.map ao) p4 p5 l6 l7 l8 l9 = false from (by unfold same20; rw [decide_eq_false_iff_not]; intro h; have := h.2.2.2.2.2.1; omega)] at hd2
     have HD1 := Aside0.mk hd1
     have HD2 := Aside0.mk hd2
     clear hd1 hd2
     have hm0 : (a1 % 9 == 0) = false := by rw [beq_eq_false_iff_ne, ne_eq]; omega
     have hm1 : (a1 % 9 == 1) = false := by rw [beq_eq_false_iff_ne, ne_eq]; omega
     have hm2 : (a1 % 9 == 2) = false := by rw [beq_eq_false_iff_ne, ne_eq]; omega
     have hm3 : (a1 % 9 == 3) = false := by rw [beq_eq_false_iff_ne, ne_eq]; omega
     have hm4 : (a1 % 9 == 4) = false := by rw [beq_eq_false_iff_ne, ne_eq]; omega
     have hm5 : (a1 % 9 == 5) = true := by rw [beq_iff_eq]; omega
     have hm6 : (a1 % 9 == 6) = false := by rw [beq_eq_false_iff_ne, ne_eq]; omega
     have hm7 : (a1 % 9 == 7) = false := by rw [beq_eq_false_iff_ne, ne_eq]; omega
     have HLEN := Aside0.mk hlen
     clear hlen
     clear hc
     go_wp2_with (first | ((with_reducible refine gate_dst (N := 19) rfl ?_); refine gate_guard (by rfl) ?_; refine ev_load rfl rfl rfl B_x.out Tryd.underlying29 rfl (by kernel_rfl) ?_) | ((with_reducible refine gate_dst (N := 20) rfl ?_); refine gate_guard (by rfl) ?_; refine ev_load rfl rfl rfl B_y.out Tryd.underlying29 rfl (by kernel_rfl) ?_) | ((with_reducible refine gate_dst (N := 21) rfl ?_); refine gate_guard (by rfl) ?_; refine goesL_ (some 21) rfl rfl Tryd.func25 (by kernel_rfl) rfl #[.agg (pk p0 p1 p2 x3 p4 p5 x6 x7 x8 x9), .agg (pk p0 p1 p2 (.slice B3 (o.map ao).length d3) p4 p5 (.slice B6 l6.length d6) (.slice B7 l7.length d7) (.slice B8 l8.length d8) (.slice B9 l9.length d9))] rfl (by first | rfl | (simp only [List.map_toArray, List.map_cons, List.map_nil]; done) | (simp only [List.map_toArray, List.map_cons, List.map_nil]; rfl)) ?_; refine (same_calls (F_X.out.in_ _ _ _ _ _) (F_Y.out.in_ _ _ _ _ _) HS.out).mono ?_; rintro e r1 ⟨rfl, hb⟩; refine ⟨_, rfl, ?_⟩; replace B_x := Aside0.mk (blk_below B_x.out hb); replace B_y := Aside0.mk (blk_below B_y.out hb); replace F_X := Aside0.mk (F_X.out.below hb); replace F_Y := Aside0.mk (F_Y.out.below hb); replace HB := Aside0.mk (below_step HB.out hb); clear hb) | ((with_reducible refine gate_dst (N := 65) rfl ?_); refine gate_guard (by rfl) ?_; refine ev_loadf rfl rfl rfl B_y.out rfl Tryd.underlying26 rfl ?_) | ((with_reducible refine gate_store (p := 67) rfl ?_); refine ev_storef rfl rfl rfl (v := .int .u32 ((p5 + 1) % 4294967296)) rfl B_y.out (Nat.le_of_ble_eq_true rfl) (by kernel_rfl) rfl (cells := (pk p0 p1 p2 (.slice B3 (o.map ao).length d3) p4 ((p5 + 1) % 4294967296) (.slice B6 l6.length d6) (.slice B7 l7.length d7) (.slice B8 l8.length d8) (.slice B9 l9.length d9))) rfl ?_; intro r2 hn ho; replace B_x := Aside0.mk (blk_only B_x.out ho N_x_y.out); replace F_X := Aside0.mk (F_X.out.only ho (fun k hk => hk.2)); replace F_Y := Aside0.mk (F_Y.out.only ho (fun k hk => hk.2)); replace B_y := Aside0.mk hn; replace HB := Aside0.mk (below_only HB.out ho G_y.out); clear hn ho) | ((with_reducible refine gate_dst (N := 82) rfl ?_); refine gate_guard (by rfl) ?_; refine ev_load rfl rfl rfl B_x.out Tryd.underlying29 rfl (by kernel_rfl) ?_) | ((with_reducible refine gate_dst (N := 83) rfl ?_); refine gate_guard (by rfl) ?_; refine ev_load rfl rfl rfl B_y.out Tryd.underlying29 rfl (by kernel_rfl) ?_) | ((with_reducible refine gate_dst (N := 84) rfl ?_); refine gate_guard (by rfl) ?_; refine goesL_ (some 84) rfl rfl Tryd.func25 (by kernel_rfl) rfl #[.agg (pk p0 p1 p2 x3 p4 p5 x6 x7 x8 x9), .agg (pk p0 p1 p2 (.slice B3 (o.map ao).length d3) p4 ((p5 + 1) % 4294967296) (.slice B6 l6.length d6) (.slice B7 l7.length d7) (.slice B8 l8.length d8) (.slice B9 l9.length d9))] rfl (by first | rfl | (simp only [List.map_toArray, List.map_cons, List.map_nil]; done) | (simp only [List.map_toArray, List.map_cons, List.map_nil]; rfl)) ?_; refine (same_calls (F_X.out.in_ _ _ _ _ _) (F_Y.out.in_ _ _ _ _ _) HD1.out).mono ?_; rintro e r3 ⟨rfl, hb⟩; refine ⟨_, rfl, ?_⟩; replace B_x := Aside0.mk (blk_below B_x.out hb); replace B_y := Aside0.mk (blk_below B_y.out hb); replace F_X := Aside0.mk (F_X.out.below hb); replace F_Y := Aside0.mk (F_Y.out.below hb); replace HB := Aside0.mk (below_step HB.out hb); clear hb) | ((with_reducible refine gate_dst (N := 87) rfl ?_); refine gate_guard (by rfl) ?_; refine ev_load rfl rfl rfl B_y.out Tryd.underlying29 rfl (by kernel_rfl) ?_) | ((with_reducible refine gate_dst (N := 88) rfl ?_); refine gate_guard (by rfl) ?_; refine ev_load rfl rfl rfl B_x.out Tryd.underlying29 rfl (by kernel_rfl) ?_) | ((with_reducible refine gate_dst (N := 89) rfl ?_); refine gate_guard (by rfl) ?_; refine goesL_ (some 89) rfl rfl Tryd.func25 (by kernel_rfl) rfl #[.agg (pk p0 p1 p2 (.slice B3 (o.map ao).length d3) p4 ((p5 + 1) % 4294967296) (.slice B6 l6.length d6) (.slice B7 l7.length d7) (.slice B8 l8.length d8) (.slice B9 l9.length d9)), .agg (pk p0 p1 p2 x3 p4 p5 x6 x7 x8 x9)] rfl (by first | rfl | (simp only [List.map_toArray, List.map_cons, List.map_nil]; done) | (simp only [List.map_toArray, List.map_cons, List.map_nil]; rfl)) ?_; refine (same_calls (F_Y.out.in_ _ _ _ _ _) (F_X.out.in_ _ _ _ _ _) HD2.out).mono ?_; rintro e r4 ⟨rfl, hb⟩; refine ⟨_, rfl, ?_⟩; replace B_x := Aside0.mk (blk_below B_x.out hb); replace B_y := Aside0.mk (blk_below B_y.out hb); replace F_X := Aside0.mk (F_X.out.below hb); replace F_Y := Aside0.mk (F_Y.out.below hb); replace HB := Aside0.mk (below_step HB.out hb); clear hb))
     go_ret
     exact ⟨rfl, HB.out⟩
   have hc5 := hc
   clear hc
   by_cases hc : a1 % 9 = 6
   · obtain ⟨kd1, hd1⟩ := Ev.rounds (Same20 p0 p1 p2 (o.map ao) p4 p5 l6 l7 l8 l9 p0 p1 p2 (o.map ao) p4 p5 (([1]) ++ l6) l7 l8 l9 HF.out ⟨HF.out.1, Bytes.cons one_byte HF.out.2.1, HF.out.2.2⟩)
     rw [show same20 p0 p1 p2 (o.map ao) p4 p5 l6 l7 l8 l9 p0 p1 p2 (o.map ao) p4 p5 (([1]) ++ l6) l7 l8 l9 = false from (by unfold same20; rw [decide_eq_false_iff_not]; intro h; have := congrArg List.length h.2.2.2.2.2.2.1; simp at this)] at hd1
     obtain ⟨kd2, hd2⟩ := Ev.rounds (Same20 p0 p1 p2 (o.map ao) p4 p5 (([1]) ++ l6) l7 l8 l9 p0 p1 p2 (o.map ao) p4 p5 l6 l7 l8 l9 ⟨HF.out.1, Bytes.cons one_byte HF.out.2.1, HF.out.2.2⟩ HF.out)
     rw [show same20 p0 p1 p2 (o.map ao) p4 p5 (([1]) ++ l6) l7 l8 l9 p0 p1 p2 (o.map ao) p4 p5 l6 l7 l8 l9 = false from (by unfold same20; rw [decide_eq_false_iff_not]; intro h; have := congrArg List.length h.2.2.2.2.2.2.1; simp at this)] at hd2
     have HD1 := Aside0.mk hd1
     have HD2 := Aside0.mk hd2
     clear hd1 hd2
     have hm0 : (a1 % 9 == 0) = false := by rw [beq_eq_false_iff_ne, ne_eq]; omega
     have hm1 : (a1 % 9 == 1) = false := by rw [beq_eq_false_iff_ne, ne_eq]; omega
     have hm2 : (a1 % 9 == 2) = false := by rw [beq_eq_false_iff_ne, ne_eq]; omega
     have hm3 : (a1 % 9 == 3) = false := by rw [beq_eq_false_iff_ne, ne_eq]; omega
     have hm4 : (a1 % 9 == 4) = false := by rw [beq_eq_false_iff_ne, ne_eq]; omega
     have hm5 : (a1 % 9 == 5) = false := by rw [beq_eq_false_iff_ne, ne_eq]; omega
     have hm6 : (a1 % 9 == 6) = true := by rw [beq_iff_eq]; omega
     have hm7 : (a1 % 9 == 7) = false := by rw [beq_eq_false_iff_ne, ne_eq]; omega
     have HLEN := Aside0.mk hlen
     clear hlen
     clear hc
     go_wp2_with (first | ((with_reducible refine gate_dst (N := 19) rfl ?_); refine gate_guard (by rfl) ?_; refine ev_load rfl rfl rfl B_x.out Tryd.underlying29 rfl (by kernel_rfl) ?_) | ((with_reducible refine gate_dst (N := 20) rfl ?_); refine gate_guard (by rfl) ?_; refine ev_load rfl rfl rfl B_y.out Tryd.underlying29 rfl (by kernel_rfl) ?_) | ((with_reducible refine gate_dst (N := 21) rfl ?_); refine gate_guard (by rfl) ?_; refine goesL_ (some 21) rfl rfl Tryd.func25 (by kernel_rfl) rfl #[.agg (pk p0 p1 p2 x3 p4 p5 x6 x7 x8 x9), .agg (pk p0 p1 p2 (.slice B3 (o.map ao).length d3) p4 p5 (.slice B6 l6.length d6) (.slice B7 l7.length d7) (.slice B8 l8.length d8) (.slice B9 l9.length d9))] rfl (by first | rfl | (simp only [List.map_toArray, List.map_cons, List.map_nil]; done) | (simp only [List.map_toArray, List.map_cons, List.map_nil]; rfl)) ?_; refine (same_calls (F_X.out.in_ _ _ _ _ _) (F_Y.out.in_ _ _ _ _ _) HS.out).mono ?_; rintro e r1 ⟨rfl, hb⟩; refine ⟨_, rfl, ?_⟩; replace B_x := Aside0.mk (blk_below B_x.out hb); replace B_y := Aside0.mk (blk_below B_y.out hb); replace F_X := Aside0.mk (F_X.out.below hb); replace F_Y := Aside0.mk (F_Y.out.below hb); replace HB := Aside0.mk (below_step HB.out hb); clear hb) | ((with_reducible refine gate_dst (N := 70) rfl ?_); refine gate_guard (by rfl) ?_; have L_x := Aside0.mk (blk_lt B_x.out); have L_y := Aside0.mk (blk_lt B_y.out); have GW := Aside0.mk (below_size HB.out); have lx := L_x.out; have ly := L_y.out; refine Kd.R_lit (Kd.int .u8) _ 5 rfl (N := 70) rfl (xs := ([1] : List Int)) (inner := [.int .u8 1]) (ok := (fun k => k ≠ g_x ∧ k ≠ g_y)) (okp := fun _ => False) (by first | (go_simp; done) | (go_simp; rfl)) (Reps.one (show Kd.M (Kd.int .u8) _ _ _ 1 [.int .u8 1] from rfl) (Reps.none _ _)) (fun _ hk => hk.elim) ⟨by omega, by omega⟩ (Below.refl _ _) (Nat.le_refl _) (by simp) ?_; intro v_ r2 hn hb hg1 hg2; clear hg1 hg2 lx ly; have F_N := Aside0.mk (Kd.R_N hn); clear hn; have F_O := Aside0.mk (Kd.V_old F_Y.out.2.1 hb); replace F_X := Aside0.mk (F_X.out.old (ok' := fun k => (k ≠ g_x ∧ k ≠ g_y) ∧ k < r1.heap.size) hb (fun k hk hlt => ⟨hk, hlt⟩)); replace F_Y := Aside0.mk (F_Y.out.old (ok' := fun k => (k ≠ g_x ∧ k ≠ g_y) ∧ k < r1.heap.size) hb (fun k hk hlt => ⟨hk, hlt⟩)); replace B_x := Aside0.mk (blk_below B_x.out hb); replace B_y := Aside0.mk (blk_below B_y.out hb); replace HB := Aside0.mk (below_step HB.out hb); have HZ := Aside0.mk hb.size; clear hb) | ((with_reducible refine gate_dst (N := 72) rfl ?_); refine gate_guard (by rfl) ?_; refine ev_loadf rfl rfl rfl B_y.out rfl Tryd.underlying24 rfl ?_) | ((with_reducible refine gate_dst (N := 73) rfl ?_); refine gate_guard (by rfl) ?_; have lx := L_x.out; have ly := L_y.out; have hz := HZ.out; have hlen := HLEN.out; refine Kd.N_append_rows (Kd.int .u8) (w0 := r2) r1.heap.size rfl (.tmp 70) (.tmp 72) 24 5 (.int .u8 0) 1 rfl Tryd.underlying24 info5 rfl (Nat.le_of_ble_eq_true rfl) (Nat.le_of_ble_eq_true rfl) v_ _ l6 B6 l6.length _ (fun k => k ≠ g_x ∧ k ≠ g_y) (fun k => (k ≠ g_x ∧ k ≠ g_y) ∧ k < r1.heap.size) rfl rfl F_N.out (Kd.V_F F_O.out) (fun k hk => ⟨hk.1, fun he => by have := Kd.N_base F_N.out k he.symm; omega⟩) (fun k hk => by omega) (Below.refl _ _) hz (by simp only [List.length_cons, List.length_nil, List.length_map]; omega) ?_; intro v1 r3 hn hb hg1 hg2; clear hg1 hg2 lx ly hz hlen; have F_V := Aside0.mk (v_of_n hn); clear hn; replace B_x := Aside0.mk ((hb.block _ L_x.out).trans B_x.out); replace B_y := Aside0.mk ((hb.block _ L_y.out).trans B_y.out); replace HB := Aside0.mk (below_weaken HB.out GW.out hb); replace F_X := Aside0.mk ((F_X.out.keep hb (fun k hk => hk.2)).mono (fun k hk => hk.1)); replace F_Y := Aside0.mk ((F_Y.out.keep hb (fun k hk => hk.2)).mono (fun k hk => hk.1)); clear F_N F_O hb HZ) | ((with_reducible refine gate_store (p := 74) rfl ?_); refine ev_storef rfl rfl rfl (v := v1) rfl B_y.out (Nat.le_of_ble_eq_true rfl) (by kernel_rfl) (rd_one (rd_of_v F_V.out)) (cells := (pk p0 p1 p2 (.slice B3 (o.map ao).length d3) p4 p5 v1 (.slice B7 l7.length d7) (.slice B8 l8.length d8) (.slice B9 l9.length d9))) rfl ?_; intro r4 hn ho; replace B_x := Aside0.mk (blk_only B_x.out ho N_x_y.out); replace F_X := Aside0.mk (F_X.out.only ho (fun k hk => hk.2)); replace F_Y := Aside0.mk (F_Y.out.only ho (fun k hk => hk.2)); replace F_V := Aside0.mk (F_V.out.only ho (fun k hk => hk.2)); replace B_y := Aside0.mk hn; replace HB := Aside0.mk (below_only HB.out ho G_y.out); clear hn ho) | ((with_reducible refine gate_dst (N := 82) rfl ?_); refine gate_guard (by rfl) ?_; refine ev_load rfl rfl rfl B_x.out Tryd.underlying29 rfl (by kernel_rfl) ?_) | ((with_reducible refine gate_dst (N := 83) rfl ?_); refine gate_guard (by rfl) ?_; refine ev_load rfl rfl rfl B_y.out Tryd.underlying29 rfl (by kernel_rfl) ?_) | ((with_reducible refine gate_dst (N := 84) rfl ?_); refine gate_guard (by rfl) ?_; refine goesL_ (some 84) rfl rfl Tryd.func25 (by kernel_rfl) rfl #[.agg (pk p0 p1 p2 x3 p4 p5 x6 x7 x8 x9), .agg (pk p0 p1 p2 (.slice B3 (o.map ao).length d3) p4 p5 v1 (.slice B7 l7.length d7) (.slice B8 l8.length d8) (.slice B9 l9.length d9))] rfl (by first | rfl | (simp only [List.map_toArray, List.map_cons, List.map_nil]; done) | (simp only [List.map_toArray, List.map_cons, List.map_nil]; rfl)) ?_; refine (same_calls (F_X.out.in_ _ _ _ _ _) (PkR.in_ ⟨F_Y.out.1, F_V.out, F_Y.out.2.2.1, F_Y.out.2.2.2.1, F_Y.out.2.2.2.2⟩ _ _ _ _ _) HD1.out).mono ?_; rintro e r5 ⟨rfl, hb⟩; refine ⟨_, rfl, ?_⟩; replace B_x := Aside0.mk (blk_below B_x.out hb); replace B_y := Aside0.mk (blk_below B_y.out hb); replace F_X := Aside0.mk (F_X.out.below hb); replace F_Y := Aside0.mk (F_Y.out.below hb); replace F_V := Aside0.mk (F_V.out.below hb); replace HB := Aside0.mk (below_step HB.out hb); clear hb) | ((with_reducible refine gate_dst (N := 87) rfl ?_); refine gate_guard (by rfl) ?_; refine ev_load rfl rfl rfl B_y.out Tryd.underlying29 rfl (by kernel_rfl) ?_) | ((with_reducible refine gate_dst (N := 88) rfl ?_); refine gate_guard (by rfl) ?_; refine ev_load rfl rfl rfl B_x.out Tryd.underlying29 rfl (by kernel_rfl) ?_) | ((with_reducible refine gate_dst (N := 89) rfl ?_); refine gate_guard (by rfl) ?_; refine goesL_ (some 89) rfl rfl Tryd.func25 (by kernel_rfl) rfl #[.agg (pk p0 p1 p2 (.slice B3 (o.map ao).length d3) p4 p5 v1 (.slice B7 l7.length d7) (.slice B8 l8.length d8) (.slice B9 l9.length d9)), .agg (pk p0 p1 p2 x3 p4 p5 x6 x7 x8 x9)] rfl (by first | rfl | (simp only [List.map_toArray, List.map_cons, List.map_nil]; done) | (simp only [List.map_toArray, List.map_cons, List.map_nil]; rfl)) ?_; refine (same_calls (PkR.in_ ⟨F_Y.out.1, F_V.out, F_Y.out.2.2.1, F_Y.out.2.2.2.1, F_Y.out.2.2.2.2⟩ _ _ _ _ _) (F_X.out.in_ _ _ _ _ _) HD2.out).mono ?_; rintro e r6 ⟨rfl, hb⟩; refine ⟨_, rfl, ?_⟩; replace B_x := Aside0.mk (blk_below B_x.out hb); replace B_y := Aside0.mk (blk_below B_y.out hb); replace F_X := Aside0.mk (F_X.out.below hb); replace F_Y := Aside0.mk (F_Y.out.below hb); replace F_V := Aside0.mk (F_V.out.below hb); replace HB := Aside0.mk (below_step HB.out hb); clear hb))
     go_ret
     exact ⟨rfl, HB.out⟩
   have hc6 := hc
   clear hc
   by_cases hc : a1 % 9 = 7
   · obtain ⟨kd1, hd1⟩ := Ev.rounds (Same20 p0 p1 p2 (o.map ao) p4 p5 l6 l7 l8 l9 p0 p1 p2 (o.map ao) p4 p5 l6 l7 (([1]) ++ l8) l9 HF.out ⟨HF.out.1, HF.out.2.1, HF.out.2.2.1, Bytes.cons one_byte HF.out.2.2.2.1, HF.out.2.2.2.2⟩)
     rw [show same20 p0 p1 p2 (o.map ao) p4 p5 l6 l7 l8 l9 p0 p1 p2 (o.map ao) p4 p5 l6 l7 (([1]) ++ l8) l9 = false from (by unfold same20; rw [decide_eq_false_iff_not]; intro h; have := congrArg List.length h.2.2.2.2.2.2.2.2.1; simp at this)] at hd1
     obtain ⟨kd2, hd2⟩ := Ev.rounds (Same20 p0 p1 p2 (o.map ao) p4 p5 l6 l7 (([1]) ++ l8) l9 p0 p1 p2 (o.map ao) p4 p5 l6 l7 l8 l9 ⟨HF.out.1, HF.out.2.1, HF.out.2.2.1, Bytes.cons one_byte HF.out.2.2.2.1, HF.out.2.2.2.2⟩ HF.out)
     rw [show same20 p0 p1 p2 (o.map ao) p4 p5 l6 l7 (([1]) ++ l8) l9 p0 p1 p2 (o.map ao) p4 p5 l6 l7 l8 l9 = false from (by unfold same20; rw [decide_eq_false_iff_not]; intro h; have := congrArg List.length h.2.2.2.2.2.2.2.2.1; simp at this)] at hd2
     have HD1 := Aside0.mk hd1
     have HD2 := Aside0.mk hd2
     clear hd1 hd2
     have hm0 : (a1 % 9 == 0) = false := by rw [beq_eq_false_iff_ne, ne_eq]; omega
     have hm1 : (a1 % 9 == 1) = false := by rw [beq_eq_false_iff_ne, ne_eq]; omega
     have hm2 : (a1 % 9 == 2) = false := by rw [beq_eq_false_iff_ne, ne_eq]; omega
     have hm3 : (a1 % 9 == 3) = false := by rw [beq_eq_false_iff_ne, ne_eq]; omega
     have hm4 : (a1 % 9 == 4) = false := by rw [beq_eq_false_iff_ne, ne_eq]; omega
     have hm5 : (a1 % 9 == 5) = false := by rw [beq_eq_false_iff_ne, ne_eq]; omega
     have hm6 : (a1 % 9 == 6) = false := by rw [beq_eq_false_iff_ne, ne_eq]; omega
     have hm7 : (a1 % 9 == 7) = true := by rw [beq_iff_eq]; omega
     have HLEN := Aside0.mk hlen
     clear hlen
     clear hc
     go_wp2_with (first | ((with_reducible refine gate_dst (N := 19) rfl ?_); refine gate_guard (by rfl) ?_; refine ev_load rfl rfl rfl B_x.out Tryd.underlying29 rfl (by kernel_rfl) ?_) | ((with_reducible refine gate_dst (N := 20) rfl ?_); refine gate_guard (by rfl) ?_; refine ev_load rfl rfl rfl B_y.out Tryd.underlying29 rfl (by kernel_rfl) ?_) | ((with_reducible refine gate_dst (N := 21) rfl ?_); refine gate_guard (by rfl) ?_; refine goesL_ (some 21) rfl rfl Tryd.func25 (by kernel_rfl) rfl #[.agg (pk p0 p1 p2 x3 p4 p5 x6 x7 x8 x9), .agg (pk p0 p1 p2 (.slice B3 (o.map ao).length d3) p4 p5 (.slice B6 l6.length d6) (.slice B7 l7.length d7) (.slice B8 l8.length d8) (.slice B9 l9.length d9))] rfl (by first | rfl | (simp only [List.map_toArray, List.map_cons, List.map_nil]; done) | (simp only [List.map_toArray, List.map_cons, List.map_nil]; rfl)) ?_; refine (same_calls (F_X.out.in_ _ _ _ _ _) (F_Y.out.in_ _ _ _ _ _) HS.out).mono ?_; rintro e r1 ⟨rfl, hb⟩; refine ⟨_, rfl, ?_⟩; replace B_x := Aside0.mk (blk_below B_x.out hb); replace B_y := Aside0.mk (blk_below B_y.out hb); replace F_X := Aside0.mk (F_X.out.below hb); replace F_Y := Aside0.mk (F_Y.out.below hb); replace HB := Aside0.mk (below_step HB.out hb); clear hb) | ((with_reducible refine gate_dst (N := 77) rfl ?_); refine gate_guard (by rfl) ?_; have L_x := Aside0.mk (blk_lt B_x.out); have L_y := Aside0.mk (blk_lt B_y.out); have GW := Aside0.mk (below_size HB.out); have lx := L_x.out; have ly := L_y.out; refine Kd.R_lit (Kd.int .u8) _ 5 rfl (N := 77) rfl (xs := ([1] : List Int)) (inner := [.int .u8 1]) (ok := (fun k => k ≠ g_x ∧ k ≠ g_y)) (okp := fun _ => False) (by first | (go_simp; done) | (go_simp; rfl)) (Reps.one (show Kd.M (Kd.int .u8) _ _ _ 1 [.int .u8 1] from rfl) (Reps.none _ _)) (fun _ hk => hk.elim) ⟨by omega, by omega⟩ (Below.refl _ _) (Nat.le_refl _) (by simp) ?_; intro v_ r2 hn hb hg1 hg2; clear hg1 hg2 lx ly; have F_N := Aside0.mk (Kd.R_N hn); clear hn; have F_O := Aside0.mk (Kd.V_old F_Y.out.2.2.2.1 hb); replace F_X := Aside0.mk (F_X.out.old (ok' := fun k => (k ≠ g_x ∧ k ≠ g_y) ∧ k < r1.heap.size) hb (fun k hk hlt => ⟨hk, hlt⟩)); replace F_Y := Aside0.mk (F_Y.out.old (ok' := fun k => (k ≠ g_x ∧ k ≠ g_y) ∧ k < r1.heap.size) hb (fun k hk hlt => ⟨hk, hlt⟩)); replace B_x := Aside0.mk (blk_below B_x.out hb); replace B_y := Aside0.mk (blk_below B_y.out hb); replace HB := Aside0.mk (below_step HB.out hb); have HZ := Aside0.mk hb.size; clear hb) | ((with_reducible refine gate_dst (N := 79) rfl ?_); refine gate_guard (by rfl) ?_; refine ev_loadf rfl rfl rfl B_y.out rfl Tryd.underlying24 rfl ?_) | ((with_reducible refine gate_dst (N := 80) rfl ?_); refine gate_guard (by rfl) ?_; have lx := L_x.out; have ly := L_y.out; have hz := HZ.out; have hlen := HLEN.out; refine Kd.N_append_rows (Kd.int .u8) (w0 := r2) r1.heap.size rfl (.tmp 77) (.tmp 79) 24 5 (.int .u8 0) 1 rfl Tryd.underlying24 info5 rfl (Nat.le_of_ble_eq_true rfl) (Nat.le_of_ble_eq_true rfl) v_ _ l8 B8 l8.length _ (fun k => k ≠ g_x ∧ k ≠ g_y) (fun k => (k ≠ g_x ∧ k ≠ g_y) ∧ k < r1.heap.size) rfl rfl F_N.out (Kd.V_F F_O.out) (fun k hk => ⟨hk.1, fun he => by have := Kd.N_base F_N.out k he.symm; omega⟩) (fun k hk => by omega) (Below.refl _ _) hz (by simp only [List.length_cons, List.length_nil, List.length_map]; omega) ?_; intro v1 r3 hn hb hg1 hg2; clear hg1 hg2 lx ly hz hlen; have F_V := Aside0.mk (v_of_n hn); clear hn; replace B_x := Aside0.mk ((hb.block _ L_x.out).trans B_x.out); replace B_y := Aside0.mk ((hb.block _ L_y.out).trans B_y.out); replace HB := Aside0.mk (below_weaken HB.out GW.out hb); replace F_X := Aside0.mk ((F_X.out.keep hb (fun k hk => hk.2)).mono (fun k hk => hk.1)); replace F_Y := Aside0.mk ((F_Y.out.keep hb (fun k hk => hk.2)).mono (fun k hk => hk.1)); clear F_N F_O hb HZ) | ((with_reducible refine gate_store (p := 81) rfl ?_); refine ev_storef rfl rfl rfl (v := v1) rfl B_y.out (Nat.le_of_ble_eq_true rfl) (by kernel_rfl) (rd_one (rd_of_v F_V.out)) (cells := (pk p0 p1 p2 (.slice B3 (o.map ao).length d3) p4 p5 (.slice B6 l6.length d6) (.slice B7 l7.length d7) v1 (.slice B9 l9.length d9))) rfl ?_; intro r4 hn ho; replace B_x := Aside0.mk (blk_only B_x.out ho N_x_y.out); replace F_X := Aside0.mk (F_X.out.only ho (fun k hk => hk.2)); replace F_Y := Aside0.mk (F_Y.out.only ho (fun k hk => hk.2)); replace F_V := Aside0.mk (F_V.out.only ho (fun k hk => hk.2)); replace B_y := Aside0.mk hn; replace HB := Aside0.mk (below_only HB.out ho G_y.out); clear hn ho) | ((with_reducible refine gate_dst (N := 82) rfl ?_); refine gate_guard (by rfl) ?_; refine ev_load rfl rfl rfl B_x.out Tryd.underlying29 rfl (by kernel_rfl) ?_) | ((with_reducible refine gate_dst (N := 83) rfl ?_); refine gate_guard (by rfl) ?_; refine ev_load rfl rfl rfl B_y.out Tryd.underlying29 rfl (by kernel_rfl) ?_) | ((with_reducible refine gate_dst (N := 84) rfl ?_); refine gate_guard (by rfl) ?_; refine goesL_ (some 84) rfl rfl Tryd.func25 (by kernel_rfl) rfl #[.agg (pk p0 p1 p2 x3 p4 p5 x6 x7 x8 x9), .agg (pk p0 p1 p2 (.slice B3 (o.map ao).length d3) p4 p5 (.slice B6 l6.length d6) (.slice B7 l7.length d7) v1 (.slice B9 l9.length d9))] rfl (by first | rfl | (simp only [List.map_toArray, List.map_cons, List.map_nil]; done) | (simp only [List.map_toArray, List.map_cons, List.map_nil]; rfl)) ?_; refine (same_calls (F_X.out.in_ _ _ _ _ _) (PkR.in_ ⟨F_Y.out.1, F_Y.out.2.1, F_Y.out.2.2.1, F_V.out, F_Y.out.2.2.2.2⟩ _ _ _ _ _) HD1.out).mono ?_; rintro e r5 ⟨rfl, hb⟩; refine ⟨_, rfl, ?_⟩; replace B_x := Aside0.mk (blk_below B_x.out hb); replace B_y := Aside0.mk (blk_below B_y.out hb); replace F_X := Aside0.mk (F_X.out.below hb); replace F_Y := Aside0.mk (F_Y.out.below hb); replace F_V := Aside0.mk (F_V.out.below hb); replace HB := Aside0.mk (below_step HB.out hb); clear hb) | ((with_reducible refine gate_dst (N := 87) rfl ?_); refine gate_guard (by rfl) ?_; refine ev_load rfl rfl rfl B_y.out Tryd.underlying29 rfl (by kernel_rfl) ?_) | ((with_reducible refine gate_dst (N := 88) rfl ?_); refine gate_guard (by rfl) ?_; refine ev_load rfl rfl rfl B_x.out Tryd.underlying29 rfl (by kernel_rfl) ?_) | ((with_reducible refine gate_dst (N := 89) rfl ?_); refine gate_guard (by rfl) ?_; refine goesL_ (some 89) rfl rfl Tryd.func25 (by kernel_rfl) rfl #[.agg (pk p0 p1 p2 (.slice B3 (o.map ao).length d3) p4 p5 (.slice B6 l6.length d6) (.slice B7 l7.length d7) v1 (.slice B9 l9.length d9)), .agg (pk p0 p1 p2 x3 p4 p5 x6 x7 x8 x9)] rfl (by first | rfl | (simp only [List.map_toArray, List.map_cons, List.map_nil]; done) | (simp only [List.map_toArray, List.map_cons, List.map_nil]; rfl)) ?_; refine (same_calls (PkR.in_ ⟨F_Y.out.1, F_Y.out.2.1, F_Y.out.2.2.1, F_V.out, F_Y.out.2.2.2.2⟩ _ _ _ _ _) (F_X.out.in_ _ _ _ _ _) HD2.out).mono ?_; rintro e r6 ⟨rfl, hb⟩; refine ⟨_, rfl, ?_⟩; replace B_x := Aside0.mk (blk_below B_x.out hb); replace B_y := Aside0.mk (blk_below B_y.out hb); replace F_X := Aside0.mk (F_X.out.below hb); replace F_Y := Aside0.mk (F_Y.out.below hb); replace F_V := Aside0.mk (F_V.out.below hb); replace HB := Aside0.mk (below_step HB.out hb); clear hb))
     go_ret
     exact ⟨rfl, HB.out⟩
   have hc7 := hc
   clear hc
   have hc : a1 % 9 = 8 := by omega
   clear hc0 hc1 hc2 hc3 hc4 hc5 hc6 hc7
   obtain ⟨kd1, hd1⟩ := Ev.rounds (Same20 p0 p1 p2 (o.map ao) p4 p5 l6 l7 l8 l9 p0 p1 p2 (o.map ao) p4 p5 l6 l7 l8 (([1]) ++ l9) HF.out ⟨HF.out.1, HF.out.2.1, HF.out.2.2.1, HF.out.2.2.2.1, by have := hlen; unfold Lim; simp only [List.length_append, List.length_cons, List.length_nil]; omega⟩)
   rw [show same20 p0 p1 p2 (o.map ao) p4 p5 l6 l7 l8 l9 p0 p1 p2 (o.map ao) p4 p5 l6 l7 l8 (([1]) ++ l9) = false from (by unfold same20; rw [decide_eq_false_iff_not]; intro h; have := congrArg List.length h.2.2.2.2.2.2.2.2.2; simp at this)] at hd1
   obtain ⟨kd2, hd2⟩ := Ev.rounds (Same20 p0 p1 p2 (o.map ao) p4 p5 l6 l7 l8 (([1]) ++ l9) p0 p1 p2 (o.map ao) p4 p5 l6 l7 l8 l9 ⟨HF.out.1, HF.out.2.1, HF.out.2.2.1, HF.out.2.2.2.1, by have := hlen; unfold Lim; simp only [List.length_append, List.length_cons, List.length_nil]; omega⟩ HF.out)
   rw [show same20 p0 p1 p2 (o.map ao) p4 p5 l6 l7 l8 (([1]) ++ l9) p0 p1 p2 (o.map ao) p4 p5 l6 l7 l8 l9 = false from (by unfold same20; rw [decide_eq_false_iff_not]; intro h; have := congrArg List.length h.2.2.2.2.2.2.2.2.2; simp at this)] at hd2
   have HD1 := Aside0.mk hd1
   have HD2 := Aside0.mk hd2
   clear hd1 hd2
   have hm0 : (a1 % 9 == 0) = false := by rw [beq_eq_false_iff_ne, ne_eq]; omega
   have hm1 : (a1 % 9 == 1) = false := by rw [beq_eq_false_iff_ne, ne_eq]; omega
   have hm2 : (a1 % 9 == 2) = false := by rw [beq_eq_false_iff_ne, ne_eq]; omega
   have hm3 : (a1 % 9 == 3) = false := by rw [beq_eq_false_iff_ne, ne_eq]; omega
   have hm4 : (a1 % 9 == 4) = false := by rw [beq_eq_false_iff_ne, ne_eq]; omega
   have hm5 : (a1 % 9 == 5) = false := by rw [beq_eq_false_iff_ne, ne_eq]; omega
   have hm6 : (a1 % 9 == 6) = false := by rw [beq_eq_false_iff_ne, ne_eq]; omega
   have hm7 : (a1 % 9 == 7) = false := by rw [beq_eq_false_iff_ne, ne_eq]; omega
   have HLEN := Aside0.mk hlen
   clear hlen
   clear hc
   go_wp2_with (first | ((with_reducible refine gate_dst (N := 19) rfl ?_); refine gate_guard (by rfl) ?_; refine ev_load rfl rfl rfl B_x.out Tryd.underlying29 rfl (by kernel_rfl) ?_) | ((with_reducible refine gate_dst (N := 20) rfl ?_); refine gate_guard (by rfl) ?_; refine ev_load rfl rfl rfl B_y.out Tryd.underlying29 rfl (by kernel_rfl) ?_) | ((with_reducible refine gate_dst (N := 21) rfl ?_); refine gate_guard (by rfl) ?_; refine goesL_ (some 21) rfl rfl Tryd.func25 (by kernel_rfl) rfl #[.agg (pk p0 p1 p2 x3 p4 p5 x6 x7 x8 x9), .agg (pk p0 p1 p2 (.slice B3 (o.map ao).length d3) p4 p5 (.slice B6 l6.length d6) (.slice B7 l7.length d7) (.slice B8 l8.length d8) (.slice B9 l9.length d9))] rfl (by first | rfl | (simp only [List.map_toArray, List.map_cons, List.map_nil]; done) | (simp only [List.map_toArray, List.map_cons, List.map_nil]; rfl)) ?_; refine (same_calls (F_X.out.in_ _ _ _ _ _) (F_Y.out.in_ _ _ _ _ _) HS.out).mono ?_; rintro e r1 ⟨rfl, hb⟩; refine ⟨_, rfl, ?_⟩; replace B_x := Aside0.mk (blk_below B_x.out hb); replace B_y := Aside0.mk (blk_below B_y.out hb); replace F_X := Aside0.mk (F_X.out.below hb); replace F_Y := Aside0.mk (F_Y.out.below hb); replace HB := Aside0.mk (below_step HB.out hb); clear hb) | ((with_reducible refine gate_dst (N := 25) rfl ?_); refine gate_guard (by rfl) ?_; have L_x := Aside0.mk (blk_lt B_x.out); have L_y := Aside0.mk (blk_lt B_y.out); have GW := Aside0.mk (below_size HB.out); have lx := L_x.out; have ly := L_y.out; refine Kd.R_lit (Kd.int .u32) _ 26 rfl (N := 25) rfl (xs := ([1] : List Int)) (inner := [.int .u32 1]) (ok := (fun k => k ≠ g_x ∧ k ≠ g_y)) (okp := fun _ => False) (by first | (go_simp; done) | (go_simp; rfl)) (Reps.one (show Kd.M (Kd.int .u32) _ _ _ 1 [.int .u32 1] from rfl) (Reps.none _ _)) (fun _ hk => hk.elim) ⟨by omega, by omega⟩ (Below.refl _ _) (Nat.le_refl _) (by simp) ?_; intro v_ r2 hn hb hg1 hg2; clear hg1 hg2 lx ly; have F_N := Aside0.mk (Kd.R_N hn); clear hn; have F_O := Aside0.mk (Kd.V_old F_Y.out.2.2.2.2 hb); replace F_X := Aside0.mk (F_X.out.old (ok' := fun k => (k ≠ g_x ∧ k ≠ g_y) ∧ k < r1.heap.size) hb (fun k hk hlt => ⟨hk, hlt⟩)); replace F_Y := Aside0.mk (F_Y.out.old (ok' := fun k => (k ≠ g_x ∧ k ≠ g_y) ∧ k < r1.heap.size) hb (fun k hk hlt => ⟨hk, hlt⟩)); replace B_x := Aside0.mk (blk_below B_x.out hb); replace B_y := Aside0.mk (blk_below B_y.out hb); replace HB := Aside0.mk (below_step HB.out hb); have HZ := Aside0.mk hb.size; clear hb) | ((with_reducible refine gate_dst (N := 27) rfl ?_); refine gate_guard (by rfl) ?_; refine ev_loadf rfl rfl rfl B_y.out rfl Tryd.underlying27 rfl ?_) | ((with_reducible refine gate_dst (N := 28) rfl ?_); refine gate_guard (by rfl) ?_; have lx := L_x.out; have ly := L_y.out; have hz := HZ.out; have hlen := HLEN.out; refine Kd.N_append_rows (Kd.int .u32) (w0 := r2) r1.heap.size rfl (.tmp 25) (.tmp 27) 27 26 (.int .u32 0) 4 rfl Tryd.underlying27 info26 rfl (Nat.le_of_ble_eq_true rfl) (Nat.le_of_ble_eq_true rfl) v_ _ l9 B9 l9.length _ (fun k => k ≠ g_x ∧ k ≠ g_y) (fun k => (k ≠ g_x ∧ k ≠ g_y) ∧ k < r1.heap.size) rfl rfl F_N.out (Kd.V_F F_O.out) (fun k hk => ⟨hk.1, fun he => by have := Kd.N_base F_N.out k he.symm; omega⟩) (fun k hk => by omega) (Below.refl _ _) hz (by simp only [List.length_cons, List.length_nil, List.length_map]; omega) ?_; intro v1 r3 hn hb hg1 hg2; clear hg1 hg2 lx ly hz hlen; have F_V := Aside0.mk (v_of_n hn); clear hn; replace B_x := Aside0.mk ((hb.block _ L_x.out).trans B_x.out); replace B_y := Aside0.mk ((hb.block _ L_y.out).trans B_y.out); replace HB := Aside0.mk (below_weaken HB.out GW.out hb); replace F_X := Aside0.mk ((F_X.out.keep hb (fun k hk => hk.2)).mono (fun k hk => hk.1)); replace F_Y := Aside0.mk ((F_Y.out.keep hb (fun k hk => hk.2)).mono (fun k hk => hk.1)); clear F_N F_O hb HZ) | ((with_reducible refine gate_store (p := 29) rfl ?_); refine ev_storef rfl rfl rfl (v := v1) rfl B_y.out (Nat.le_of_ble_eq_true rfl) (by kernel_rfl) (rd_one (rd_of_v F_V.out)) (cells := (pk p0 p1 p2 (.slice B3 (o.map ao).length d3) p4 p5 (.slice B6 l6.length d6) (.slice B7 l7.length d7) (.slice B8 l8.length d8) v1)) rfl ?_; intro r4 hn ho; replace B_x := Aside0.mk (blk_only B_x.out ho N_x_y.out); replace F_X := Aside0.mk (F_X.out.only ho (fun k hk => hk.2)); replace F_Y := Aside0.mk (F_Y.out.only ho (fun k hk => hk.2)); replace F_V := Aside0.mk (F_V.out.only ho (fun k hk => hk.2)); replace B_y := Aside0.mk hn; replace HB := Aside0.mk (below_only HB.out ho G_y.out); clear hn ho) | ((with_reducible refine gate_dst (N := 82) rfl ?_); refine gate_guard (by rfl) ?_; refine ev_load rfl rfl rfl B_x.out Tryd.underlying29 rfl (by kernel_rfl) ?_) | ((with_reducible refine gate_dst (N := 83) rfl ?_); refine gate_guard (by rfl) ?_; refine ev_load rfl rfl rfl B_y.out Tryd.underlying29 rfl (by kernel_rfl) ?_) | ((with_reducible refine gate_dst (N := 84) rfl ?_); refine gate_guard (by rfl) ?_; refine goesL_ (some 84) rfl rfl Tryd.func25 (by kernel_rfl) rfl #[.agg (pk p0 p1 p2 x3 p4 p5 x6 x7 x8 x9), .agg (pk p0 p1 p2 (.slice B3 (o.map ao).length d3) p4 p5 (.slice B6 l6.length d6) (.slice B7 l7.length d7) (.slice B8 l8.length d8) v1)] rfl (by first | rfl | (simp only [List.map_toArray, List.map_cons, List.map_nil]; done) | (simp only [List.map_toArray, List.map_cons, List.map_nil]; rfl)) ?_; refine (same_calls (F_X.out.in_ _ _ _ _ _) (PkR.in_ ⟨F_Y.out.1, F_Y.out.2.1, F_Y.out.2.2.1, F_Y.out.2.2.2.1, F_V.out⟩ _ _ _ _ _) HD1.out).mono ?_; rintro e r5 ⟨rfl, hb⟩; refine ⟨_, rfl, ?_⟩; replace B_x := Aside0.mk (blk_below B_x.out hb); replace B_y := Aside0.mk (blk_below B_y.out hb); replace F_X := Aside0.mk (F_X.out.below hb); replace F_Y := Aside0.mk (F_Y.out.below hb); replace F_V := Aside0.mk (F_V.out.below hb); replace HB := Aside0.mk (below_step HB.out hb); clear hb) | ((with_reducible refine gate_dst (N := 87) rfl ?_); refine gate_guard (by rfl) ?_; refine ev_load rfl rfl rfl B_y.out Tryd.underlying29 rfl (by kernel_rfl) ?_) | ((with_reducible refine gate_dst (N := 88) rfl ?_); refine gate_guard (by rfl) ?_; refine ev_load rfl rfl rfl B_x.out Tryd.underlying29 rfl (by kernel_rfl) ?_) | ((with_reducible refine gate_dst (N := 89) rfl ?_); refine gate_guard (by rfl) ?_; refine goesL_ (some 89) rfl rfl Tryd.func25 (by kernel_rfl) rfl #[.agg (pk p0 p1 p2 (.slice B3 (o.map ao).length d3) p4 p5 (.slice B6 l6.length d6) (.slice B7 l7.length d7) (.slice B8 l8.length d8) v1), .agg (pk p0 p1 p2 x3 p4 p5 x6 x7 x8 x9)] rfl (by first | rfl | (simp only [List.map_toArray, List.map_cons, List.map_nil]; done) | (simp only [List.map_toArray, List.map_cons, List.map_nil]; rfl)) ?_; refine (same_calls (PkR.in_ ⟨F_Y.out.1, F_Y.out.2.1, F_Y.out.2.2.1, F_Y.out.2.2.2.1, F_V.out⟩ _ _ _ _ _) (F_X.out.in_ _ _ _ _ _) HD2.out).mono ?_; rintro e r6 ⟨rfl, hb⟩; refine ⟨_, rfl, ?_⟩; replace B_x := Aside0.mk (blk_below B_x.out hb); replace B_y := Aside0.mk (blk_below B_y.out hb); replace F_X := Aside0.mk (F_X.out.below hb); replace F_Y := Aside0.mk (F_Y.out.below hb); replace F_V := Aside0.mk (F_V.out.below hb); replace HB := Aside0.mk (below_step HB.out hb); clear hb))
   go_ret
   exact ⟨rfl, HB.out⟩
end Go.Proofs.YteanncchmenlkaaDoor.Hw
namespace Go.Proofs.YteanncchmenlkaaDoor.Hw
open Go.RowKit Go.Proofs.YteanncchmenlkaaDoorW.PrintWords Go.Proofs.YteanncchmenlkaaDoorW.PrintLast Go.Proofs.YteanncchmenlkaaDoorW.PrintMore Go.Proofs.YteanncchmenlkaaDoor.Print Go.Proofs.YteanncchmenlkaaDoor.Sp Go.Proofs.YteanncchmenlkaaDoor.Pl
set_option linter.unusedVariables false
set_option linter.unusedSimpArgs false
theorem int_wf {k : IntKind} {n : Int} (h : (Lit.int k n).wf = true) : k.min ≤ n ∧ n ≤ k.max := by simpa [Lit.wf] using h
theorem bsame_walk (a0_0 : Int) (a0_1 : Int) (a0_2 : Int) (A0_3 : Option Addr) (c0_3 : Nat) (l0_3 : List (S105)) (a0_4 : Int) (a0_5 : Int) (A0_6 : Option Addr) (c0_6 : Nat) (l0_6 : List Int) (A0_7 : Option Addr) (c0_7 : Nat) (l0_7 : List Int) (A0_8 : Option Addr) (c0_8 : Nat) (l0_8 : List Int) (A0_9 : Option Addr) (c0_9 : Nat) (l0_9 : List Int) (a1 : Int) (w : World) (hGL : GA w) (hw0_0 : (Lit.int .u16 a0_0).wf = true) (hw0_1 : (Lit.int .u8 a0_1).wf = true) (hw0_2 : (Lit.int .u8 a0_2).wf = true) (hr0_3 : Kd.C k105 w A0_3 l0_3.length l0_3) (hc0_3 : l0_3.length ≤ c0_3) (hw0_3 : ((l0_3.length ≤ 9223372036854775807 ∧ l0_3.length * 32 ≤ 140737488351232) ∧ ∀ y0_ ∈ l0_3, ((Lit.int .u8 y0_.f0).wf = true ∧ ((y0_.f1.length ≤ 9223372036854775807 ∧ y0_.f1.length * 1 ≤ 140737488351232) ∧ ∀ y1_ ∈ y0_.f1, (Lit.int .u8 y1_).wf = true)))) (hw0_4 : (Lit.int .u16 a0_4).wf = true) (hw0_5 : (Lit.int .u32 a0_5).wf = true) (hr0_6 : Kd.C (Kd.int .u8) w A0_6 l0_6.length l0_6) (hc0_6 : l0_6.length ≤ c0_6) (hw0_6 : ((l0_6.length ≤ 9223372036854775807 ∧ l0_6.length * 1 ≤ 140737488351232) ∧ ∀ y0_ ∈ l0_6, (Lit.int .u8 y0_).wf = true)) (hr0_7 : Kd.C (Kd.int .u8) w A0_7 l0_7.length l0_7) (hc0_7 : l0_7.length ≤ c0_7) (hw0_7 : ((l0_7.length ≤ 9223372036854775807 ∧ l0_7.length * 1 ≤ 140737488351232) ∧ ∀ y0_ ∈ l0_7, (Lit.int .u8 y0_).wf = true)) (hr0_8 : Kd.C (Kd.int .u8) w A0_8 l0_8.length l0_8) (hc0_8 : l0_8.length ≤ c0_8) (hw0_8 : ((l0_8.length ≤ 9223372036854775807 ∧ l0_8.length * 1 ≤ 140737488351232) ∧ ∀ y0_ ∈ l0_8, (Lit.int .u8 y0_).wf = true)) (hr0_9 : Kd.C (Kd.int .u32) w A0_9 l0_9.length l0_9) (hc0_9 : l0_9.length ≤ c0_9) (hw0_9 : ((l0_9.length ≤ 9223372036854775807 ∧ l0_9.length * 4 ≤ 140737488351232) ∧ ∀ y0_ ∈ l0_9, (Lit.int .u32 y0_).wf = true)) (hw1 : (Lit.int .u8 a1).wf = true) :
 Calls Tryd.prog 5 #[.agg #[.int .u16 a0_0, .int .u8 a0_1, .int .u8 a0_2, .slice A0_3 l0_3.length c0_3, .int .u16 a0_4, .int .u32 a0_5, .slice A0_6 l0_6.length c0_6, .slice A0_7 l0_7.length c0_7, .slice A0_8 l0_8.length c0_8, .slice A0_9 l0_9.length c0_9], .int .u8 a1] w fun e w' => e = .returned (.bool true) ∧ Below w.heap.size w w' := by
 have Ho := held_of hw0_3
 obtain ⟨k0, h0⟩ := Ev.rounds (FewP a0_0 a0_1 a0_2 l0_3 a0_4 a0_5 l0_6 l0_7 l0_8 l0_9 Ho)
 have hrr : ∀ W, Below w.heap.size w W → PkR k105 W (fun k => k < w.heap.size) (.slice A0_3 l0_3.length c0_3) (.slice A0_6 l0_6.length c0_6) (.slice A0_7 l0_7.length c0_7) (.slice A0_8 l0_8.length c0_8) (.slice A0_9 l0_9.length c0_9) l0_3 l0_6 l0_7 l0_8 l0_9 := fun W hb => ⟨Kd.V_mk hc0_3 (Kd.F_below (Kd.C_F k105_heap hr0_3) hb), Kd.V_mk hc0_6 (Kd.F_below (Kd.C_F (Kd.heap_int .u8) hr0_6) hb), Kd.V_mk hc0_7 (Kd.F_below (Kd.C_F (Kd.heap_int .u8) hr0_7) hb), Kd.V_mk hc0_8 (Kd.F_below (Kd.C_F (Kd.heap_int .u8) hr0_8) hb), Kd.V_mk hc0_9 (Kd.F_below (Kd.C_F (Kd.heap_int .u32) hr0_9) hb)⟩
 have m : ∀ {k : IntKind} {n : Int}, (Lit.int k n).wf = true → k.min ≤ n ∧ n ≤ k.max := fun h => int_wf h
 refine bsame w a0_0 a0_1 a0_2 a0_4 a0_5 a1 l0_3 l0_6 l0_7 l0_8 l0_9 A0_3 A0_6 A0_7 A0_8 A0_9 c0_3 c0_6 c0_7 c0_8 c0_9 _ hGL (fun W hb => few_calls ((hrr W hb).in_ _ _ _ _ _) h0) hrr (fun h => ?_) (fun h => ⟨?_, bytes_of_wf hw0_6.2, bytes_of_wf hw0_7.2, bytes_of_wf hw0_8.2, ?_⟩) (m hw0_0) (m hw0_1) (m hw0_2) (m hw0_4) (m hw0_5) (m hw1)
 · have := of_decide_eq_true h
   omega
 · intro x hx
   obtain ⟨y, hy, rfl⟩ := List.mem_map.1 hx
   exact bytes_of_wf (hw0_3.2 y hy).2.2
 · have := of_decide_eq_true h
   unfold Lim
   omega
end Go.Proofs.YteanncchmenlkaaDoor.Hw
