/- Texts of this claim, several in one, told shortly by a program of this claim (wip/x/shrink.py): what Go functions come to, and plain words on it. -/
import Derived.Test.YtgjeahgagciagaaShChapTurns3
import Derived.Test.YtgjeahgagciagaaShChapTurns4
namespace Go.Proofs.Ytgjeahgagciagaa.Sp
open Go.RowKit Go.Proofs.Ytgjeahgagciagaa.Print Go.Proofs.YtgjeahgagciagaaW.PrintWords Go.Proofs.YtgjeahgagciagaaW.PrintLast Go.Proofs.Ytgjeahgagciagaa.Pl
set_option linter.unusedVariables false
theorem Ev.pos {α : Type} {c : Prop} [Decidable c] {g h : Nat → Option α} {r : α} (hc : c) (k : Ev g r) : Ev (fun n => if c then g n else h n) r :=
 Ev.congr (fun n => if_pos hc) k
theorem Ev.neg {α : Type} {c : Prop} [Decidable c] {g h : Nat → Option α} {r : α} (hc : ¬ c) (k : Ev h r) : Ev (fun n => if c then g n else h n) r :=
 Ev.congr (fun n => if_neg hc) k
theorem Ev.end_ {α : Type} {x r : α} (h : x = r) : Ev (fun _ => some x) r := h ▸ Ev.now _
theorem Ev.name {α β : Type} {x : β} {g : Nat → β → Option α} {r : α} (h : Ev (fun n => g n x) r) : Ev (fun n => (some x).bind (g n)) r := Ev.congr (fun n => Option.bind_some _ _) h
def Lim (l : List Int) : Prop := l.length ≤ 1000000
theorem suc (i : Nat) (h : i ≤ 2000000) : wrap64 ((i : Int) + 1) = ((i + 1 : Nat) : Int) := by rw [w64 (by omega) (by omega)]; omega
theorem Equal_l0 (a b : List Int) (hl : a.length = b.length) (ha : Lim a) : ∀ (t u : List Int) (i : Nat), a.drop i = t → b.drop i = u → Ev (fun k => marlineref01_Equal.l0 k a b i) (decide (t = u))
 | [], u, i, h1, h2 => by
  have h3 := drop_nil_len h1
  have h4 := drop_len h2
  obtain rfl : u = [] := List.eq_nil_of_length_eq_zero (by omega)
  exact Ev.step (fun k => by simp only [marlineref01_Equal.l0]; rw [if_neg (by omega)]; rfl) (Ev.now _)
 | x :: t, u, i, h1, h2 => by
  obtain ⟨e1, e2, e3⟩ := rd_drop h1
  cases u with
  | nil => have := drop_nil_len h2; omega
  | cons y u =>
   obtain ⟨f1, f2, f3⟩ := rd_drop h2
   unfold Lim at ha
   by_cases hxy : x = y
   · subst hxy
     have ih := Equal_l0 a b hl ha t u (i + 1) e2 f2
     rw [show decide (x :: t = x :: u) = decide (t = u) by simp]
     exact Ev.step (fun k => by simp only [marlineref01_Equal.l0]; rw [if_pos (by omega), if_pos (by omega), if_pos (by omega), e1, f1, if_pos rfl, suc i (by omega)]) ih
   · rw [show decide (x :: t = y :: u) = false by simp [hxy]]
     exact Ev.step (fun k => by simp only [marlineref01_Equal.l0]; rw [if_pos (by omega), if_pos (by omega), if_pos (by omega), e1, f1, if_neg hxy]) (Ev.now _)
theorem Equal (a b : List Int) (ha : Lim a) : Ev (fun k => marlineref01_Equal.f k a b) (decide (a = b)) := by
 by_cases hl : a.length = b.length
 · exact Ev.congr (fun k => by unfold marlineref01_Equal.f; rw [if_pos (by omega)]; rfl) (Equal_l0 a b hl ha a b 0 rfl rfl)
 · rw [show decide (a = b) = false by simp; rintro rfl; exact hl rfl]
   exact Ev.congr (fun k => by unfold marlineref01_Equal.f; rw [if_neg (by omega)]) (Ev.now _)
end Go.Proofs.Ytgjeahgagciagaa.Sp
namespace Go.Proofs.Ytgjeahgagciagaa.Sp
open Go.RowKit Go.Proofs.Ytgjeahgagciagaa.Print Go.Proofs.YtgjeahgagciagaaW.PrintWords Go.Proofs.YtgjeahgagciagaaW.PrintLast Go.Proofs.Ytgjeahgagciagaa.Pl
set_option linter.unusedVariables false
abbrev AO := S57
abbrev RO := S56
def ao (o : RO) : AO := ⟨o.f0, o.f1⟩
theorem drop_get {α : Type} {z : α} {xs : List α} {i : Nat} {b : α} {t : List α} (h : xs.drop i = b :: t) : xs.getD ((i : Int)).toNat z = b ∧ xs.drop (i + 1) = t ∧ i < xs.length := by
 have hlt : i < xs.length := by
  rcases Nat.lt_or_ge i xs.length with h1 | h1
  · exact h1
  · rw [List.drop_eq_nil_of_le h1] at h; cases h
 rw [List.drop_eq_getElem_cons hlt] at h
 injection h with h1 h2
 refine ⟨?_, h2, hlt⟩
 rw [Int.toNat_natCast, List.getD_eq_getElem?_getD, List.getElem?_eq_getElem hlt]
 exact h1
theorem rdr {xs : List RO} {i : Nat} {b : RO} {t : List RO} (h : xs.drop i = b :: t) : rd_T56 xs (i : Int) = b ∧ xs.drop (i + 1) = t ∧ i < xs.length := drop_get h
theorem nil_len {α : Type} {xs : List α} {i : Nat} (h : xs.drop i = []) : xs.length ≤ i := List.drop_eq_nil_iff.1 h
theorem sucB (i : Nat) (h : i ≤ 4611686018427387904) : wrap64 ((i : Int) + 1) = ((i + 1 : Nat) : Int) := by rw [w64 (by omega) (by omega)]; omega
def tot : List RO → Nat
 | [] => 0
 | o :: t => o.f1.length + tot t
def Held (l : List RO) : Prop := l.length * 32 ≤ 140737488351232 ∧ ∀ o ∈ l, Byte o.f0 ∧ o.f1.length ≤ 140737488351232 ∧ Bytes o.f1
theorem tot_le : ∀ (t : List RO), (∀ o ∈ t, o.f1.length ≤ 140737488351232) → tot t ≤ t.length * 140737488351232
 | [], _ => by simp [tot]
 | o :: t, h => by
  have := tot_le t (fun o ho => h o (by simp [ho]))
  have := h o (by simp)
  simp only [tot, List.length_cons]
  omega
theorem Few_l0 (l : List RO) (hl : l.length ≤ 4398046511104) (hd : ∀ o ∈ l, o.f1.length ≤ 140737488351232) : ∀ (t : List RO) (i : Nat) (x : Int), l.drop i = t →
 ∃ y : Int, Ev (fun k => marlinelaw12_Few.l0 k l x l (l.length : Int) i) (if (l.length : Int) ≤ 60 then decide (y ≤ 1000) else false) ∧ (l.length ≤ 60 → 0 ≤ x → x + tot t ≤ 4611686018427387904 → y = x + tot t)
 | [], i, x, h => by
  have h3 := nil_len h
  refine ⟨x, ?_, fun _ _ _ => by simp [tot]⟩
  by_cases h6 : (l.length : Int) ≤ 60
  · rw [if_pos h6]
    exact Ev.step (fun k => by simp only [marlinelaw12_Few.l0]; rw [if_neg (by omega), if_pos h6]) (Ev.now _)
  · rw [if_neg h6]
    exact Ev.step (fun k => by simp only [marlinelaw12_Few.l0]; rw [if_neg (by omega), if_neg h6]) (Ev.now _)
 | o :: t, i, x, h => by
  obtain ⟨e1, e2, e3⟩ := rdr h
  obtain ⟨y, ih, hy⟩ := Few_l0 l hl hd t (i + 1) (wrap64 (x + (o.f1.length : Int))) e2
  refine ⟨y, Ev.step (fun k => ?_) ih, fun h6 h0 hx => ?_⟩
  · simp only [marlinelaw12_Few.l0]
    rw [if_pos (by omega), if_pos (by omega), if_pos (by omega), e1, sucB i (by omega)]
  · simp only [tot, Int.natCast_add] at hx ⊢
    have e : wrap64 (x + (o.f1.length : Int)) = x + o.f1.length := w64 (by omega) (by omega)
    rw [e] at hy
    rw [hy h6 (by omega) (by omega)]
    omega
theorem FewL (l : List RO) (hl : Held l) : Ev (fun k => marlinelaw12_Few.f k l) (decide (l.length ≤ 60 ∧ tot l ≤ 1000)) := by
 unfold marlinelaw12_Few.f
 have hd : ∀ o ∈ l, o.f1.length ≤ 140737488351232 := fun o ho => (hl.2 o ho).2.1
 have h1 := hl.1
 obtain ⟨y, hE, hy⟩ := Few_l0 l (by omega) hd l 0 0 rfl
 have ht := tot_le l hd
 have e : (if (l.length : Int) ≤ 60 then decide (y ≤ 1000) else false) = decide (l.length ≤ 60 ∧ tot l ≤ 1000) := by
  by_cases h6 : l.length ≤ 60
  · rw [if_pos (by omega), hy h6 (by omega) (by omega)]
    simp only [h6, true_and, decide_eq_decide]
    omega
  · rw [if_neg (by omega)]
    simp [h6]
 rw [← e]
 exact hE
theorem Of_l0 (l : List RO) (hl : l.length ≤ 1000000) : ∀ (t : List RO) (i : Nat) (x : List AO), l.drop i = t → x.length + t.length ≤ 1000000 →
 Ev (fun k => marlinelaw12_Of.l0 k x l (l.length : Int) i) (x ++ t.map ao)
 | [], i, x, h, _ => by
  have h3 := nil_len h
  rw [List.map_nil, List.append_nil]
  exact Ev.step (fun k => by simp only [marlinelaw12_Of.l0]; rw [if_neg (by omega)]) (Ev.now _)
 | o :: t, i, x, h, hx => by
  obtain ⟨e1, e2, e3⟩ := rdr h
  simp only [List.length_cons] at hx
  have ih := Of_l0 l hl t (i + 1) (x ++ [ao o]) e2 (by simp; omega)
  rw [List.map_cons, show x ++ ao o :: t.map ao = (x ++ [ao o]) ++ t.map ao by simp]
  refine Ev.step (fun k => ?_) ih
  simp only [marlinelaw12_Of.l0]
  rw [if_pos (by omega), if_pos (by omega), if_pos (by omega), if_pos (by omega), e1, sucB i (by omega)]
  rfl
theorem OfL (l : List RO) (hl : l.length ≤ 1000000) : Ev (fun k => marlinelaw12_Of.f k l) (l.map ao) := Of_l0 l hl l 0 [] rfl (by simpa using hl)
def size : List AO → Nat
 | [] => 0
 | o :: t => 2 + o.f1.length + size t
theorem size_append (a b : List AO) : size (a ++ b) = size a + size b := by
 induction a with
 | nil => simp [size]
 | cons o t ih => simp only [List.cons_append, size, ih]; omega
end Go.Proofs.Ytgjeahgagciagaa.Sp
namespace Go.Proofs.Ytgjeahgagciagaa.Sp
open Go.RowKit Go.Proofs.Ytgjeahgagciagaa.Print Go.Proofs.YtgjeahgagciagaaW.PrintWords Go.Proofs.YtgjeahgagciagaaW.PrintLast Go.Proofs.Ytgjeahgagciagaa.Pl
set_option linter.unusedVariables false
theorem held_of {l : List RO} (h : (l.length ≤ 9223372036854775807 ∧ l.length * 32 ≤ 140737488351232) ∧ ∀ y0_ ∈ l, ((Lit.int .u8 y0_.f0).wf = true ∧ ((y0_.f1.length ≤ 9223372036854775807 ∧ y0_.f1.length * 1 ≤ 140737488351232) ∧ ∀ y1_ ∈ y0_.f1, (Lit.int .u8 y1_).wf = true))) : Held l :=
 ⟨h.1.2, fun o ho => ⟨u8_of_wf (h.2 o ho).1, by have := (h.2 o ho).2.1.2; omega, bytes_of_wf (h.2 o ho).2.2⟩⟩
end Go.Proofs.Ytgjeahgagciagaa.Sp
namespace Go.Proofs.Ytgjeahgagciagaa.Sp
open Go.RowKit Go.Proofs.Ytgjeahgagciagaa.Print Go.Proofs.YtgjeahgagciagaaW.PrintWords Go.Proofs.YtgjeahgagciagaaW.PrintLast Go.Proofs.Ytgjeahgagciagaa.Pl
set_option linter.unusedVariables false
def few15 (o : List RO) (l6 l7 l8 l9 : List Int) : Bool := decide ((o.length ≤ 60 ∧ tot o ≤ 1000) ∧ l6.length ≤ 600 ∧ l7.length ≤ 600 ∧ l8.length ≤ 600 ∧ l9.length ≤ 40)
theorem FewP (a0 a1 a2 : Int) (o : List RO) (a4 a5 : Int) (l6 l7 l8 l9 : List Int) (ho : Held o) : Ev (fun k => marlinelaw15_Few.f k a0 a1 a2 o a4 a5 l6 l7 l8 l9) (few15 o l6 l7 l8 l9) := by
 unfold marlinelaw15_Few.f few15
 refine Ev.bind (FewL o ho) ?_
 by_cases h : o.length ≤ 60 ∧ tot o ≤ 1000
 · refine Ev.pos (by simp [h]) ?_
   by_cases h6 : (l6.length : Int) ≤ 600
   · refine Ev.pos h6 ?_
     by_cases h7 : (l7.length : Int) ≤ 600
     · refine Ev.pos h7 ?_
       by_cases h8 : (l8.length : Int) ≤ 600
       · refine Ev.pos h8 (Ev.end_ ?_)
         simp only [decide_eq_decide]
         omega
       · exact Ev.neg h8 (Ev.end_ (by rw [eq_comm, decide_eq_false_iff_not]; omega))
     · exact Ev.neg h7 (Ev.end_ (by rw [eq_comm, decide_eq_false_iff_not]; omega))
   · exact Ev.neg h6 (Ev.end_ (by rw [eq_comm, decide_eq_false_iff_not]; omega))
 · exact Ev.neg (by simpa using h) (Ev.end_ (by rw [eq_comm, decide_eq_false_iff_not]; exact fun h2 => h h2.1))
theorem OfP (a0 a1 a2 : Int) (o : List RO) (a4 a5 : Int) (l6 l7 l8 l9 : List Int) (ho : o.length ≤ 1000000) : Ev (fun k => marlinelaw15_Of.f k a0 a1 a2 o a4 a5 l6 l7 l8 l9) (a0, a1, a2, o.map ao, a4, a5, l6, l7, l8, l9) := by
 unfold marlinelaw15_Of.f
 exact Ev.bind (OfL o ho) (Ev.now _)
end Go.Proofs.Ytgjeahgagciagaa.Sp
namespace Go.Proofs.Ytgjeahgagciagaa.Sp
open Go.RowKit Go.Proofs.Ytgjeahgagciagaa.Print Go.Proofs.YtgjeahgagciagaaW.PrintWords Go.Proofs.YtgjeahgagciagaaW.PrintLast Go.Proofs.Ytgjeahgagciagaa.Pl
set_option linter.unusedVariables false
def be : Nat → Int → List Int
 | 0, _ => []
 | s + 1, n => n / 256 ^ s % 256 :: be s n
theorem be_length (s : Nat) (n : Int) : (be s n).length = s := by
 induction s with
 | zero => rfl
 | succ s ih => simp [be, ih]
theorem Put_l0 (n : Int) (hn : 0 ≤ n) : ∀ (s : Nat) (x : List Int), s ≤ 8 → x.length + s ≤ 3000000 → Ev (fun k => wire_Put.l0 k x n ((s : Int) - 1)) (x ++ be s n)
 | 0, x, h1, h2 => by
  rw [be, List.append_nil]
  exact Ev.step (fun k => by simp only [wire_Put.l0]; rw [if_neg (by omega)]) (Ev.now _)
 | s + 1, x, h1, h2 => by
  have ih := Put_l0 n hn s (x ++ [n / 256 ^ s % 256]) (by omega) (by simp; omega)
  rw [be, show x ++ n / 256 ^ s % 256 :: be s n = (x ++ [n / 256 ^ s % 256]) ++ be s n by simp]
  refine Ev.step (fun k => ?_) ih
  have e : shr .u64 n (8 * (s : Int)) = n / 256 ^ s := by
   unfold shr
   have h3 : (8 * (s : Int)).toNat = 8 * s := by omega
   rw [h3, Nat.min_eq_left (by simp [IntKind.bits]; omega), Int.pow_mul]
   rfl
  simp only [wire_Put.l0]
  rw [show (((s + 1 : Nat) : Int) - 1) = (s : Int) by omega, if_pos (by omega), w64 (x := 8 * (s : Int)) (by omega) (by omega), if_pos (by omega), if_pos (by omega), e, w64 (x := (s : Int) - 1) (by omega) (by omega)]
theorem WPut (x : List Int) (n : Int) (hn : 0 ≤ n) (s : Nat) (hs : s ≤ 8) (hx : x.length ≤ 2000000) : Ev (fun k => wire_Put.f k x n s) (x ++ be s n) := by
 unfold wire_Put.f
 simp only [w64 (x := (s : Int) - 1) (by omega) (by omega)]
 exact Put_l0 n hn s x hs (by omega)
def ctlPut (a b : Int) (d : List Int) : List Int × Int := if d.length + 4 > 65535 then ([], 3) else ([a, b] ++ be 2 (d.length + 4) ++ d, 0)
theorem CPut (a b : Int) (d : List Int) (hd : Lim d) : Ev (fun k => ctl_Put.f k a b d) (ctlPut a b d) := by
 unfold ctl_Put.f ctlPut
 unfold Lim at hd
 by_cases h : d.length + 4 > 65535
 · rw [if_pos h]
   exact Ev.pos (by rw [w64 (by omega) (by omega)]; omega) (Ev.now _)
 · rw [if_neg h]
   simp only [w64 (x := (d.length : Int) + 4) (by omega) (by omega), wu64 (x := (d.length : Int) + 4) (by omega) (by omega)]
   refine Ev.neg (by omega) (Ev.bind (WPut [a, b] ((d.length : Int) + 4) (by omega) 2 (by omega) (by simp)) ?_)
   exact Ev.pos (by simp [be_length]; omega) (Ev.now _)
end Go.Proofs.Ytgjeahgagciagaa.Sp
namespace Go.Proofs.Ytgjeahgagciagaa.Sp
open Go.RowKit Go.Proofs.Ytgjeahgagciagaa.Print Go.Proofs.YtgjeahgagciagaaW.PrintWords Go.Proofs.YtgjeahgagciagaaW.PrintLast Go.Proofs.Ytgjeahgagciagaa.Pl
set_option linter.unusedVariables false
def valued (c : Int) : Bool := decide (c = 1 ∨ c = 2)
theorem Valued (c : Int) : chap_valued.f c = some (valued c) := by
 unfold chap_valued.f valued
 by_cases h : c = 1
 · simp [h]
 · rw [if_neg h]
   congr 1
   rw [Bool.eq_iff_iff]
   simp [h]
def wrong18 {α : Type} (v : Bool) (o : List α) (a4 a5 : Int) (l6 l7 l8 l9 : List Int) : Bool :=
 decide (o.length + l9.length + (if v then l8.length else l6.length + l7.length) > 0 ∨ a4 ≠ 0 ∨ a5 ≠ 0)
def cput {α : Type} (a0 a1 a2 : Int) (o : List α) (a4 a5 : Int) (l6 l7 l8 l9 : List Int) : List Int × Int :=
 if a0 = 49699 then
  if wrong18 (valued a1) o a4 a5 l6 l7 l8 l9 = true then ([], 9)
  else if valued a1 = true then (if l6.length = 0 then ([], 4) else if l6.length > 255 then ([], 3) else ctlPut a1 a2 ((l6.length : Int) :: (l6 ++ l7)))
  else ctlPut a1 a2 l8
 else ([], 8)
theorem Concat3 (a b c : List Int) (ha : Lim a) (hb : Lim b) (hc : Lim c) : Ev (fun k => slices_Concat_byte_byte.f k [a, b, c]) (a ++ b ++ c) := by
 unfold Lim at ha hb hc
 unfold slices_Concat_byte_byte.f
 have r0 : rd_L1 [a, b, c] 0 = a := rfl
 have r1 : rd_L1 [a, b, c] 1 = b := rfl
 have r2 : rd_L1 [a, b, c] 2 = c := rfl
 have w0 : wrap64 (0 + (a.length : Int)) = a.length := w64 (by omega) (by omega) |>.trans (by omega)
 have w1 : wrap64 ((a.length : Int) + b.length) = a.length + b.length := w64 (by omega) (by omega)
 have w2 : wrap64 ((a.length : Int) + b.length + c.length) = a.length + b.length + c.length := w64 (by omega) (by omega)
 have v0 : wrap64 (0 + 1 : Int) = 1 := w64 (by omega) (by omega)
 have v1 : wrap64 (1 + 1 : Int) = 2 := w64 (by omega) (by omega)
 have v2 : wrap64 (2 + 1 : Int) = 3 := w64 (by omega) (by omega)
 refine Ev.step (fun k => by simp only [slices_Concat_byte_byte.l0]; rw [if_pos (by simp), if_pos (by omega), if_pos (by simp), r0, w0, if_neg (by omega), v0]) ?_
 refine Ev.step (fun k => by simp only [slices_Concat_byte_byte.l0]; rw [if_pos (by simp), if_pos (by omega), if_pos (by simp), r1, w1, if_neg (by omega), v1]) ?_
 refine Ev.step (fun k => by simp only [slices_Concat_byte_byte.l0]; rw [if_pos (by simp), if_pos (by omega), if_pos (by simp), r2, w2, if_neg (by omega), v2]) ?_
 refine Ev.step (fun k => by simp only [slices_Concat_byte_byte.l0]; rw [if_neg (by simp)]) ?_
 have hg : slices_Grow_byte_byte.f ([] : List Int) ((a.length : Int) + b.length + c.length) = some [] := by
  unfold slices_Grow_byte_byte.f
  rw [if_pos (by omega), if_pos (by omega)]
 rw [hg]
 refine Ev.name ?_
 refine Ev.step (fun k => by simp only [slices_Concat_byte_byte.l1]; rw [if_pos (by simp), if_pos (by omega), if_pos (by simp), r0, if_pos (by simp only [List.length_nil]; omega), v0, List.nil_append]) ?_
 refine Ev.step (fun k => by simp only [slices_Concat_byte_byte.l1]; rw [if_pos (by simp), if_pos (by omega), if_pos (by simp), r1, if_pos (by omega), v1]) ?_
 refine Ev.step (fun k => by simp only [slices_Concat_byte_byte.l1]; rw [if_pos (by simp), if_pos (by omega), if_pos (by simp), r2, if_pos (by rw [List.length_append]; omega), v2]) ?_
 exact Ev.step (fun k => by simp only [slices_Concat_byte_byte.l1]; rw [if_neg (by simp)]) (Ev.now _)
theorem chapj1 (a0 a1 a2 : Int) (o : List AO) (a4 a5 : Int) (l6 l7 l8 l9 : List Int) (h6 : l6.length ≤ 100000) (h7 : l7.length ≤ 100000) (h8 : Lim l8) (w : Bool) :
 Ev (fun k => chap_Put.j1 k w a0 a1 a2 o a4 a5 l6 l7 l8 l9) (if w = true then ([], 9) else if valued a1 = true then (if l6.length = 0 then ([], 4) else if l6.length > 255 then ([], 3) else ctlPut a1 a2 ((l6.length : Int) :: (l6 ++ l7))) else ctlPut a1 a2 l8) := by
 cases w with
 | true => exact Ev.step (fun k => by simp only [chap_Put.j1]; rw [if_pos trivial]) (Ev.end_ (by rw [if_pos rfl]))
 | false =>
  rw [if_neg (by decide)]
  refine Ev.step (fun k => by simp only [chap_Put.j1]; rw [if_neg (by decide), Valued, Option.bind_some]) ?_
  by_cases hv : valued a1 = true
  · simp only [hv, if_true]
    by_cases h0 : l6.length = 0
    · rw [if_pos h0]
      exact Ev.pos (by omega) (Ev.now _)
    · rw [if_neg h0]
      refine Ev.neg (by omega) ?_
      by_cases h5 : l6.length > 255
      · rw [if_pos h5]
        exact Ev.pos (by omega) (Ev.now _)
      · rw [if_neg h5]
        refine Ev.neg (by omega) ?_
        rw [Int.emod_eq_of_lt (by omega) (by omega)]
        refine Ev.bind (Concat3 _ l6 l7 (by unfold Lim; simp) (by unfold Lim; omega) (by unfold Lim; omega)) ?_
        refine Ev.bind (CPut a1 a2 _ (by unfold Lim; simp; omega)) ?_
        exact Ev.now _
  · simp only [Bool.not_eq_true] at hv
    simp only [hv, Bool.false_eq_true, if_false]
    refine Ev.bind (CPut a1 a2 l8 h8) ?_
    exact Ev.now _
theorem ChapPut (a0 a1 a2 : Int) (o : List AO) (a4 a5 : Int) (l6 l7 l8 l9 : List Int) (ho : o.length ≤ 100000) (h6 : l6.length ≤ 100000) (h7 : l7.length ≤ 100000) (h8 : l8.length ≤ 100000) (h9 : l9.length ≤ 100000) :
 Ev (fun k => chap_Put.f k a0 a1 a2 o a4 a5 l6 l7 l8 l9) (cput a0 a1 a2 o a4 a5 l6 l7 l8 l9) := by
 have j0 : ∀ x : Int, 0 ≤ x → (∀ w, wrong18 (valued a1) o a4 a5 l6 l7 l8 l9 = w → w = decide (x > 0 ∨ a4 ≠ 0 ∨ a5 ≠ 0)) → Ev (fun k => chap_Put.j0 k x a0 a1 a2 o a4 a5 l6 l7 l8 l9) (cput a0 a1 a2 o a4 a5 l6 l7 l8 l9) := by
  intro x hx hw
  have hw := hw _ rfl
  unfold cput
  have J := chapj1 a0 a1 a2 o a4 a5 l6 l7 l8 l9 h6 h7 (by unfold Lim; omega)
  by_cases h0 : a0 = 49699
  · rw [if_pos h0, hw]
    by_cases hx0 : x > 0
    · refine Ev.step (fun k => by simp only [chap_Put.j0]; rw [if_pos h0, if_pos hx0]) ?_
      have e : decide (x > 0 ∨ a4 ≠ 0 ∨ a5 ≠ 0) = true := by simp [hx0]
      rw [e]
      exact J true
    · by_cases h4 : a4 = 0
      · refine Ev.step (fun k => by simp only [chap_Put.j0]; rw [if_pos h0, if_neg hx0, if_pos h4]) ?_
        have e : decide (x > 0 ∨ a4 ≠ 0 ∨ a5 ≠ 0) = (a5 != 0) := by
         rw [Bool.eq_iff_iff]
         simp [hx0, h4]
        rw [e]
        exact J _
      · refine Ev.step (fun k => by simp only [chap_Put.j0]; rw [if_pos h0, if_neg hx0, if_neg h4]) ?_
        have e : decide (x > 0 ∨ a4 ≠ 0 ∨ a5 ≠ 0) = true := by simp [h4]
        rw [e]
        exact J true
  · rw [if_neg h0]
    exact Ev.step (fun k => by simp only [chap_Put.j0]; rw [if_neg h0]) (Ev.now _)
 unfold chap_Put.f
 rw [Valued]
 refine Ev.name ?_
 by_cases hv : valued a1 = true
 · refine Ev.pos hv ?_
   rw [w64 (x := (o.length : Int) + l9.length) (by omega) (by omega), w64 (by omega) (by omega)]
   refine j0 _ (by omega) (fun w hw => ?_)
   rw [← hw]
   unfold wrong18
   rw [if_pos hv, decide_eq_decide]
   omega
 · refine Ev.neg hv ?_
   rw [w64 (x := (o.length : Int) + l9.length) (by omega) (by omega), w64 (x := (l6.length : Int) + l7.length) (by omega) (by omega), w64 (by omega) (by omega)]
   refine j0 _ (by omega) (fun w hw => ?_)
   rw [← hw]
   unfold wrong18
   rw [if_neg hv, decide_eq_decide]
   omega
theorem Speaks18 : Ev (fun k => marlinelaw18_speaks.f k) true := by
 unfold marlinelaw18_speaks.f
 refine Ev.bind (ChapPut 49699 1 0 [] 0 0 [7] [97] [] [] (by decide) (by decide) (by decide) (by decide) (by decide)) ?_
 refine Ev.pos (by decide) ?_
 have h := Equal (cput 49699 1 0 ([] : List AO) 0 0 [7] [97] [] []).1 [1, 0, 0, 7, 1, 7, 97] (by unfold Lim; decide)
 rw [show decide ((cput 49699 1 0 ([] : List AO) 0 0 [7] [97] [] []).1 = [1, 0, 0, 7, 1, 7, 97]) = true by decide] at h
 exact h
end Go.Proofs.Ytgjeahgagciagaa.Sp
namespace Go.Proofs.Ytgjeahgagciagaa.Hw
open Go.RowKit Go.Proofs.YtgjeahgagciagaaW.PrintWords Go.Proofs.YtgjeahgagciagaaW.PrintLast Go.Proofs.YtgjeahgagciagaaW.PrintMore Go.Proofs.Ytgjeahgagciagaa.Print Go.Proofs.Ytgjeahgagciagaa.Sp Go.Proofs.Ytgjeahgagciagaa.Pl
set_option linter.unusedVariables false
set_option linter.unusedSimpArgs false
theorem v_one {α : Type} {d : Kd α} {e base : Nat} {W : World} {ok : Nat → Prop} {v : Value} {xs : List α} (h : Kd.V d e W base ok v xs) : v.oneCell' = true := by
 obtain ⟨A, c, rfl, _⟩ := h
 rfl
theorem turns_walk (a0_0 : Int) (a0_1 : Int) (a0_2 : Int) (A0_3 : Option Addr) (c0_3 : Nat) (l0_3 : List (S56)) (a0_4 : Int) (a0_5 : Int) (A0_6 : Option Addr) (c0_6 : Nat) (l0_6 : List Int) (A0_7 : Option Addr) (c0_7 : Nat) (l0_7 : List Int) (A0_8 : Option Addr) (c0_8 : Nat) (l0_8 : List Int) (A0_9 : Option Addr) (c0_9 : Nat) (l0_9 : List Int) (a1_0 : Int) (a1_1 : Int) (a1_2 : Int) (A1_3 : Option Addr) (c1_3 : Nat) (l1_3 : List (S56)) (a1_4 : Int) (a1_5 : Int) (A1_6 : Option Addr) (c1_6 : Nat) (l1_6 : List Int) (A1_7 : Option Addr) (c1_7 : Nat) (l1_7 : List Int) (A1_8 : Option Addr) (c1_8 : Nat) (l1_8 : List Int) (A1_9 : Option Addr) (c1_9 : Nat) (l1_9 : List Int) (w : World) (hw0_0 : (Lit.int .u16 a0_0).wf = true) (hw0_1 : (Lit.int .u8 a0_1).wf = true) (hw0_2 : (Lit.int .u8 a0_2).wf = true) (hr0_3 : Kd.C k56 w A0_3 l0_3.length l0_3) (hc0_3 : l0_3.length ≤ c0_3) (hw0_3 : ((l0_3.length ≤ 9223372036854775807 ∧ l0_3.length * 32 ≤ 140737488351232) ∧ ∀ y0_ ∈ l0_3, ((Lit.int .u8 y0_.f0).wf = true ∧ ((y0_.f1.length ≤ 9223372036854775807 ∧ y0_.f1.length * 1 ≤ 140737488351232) ∧ ∀ y1_ ∈ y0_.f1, (Lit.int .u8 y1_).wf = true)))) (hw0_4 : (Lit.int .u16 a0_4).wf = true) (hw0_5 : (Lit.int .u32 a0_5).wf = true) (hr0_6 : Kd.C (Kd.int .u8) w A0_6 l0_6.length l0_6) (hc0_6 : l0_6.length ≤ c0_6) (hw0_6 : ((l0_6.length ≤ 9223372036854775807 ∧ l0_6.length * 1 ≤ 140737488351232) ∧ ∀ y0_ ∈ l0_6, (Lit.int .u8 y0_).wf = true)) (hr0_7 : Kd.C (Kd.int .u8) w A0_7 l0_7.length l0_7) (hc0_7 : l0_7.length ≤ c0_7) (hw0_7 : ((l0_7.length ≤ 9223372036854775807 ∧ l0_7.length * 1 ≤ 140737488351232) ∧ ∀ y0_ ∈ l0_7, (Lit.int .u8 y0_).wf = true)) (hr0_8 : Kd.C (Kd.int .u8) w A0_8 l0_8.length l0_8) (hc0_8 : l0_8.length ≤ c0_8) (hw0_8 : ((l0_8.length ≤ 9223372036854775807 ∧ l0_8.length * 1 ≤ 140737488351232) ∧ ∀ y0_ ∈ l0_8, (Lit.int .u8 y0_).wf = true)) (hr0_9 : Kd.C (Kd.int .u32) w A0_9 l0_9.length l0_9) (hc0_9 : l0_9.length ≤ c0_9) (hw0_9 : ((l0_9.length ≤ 9223372036854775807 ∧ l0_9.length * 4 ≤ 140737488351232) ∧ ∀ y0_ ∈ l0_9, (Lit.int .u32 y0_).wf = true)) (hw1_0 : (Lit.int .u16 a1_0).wf = true) (hw1_1 : (Lit.int .u8 a1_1).wf = true) (hw1_2 : (Lit.int .u8 a1_2).wf = true) (hr1_3 : Kd.C k56 w A1_3 l1_3.length l1_3) (hc1_3 : l1_3.length ≤ c1_3) (hw1_3 : ((l1_3.length ≤ 9223372036854775807 ∧ l1_3.length * 32 ≤ 140737488351232) ∧ ∀ y0_ ∈ l1_3, ((Lit.int .u8 y0_.f0).wf = true ∧ ((y0_.f1.length ≤ 9223372036854775807 ∧ y0_.f1.length * 1 ≤ 140737488351232) ∧ ∀ y1_ ∈ y0_.f1, (Lit.int .u8 y1_).wf = true)))) (hw1_4 : (Lit.int .u16 a1_4).wf = true) (hw1_5 : (Lit.int .u32 a1_5).wf = true) (hr1_6 : Kd.C (Kd.int .u8) w A1_6 l1_6.length l1_6) (hc1_6 : l1_6.length ≤ c1_6) (hw1_6 : ((l1_6.length ≤ 9223372036854775807 ∧ l1_6.length * 1 ≤ 140737488351232) ∧ ∀ y0_ ∈ l1_6, (Lit.int .u8 y0_).wf = true)) (hr1_7 : Kd.C (Kd.int .u8) w A1_7 l1_7.length l1_7) (hc1_7 : l1_7.length ≤ c1_7) (hw1_7 : ((l1_7.length ≤ 9223372036854775807 ∧ l1_7.length * 1 ≤ 140737488351232) ∧ ∀ y0_ ∈ l1_7, (Lit.int .u8 y0_).wf = true)) (hr1_8 : Kd.C (Kd.int .u8) w A1_8 l1_8.length l1_8) (hc1_8 : l1_8.length ≤ c1_8) (hw1_8 : ((l1_8.length ≤ 9223372036854775807 ∧ l1_8.length * 1 ≤ 140737488351232) ∧ ∀ y0_ ∈ l1_8, (Lit.int .u8 y0_).wf = true)) (hr1_9 : Kd.C (Kd.int .u32) w A1_9 l1_9.length l1_9) (hc1_9 : l1_9.length ≤ c1_9) (hw1_9 : ((l1_9.length ≤ 9223372036854775807 ∧ l1_9.length * 4 ≤ 140737488351232) ∧ ∀ y0_ ∈ l1_9, (Lit.int .u32 y0_).wf = true)) :
 Calls Try.prog 5 #[.agg #[.int .u16 a0_0, .int .u8 a0_1, .int .u8 a0_2, .slice A0_3 l0_3.length c0_3, .int .u16 a0_4, .int .u32 a0_5, .slice A0_6 l0_6.length c0_6, .slice A0_7 l0_7.length c0_7, .slice A0_8 l0_8.length c0_8, .slice A0_9 l0_9.length c0_9], .agg #[.int .u16 a1_0, .int .u8 a1_1, .int .u8 a1_2, .slice A1_3 l1_3.length c1_3, .int .u16 a1_4, .int .u32 a1_5, .slice A1_6 l1_6.length c1_6, .slice A1_7 l1_7.length c1_7, .slice A1_8 l1_8.length c1_8, .slice A1_9 l1_9.length c1_9]] w fun e w' => e = .returned (.bool true) ∧ Below w.heap.size w w' := by
 obtain ⟨ks, hs⟩ := Ev.rounds Speaks18
 obtain ⟨k0, h0⟩ := Ev.rounds (FewP a0_0 a0_1 a0_2 l0_3 a0_4 a0_5 l0_6 l0_7 l0_8 l0_9 (held_of hw0_3))
 obtain ⟨k1, h1⟩ := Ev.rounds (FewP a1_0 a1_1 a1_2 l1_3 a1_4 a1_5 l1_6 l1_7 l1_8 l1_9 (held_of hw1_3))
 exact turns w a0_0 a0_1 a0_2 a0_4 a0_5 (.slice A0_3 l0_3.length c0_3) (.slice A0_6 l0_6.length c0_6) (.slice A0_7 l0_7.length c0_7) (.slice A0_8 l0_8.length c0_8) (.slice A0_9 l0_9.length c0_9) a1_0 a1_1 a1_2 a1_4 a1_5 (.slice A1_3 l1_3.length c1_3) (.slice A1_6 l1_6.length c1_6) (.slice A1_7 l1_7.length c1_7) (.slice A1_8 l1_8.length c1_8) (.slice A1_9 l1_9.length c1_9) _ _
  (fun W => marlinelaw18_speaks.calls ks true W hs)
  (fun W hb => marlinelaw15_Few.calls k0 a0_0 a0_1 a0_2 A0_3 c0_3 l0_3 a0_4 a0_5 A0_6 c0_6 l0_6 A0_7 c0_7 l0_7 A0_8 c0_8 l0_8 A0_9 c0_9 l0_9 _ W (k56_heap.C hb.block hr0_3) hc0_3 ((Kd.heap_int .u8).C hb.block hr0_6) hc0_6 ((Kd.heap_int .u8).C hb.block hr0_7) hc0_7 ((Kd.heap_int .u8).C hb.block hr0_8) hc0_8 ((Kd.heap_int .u32).C hb.block hr0_9) hc0_9 h0)
  (fun W hb => marlinelaw15_Few.calls k1 a1_0 a1_1 a1_2 A1_3 c1_3 l1_3 a1_4 a1_5 A1_6 c1_6 l1_6 A1_7 c1_7 l1_7 A1_8 c1_8 l1_8 A1_9 c1_9 l1_9 _ W (k56_heap.C hb.block hr1_3) hc1_3 ((Kd.heap_int .u8).C hb.block hr1_6) hc1_6 ((Kd.heap_int .u8).C hb.block hr1_7) hc1_7 ((Kd.heap_int .u8).C hb.block hr1_8) hc1_8 ((Kd.heap_int .u32).C hb.block hr1_9) hc1_9 h1)
  (by
   intro hf0 hf1 W hb
   obtain ⟨kk, hk⟩ := Ev.rounds (OfP a0_0 a0_1 a0_2 l0_3 a0_4 a0_5 l0_6 l0_7 l0_8 l0_9 (by have := of_decide_eq_true hf0; omega))
   refine (marlinelaw15_Of.calls kk a0_0 a0_1 a0_2 (fun k_ => k_ < w.heap.size) _ _ l0_3 a0_4 a0_5 (fun k_ => k_ < w.heap.size) _ _ l0_6 (fun k_ => k_ < w.heap.size) _ _ l0_7 (fun k_ => k_ < w.heap.size) _ _ l0_8 (fun k_ => k_ < w.heap.size) _ _ l0_9 _ _ _ _ _ _ _ _ _ _ W (Kd.V_mk hc0_3 (Kd.F_below (Kd.C_F k56_heap hr0_3) hb)) (Kd.V_mk hc0_6 (Kd.F_below (Kd.C_F (Kd.heap_int .u8) hr0_6) hb)) (Kd.V_mk hc0_7 (Kd.F_below (Kd.C_F (Kd.heap_int .u8) hr0_7) hb)) (Kd.V_mk hc0_8 (Kd.F_below (Kd.C_F (Kd.heap_int .u8) hr0_8) hb)) (Kd.V_mk hc0_9 (Kd.F_below (Kd.C_F (Kd.heap_int .u32) hr0_9) hb)) hk).mono ?_
   rintro e w1 ⟨v3, v6, v7, v8, v9, rfl, n3, n6, n7, n8, n9, hb1⟩
   exact ⟨_, rfl, ⟨v3, v6, v7, v8, v9, rfl, (Kd.N_val n3).2, v_one n6, v_one n7, v_one n8, v_one n9⟩, hb1⟩)
  (by
   intro hf0 hf1 W hb
   obtain ⟨kk, hk⟩ := Ev.rounds (OfP a1_0 a1_1 a1_2 l1_3 a1_4 a1_5 l1_6 l1_7 l1_8 l1_9 (by have := of_decide_eq_true hf1; omega))
   refine (marlinelaw15_Of.calls kk a1_0 a1_1 a1_2 (fun k_ => k_ < w.heap.size) _ _ l1_3 a1_4 a1_5 (fun k_ => k_ < w.heap.size) _ _ l1_6 (fun k_ => k_ < w.heap.size) _ _ l1_7 (fun k_ => k_ < w.heap.size) _ _ l1_8 (fun k_ => k_ < w.heap.size) _ _ l1_9 _ _ _ _ _ _ _ _ _ _ W (Kd.V_mk hc1_3 (Kd.F_below (Kd.C_F k56_heap hr1_3) hb)) (Kd.V_mk hc1_6 (Kd.F_below (Kd.C_F (Kd.heap_int .u8) hr1_6) hb)) (Kd.V_mk hc1_7 (Kd.F_below (Kd.C_F (Kd.heap_int .u8) hr1_7) hb)) (Kd.V_mk hc1_8 (Kd.F_below (Kd.C_F (Kd.heap_int .u8) hr1_8) hb)) (Kd.V_mk hc1_9 (Kd.F_below (Kd.C_F (Kd.heap_int .u32) hr1_9) hb)) hk).mono ?_
   rintro e w1 ⟨v3, v6, v7, v8, v9, rfl, n3, n6, n7, n8, n9, hb1⟩
   exact ⟨_, rfl, ⟨v3, v6, v7, v8, v9, rfl, (Kd.N_val n3).2, v_one n6, v_one n7, v_one n8, v_one n9⟩, hb1⟩)
end Go.Proofs.Ytgjeahgagciagaa.Hw
