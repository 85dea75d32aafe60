/- Texts of this claim, several in one, told shortly by a program of this claim (wip/x/shrink.py): what Go functions come to, and plain words on it. -/
import Derived.Test.YteanncchmenlkaaDoorShEtherMost3
import Derived.Test.YteanncchmenlkaaDoorShEtherMost4
namespace Go.Proofs.YteanncchmenlkaaDoor.Sp
open Go.RowKit Go.Proofs.YteanncchmenlkaaDoor.Print Go.Proofs.YteanncchmenlkaaDoorW.PrintWords Go.Proofs.YteanncchmenlkaaDoorW.PrintLast Go.Proofs.YteanncchmenlkaaDoor.Pl
set_option linter.unusedVariables false
theorem Ev.pos {α : Type} {c : Prop} [Decidable c] {g h : Nat → Option α} {r : α} (hc : c) (k : Ev g r) : Ev (fun n => if c then g n else h n) r :=
 Ev.congr (fun n => if_pos hc) k
theorem Ev.neg {α : Type} {c : Prop} [Decidable c] {g h : Nat → Option α} {r : α} (hc : ¬ c) (k : Ev h r) : Ev (fun n => if c then g n else h n) r :=
 Ev.congr (fun n => if_neg hc) k
theorem Ev.end_ {α : Type} {x r : α} (h : x = r) : Ev (fun _ => some x) r := h ▸ Ev.now _
def Lim (l : List Int) : Prop := l.length ≤ 1000000
theorem suc (i : Nat) (h : i ≤ 2000000) : wrap64 ((i : Int) + 1) = ((i + 1 : Nat) : Int) := by rw [w64 (by omega) (by omega)]; omega
theorem Equal_l0 (a b : List Int) (hl : a.length = b.length) (ha : Lim a) : ∀ (t u : List Int) (i : Nat), a.drop i = t → b.drop i = u → Ev (fun k => marlineref01_Equal.l0 k a b i) (decide (t = u))
 | [], u, i, h1, h2 => by
  have h3 := drop_nil_len h1
  have h4 := drop_len h2
  obtain rfl : u = [] := List.eq_nil_of_length_eq_zero (by omega)
  exact Ev.step (fun k => by simp only [marlineref01_Equal.l0]; rw [if_neg (by omega)]; rfl) (Ev.now _)
 | x :: t, u, i, h1, h2 => by
  obtain ⟨e1, e2, e3⟩ := rd_drop h1
  cases u with
  | nil => have := drop_nil_len h2; omega
  | cons y u =>
   obtain ⟨f1, f2, f3⟩ := rd_drop h2
   unfold Lim at ha
   by_cases hxy : x = y
   · subst hxy
     have ih := Equal_l0 a b hl ha t u (i + 1) e2 f2
     rw [show decide (x :: t = x :: u) = decide (t = u) by simp]
     exact Ev.step (fun k => by simp only [marlineref01_Equal.l0]; rw [if_pos (by omega), if_pos (by omega), if_pos (by omega), e1, f1, if_pos rfl, suc i (by omega)]) ih
   · rw [show decide (x :: t = y :: u) = false by simp [hxy]]
     exact Ev.step (fun k => by simp only [marlineref01_Equal.l0]; rw [if_pos (by omega), if_pos (by omega), if_pos (by omega), e1, f1, if_neg hxy]) (Ev.now _)
theorem Equal (a b : List Int) (ha : Lim a) : Ev (fun k => marlineref01_Equal.f k a b) (decide (a = b)) := by
 by_cases hl : a.length = b.length
 · exact Ev.congr (fun k => by unfold marlineref01_Equal.f; rw [if_pos (by omega)]; rfl) (Equal_l0 a b hl ha a b 0 rfl rfl)
 · rw [show decide (a = b) = false by simp; rintro rfl; exact hl rfl]
   exact Ev.congr (fun k => by unfold marlineref01_Equal.f; rw [if_neg (by omega)]) (Ev.now _)
end Go.Proofs.YteanncchmenlkaaDoor.Sp
namespace Go.Proofs.YteanncchmenlkaaDoor.Sp
open Go.RowKit Go.Proofs.YteanncchmenlkaaDoor.Print Go.Proofs.YteanncchmenlkaaDoorW.PrintWords Go.Proofs.YteanncchmenlkaaDoorW.PrintLast Go.Proofs.YteanncchmenlkaaDoor.Pl
set_option linter.unusedVariables false
abbrev AO := S62
instance decAO : DecidableEq AO := fun a b => decidable_of_iff (a.f0 = b.f0 ∧ a.f1 = b.f1) (by cases a; cases b; simp)
def size : List AO → Nat
 | [] => 0
 | o :: t => 2 + o.f1.length + size t
end Go.Proofs.YteanncchmenlkaaDoor.Sp
namespace Go.Proofs.YteanncchmenlkaaDoor.Sp
open Go.RowKit Go.Proofs.YteanncchmenlkaaDoor.Print Go.Proofs.YteanncchmenlkaaDoorW.PrintWords Go.Proofs.YteanncchmenlkaaDoorW.PrintLast Go.Proofs.YteanncchmenlkaaDoor.Pl
set_option linter.unusedVariables false
theorem ba_toList (s : ByteArray) : s.toList = s.data.toList := by
 have key : ∀ (n i : Nat) (r : List UInt8), s.size - i = n → ByteArray.toList.loop s i r = r.reverse ++ s.data.toList.drop i := by
  intro n
  induction n with
  | zero =>
   intro i r h
   unfold ByteArray.toList.loop
   rw [if_neg (by omega), List.drop_eq_nil_of_le (by show s.data.toList.length ≤ i; simp only [Array.length_toList]; have : s.data.size = s.size := rfl; omega), List.append_nil]
  | succ n ih =>
   intro i r h
   unfold ByteArray.toList.loop
   have hi : i < s.data.toList.length := by simp only [Array.length_toList]; have : s.data.size = s.size := rfl; omega
   rw [if_pos (by omega), ih (i + 1) _ (by omega), List.reverse_cons, List.append_assoc, List.drop_eq_getElem_cons hi]
   congr 1
   rw [List.singleton_append]
   congr 1
   show s.data[i]! = _
   rw [getElem!_pos s.data i (by simpa using hi)]
   simp
 have := key (s.size - 0) 0 [] rfl
 simpa [ByteArray.toList] using this
theorem octs_inj : ∀ {a b : List Int}, Bytes a → Bytes b → (a.map fun n => UInt8.ofNat n.toNat) = (b.map fun n => UInt8.ofNat n.toNat) → a = b
 | [], [], _, _, _ => rfl
 | [], _ :: _, _, _, h => by simp at h
 | _ :: _, [], _, _, h => by simp at h
 | x :: a, y :: b, ha, hb, h => by
  simp only [List.map_cons, List.cons.injEq] at h
  have e := octs_inj ha.tail hb.tail h.2
  have h1 := congrArg UInt8.toNat h.1
  have hx := ha.head; have hy := hb.head
  simp only [UInt8.toNat_ofNat'] at h1
  have hx0 := hx.1; have hx1 := hx.2; have hy0 := hy.1; have hy1 := hy.2
  rw [Nat.mod_eq_of_lt (by omega), Nat.mod_eq_of_lt (by omega)] at h1
  rw [e, show x = y by omega]
theorem sameOct {a b : List Int} (ha : Bytes a) (hb : Bytes b) : ((strOfNums a).toList == (strOfNums b).toList) = decide (a = b) := by
 rw [ba_toList, ba_toList]
 by_cases h : a = b
 · subst h; simp
 · have h2 : ¬ (strOfNums a).data.toList = (strOfNums b).data.toList := fun e => h (octs_inj ha hb (by simpa [strOfNums] using e))
   rw [decide_eq_false h, beq_eq_false_iff_ne]
   exact h2
theorem SameL : ∀ (a b : List AO), (∀ o ∈ a, Bytes o.f1) → (∀ o ∈ b, Bytes o.f1) → tlv_Same.f a b = some (decide (a = b)) := by
 intro a b ha hb
 unfold tlv_Same.f
 congr 1
 induction a generalizing b with
 | nil => cases b <;> simp
 | cons x a ih =>
  cases b with
  | nil => simp
  | cons y b =>
   have e := ih b (fun o ho => ha o (by simp [ho])) (fun o ho => hb o (by simp [ho]))
   have e1 : tlv_Same.one x y = decide (x = y) := by
    unfold tlv_Same.one
    rw [sameOct (ha x (by simp)) (hb y (by simp))]
    cases x; cases y
    rw [Bool.eq_iff_iff]
    simp
   simp only [List.length_cons, List.zip_cons_cons, List.all_cons, e1]
   rw [show ((a.length + 1 == b.length + 1) && (decide (x = y) && (a.zip b).all fun p => tlv_Same.one p.1 p.2)) = (decide (x = y) && ((a.length == b.length) && (a.zip b).all fun p => tlv_Same.one p.1 p.2)) by
    rw [show (a.length + 1 == b.length + 1) = (a.length == b.length) by simp]
    cases decide (x = y) <;> simp, e]
   simp
end Go.Proofs.YteanncchmenlkaaDoor.Sp
namespace Go.Proofs.YteanncchmenlkaaDoor.Sp
open Go.RowKit Go.Proofs.YteanncchmenlkaaDoor.Print Go.Proofs.YteanncchmenlkaaDoorW.PrintWords Go.Proofs.YteanncchmenlkaaDoorW.PrintLast Go.Proofs.YteanncchmenlkaaDoor.Pl
set_option linter.unusedVariables false
def be : Nat → Int → List Int
 | 0, _ => []
 | s + 1, n => n / 256 ^ s % 256 :: be s n
theorem be_length (s : Nat) (n : Int) : (be s n).length = s := by
 induction s with
 | zero => rfl
 | succ s ih => simp [be, ih]
theorem bytes_be (s : Nat) (n : Int) : Bytes (be s n) := by
 induction s with
 | zero => exact Bytes.nil
 | succ s ih => exact Bytes.cons (by constructor <;> omega) ih
theorem Put_l0 (n : Int) (hn : 0 ≤ n) : ∀ (s : Nat) (x : List Int), s ≤ 8 → x.length + s ≤ 3000000 → Ev (fun k => wire_Put.l0 k x n ((s : Int) - 1)) (x ++ be s n)
 | 0, x, h1, h2 => by
  rw [be, List.append_nil]
  exact Ev.step (fun k => by simp only [wire_Put.l0]; rw [if_neg (by omega)]) (Ev.now _)
 | s + 1, x, h1, h2 => by
  have ih := Put_l0 n hn s (x ++ [n / 256 ^ s % 256]) (by omega) (by simp; omega)
  rw [be, show x ++ n / 256 ^ s % 256 :: be s n = (x ++ [n / 256 ^ s % 256]) ++ be s n by simp]
  refine Ev.step (fun k => ?_) ih
  have e : shr .u64 n (8 * (s : Int)) = n / 256 ^ s := by
   unfold shr
   have h3 : (8 * (s : Int)).toNat = 8 * s := by omega
   rw [h3, Nat.min_eq_left (by simp [IntKind.bits]; omega), Int.pow_mul]
   rfl
  simp only [wire_Put.l0]
  rw [show (((s + 1 : Nat) : Int) - 1) = (s : Int) by omega, if_pos (by omega), w64 (x := 8 * (s : Int)) (by omega) (by omega), if_pos (by omega), if_pos (by omega), e, w64 (x := (s : Int) - 1) (by omega) (by omega)]
theorem WPut (x : List Int) (n : Int) (hn : 0 ≤ n) (s : Nat) (hs : s ≤ 8) (hx : x.length ≤ 2000000) : Ev (fun k => wire_Put.f k x n s) (x ++ be s n) := by
 unfold wire_Put.f
 simp only [w64 (x := (s : Int) - 1) (by omega) (by omega)]
 exact Put_l0 n hn s x hs (by omega)
def num : Int → List Int → Int
 | a, [] => a
 | a, c :: t => num (a * 256 + c) t
theorem Get_l0 (l : List Int) (hl : l.length ≤ 8) (hb : Bytes l) : ∀ (t : List Int) (i : Nat) (a : Int), l.drop i = t → 0 ≤ a → a < 256 ^ i → Ev (fun k => wire_Get.l0 k a l (l.length : Int) i) (num a t)
 | [], i, a, h1, h0, ha => by
  have h3 := drop_nil_len h1
  rw [num]
  exact Ev.step (fun k => by simp only [wire_Get.l0]; rw [if_neg (by omega)]) (Ev.now _)
 | c :: t, i, a, h1, h0, ha => by
  obtain ⟨e1, e2, e3⟩ := rd_drop h1
  have hc : Byte c := by
   have h4 := hb.drop i
   rw [h1] at h4
   exact h4.head
  have hc0 := hc.1; have hc1 := hc.2
  have hi7 : (256 : Int) ^ i ≤ 256 ^ 7 := by
   have h9 : (256 : Nat) ^ i ≤ 256 ^ 7 := Nat.pow_le_pow_right (by omega) (by omega)
   have h8 := Int.ofNat_le.2 h9
   rw [Int.natCast_pow, Int.natCast_pow] at h8
   exact h8
  have h7 : (256 : Int) ^ 7 = 72057594037927936 := by decide
  have ih := Get_l0 l hl hb t (i + 1) (a * 256 + c) e2 (by omega) (by rw [Int.pow_succ]; omega)
  rw [num]
  refine Ev.step (fun k => ?_) ih
  have eo : Go.bits .or .u64 (a * 256) c = a * 256 + c := by
   obtain ⟨m, rfl⟩ := Int.eq_ofNat_of_zero_le h0
   obtain ⟨q, rfl⟩ := Int.eq_ofNat_of_zero_le hc0
   have h5 := u64_or_nat (m * 256) q (by omega) (by omega)
   have h6 := nat_join 8 (m * 256) q (by omega) (by omega)
   rw [h6, Int.natCast_mul, Int.natCast_add, Int.natCast_mul] at h5
   exact h5
  simp only [wire_Get.l0]
  rw [if_pos (by omega), if_pos (by omega), if_pos (by omega), e1, wu64 (x := a * 256) (by omega) (by omega), wu64 (x := c) (by omega) (by omega), eo, suc i (by omega)]
theorem WGet (l : List Int) (s : Nat) (hs : s ≤ 8) (hl : s ≤ l.length) (hb : Bytes l) : Ev (fun k => wire_Get.f k l s) (num 0 (l.take s)) := by
 unfold wire_Get.f
 refine Ev.pos (by omega) (Ev.pos (by omega) ?_)
 rw [Int.toNat_natCast]
 exact Get_l0 (l.take s) (by rw [List.length_take]; omega) (hb.take s) (l.take s) 0 0 rfl (by omega) (by simp)
theorem Clone (l : List Int) (hl : Lim l) : slices_Clone_byte_byte.f l = some l := by
 unfold slices_Clone_byte_byte.f; unfold Lim at hl; rw [if_pos (by omega)]
theorem be2 (n : Int) (h0 : 0 ≤ n) (h1 : n < 65536) : be 2 n = [n / 256, n % 256] := by
 simp only [be, Int.pow_zero, Int.ediv_one, Int.pow_succ, Int.one_mul]
 rw [Int.emod_eq_of_lt (by omega) (by omega)]
end Go.Proofs.YteanncchmenlkaaDoor.Sp
namespace Go.Proofs.YteanncchmenlkaaDoor.Sp
open Go.RowKit Go.Proofs.YteanncchmenlkaaDoor.Print Go.Proofs.YteanncchmenlkaaDoorW.PrintWords Go.Proofs.YteanncchmenlkaaDoorW.PrintLast Go.Proofs.YteanncchmenlkaaDoor.Pl
set_option linter.unusedVariables false
set_option linter.unusedSimpArgs false
theorem Equal32_l0 (a b : List Int) (hl : a.length = b.length) (ha : Lim a) : ∀ (t u : List Int) (i : Nat), a.drop i = t → b.drop i = u → Ev (fun k => slices_Equal_uint32_uint32.l0 k a b (a.length : Int) i) (decide (t = u))
 | [], u, i, h1, h2 => by
  have h3 := drop_nil_len h1
  have h4 := drop_len h2
  obtain rfl : u = [] := List.eq_nil_of_length_eq_zero (by omega)
  exact Ev.step (fun k => by simp only [slices_Equal_uint32_uint32.l0]; rw [if_neg (by omega)]; rfl) (Ev.now _)
 | x :: t, u, i, h1, h2 => by
  obtain ⟨e1, e2, e3⟩ := rd_drop h1
  cases u with
  | nil => have := drop_nil_len h2; omega
  | cons y u =>
   obtain ⟨f1, f2, f3⟩ := rd_drop h2
   unfold Lim at ha
   by_cases hxy : x = y
   · subst hxy
     have ih := Equal32_l0 a b hl ha t u (i + 1) e2 f2
     rw [show decide (x :: t = x :: u) = decide (t = u) by simp]
     exact Ev.step (fun k => by simp only [slices_Equal_uint32_uint32.l0]; rw [if_pos (by omega), if_pos (by omega), if_pos (by omega), if_pos (by omega), e1, f1, if_pos rfl, suc i (by omega)]) ih
   · rw [show decide (x :: t = y :: u) = false by simp [hxy]]
     exact Ev.step (fun k => by simp only [slices_Equal_uint32_uint32.l0]; rw [if_pos (by omega), if_pos (by omega), if_pos (by omega), if_pos (by omega), e1, f1, if_neg hxy]) (Ev.now _)
theorem Equal32 (a b : List Int) (ha : Lim a) : Ev (fun k => slices_Equal_uint32_uint32.f k a b) (decide (a = b)) := by
 unfold slices_Equal_uint32_uint32.f
 by_cases h : a.length = b.length
 · exact Ev.pos (by omega) (Equal32_l0 a b h ha a b 0 rfl rfl)
 · refine Ev.neg (by omega) (Ev.end_ ?_)
   rw [eq_comm, decide_eq_false_iff_not]
   rintro rfl
   exact h rfl
theorem EqualB {a b : List Int} (ha : Bytes a) (hb : Bytes b) : bytes_Equal.f a b = some (decide (a = b)) := by
 unfold bytes_Equal.f
 rw [sameOct ha hb]
def same20 (a0 a1 a2 : Int) (o : List AO) (a4 a5 : Int) (l6 l7 l8 l9 : List Int) (b0 b1 b2 : Int) (q : List AO) (b4 b5 : Int) (m6 m7 m8 m9 : List Int) : Bool :=
 decide (a0 = b0 ∧ a1 = b1 ∧ a2 = b2 ∧ o = q ∧ a4 = b4 ∧ a5 = b5 ∧ l6 = m6 ∧ l7 = m7 ∧ l8 = m8 ∧ l9 = m9)
def Fit (o : List AO) (l6 l7 l8 l9 : List Int) : Prop := (∀ x ∈ o, Bytes x.f1) ∧ Bytes l6 ∧ Bytes l7 ∧ Bytes l8 ∧ Lim l9
theorem Same20 (a0 a1 a2 : Int) (o : List AO) (a4 a5 : Int) (l6 l7 l8 l9 : List Int) (b0 b1 b2 : Int) (q : List AO) (b4 b5 : Int) (m6 m7 m8 m9 : List Int) (hf : Fit o l6 l7 l8 l9) (hg : Fit q m6 m7 m8 m9) :
 Ev (fun k => body_Same.f k a0 a1 a2 o a4 a5 l6 l7 l8 l9 b0 b1 b2 q b4 b5 m6 m7 m8 m9) (same20 a0 a1 a2 o a4 a5 l6 l7 l8 l9 b0 b1 b2 q b4 b5 m6 m7 m8 m9) := by
 obtain ⟨ho, h6, h7, h8, h9⟩ := hf
 obtain ⟨hq, g6, g7, g8, g9⟩ := hg
 have j0 : ∀ x : Bool, Ev (fun k => body_Same.j0 k x a0 a1 a2 o a4 a5 l6 l7 l8 l9 b0 b1 b2 q b4 b5 m6 m7 m8 m9) (x && decide (o = q ∧ l6 = m6 ∧ l7 = m7 ∧ l8 = m8 ∧ l9 = m9)) := by
  intro x
  refine Ev.step (f := fun k => body_Same.j0 (k + 1) x a0 a1 a2 o a4 a5 l6 l7 l8 l9 b0 b1 b2 q b4 b5 m6 m7 m8 m9) (fun k => rfl) ?_
  simp only [body_Same.j0, SameL o q ho hq, EqualB h6 g6, EqualB h7 g7, EqualB h8 g8, Option.bind_some]
  cases x with
  | false => exact Ev.neg (by decide) (Ev.end_ (by simp))
  | true =>
   refine Ev.pos rfl ?_
   by_cases e3 : o = q
   rotate_left
   · exact Ev.neg (by simp [e3]) (Ev.end_ (by simp [e3]))
   refine Ev.pos (by simp [e3]) ?_
   by_cases e6 : l6 = m6
   rotate_left
   · exact Ev.neg (by simp [e6]) (Ev.end_ (by simp [e6]))
   refine Ev.pos (by simp [e6]) ?_
   by_cases e7 : l7 = m7
   rotate_left
   · exact Ev.neg (by simp [e7]) (Ev.end_ (by simp [e7]))
   refine Ev.pos (by simp [e7]) ?_
   by_cases e8 : l8 = m8
   rotate_left
   · exact Ev.neg (by simp [e8]) (Ev.end_ (by simp [e8]))
   refine Ev.pos (by simp [e8]) ?_
   refine Ev.bind (Equal32 l9 m9 h9) (Ev.end_ ?_)
   simp [e3, e6, e7, e8]
 have no : ∀ (_ : same20 a0 a1 a2 o a4 a5 l6 l7 l8 l9 b0 b1 b2 q b4 b5 m6 m7 m8 m9 = false), Ev (fun k => body_Same.j0 k false a0 a1 a2 o a4 a5 l6 l7 l8 l9 b0 b1 b2 q b4 b5 m6 m7 m8 m9) (same20 a0 a1 a2 o a4 a5 l6 l7 l8 l9 b0 b1 b2 q b4 b5 m6 m7 m8 m9) := fun h => by
  rw [h]
  exact j0 false
 unfold body_Same.f
 by_cases e0 : a0 = b0
 rotate_left
 · exact Ev.neg e0 (no (by unfold same20; simp [e0]))
 refine Ev.pos e0 ?_
 by_cases e1 : a1 = b1
 rotate_left
 · exact Ev.neg e1 (no (by unfold same20; simp [e1]))
 refine Ev.pos e1 ?_
 by_cases e2 : a2 = b2
 rotate_left
 · exact Ev.neg e2 (no (by unfold same20; simp [e2]))
 refine Ev.pos e2 ?_
 by_cases e4 : a4 = b4
 rotate_left
 · exact Ev.neg e4 (no (by unfold same20; simp [e4]))
 refine Ev.pos e4 ?_
 have e : same20 a0 a1 a2 o a4 a5 l6 l7 l8 l9 b0 b1 b2 q b4 b5 m6 m7 m8 m9 = ((a5 == b5) && decide (o = q ∧ l6 = m6 ∧ l7 = m7 ∧ l8 = m8 ∧ l9 = m9)) := by
  unfold same20
  rw [Bool.eq_iff_iff]
  simp only [decide_eq_true_eq, Bool.and_eq_true, beq_iff_eq, e0, e1, e2, e4, true_and]
  exact ⟨fun ⟨x3, x5, x⟩ => ⟨x5, x3, x⟩, fun ⟨x5, x3, x⟩ => ⟨x3, x5, x⟩⟩
 rw [e]
 exact j0 _
theorem same_self (a0 a1 a2 : Int) (o : List AO) (a4 a5 : Int) (l6 l7 l8 l9 : List Int) : same20 a0 a1 a2 o a4 a5 l6 l7 l8 l9 a0 a1 a2 o a4 a5 l6 l7 l8 l9 = true := decide_eq_true ⟨rfl, rfl, rfl, rfl, rfl, rfl, rfl, rfl, rfl, rfl⟩
end Go.Proofs.YteanncchmenlkaaDoor.Sp
namespace Go.Proofs.YteanncchmenlkaaDoor.Hw
open Go.RowKit Go.Proofs.YteanncchmenlkaaDoorW.PrintWords Go.Proofs.YteanncchmenlkaaDoorW.PrintLast Go.Proofs.YteanncchmenlkaaDoorW.PrintMore Go.Proofs.YteanncchmenlkaaDoor.Print Go.Proofs.YteanncchmenlkaaDoor.Sp Go.Proofs.YteanncchmenlkaaDoor.Pl
set_option linter.unusedVariables false
set_option linter.unusedSimpArgs false
def GA (w : World) : Prop := ∃ (bm : Nat) (es : Array MapEntry) (clock : Nat), w.cell? ⟨1, 0, none⟩ = some (.map (some bm)) ∧ w.heap[bm]? = some (.map es clock) ∧
 ∀ W : World, W.heap[bm]? = some (.map es clock) → (Instr.lookup 132 (.map (some bm)) (.int .u16 33) true).run Tryd.prog W = .ok (.tuple #[.int .u8 0, .bool false]) W
theorem GA.below {w w1 : World} (h : GA w) (hb : Below w.heap.size w w1) : GA w1 := by
 obtain ⟨bm, es, clock, h1, h2, h3⟩ := h
 exact ⟨bm, es, clock, (hb.cell (World.block_lt_of_cell? w _ h1)).trans h1, blk_below h2 hb, h3⟩
theorem is33 (w : World) (hA : GA w) : Calls Tryd.prog 61 #[.int .u16 33] w fun e w' => e = .returned (.bool false) ∧ Below w.heap.size w w' := by
 obtain ⟨bm, es, clock, h1, h2, h3⟩ := hA
 have hrun := h3 w h2
 clear h3
 go_enter Tryd.func61, Tryd.ntmps61
 go_wp2
 go_ret
 exact ⟨rfl, Below.refl _ _⟩
theorem of33 (w : World) (hA : GA w) : Calls Tryd.prog 45 #[.int .u16 33] w fun e w' => e = .returned (.iface 113 (.agg #[])) ∧ Below w.heap.size w w' := by
 have HA := Aside0.mk hA
 clear hA
 go_enter Tryd.func45, Tryd.ntmps45
 go_wp2_with (first | (go_at_call 61; refine (is33 _ HA.out).mono ?_; rintro e w1 ⟨rfl, hb⟩; have HB := Aside0.mk hb; clear hb))
 go_ret
 exact ⟨rfl, HB.out⟩
end Go.Proofs.YteanncchmenlkaaDoor.Hw
namespace Go.Proofs.YteanncchmenlkaaDoor.Sp
open Go.RowKit Go.Proofs.YteanncchmenlkaaDoor.Print Go.Proofs.YteanncchmenlkaaDoorW.PrintWords Go.Proofs.YteanncchmenlkaaDoorW.PrintLast Go.Proofs.YteanncchmenlkaaDoor.Pl
set_option linter.unusedVariables false
set_option linter.unusedSimpArgs false
def Tot {α : Type} (g : Nat → Option α) : Prop := ∃ r, Ev g r
theorem Tot.up {α : Type} {g : Nat → Option α} (h : Tot (fun k => g (k + 1))) : Tot g := by
 obtain ⟨r, K, hK⟩ := h
 refine ⟨r, K + 1, fun k hk => ?_⟩
 obtain ⟨j, rfl⟩ : ∃ j, k = j + 1 := ⟨k - 1, by omega⟩
 exact hK j (by omega)
theorem Tot.bind {α β : Type} {f : Nat → Option α} {g : α → Nat → Option β} (h : Tot f) (h2 : ∀ r, Ev f r → Tot (g r)) : Tot (fun k => (f k).bind fun r => g r k) := by
 obtain ⟨r, h⟩ := h
 obtain ⟨q, h3⟩ := h2 r h
 exact ⟨q, Ev.bind h h3⟩
theorem Ev.up {α : Type} {g : Nat → Option α} {r : α} (h : Ev (fun k => g (k + 1)) r) : Ev g r := Ev.step (fun k => rfl) h
end Go.Proofs.YteanncchmenlkaaDoor.Sp
namespace Go.Proofs.YteanncchmenlkaaDoor.Hw
open Go.RowKit Go.Proofs.YteanncchmenlkaaDoorW.PrintWords Go.Proofs.YteanncchmenlkaaDoorW.PrintLast Go.Proofs.YteanncchmenlkaaDoorW.PrintMore Go.Proofs.YteanncchmenlkaaDoor.Print Go.Proofs.YteanncchmenlkaaDoor.Sp Go.Proofs.YteanncchmenlkaaDoor.Pl
set_option linter.unusedVariables false
set_option linter.unusedSimpArgs false
theorem same_calls {W : World} {x y : Value} {a0 a1 a2 a4 a5 b0 b1 b2 b4 b5 : Int} {o q : List AO} {l6 l7 l8 l9 m6 m7 m8 m9 : List Int} {k : Nat} {r : Bool} (h : PkIn k62 W x a0 a1 a2 o a4 a5 l6 l7 l8 l9) (g : PkIn k62 W y b0 b1 b2 q b4 b5 m6 m7 m8 m9)
 (hf : body_Same.f k a0 a1 a2 o a4 a5 l6 l7 l8 l9 b0 b1 b2 q b4 b5 m6 m7 m8 m9 = some r) :
 Calls Tryd.prog 25 #[x, y] W fun e w' => e = .returned (.bool r) ∧ Below W.heap.size W w' := by
 obtain ⟨v3, v6, v7, v8, v9, rfl, ⟨A3, c3, rfl, n3, f3⟩, ⟨A6, c6, rfl, n6, f6⟩, ⟨A7, c7, rfl, n7, f7⟩, ⟨A8, c8, rfl, n8, f8⟩, ⟨A9, c9, rfl, n9, f9⟩⟩ := h
 obtain ⟨u3, u6, u7, u8, u9, rfl, ⟨B3, d3, rfl, p3, g3⟩, ⟨B6, d6, rfl, p6, g6⟩, ⟨B7, d7, rfl, p7, g7⟩, ⟨B8, d8, rfl, p8, g8⟩, ⟨B9, d9, rfl, p9, g9⟩⟩ := g
 exact body_Same.calls k a0 a1 a2 A3 c3 o a4 a5 A6 c6 l6 A7 c7 l7 A8 c8 l8 A9 c9 l9 b0 b1 b2 B3 d3 q b4 b5 B6 d6 m6 B7 d7 m7 B8 d8 m8 B9 d9 m9 r W (Kd.F_now f3) n3 (Kd.F_now f6) n6 (Kd.F_now f7) n7 (Kd.F_now f8) n8 (Kd.F_now f9) n9 (Kd.F_now g3) p3 (Kd.F_now g6) p6 (Kd.F_now g7) p7 (Kd.F_now g8) p8 (Kd.F_now g9) p9 hf
theorem clone_calls {W : World} {v : Value} {l : List Int} {B_ : Nat} (h : Kd.V (Kd.int .u8) 0 W 0 (fun k => k < B_) v l) (hf : slices_Clone_byte_byte.f l = some l) :
 Calls Tryd.prog 69 #[v] W fun e w' => ∃ u, e = .returned u ∧ Rd (Kd.int .u8) w' u l ∧ Below W.heap.size W w' := by
 obtain ⟨A, c, rfl, n, f⟩ := h
 refine (slices_Clone_byte_byte.calls A c l _ W (Kd.F_now f) n hf).mono ?_
 rintro e w' ⟨u, rfl, hu, hb⟩
 exact ⟨_, rfl, rd_of_n (Kd.R_N hu), hb⟩
theorem rd_nil {α : Type} (d : Kd α) (W : World) : Rd d W (.slice none 0 0) [] := Kd.V_nil d 0 W 0 _
theorem _root_.Go.Proofs.YteanncchmenlkaaDoorW.PrintWords.Kd.V.old2 {α : Type} {d : Kd α} {W w1 : World} {B : Nat} {v : Value} {xs : List α} (h : Kd.V d 0 W 0 (fun k => k < B) v xs) (hb : Below W.heap.size W w1) : Kd.V d 0 w1 0 (fun k => k < B) v xs := Kd.V_below h hb
theorem _root_.Go.Proofs.YteanncchmenlkaaDoorW.PrintWords.Kd.V.only2 {α : Type} {d : Kd α} {W w1 : World} {B g : Nat} {v : Value} {xs : List α} (h : Kd.V d 0 W 0 (fun k => k < B) v xs) (ho : OnlyG W w1 g) (hk : ∀ k, k < B → k ≠ g) : Kd.V d 0 w1 0 (fun k => k < B) v xs := Kd.V_step h (fun k hk' _ => ho.block k (hk k hk'))
theorem plain_in {W : World} {B : Nat} {v8 : Value} {l8 : List Int} (h : Kd.V (Kd.int .u8) 0 W 0 (fun k => k < B) v8 l8) : PkIn k62 W (.agg (pk 33 0 0 (.slice none 0 0) 0 0 (.slice none 0 0) (.slice none 0 0) v8 (.slice none 0 0))) 33 0 0 [] 0 0 [] [] l8 [] :=
 ⟨_, _, _, _, _, rfl, rd_nil _ _, rd_nil _ _, rd_nil _ _, rd_of_v h, rd_nil _ _⟩
theorem right_calls (a : Int) (r : Bool) (w : World) (h : proto_Right.f a = some r) : Calls Tryd.prog 44 #[.int .u16 a] w fun e w' => e = .returned (.bool r) ∧ Below w.heap.size w w' := (proto_Right.calls a r w h).mono fun e w' h => ⟨h.1, h.2.below⟩
set_option maxHeartbeats 8000000 in
set_option maxRecDepth 100000 in
theorem plain_put {v8 : Value} {B : Nat} (w : World) (l8 : List Int) (h8 : Kd.V (Kd.int .u8) 0 w 0 (fun k => k < B) v8 l8) (hB : B ≤ w.heap.size) (hby : Bytes l8) (hL : Lim l8) :
 Calls Tryd.prog 109 #[.agg #[], .agg (pk 33 0 0 (.slice none 0 0) 0 0 (.slice none 0 0) (.slice none 0 0) v8 (.slice none 0 0))] w fun e w' => ∃ v, e = .returned (.tuple #[v, .int .i64 0]) ∧ Rd (Kd.int .u8) w' v l8 ∧ Below w.heap.size w w' := by
 have hu29 := Tryd.underlying29
 have hu113 := Tryd.underlying113
 have pone := Aside0.mk (pk_one (a0 := 33) (a1 := 0) (a2 := 0) (a4 := 0) (a5 := 0) (v3 := .slice none 0 0) (v6 := .slice none 0 0) (v7 := .slice none 0 0) (v9 := .slice none 0 0) rfl rfl rfl (rd_one (rd_of_v h8)) rfl)
 obtain ⟨ks, hs⟩ := Ev.rounds (Same20 33 0 0 [] 0 0 [] [] l8 [] 33 0 0 [] 0 0 [] [] l8 [] ⟨fun _ h => by simp at h, Bytes.nil, Bytes.nil, hby, by unfold Lim; simp⟩ ⟨fun _ h => by simp at h, Bytes.nil, Bytes.nil, hby, by unfold Lim; simp⟩)
 rw [same_self] at hs
 have HS := Aside0.mk hs
 have HC := Aside0.mk (Clone l8 hL)
 have R8 := Aside0.mk h8
 have HBs := Aside0.mk hB
 clear hs hby hL hB
 obtain ⟨A8, c8, rfl, n8, f8⟩ := h8
 clear n8 f8
 have HB := Aside0.mk (Below.refl w.heap.size w)
 go_enter Tryd.func109, Tryd.ntmps109
 go_wp2_with (first | ((with_reducible refine gate_dst (N := 2) rfl ?_); refine gate_guard (by rfl) ?_; refine ev_box rfl rfl (cs := #[]) (by rfl) ?_; intro g_k hg w1 hn hb; have G_k := Aside0.mk (show w.heap.size ≤ g_k from by rw [hg]; exact below_size HB.out); replace R8 := Aside0.mk (R8.out.old2 hb); replace HB := Aside0.mk (below_step HB.out hb); clear hb; have B_k := Aside0.mk hn; clear hn hg) | ((with_reducible refine gate_dst (N := 3) rfl ?_); refine gate_guard (by rfl) ?_; refine ev_box rfl rfl (cs := (pk 33 0 0 (.slice none 0 0) 0 0 (.slice none 0 0) (.slice none 0 0) (.slice A8 l8.length c8) (.slice none 0 0))) (by rfl) ?_; intro g_p hg w2 hn hb; have N_k_p := Aside0.mk (show g_k ≠ g_p from by rw [hg]; exact Nat.ne_of_lt (blk_lt B_k.out)); have N_p_k := Aside0.mk (N_k_p.out).symm; have G_p := Aside0.mk (show w.heap.size ≤ g_p from by rw [hg]; exact below_size HB.out); replace B_k := Aside0.mk (blk_below B_k.out hb); replace R8 := Aside0.mk (R8.out.old2 hb); replace HB := Aside0.mk (below_step HB.out hb); clear hb; have B_p := Aside0.mk hn; clear hn hg) | ((with_reducible refine gate_dst (N := 8) rfl ?_); refine gate_guard (by rfl) ?_; refine ev_loadf rfl rfl rfl B_p.out rfl Tryd.underlying22 rfl ?_) | ((with_reducible refine gate_dst (N := 10) rfl ?_); refine gate_guard (by rfl) ?_; refine ev_loadf rfl rfl rfl B_p.out rfl Tryd.underlying24 rfl ?_) | ((with_reducible refine gate_dst (N := 6) rfl ?_); refine gate_guard (by rfl) ?_; refine box_event rfl (N := 6) rfl (cs := #[.int .u16 0, .int .u8 0, .int .u8 0, .slice none 0 0, .int .u16 0, .int .u32 0, .slice none 0 0, .slice none 0 0, .slice none 0 0, .slice none 0 0]) (t := 29) (by first | (go_simp; done) | (go_simp; rfl)) ?_; intro g_b hg w3 hn hb; have N_k_b := Aside0.mk (show g_k ≠ g_b from by rw [hg]; exact Nat.ne_of_lt (blk_lt B_k.out)); have N_b_k := Aside0.mk (N_k_b.out).symm; have N_p_b := Aside0.mk (show g_p ≠ g_b from by rw [hg]; exact Nat.ne_of_lt (blk_lt B_p.out)); have N_b_p := Aside0.mk (N_p_b.out).symm; have G_b := Aside0.mk (show w.heap.size ≤ g_b from by rw [hg]; exact below_size HB.out); replace B_k := Aside0.mk (blk_below B_k.out hb); replace B_p := Aside0.mk (blk_below B_p.out hb); replace R8 := Aside0.mk (R8.out.old2 hb); replace HB := Aside0.mk (below_step HB.out hb); clear hb; have B_b := Aside0.mk hn; clear hn hg) | ((with_reducible refine gate_store (p := 6) rfl ?_); refine ev_store rfl rfl rfl (cells := (pk 33 0 0 (.slice none 0 0) 0 0 (.slice none 0 0) (.slice none 0 0) (.slice A8 l8.length c8) (.slice none 0 0))) rfl B_b.out rfl (by kernel_rfl) pone.out ?_; intro w4 hn ho; replace B_k := Aside0.mk (blk_only B_k.out ho N_k_b.out); replace B_p := Aside0.mk (blk_only B_p.out ho N_p_b.out); replace B_b := Aside0.mk hn; replace R8 := Aside0.mk (R8.out.only2 ho (fun k hk => by have h1 := G_b.out; have h2 := HBs.out; omega)); replace HB := Aside0.mk (below_only HB.out ho G_b.out); clear hn ho) | ((with_reducible refine gate_dst (N := 12) rfl ?_); refine gate_guard (by rfl) ?_; refine ev_load rfl rfl rfl B_p.out Tryd.underlying29 rfl (by kernel_rfl) ?_) | ((with_reducible refine gate_dst (N := 13) rfl ?_); refine gate_guard (by rfl) ?_; refine ev_load rfl rfl rfl B_b.out Tryd.underlying29 rfl (by kernel_rfl) ?_) | ((with_reducible refine gate_dst (N := 14) rfl ?_); refine gate_guard (by rfl) ?_; refine goesL_ (some 14) rfl rfl Tryd.func25 (by kernel_rfl) rfl #[.agg (pk 33 0 0 (.slice none 0 0) 0 0 (.slice none 0 0) (.slice none 0 0) (.slice A8 l8.length c8) (.slice none 0 0)), .agg (pk 33 0 0 (.slice none 0 0) 0 0 (.slice none 0 0) (.slice none 0 0) (.slice A8 l8.length c8) (.slice none 0 0))] rfl (by first | rfl | (simp only [List.map_toArray, List.map_cons, List.map_nil]; done) | (simp only [List.map_toArray, List.map_cons, List.map_nil]; rfl)) ?_; refine (same_calls (plain_in R8.out) (plain_in R8.out) HS.out).mono ?_; rintro e w5 ⟨rfl, hb⟩; refine ⟨_, rfl, ?_⟩; replace B_k := Aside0.mk (blk_below B_k.out hb); replace B_p := Aside0.mk (blk_below B_p.out hb); replace B_b := Aside0.mk (blk_below B_b.out hb); replace R8 := Aside0.mk (R8.out.old2 hb); replace HB := Aside0.mk (below_step HB.out hb); clear hb) | ((with_reducible refine gate_dst (N := 17) rfl ?_); refine gate_guard (by rfl) ?_; refine ev_loadf rfl rfl rfl B_p.out rfl Tryd.underlying24 rfl ?_) | ((with_reducible refine gate_dst (N := 18) rfl ?_); refine gate_guard (by rfl) ?_; refine goesL_ (some 18) rfl rfl Tryd.func69 (by kernel_rfl) rfl #[.slice A8 l8.length c8] rfl (by first | rfl | (simp only [List.map_toArray, List.map_cons, List.map_nil]; done) | (simp only [List.map_toArray, List.map_cons, List.map_nil]; rfl)) ?_; refine (clone_calls R8.out HC.out).mono ?_; rintro e w6 ⟨v_, rfl, hv, hb⟩; refine ⟨_, rfl, ?_⟩; have RV := Aside0.mk hv; clear hv; replace B_k := Aside0.mk (blk_below B_k.out hb); replace B_p := Aside0.mk (blk_below B_p.out hb); replace B_b := Aside0.mk (blk_below B_b.out hb); replace R8 := Aside0.mk (R8.out.old2 hb); replace HB := Aside0.mk (below_step HB.out hb); clear hb))
 go_ret2
 exact ⟨_, rfl, RV.out, HB.out⟩
def T26 : Bool × List (List Nat × List Nat) := (true, [([], []), ([0], [0]), ([1], [1]), ([], []), ([2, 3, 2], [2, 3]), ([4], [4]), ([4], [4]), ([5, 4, 0, 1, 2, 3, 4, 5, 6], [5]), ([6, 7, 0, 1, 2, 3, 4, 5, 6, 7], [6])])
def B26 : List Nat := [0, 1, 3, 0, 15, 31, 31, 127, 255]
theorem tab26 : rtab .any (opsOf Tryd.f26 3) = T26 := by kernel_rfl
theorem bits26 : waitsOk T26.2 B26 = true := by kernel_rfl
set_option maxHeartbeats 8000000 in
set_option maxRecDepth 100000 in
theorem put33 {v8 : Value} (w : World) (l8 : List Int) (hA : GA w) (h8 : Kd.V (Kd.int .u8) 0 w 0 (fun k => k < w.heap.size) v8 l8) (hby : Bytes l8) (hL : Lim l8) :
 Calls Tryd.prog 26 #[.agg (pk 33 0 0 (.slice none 0 0) 0 0 (.slice none 0 0) (.slice none 0 0) v8 (.slice none 0 0))] w fun e w' => ∃ v, e = .returned (.tuple #[v, .int .i64 0]) ∧ Rd (Kd.int .u8) w' v l8 ∧ Below w.heap.size w w' := by
 have hu29 := Tryd.underlying29
 have HA := Aside0.mk hA
 have R8 := Aside0.mk h8
 have HBy := Aside0.mk hby
 have HL := Aside0.mk hL
 clear hA h8 hby hL
 have HB := Aside0.mk (Below.refl w.heap.size w)
 go_enter Tryd.func26, Tryd.ntmps26
 go_upto_region 3 with (first | ((with_reducible refine gate_dst (N := 1) rfl ?_); refine gate_guard (by rfl) ?_; refine ev_box rfl rfl (cs := (pk 33 0 0 (.slice none 0 0) 0 0 (.slice none 0 0) (.slice none 0 0) v8 (.slice none 0 0))) (by rfl) ?_; intro g_p hg w1 hn hb; have G_p := Aside0.mk (show w.heap.size ≤ g_p from by rw [hg]; exact below_size HB.out); replace R8 := Aside0.mk (R8.out.old2 hb); replace HB := Aside0.mk (below_step HB.out hb); clear hb; have B_p := Aside0.mk hn; clear hn hg) | ((with_reducible refine gate_dst (N := 5) rfl ?_); refine gate_guard (by rfl) ?_; refine ev_loadf rfl rfl rfl B_p.out rfl Tryd.underlying22 rfl ?_) | (go_at_call 44; refine (right_calls _ _ _ rfl).mono ?_; rintro e wr ⟨rfl, hb⟩; replace B_p := Aside0.mk (blk_below B_p.out hb); replace R8 := Aside0.mk (R8.out.old2 hb); replace HB := Aside0.mk (below_step HB.out hb); clear hb))
 replace B_p := Aside0.mk (blk_drew B_p.out)
 replace R8 := Aside0.mk (R8.out.old2 (below_drew (Below.refl _ _)))
 replace HB := Aside0.mk (below_drew1 HB.out)
 refine start_ (n := 9) (S := fun w' => w'.cell? ⟨g_p, 0, none⟩ = some (.int .u16 33) ∧ w'.cell? ⟨g_p, 1, none⟩ = some (.int .u8 0) ∧ w'.cell? ⟨g_p, 2, none⟩ = some (.int .u8 0) ∧ w'.cell? ⟨g_p, 3, none⟩ = some ((.slice none 0 0)) ∧ w'.cell? ⟨g_p, 4, none⟩ = some (.int .u16 0) ∧ w'.cell? ⟨g_p, 5, none⟩ = some (.int .u32 0) ∧ w'.cell? ⟨g_p, 6, none⟩ = some ((.slice none 0 0)) ∧ w'.cell? ⟨g_p, 7, none⟩ = some ((.slice none 0 0)) ∧ w'.cell? ⟨g_p, 8, none⟩ = some (v8) ∧ w'.cell? ⟨g_p, 9, none⟩ = some ((.slice none 0 0))) (ds := []) #[false, false, false, false, false, false, false, false, false] (by kernel_rfl) rfl rfl ⟨(blk_cell B_p.out 0).trans rfl, (blk_cell B_p.out 1).trans rfl, (blk_cell B_p.out 2).trans rfl, (blk_cell B_p.out 3).trans rfl, (blk_cell B_p.out 4).trans rfl, (blk_cell B_p.out 5).trans rfl, (blk_cell B_p.out 6).trans rfl, (blk_cell B_p.out 7).trans rfl, (blk_cell B_p.out 8).trans rfl, (blk_cell B_p.out 9).trans rfl⟩ (fun hHeld => ?_)
 refine with_tabW tab26 bits26 (fun HT_ HW_ => ?_)
 generalize wr.drew = wd at B_p R8 HB hHeld ⊢
 refine pure_ (i := 0) (N := some 8) (v := ?_) (a' := ?_) #[true, false, false, false, false, false, false, false, false] rfl rfl (any_of HT_.out (by kernel_rfl)) (fun _ _ _ h => h) (Or.inl ⟨by rfl, ?_⟩) ?_ ?_
 rotate_left
 · intro w'
   go_simp
   try with_reducible rfl
 rotate_left
 · simp only [Act.put, List.setIfInBounds_toArray, List.set_cons_zero, List.set_cons_succ, i64_w, i32_w]
   rfl
 refine take_ (i := 1) (N := some 9) (v := ?_) (a' := ?_) #[true, true, false, false, false, false, false, false, false] rfl rfl (take_ofW HT_.out HW_.out (by kernel_rfl)) (fun _ _ _ h => h) (Or.inl ⟨by rfl, ?_⟩) hHeld ?_ ?_
 rotate_left
 · rintro w' ⟨s0, s1, s2, s3, s4, s5, s6, s7, s8, s9⟩
   go_simp
   try with_reducible rfl
 rotate_left
 · simp only [Act.put, List.setIfInBounds_toArray, List.set_cons_zero, List.set_cons_succ, i64_w, i32_w]
   rfl
 refine take_ (i := 3) (N := some 11) (v := ?_) (a' := ?_) #[true, true, false, true, false, false, false, false, false] rfl rfl (take_ofW HT_.out HW_.out (by kernel_rfl)) (fun _ _ _ h => h) (Or.inl ⟨by rfl, ?_⟩) hHeld ?_ ?_
 rotate_left
 · rintro w' ⟨s0, s1, s2, s3, s4, s5, s6, s7, s8, s9⟩
   go_simp
   try with_reducible rfl
 rotate_left
 · simp only [Act.put, List.setIfInBounds_toArray, List.set_cons_zero, List.set_cons_succ, i64_w, i32_w]
   rfl
 refine one_ (i := 2) (N := some 10) #[true, true, true, true, false, false, false, false, false] rfl rfl (one_of HT_.out (by kernel_rfl)) (by decide) (fun K hK => ?_)
 refine goes_ Tryd.func45 (by kernel_rfl) rfl #[.int .u16 33] (by rfl) rfl rfl (by first | rfl | (simp only [List.map_toArray, List.map_cons, List.map_nil]; done) | (simp only [List.map_toArray, List.map_cons, List.map_nil]; rfl)) ?_
 refine (of33 _ (HA.out.below HB.out)).mono ?_
 rintro e w1 ⟨rfl, hb⟩
 refine ⟨_, rfl, ?_⟩
 replace B_p := Aside0.mk (blk_below B_p.out hb)
 replace R8 := Aside0.mk (R8.out.old2 hb)
 replace HB := Aside0.mk (below_step HB.out hb)
 clear hb
 refine hK.out _ _ ⟨(blk_cell B_p.out 0).trans rfl, (blk_cell B_p.out 1).trans rfl, (blk_cell B_p.out 2).trans rfl, (blk_cell B_p.out 3).trans rfl, (blk_cell B_p.out 4).trans rfl, (blk_cell B_p.out 5).trans rfl, (blk_cell B_p.out 6).trans rfl, (blk_cell B_p.out 7).trans rfl, (blk_cell B_p.out 8).trans rfl, (blk_cell B_p.out 9).trans rfl⟩ (fun hHeld => ?_)
 clear hK K
 refine norm_ (a' := ?_) ?_ ?_
 rotate_left
 · show Act.put _ (some 10) _ = _
   simp only [Act.put, List.setIfInBounds_toArray, List.set_cons_zero, List.set_cons_succ, i64_w, i32_w]
   rfl
 refine one_ (i := 4) (N := some 12) #[true, true, true, true, true, false, false, false, false] rfl rfl (one_of HT_.out (by kernel_rfl)) (by decide) (fun K hK => ?_)
 refine call_ 109 #[.agg #[], .agg (pk 33 0 0 (.slice none 0 0) 0 0 (.slice none 0 0) (.slice none 0 0) v8 (.slice none 0 0))] (by rfl) rfl (by go_simp; try rfl) ?_
 refine (plain_put _ l8 R8.out HB.out.size HBy.out HL.out).mono ?_
 rintro e w2 ⟨v_, rfl, hv, hb⟩
 refine ⟨_, rfl, ?_⟩
 have RV := Aside0.mk hv
 clear hv
 replace B_p := Aside0.mk (blk_below B_p.out hb)
 replace R8 := Aside0.mk (R8.out.old2 hb)
 replace HB := Aside0.mk (below_step HB.out hb)
 clear hb
 refine hK.out _ _ ⟨(blk_cell B_p.out 0).trans rfl, (blk_cell B_p.out 1).trans rfl, (blk_cell B_p.out 2).trans rfl, (blk_cell B_p.out 3).trans rfl, (blk_cell B_p.out 4).trans rfl, (blk_cell B_p.out 5).trans rfl, (blk_cell B_p.out 6).trans rfl, (blk_cell B_p.out 7).trans rfl, (blk_cell B_p.out 8).trans rfl, (blk_cell B_p.out 9).trans rfl⟩ (fun hHeld => ?_)
 clear hK K
 refine norm_ (a' := ?_) ?_ ?_
 rotate_left
 · show Act.put _ (some 12) _ = _
   simp only [Act.put, List.setIfInBounds_toArray, List.set_cons_zero, List.set_cons_succ, i64_w, i32_w]
   rfl
 refine pure_ (i := 5) (N := some 13) (v := ?_) (a' := ?_) #[true, true, true, true, true, true, false, false, false] rfl rfl (any_of HT_.out (by kernel_rfl)) (fun _ _ _ h => h) (Or.inl ⟨by rfl, ?_⟩) ?_ ?_
 rotate_left
 · intro w'
   go_simp
   try with_reducible rfl
 rotate_left
 · simp only [Act.put, List.setIfInBounds_toArray, List.set_cons_zero, List.set_cons_succ, i64_w, i32_w]
   rfl
 refine pure_ (i := 6) (N := some 14) (v := ?_) (a' := ?_) #[true, true, true, true, true, true, true, false, false] rfl rfl (any_of HT_.out (by kernel_rfl)) (fun _ _ _ h => h) (Or.inl ⟨by rfl, ?_⟩) ?_ ?_
 rotate_left
 · intro w'
   go_simp
   try with_reducible rfl
 rotate_left
 · simp only [Act.put, List.setIfInBounds_toArray, List.set_cons_zero, List.set_cons_succ, i64_w, i32_w]
   rfl
 refine pure_ (i := 7) (N := some 2) (v := ?_) (a' := ?_) #[true, true, true, true, true, true, true, true, false] rfl rfl (any_of HT_.out (by kernel_rfl)) (fun _ _ _ h => h) (Or.inl ⟨by rfl, ?_⟩) ?_ ?_
 rotate_left
 · intro w'
   go_simp
   try with_reducible rfl
 rotate_left
 · simp only [Act.put, List.setIfInBounds_toArray, List.set_cons_zero, List.set_cons_succ, i64_w, i32_w]
   rfl
 refine pure_ (i := 8) (N := some 3) (v := ?_) (a' := ?_) #[true, true, true, true, true, true, true, true, true] rfl rfl (any_of HT_.out (by kernel_rfl)) (fun _ _ _ h => h) (Or.inl ⟨by rfl, ?_⟩) ?_ ?_
 rotate_left
 · intro w'
   go_simp
   try with_reducible rfl
 rotate_left
 · simp only [Act.put, List.setIfInBounds_toArray, List.set_cons_zero, List.set_cons_succ, i64_w, i32_w]
   rfl
 refine done_ (done_of HT_.out (by kernel_rfl)) ?_
 try go_wp2
 go_ret2
 exact ⟨_, rfl, RV.out, HB.out⟩
end Go.Proofs.YteanncchmenlkaaDoor.Hw
namespace Go.Proofs.YteanncchmenlkaaDoor.Hw
open Go.RowKit Go.Proofs.YteanncchmenlkaaDoorW.PrintWords Go.Proofs.YteanncchmenlkaaDoorW.PrintLast Go.Proofs.YteanncchmenlkaaDoorW.PrintMore Go.Proofs.YteanncchmenlkaaDoor.Print Go.Proofs.YteanncchmenlkaaDoor.Sp Go.Proofs.YteanncchmenlkaaDoor.Pl
set_option linter.unusedVariables false
set_option linter.unusedSimpArgs false
section
variable {P : Program} {ops : Array Oper} {o : Oper} {rest : List Oper} {a : Act} {Q : Exit → Act → World → Prop} {W : World} {g j : Nat} {t ty : TypeId} {cs cells : Array Value} {x y : Operand} {d : TypeDesc}
theorem ev_loads (hgd : o.guard = none) (ho : o.op = .load ty x) (hx : a.eval x = .pointer (some ⟨g, j, none⟩)) (hb : W.heap[g]? = some (.cells cs t (0, 0))) (hsub : (cs.toList.drop j).take cells.size = cells.toList)
 (hu : P.underlying ty = some d) (hd : d.isRow = true) (hi : (P.info? ty).map (·.size) = some cells.size) (h : wpList P ops Q rest (a.put o.dst (.agg cells)) W) : wpList P ops Q (o :: rest) a W := by
 refine wpList_load_mid hgd ty x ho g j hx cells.toList d (fun i v hv => ?_) hu hd (by simpa using hi) (by simpa using h)
 rw [blk_cell hb (j + i)]
 have hi' : i < cells.size := by simpa using (List.getElem?_eq_some_iff.1 hv).1
 rw [← hsub, List.getElem?_take, if_pos hi', List.getElem?_drop] at hv
 simpa using hv
theorem ev_loadc {p : Addr} {v : Value} (hgd : o.guard = none) (ho : o.op = .load ty x) (hx : a.eval x = .pointer (some p)) (hc : W.cell? p = some v)
 (hu : P.underlying ty = some d) (hd : d.isRow = false) (h : wpList P ops Q rest (a.put o.dst v) W) : wpList P ops Q (o :: rest) a W := by
 have hagg : ∀ w : World, (isAgg ty).run P w = .ok false w := fun w => by
  unfold isAgg
  rw [Sem.run_bind, run_underlying hu w]
  cases d <;> simp_all
 have hrun : (loadVar ty p).run P W = .ok v W := by simp [loadVar, Sem.run_bind, hagg, hc]
 refine wpList_plain hgd fun K hK => ?_
 unfold Oper.wp execOp
 simp only [ho, hx, Instr.loadAt, Instr.sureAddr, Sem.run_bind, Sem.run_pure, Result.andThen_ok, hrun]
 exact hK _ _ h
end
def GS (w : World) : Prop := ∃ (bm : Nat) (es : Array MapEntry) (clock : Nat), w.cell? ⟨0, 0, none⟩ = some (.map (some bm)) ∧ w.heap[bm]? = some (.map es clock) ∧
 (∀ W : World, W.heap[bm]? = some (.map es clock) → (Instr.lookup 96 (.map (some bm)) (.int .u8 9) true).run Tryd.prog W = .ok (.tuple #[.agg #[.bool true, .bool false], .bool true]) W) ∧
 ∀ W : World, W.heap[bm]? = some (.map es clock) → (Instr.lookup 96 (.map (some bm)) (.int .u8 0) true).run Tryd.prog W = .ok (.tuple #[.agg #[.bool false, .bool true], .bool true]) W
theorem GS.below {w w1 : World} (h : GS w) (hb : Below w.heap.size w w1) : GS w1 := by
 obtain ⟨bm, es, clock, h1, h2, h3⟩ := h
 exact ⟨bm, es, clock, (hb.cell (World.block_lt_of_cell? w _ h1)).trans h1, blk_below h2 hb, h3⟩
set_option maxHeartbeats 8000000 in
set_option maxRecDepth 100000 in
theorem right9 (w : World) (hS : GS w) : Calls Tryd.prog 29 #[.int .u8 9, .int .u16 0] w fun e w' => e = .returned (.int .i64 0) ∧ Below w.heap.size w w' := by
 obtain ⟨bm, es, clock, h1, h2, h3, _⟩ := hS
 have hrun := h3 w h2
 clear h3
 have hu94 := Tryd.underlying94
 have HB := Aside0.mk (Below.refl w.heap.size w)
 go_enter Tryd.func29, Tryd.ntmps29
 go_wp2_with (first
  | ((with_reducible refine gate_dst (N := 5) rfl ?_); refine gate_guard (by rfl) ?_; refine box_event rfl (N := 5) rfl (cs := #[.bool false, .bool false]) (t := 94) (by first | (go_simp; done) | (go_simp; rfl)) ?_; intro g_b hg w1 hn hb; have G_b := Aside0.mk (show w.heap.size ≤ g_b from by rw [hg]; exact Nat.le_refl _); replace HB := Aside0.mk hb; have B_b := Aside0.mk hn; clear hn hg hb)
  | ((with_reducible refine gate_store (p := 5) rfl ?_); refine ev_store rfl rfl rfl (cells := #[.bool true, .bool false]) rfl B_b.out rfl (by kernel_rfl) (by simp [show ∀ b, (Value.bool b).oneCell' = true from fun _ => rfl]) ?_; intro w2 hn ho; replace B_b := Aside0.mk hn; replace HB := Aside0.mk (below_only HB.out ho G_b.out); clear hn ho)
  | ((with_reducible refine gate_dst (N := 21) rfl ?_); refine gate_guard (by rfl) ?_; refine ev_loadf rfl rfl rfl B_b.out rfl Tryd.underlying4 rfl ?_))
 go_ret
 exact ⟨rfl, HB.out⟩
set_option maxHeartbeats 8000000 in
set_option maxRecDepth 100000 in
theorem right0 (s : Int) (hs : s ≠ 0) (w : World) (hS : GS w) : Calls Tryd.prog 29 #[.int .u8 0, .int .u16 s] w fun e w' => e = .returned (.int .i64 0) ∧ Below w.heap.size w w' := by
 obtain ⟨bm, es, clock, h1, h2, _, h3⟩ := hS
 have hrun := h3 w h2
 clear h3
 have hs0 : (s == 0) = false := by simpa using hs
 have hs1 : (s != 0) = true := by simpa using hs
 clear hs
 have hu94 := Tryd.underlying94
 have HB := Aside0.mk (Below.refl w.heap.size w)
 go_enter Tryd.func29, Tryd.ntmps29
 go_wp2_with (first
  | ((with_reducible refine gate_dst (N := 5) rfl ?_); refine gate_guard (by rfl) ?_; refine box_event rfl (N := 5) rfl (cs := #[.bool false, .bool false]) (t := 94) (by first | (go_simp; done) | (go_simp; rfl)) ?_; intro g_b hg w1 hn hb; have G_b := Aside0.mk (show w.heap.size ≤ g_b from by rw [hg]; exact Nat.le_refl _); replace HB := Aside0.mk hb; have B_b := Aside0.mk hn; clear hn hg hb)
  | ((with_reducible refine gate_store (p := 5) rfl ?_); refine ev_store rfl rfl rfl (cells := #[.bool false, .bool true]) rfl B_b.out rfl (by kernel_rfl) (by simp [show ∀ b, (Value.bool b).oneCell' = true from fun _ => rfl]) ?_; intro w2 hn ho; replace B_b := Aside0.mk hn; replace HB := Aside0.mk (below_only HB.out ho G_b.out); clear hn ho)
  | ((with_reducible refine gate_dst (N := 29) rfl ?_); refine gate_guard (by rfl) ?_; refine ev_loadf rfl rfl rfl B_b.out rfl Tryd.underlying4 rfl ?_))
 go_ret
 exact ⟨rfl, HB.out⟩
end Go.Proofs.YteanncchmenlkaaDoor.Hw
namespace Go.Proofs.YteanncchmenlkaaDoor.Hw
open Go.RowKit Go.Proofs.YteanncchmenlkaaDoorW.PrintWords Go.Proofs.YteanncchmenlkaaDoorW.PrintLast Go.Proofs.YteanncchmenlkaaDoorW.PrintMore Go.Proofs.YteanncchmenlkaaDoor.Print Go.Proofs.YteanncchmenlkaaDoor.Sp Go.Proofs.YteanncchmenlkaaDoor.Pl
set_option linter.unusedVariables false
set_option linter.unusedSimpArgs false
abbrev fr (c s : Int) (v2 : Value) (q0 q1 q2 : Int) (v3 : Value) (q4 q5 : Int) (v6 v7 v8 v9 : Value) : Array Value := #[.int .u8 c, .int .u16 s, v2, .int .u16 q0, .int .u8 q1, .int .u8 q2, v3, .int .u16 q4, .int .u32 q5, v6, v7, v8, v9]
set_option maxHeartbeats 8000000 in
set_option maxRecDepth 100000 in
theorem eput_long (w : World) (c s q0 q1 q2 q4 q5 : Int) (v2 v3 v6 v7 v8 v9 : Value) (l : List Int)
 (cr : ∀ W, Below w.heap.size w W → Calls Tryd.prog 29 #[.int .u8 c, .int .u16 s] W fun e w' => e = .returned (.int .i64 0) ∧ Below W.heap.size W w')
 (cp : ∀ W, Below w.heap.size w W → Calls Tryd.prog 30 #[.agg (fr c s v2 q0 q1 q2 v3 q4 q5 v6 v7 v8 v9)] W fun e w' => ∃ A c, e = .returned (.tuple #[.slice A l.length c, .int .i64 0]) ∧ Rd (Kd.int .u8) w' (.slice A l.length c) l ∧ Below W.heap.size W w')
 (hl : 1494 < l.length) (hl2 : l.length ≤ 100000) : Calls Tryd.prog 10 #[.agg (fr c s v2 q0 q1 q2 v3 q4 q5 v6 v7 v8 v9)] w fun e w' => e = .returned (.tuple #[.slice none 0 0, .int .i64 3]) ∧ Below w.heap.size w w' := by
 have hu32 := Tryd.underlying32
 have hr := Aside0.mk cr
 have hp := Aside0.mk cp
 have hgt : decide ((1494 : Int) < (l.length : Int)) = true := decide_eq_true (by omega)
 clear cr cp
 have HB := Aside0.mk (Below.refl w.heap.size w)
 go_enter Tryd.func10, Tryd.ntmps10
 go_wp2_with (first | ((with_reducible refine gate_dst (N := 1) rfl ?_); refine gate_guard (by rfl) ?_; refine ev_box rfl rfl (cs := (fr c s v2 q0 q1 q2 v3 q4 q5 v6 v7 v8 v9)) (by rfl) ?_; intro g_f hg w1 hn hb; have G_f := Aside0.mk (show w.heap.size ≤ g_f from by rw [hg]; exact below_size HB.out); replace HB := Aside0.mk (below_step HB.out hb); clear hb; have B_f := Aside0.mk hn; clear hn hg) | ((with_reducible refine gate_dst (N := 9) rfl ?_); refine gate_guard (by rfl) ?_; refine ev_loadf rfl rfl rfl B_f.out rfl Tryd.underlying5 rfl ?_) | ((with_reducible refine gate_dst (N := 11) rfl ?_); refine gate_guard (by rfl) ?_; refine ev_loadf rfl rfl rfl B_f.out rfl Tryd.underlying22 rfl ?_) | ((with_reducible refine gate_dst (N := 12) rfl ?_); refine gate_guard (by rfl) ?_; refine goesL_ (some 12) rfl rfl Tryd.func29 (by kernel_rfl) rfl #[.int .u8 c, .int .u16 s] rfl (by first | rfl | (simp only [List.map_toArray, List.map_cons, List.map_nil]; done) | (simp only [List.map_toArray, List.map_cons, List.map_nil]; rfl)) ?_; refine (hr.out _ HB.out).mono ?_; rintro e w2 ⟨rfl, hb⟩; refine ⟨_, rfl, ?_⟩; replace B_f := Aside0.mk (blk_below B_f.out hb); replace HB := Aside0.mk (below_step HB.out hb); clear hb) | ((with_reducible refine gate_dst (N := 17) rfl ?_); refine gate_guard (by rfl) ?_; refine ev_load rfl rfl rfl B_f.out Tryd.underlying32 rfl (by kernel_rfl) ?_) | ((with_reducible refine gate_dst (N := 18) rfl ?_); refine gate_guard (by rfl) ?_; refine goesL_ (some 18) rfl rfl Tryd.func30 (by kernel_rfl) rfl #[.agg (fr c s v2 q0 q1 q2 v3 q4 q5 v6 v7 v8 v9)] rfl (by first | rfl | (simp only [List.map_toArray, List.map_cons, List.map_nil]; done) | (simp only [List.map_toArray, List.map_cons, List.map_nil]; rfl)) ?_; refine (hp.out _ HB.out).mono ?_; rintro e w3 ⟨A_, c_, rfl, hv, hb⟩; refine ⟨_, rfl, ?_⟩; have F_V := Aside0.mk hv; clear hv; replace B_f := Aside0.mk (blk_below B_f.out hb); replace HB := Aside0.mk (below_step HB.out hb); clear hb))
 go_ret2
 exact ⟨rfl, HB.out⟩
set_option maxHeartbeats 8000000 in
set_option maxRecDepth 100000 in
theorem eput_at (w : World) (c s q0 q1 q2 q4 q5 : Int) (v2 v3 v6 v7 v8 v9 : Value) (l : List Int) (hc : 0 ≤ c ∧ c ≤ 255) (hs : 0 ≤ s ∧ s ≤ 65535)
 (cr : ∀ W, Below w.heap.size w W → Calls Tryd.prog 29 #[.int .u8 c, .int .u16 s] W fun e w' => e = .returned (.int .i64 0) ∧ Below W.heap.size W w')
 (cp : ∀ W, Below w.heap.size w W → Calls Tryd.prog 30 #[.agg (fr c s v2 q0 q1 q2 v3 q4 q5 v6 v7 v8 v9)] W fun e w' => ∃ A c, e = .returned (.tuple #[.slice A l.length c, .int .i64 0]) ∧ Rd (Kd.int .u8) w' (.slice A l.length c) l ∧ Below W.heap.size W w')
 (hl : l.length ≤ 1494) : Calls Tryd.prog 10 #[.agg (fr c s v2 q0 q1 q2 v3 q4 q5 v6 v7 v8 v9)] w fun e w' => ∃ g cap, e = .returned (.tuple #[.slice (some ⟨g, 0, none⟩) (([17, c] ++ be 2 s ++ be 2 l.length) ++ l).length cap, .int .i64 0]) ∧ (([17, c] ++ be 2 s ++ be 2 l.length) ++ l).length ≤ cap ∧ Rd (Kd.int .u8) w' (.slice (some ⟨g, 0, none⟩) (([17, c] ++ be 2 s ++ be 2 l.length) ++ l).length cap) (([17, c] ++ be 2 s ++ be 2 l.length) ++ l) ∧ Below w.heap.size w w' := by
 have hu32 := Tryd.underlying32
 have hr := Aside0.mk cr
 have hp := Aside0.mk cp
 obtain ⟨k1, h1⟩ := Ev.rounds (WPut [17, c] s hs.1 2 (by decide) (by simp))
 obtain ⟨k2, h2⟩ := Ev.rounds (WPut ([17, c] ++ be 2 s) l.length (by omega) 2 (by decide) (by simp [be_length]))
 have HW1 := Aside0.mk h1
 have HW2 := Aside0.mk h2
 have hgt : decide ((1494 : Int) < (l.length : Int)) = false := decide_eq_false (by omega)
 have hl0 : (0 : Int) ≤ (l.length : Int) := by omega
 have hl1 : (l.length : Int) ≤ 1494 := by omega
 obtain ⟨hs0, hs1⟩ := hs
 obtain ⟨hc0, hc1⟩ := hc
 have HLEN := Aside0.mk (show l.length ≤ 1494 ∧ (be 2 s).length = 2 ∧ (be 2 (l.length : Int)).length = 2 from ⟨hl, be_length _ _, be_length _ _⟩)
 clear cr cp h1 h2 hl
 have HB := Aside0.mk (Below.refl w.heap.size w)
 go_enter Tryd.func10, Tryd.ntmps10
 go_wp2_with (first | ((with_reducible refine gate_dst (N := 1) rfl ?_); refine gate_guard (by rfl) ?_; refine ev_box rfl rfl (cs := (fr c s v2 q0 q1 q2 v3 q4 q5 v6 v7 v8 v9)) (by rfl) ?_; intro g_f hg w1 hn hb; have G_f := Aside0.mk (show w.heap.size ≤ g_f from by rw [hg]; exact below_size HB.out); replace HB := Aside0.mk (below_step HB.out hb); clear hb; have B_f := Aside0.mk hn; clear hn hg) | ((with_reducible refine gate_dst (N := 9) rfl ?_); refine gate_guard (by rfl) ?_; refine ev_loadf rfl rfl rfl B_f.out rfl Tryd.underlying5 rfl ?_) | ((with_reducible refine gate_dst (N := 11) rfl ?_); refine gate_guard (by rfl) ?_; refine ev_loadf rfl rfl rfl B_f.out rfl Tryd.underlying22 rfl ?_) | ((with_reducible refine gate_dst (N := 12) rfl ?_); refine gate_guard (by rfl) ?_; refine goesL_ (some 12) rfl rfl Tryd.func29 (by kernel_rfl) rfl #[.int .u8 c, .int .u16 s] rfl (by first | rfl | (simp only [List.map_toArray, List.map_cons, List.map_nil]; done) | (simp only [List.map_toArray, List.map_cons, List.map_nil]; rfl)) ?_; refine (hr.out _ HB.out).mono ?_; rintro e w2 ⟨rfl, hb⟩; refine ⟨_, rfl, ?_⟩; replace B_f := Aside0.mk (blk_below B_f.out hb); replace HB := Aside0.mk (below_step HB.out hb); clear hb) | ((with_reducible refine gate_dst (N := 17) rfl ?_); refine gate_guard (by rfl) ?_; refine ev_load rfl rfl rfl B_f.out Tryd.underlying32 rfl (by kernel_rfl) ?_) | ((with_reducible refine gate_dst (N := 18) rfl ?_); refine gate_guard (by rfl) ?_; refine goesL_ (some 18) rfl rfl Tryd.func30 (by kernel_rfl) rfl #[.agg (fr c s v2 q0 q1 q2 v3 q4 q5 v6 v7 v8 v9)] rfl (by first | rfl | (simp only [List.map_toArray, List.map_cons, List.map_nil]; done) | (simp only [List.map_toArray, List.map_cons, List.map_nil]; rfl)) ?_; refine (hp.out _ HB.out).mono ?_; rintro e w3 ⟨A_, c_, rfl, hv, hb⟩; refine ⟨_, rfl, ?_⟩; have F_V := Aside0.mk hv; clear hv; replace B_f := Aside0.mk (blk_below B_f.out hb); replace HB := Aside0.mk (below_step HB.out hb); clear hb) | ((with_reducible refine gate_dst (N := 30) rfl ?_); refine gate_guard (by rfl) ?_; refine ev_loadf rfl rfl rfl B_f.out rfl Tryd.underlying5 rfl ?_) | ((with_reducible refine gate_dst (N := 31) rfl ?_); refine gate_guard (by rfl) ?_; refine Kd.R_lit (Kd.int .u8) _ 5 rfl (N := 31) rfl (xs := ([17, c] : List Int)) (inner := [.int .u8 17, .int .u8 c]) (ok := fun _ => True) (okp := fun _ => False) (by first | (go_simp; done) | (go_simp; rfl)) (Reps.one (show Kd.M (Kd.int .u8) _ _ _ 17 [.int .u8 17] from rfl) (Reps.one (show Kd.M (Kd.int .u8) _ _ _ c [.int .u8 c] from rfl) (Reps.none _ _))) (fun _ hk => hk.elim) trivial (Below.refl _ _) (Nat.le_refl _) (by simp) ?_; intro v_ w4 hn hb hg1 hg2; clear hg1 hg2; have F_N := Aside0.mk hn; have HL := Aside0.mk hb; replace B_f := Aside0.mk (blk_below B_f.out hb); clear hn hb) | ((with_reducible refine gate_dst (N := 33) rfl ?_); refine gate_guard (by rfl) ?_; refine ev_loadf rfl rfl rfl B_f.out rfl Tryd.underlying22 rfl ?_) | ((with_reducible refine gate_dst (N := 35) rfl ?_); refine gate_guard (by rfl) ?_; refine goesL_ (some 35) rfl rfl Tryd.func31 (by kernel_rfl) rfl #[v_, .int .u64 s, .int .i64 2] rfl (by first | rfl | (simp only [List.map_toArray, List.map_cons, List.map_nil]; done) | (simp only [List.map_toArray, List.map_cons, List.map_nil]; rfl)) ?_; refine (wire_Put.calls _ _ _ [17, c] s 2 _ w3 _ HL.out F_N.out HW1.out).mono ?_; rintro e w5 ⟨vn, rfl, hr, hb, hk⟩; refine ⟨_, rfl, ?_⟩; replace F_N := Aside0.mk hr; replace HL := Aside0.mk hb; clear hr hb hk) | ((with_reducible refine gate_dst (N := 40) rfl ?_); refine gate_guard (by rfl) ?_; refine goesL_ (some 40) rfl rfl Tryd.func31 (by kernel_rfl) rfl #[vn, .int .u64 l.length, .int .i64 2] rfl (by first | rfl | (simp only [List.map_toArray, List.map_cons, List.map_nil]; done) | (simp only [List.map_toArray, List.map_cons, List.map_nil]; rfl)) ?_; refine (wire_Put.calls _ _ _ ([17, c] ++ be 2 s) l.length 2 _ w3 _ HL.out F_N.out HW2.out).mono ?_; rintro e w6 ⟨vn, rfl, hr, hb, hk⟩; refine ⟨_, rfl, ?_⟩; replace F_N := Aside0.mk hr; replace HL := Aside0.mk hb; clear hr hb hk) | ((with_reducible refine gate_dst (N := 42) rfl ?_); refine gate_guard (by rfl) ?_; have hlen := HLEN.out; refine Kd.N_append_rows (Kd.int .u8) (w0 := w3) w3.heap.size rfl (.tmp 40) (.tmp 41) 24 5 (.int .u8 0) 1 rfl Tryd.underlying24 info5 rfl (by decide) (by decide) _ _ l _ _ _ _ (fun k => True ∧ k < w3.heap.size) rfl rfl (Kd.R_N F_N.out) (Kd.V_F (Kd.V_old F_V.out HL.out)) (fun k hk => ⟨Or.inl (Or.inl trivial), fun he => by have h1 := Kd.N_base (Kd.R_N F_N.out) k he.symm; have h2 := hk.2; omega⟩) (fun k hk => Or.inl (Or.inl trivial)) HL.out HL.out.size (by simp only [List.length_cons, List.length_nil, List.length_append]; omega) ?_; intro v1 w7 hn hb hg1 hg2; clear hg1 hg2 hlen; have F_R := Aside0.mk (rd_of_n hn); have F_NR := Aside0.mk hn; replace HL := Aside0.mk hb; clear hn hb))
 have hN := F_NR.out
 obtain ⟨g, cap, rfl, _⟩ := Kd.N_form hN (by simp only [List.length_append, List.length_cons, List.length_nil]; omega)
 have hc2 := (Kd.N_reads' hN).2.1
 go_ret2
 exact ⟨g, cap, rfl, hc2, F_R.out, below_step HB.out HL.out⟩
theorem eput (w : World) (c s q0 q1 q2 q4 q5 : Int) (v2 v3 v6 v7 v8 v9 : Value) (l : List Int) (hc : 0 ≤ c ∧ c ≤ 255) (hs : 0 ≤ s ∧ s ≤ 65535)
 (cr : ∀ W, Below w.heap.size w W → Calls Tryd.prog 29 #[.int .u8 c, .int .u16 s] W fun e w' => e = .returned (.int .i64 0) ∧ Below W.heap.size W w')
 (cp : ∀ W, Below w.heap.size w W → Calls Tryd.prog 30 #[.agg (fr c s v2 q0 q1 q2 v3 q4 q5 v6 v7 v8 v9)] W fun e w' => ∃ A c, e = .returned (.tuple #[.slice A l.length c, .int .i64 0]) ∧ Rd (Kd.int .u8) w' (.slice A l.length c) l ∧ Below W.heap.size W w')
 (hl : l.length ≤ 1494) : Calls Tryd.prog 10 #[.agg (fr c s v2 q0 q1 q2 v3 q4 q5 v6 v7 v8 v9)] w fun e w' => ∃ v, e = .returned (.tuple #[v, .int .i64 0]) ∧ Rd (Kd.int .u8) w' v (([17, c] ++ be 2 s ++ be 2 l.length) ++ l) ∧ Below w.heap.size w w' := by
 refine (eput_at w c s q0 q1 q2 q4 q5 v2 v3 v6 v7 v8 v9 l hc hs cr cp hl).mono ?_
 rintro e w' ⟨g, cap, rfl, _, hr, hb⟩
 exact ⟨_, rfl, hr, hb⟩
end Go.Proofs.YteanncchmenlkaaDoor.Hw
namespace Go.Proofs.YteanncchmenlkaaDoor.Hw
open Go.RowKit Go.Proofs.YteanncchmenlkaaDoorW.PrintWords Go.Proofs.YteanncchmenlkaaDoorW.PrintLast Go.Proofs.YteanncchmenlkaaDoorW.PrintMore Go.Proofs.YteanncchmenlkaaDoor.Print Go.Proofs.YteanncchmenlkaaDoor.Sp Go.Proofs.YteanncchmenlkaaDoor.Pl
set_option linter.unusedVariables false
set_option linter.unusedSimpArgs false
theorem equal_calls {W : World} {u v : Value} {a b : List Int} {k : Nat} {r : Bool} (hu : Rd (Kd.int .u8) W u a) (hv : Rd (Kd.int .u8) W v b) (hf : marlineref01_Equal.f k a b = some r) :
 Calls Tryd.prog 17 #[u, v] W fun e w' => e = .returned (.bool r) ∧ Below W.heap.size W w' := by
 obtain ⟨A, c, rfl, n, f⟩ := hu
 obtain ⟨B, d, rfl, m, g⟩ := hv
 exact (marlineref01_Equal.calls k A c a B d b r W (Kd.F_now f) n (Kd.F_now g) m hf).mono fun e w' h => ⟨h.1, h.2.below⟩
end Go.Proofs.YteanncchmenlkaaDoor.Hw
namespace Go.Proofs.YteanncchmenlkaaDoor.Hw
open Go.RowKit Go.Proofs.YteanncchmenlkaaDoorW.PrintWords Go.Proofs.YteanncchmenlkaaDoorW.PrintLast Go.Proofs.YteanncchmenlkaaDoorW.PrintMore Go.Proofs.YteanncchmenlkaaDoor.Print Go.Proofs.YteanncchmenlkaaDoor.Sp Go.Proofs.YteanncchmenlkaaDoor.Pl
set_option linter.unusedVariables false
set_option linter.unusedSimpArgs false
theorem zero_in (W : World) : PkIn k62 W (.agg (pk 0 0 0 (.slice none 0 0) 0 0 (.slice none 0 0) (.slice none 0 0) (.slice none 0 0) (.slice none 0 0))) 0 0 0 [] 0 0 [] [] [] [] := ⟨_, _, _, _, _, rfl, rd_nil _ _, rd_nil _ _, rd_nil _ _, rd_nil _ _, rd_nil _ _⟩
theorem tput_calls {W : World} {A : Option Addr} {c : Nat} {lt : List S51} {r : List Int} {e : Int} {k : Nat} (h : Rd k51 W (.slice A lt.length c) lt) (hf : tags_Put.f k lt = some (r, e)) :
 Calls Tryd.prog 46 #[.slice A lt.length c] W fun x w' => ∃ A c, x = .returned (.tuple #[.slice A r.length c, .int .i64 e]) ∧ Rd (Kd.int .u8) w' (.slice A r.length c) r ∧ Below W.heap.size W w' := by
 have h2 := Kd.V_reads' h
 refine (tags_Put.calls k A c lt r e W h2.2.2 h2.2.1 hf).mono ?_
 rintro x w' ⟨v, rfl, hv, hb⟩
 have hr := rd_of_n (Kd.R_N hv)
 obtain ⟨A', c', rfl, n, g⟩ := hr
 exact ⟨A', c', rfl, Kd.V_mk n g, hb⟩
set_option maxHeartbeats 8000000 in
set_option maxRecDepth 100000 in
theorem pay9 (w : World) (lt : List S51) (r : List Int) (A2 : Option Addr) (c2 k : Nat) (hf : tags_Put.f k lt = some (r, 0)) (h2 : ∀ W, Below w.heap.size w W → Rd k51 W (.slice A2 lt.length c2) lt) :
 Calls Tryd.prog 30 #[.agg (fr 9 0 (.slice A2 lt.length c2) 0 0 0 (.slice none 0 0) 0 0 (.slice none 0 0) (.slice none 0 0) (.slice none 0 0) (.slice none 0 0))] w fun e w' => ∃ A c, e = .returned (.tuple #[.slice A r.length c, .int .i64 0]) ∧ Rd (Kd.int .u8) w' (.slice A r.length c) r ∧ Below w.heap.size w w' := by
 have hu32 := Tryd.underlying32
 have hu29 := Tryd.underlying29
 obtain ⟨ks, hs⟩ := Ev.rounds (Same20 0 0 0 [] 0 0 [] [] [] [] 0 0 0 [] 0 0 [] [] [] [] ⟨fun _ h => by simp at h, Bytes.nil, Bytes.nil, Bytes.nil, by unfold Lim; simp⟩ ⟨fun _ h => by simp at h, Bytes.nil, Bytes.nil, Bytes.nil, by unfold Lim; simp⟩)
 rw [same_self] at hs
 have HS := Aside0.mk hs
 have HT := Aside0.mk hf
 have ht := Aside0.mk h2
 clear hs hf h2
 have HB := Aside0.mk (Below.refl w.heap.size w)
 go_enter Tryd.func30, Tryd.ntmps30
 go_wp2_with (first | ((with_reducible refine gate_dst (N := 1) rfl ?_); refine gate_guard (by rfl) ?_; refine ev_box rfl rfl (cs := (fr 9 0 (.slice A2 lt.length c2) 0 0 0 (.slice none 0 0) 0 0 (.slice none 0 0) (.slice none 0 0) (.slice none 0 0) (.slice none 0 0))) (by rfl) ?_; intro g_f hg w1 hn hb; have G_f := Aside0.mk (show w.heap.size ≤ g_f from by rw [hg]; exact below_size HB.out); replace HB := Aside0.mk (below_step HB.out hb); clear hb; have B_f := Aside0.mk hn; clear hn hg) | ((with_reducible refine gate_dst (N := 7) rfl ?_); refine gate_guard (by rfl) ?_; refine ev_loadf rfl rfl rfl B_f.out rfl Tryd.underlying5 rfl ?_) | ((with_reducible refine gate_dst (N := 10) rfl ?_); refine gate_guard (by rfl) ?_; refine ev_loads rfl rfl rfl (cells := (pk 0 0 0 (.slice none 0 0) 0 0 (.slice none 0 0) (.slice none 0 0) (.slice none 0 0) (.slice none 0 0))) B_f.out rfl Tryd.underlying29 rfl (by kernel_rfl) ?_) | ((with_reducible refine gate_dst (N := 12) rfl ?_); refine gate_guard (by rfl) ?_; refine goesL_ (some 12) rfl rfl Tryd.func25 (by kernel_rfl) rfl #[.agg (pk 0 0 0 (.slice none 0 0) 0 0 (.slice none 0 0) (.slice none 0 0) (.slice none 0 0) (.slice none 0 0)), .agg (pk 0 0 0 (.slice none 0 0) 0 0 (.slice none 0 0) (.slice none 0 0) (.slice none 0 0) (.slice none 0 0))] rfl (by first | rfl | (simp only [List.map_toArray, List.map_cons, List.map_nil]; done) | (simp only [List.map_toArray, List.map_cons, List.map_nil]; rfl)) ?_; refine (same_calls (zero_in _) (zero_in _) HS.out).mono ?_; rintro e w2 ⟨rfl, hb⟩; refine ⟨_, rfl, ?_⟩; replace B_f := Aside0.mk (blk_below B_f.out hb); replace HB := Aside0.mk (below_step HB.out hb); clear hb) | ((with_reducible refine gate_dst (N := 15) rfl ?_); refine gate_guard (by rfl) ?_; refine ev_loadf rfl rfl rfl B_f.out rfl Tryd.underlying30 rfl ?_) | ((with_reducible refine gate_dst (N := 16) rfl ?_); refine gate_guard (by rfl) ?_; refine goesL_ (some 16) rfl rfl Tryd.func46 (by kernel_rfl) rfl #[.slice A2 lt.length c2] rfl (by first | rfl | (simp only [List.map_toArray, List.map_cons, List.map_nil]; done) | (simp only [List.map_toArray, List.map_cons, List.map_nil]; rfl)) ?_; refine (tput_calls (ht.out _ HB.out) HT.out).mono ?_; rintro e w3 ⟨A_, c_, rfl, hv, hb⟩; refine ⟨_, rfl, ?_⟩; have F_V := Aside0.mk hv; clear hv; replace B_f := Aside0.mk (blk_below B_f.out hb); replace HB := Aside0.mk (below_step HB.out hb); clear hb))
 go_ret2
 exact ⟨_, _, rfl, F_V.out, HB.out⟩
set_option maxHeartbeats 8000000 in
set_option maxRecDepth 100000 in
theorem pay0 (w : World) (s : Int) (l8 : List Int) (v8 : Value) (hA : GA w) (c8 : ∀ W, Below w.heap.size w W → Kd.V (Kd.int .u8) 0 W 0 (fun k => k < w.heap.size) v8 l8) (hby : Bytes l8) (hl : l8.length ≤ 100000) :
 Calls Tryd.prog 30 #[.agg (fr 0 s (.slice none 0 0) 33 0 0 (.slice none 0 0) 0 0 (.slice none 0 0) (.slice none 0 0) v8 (.slice none 0 0))] w fun e w' => ∃ A c, e = .returned (.tuple #[.slice A (([] ++ be 2 33) ++ l8).length c, .int .i64 0]) ∧ Rd (Kd.int .u8) w' (.slice A (([] ++ be 2 33) ++ l8).length c) (([] ++ be 2 33) ++ l8) ∧ Below w.heap.size w w' := by
 have hu32 := Tryd.underlying32
 have hu29 := Tryd.underlying29
 obtain ⟨k1, h1⟩ := Ev.rounds (WPut [] 33 (by decide) 2 (by decide) (by simp))
 have HW1 := Aside0.mk h1
 have h8 := Aside0.mk c8
 have HA := Aside0.mk hA
 have HY := Aside0.mk hby
 have HLm := Aside0.mk (show Lim l8 by unfold Lim; omega)
 have HLEN := Aside0.mk (show l8.length ≤ 100000 ∧ (be 2 33).length = 2 from ⟨hl, be_length _ _⟩)
 clear h1 c8 hA hby hl
 have HB := Aside0.mk (Below.refl w.heap.size w)
 go_enter Tryd.func30, Tryd.ntmps30
 go_wp2_with (first | ((with_reducible refine gate_dst (N := 1) rfl ?_); refine gate_guard (by rfl) ?_; refine ev_box rfl rfl (cs := (fr 0 s (.slice none 0 0) 33 0 0 (.slice none 0 0) 0 0 (.slice none 0 0) (.slice none 0 0) v8 (.slice none 0 0))) (by rfl) ?_; intro g_f hg w1 hn hb; have G_f := Aside0.mk (show w.heap.size ≤ g_f from by rw [hg]; exact below_size HB.out); replace HB := Aside0.mk (below_step HB.out hb); clear hb; have B_f := Aside0.mk hn; clear hn hg) | ((with_reducible refine gate_dst (N := 7) rfl ?_); refine gate_guard (by rfl) ?_; refine ev_loadf rfl rfl rfl B_f.out rfl Tryd.underlying5 rfl ?_) | ((with_reducible refine gate_dst (N := 20) rfl ?_); refine gate_guard (by rfl) ?_; refine ev_loadf rfl rfl rfl B_f.out rfl Tryd.underlying30 rfl ?_) | ((with_reducible refine gate_dst (N := 25) rfl ?_); refine gate_guard (by rfl) ?_; refine ev_loads rfl rfl rfl (cells := (pk 33 0 0 (.slice none 0 0) 0 0 (.slice none 0 0) (.slice none 0 0) v8 (.slice none 0 0))) B_f.out rfl Tryd.underlying29 rfl (by kernel_rfl) ?_) | ((with_reducible refine gate_dst (N := 26) rfl ?_); refine gate_guard (by rfl) ?_; refine goesL_ (some 26) rfl rfl Tryd.func26 (by kernel_rfl) rfl #[.agg (pk 33 0 0 (.slice none 0 0) 0 0 (.slice none 0 0) (.slice none 0 0) v8 (.slice none 0 0))] rfl (by first | rfl | (simp only [List.map_toArray, List.map_cons, List.map_nil]; done) | (simp only [List.map_toArray, List.map_cons, List.map_nil]; rfl)) ?_; refine (put33 _ l8 (HA.out.below HB.out) (Kd.V_mono (h8.out _ HB.out) (fun k hk => Nat.lt_of_lt_of_le hk HB.out.size)) HY.out HLm.out).mono ?_; rintro e w2 ⟨_, rfl, ⟨A_, c_, rfl, hn_, hf_⟩, hb⟩; refine ⟨_, rfl, ?_⟩; have F_V := Aside0.mk (show Rd (Kd.int .u8) _ (.slice A_ l8.length c_) l8 from Kd.V_mk hn_ hf_); clear hn_ hf_; replace B_f := Aside0.mk (blk_below B_f.out hb); replace HB := Aside0.mk (below_step HB.out hb); clear hb) | ((with_reducible refine gate_dst (N := 34) rfl ?_); refine gate_guard (by rfl) ?_; refine ev_loadf rfl rfl rfl B_f.out rfl Tryd.underlying22 rfl ?_) | ((with_reducible refine gate_dst (N := 36) rfl ?_); refine gate_guard (by rfl) ?_; have F_N := Aside0.mk (Kd.R_nil (Kd.int .u8) 5 w2 w2.heap.size (fun _ => True)); have HL := Aside0.mk (Below.refl w2.heap.size w2); refine goesL_ (some 36) rfl rfl Tryd.func31 (by kernel_rfl) rfl #[.slice none 0 0, .int .u64 33, .int .i64 2] rfl (by first | rfl | (simp only [List.map_toArray, List.map_cons, List.map_nil]; done) | (simp only [List.map_toArray, List.map_cons, List.map_nil]; rfl)) ?_; refine (wire_Put.calls _ _ _ [] 33 2 _ w2 _ HL.out F_N.out HW1.out).mono ?_; rintro e w3 ⟨vn, rfl, hr, hb, hk⟩; refine ⟨_, rfl, ?_⟩; replace F_N := Aside0.mk hr; replace HL := Aside0.mk hb; clear hr hb hk) | ((with_reducible refine gate_dst (N := 38) rfl ?_); refine gate_guard (by rfl) ?_; have hlen := HLEN.out; refine Kd.N_append_rows (Kd.int .u8) (w0 := w2) w2.heap.size rfl (.tmp 36) (.tmp 37) 24 5 (.int .u8 0) 1 rfl Tryd.underlying24 info5 rfl (by decide) (by decide) _ _ l8 _ _ _ _ (fun k => True ∧ k < w2.heap.size) rfl rfl (Kd.R_N F_N.out) (Kd.V_F (Kd.V_old F_V.out HL.out)) (fun k hk => ⟨Or.inl trivial, fun he => by have h1 := Kd.N_base (Kd.R_N F_N.out) k he.symm; have h2 := hk.2; omega⟩) (fun k hk => Or.inl trivial) HL.out HL.out.size (by simp only [List.length_cons, List.length_nil, List.length_append]; omega) ?_; intro v1 w4 hn hb hg1 hg2; clear hg1 hg2 hlen; have F_R := Aside0.mk (rd_of_n hn); replace HL := Aside0.mk hb; clear hn hb))
 obtain ⟨A9, c9, rfl, n9, g9⟩ := F_R.out
 go_ret2
 exact ⟨_, _, rfl, Kd.V_mk n9 g9, below_step HB.out HL.out⟩
theorem k_tag0 (W : World) (x : Int) : k51.K W ⟨x, []⟩ [.int .u16 x, .slice none 0 0] := ⟨[.int .u16 x], [.slice none 0 0], rfl, rfl, ⟨none, 0, rfl, Nat.le_refl 0, Kd.C_nil _ W⟩⟩
def GE (w : World) : Prop := GA w ∧ GS w
theorem GE.below {w w1 : World} (h : GE w) (hb : Below w.heap.size w w1) : GE w1 := ⟨h.1.below hb, h.2.below hb⟩
theorem tput9 : tags_Put.f 20 [⟨257, []⟩] = some ([1, 1, 0, 0], 0) := by kernel_rfl
theorem eput9 {g_t : Nat} (w : World) (hE : GE w) (hb : w.heap[g_t]? = some (.cells #[.int .u16 257, .slice none 0 0] 51 (0, 0))) :
 Calls Tryd.prog 10 #[.agg (fr 9 0 (.slice (some ⟨g_t, 0, none⟩) 1 1) 0 0 0 (.slice none 0 0) 0 0 (.slice none 0 0) (.slice none 0 0) (.slice none 0 0) (.slice none 0 0))] w fun e w' => ∃ v, e = .returned (.tuple #[v, .int .i64 0]) ∧ Rd (Kd.int .u8) w' v [17, 9, 0, 0, 0, 4, 1, 1, 0, 0] ∧ Below w.heap.size w w' :=
 eput w 9 0 0 0 0 0 0 _ _ _ _ _ _ [1, 1, 0, 0] (by decide) (by decide) (fun W hW => right9 W (hE.below hW).2)
  (fun W hW => pay9 W [⟨257, []⟩] [1, 1, 0, 0] _ 1 20 tput9 (fun W' hW' => rd_blk1 (cs := [.int .u16 257, .slice none 0 0]) k51_heap (blk_below (blk_below hb hW) hW') (k_tag0 _ _))) (by decide)
set_option maxHeartbeats 8000000 in
set_option maxRecDepth 100000 in
theorem speaks22 (w : World) (hE : GE w) : Calls Tryd.prog 9 #[] w fun e w' => e = .returned (.bool true) ∧ Below w.heap.size w w' := by
 have hu32 := Tryd.underlying32
 have hu51 := Tryd.underlying51
 obtain ⟨k1, h1⟩ := Ev.rounds (Equal [17, 9, 0, 0, 0, 4, 1, 1, 0, 0] [17, 9, 0, 0, 0, 4, 1, 1, 0, 0] (by unfold Lim; decide))
 have HE := Aside0.mk h1
 have HA := Aside0.mk hE
 clear h1 hE
 have HB := Aside0.mk (Below.refl w.heap.size w)
 go_enter Tryd.func9, Tryd.ntmps9
 go_wp2_with (first | ((with_reducible refine gate_dst (N := 5) rfl ?_); refine gate_guard (by rfl) ?_; refine ev_slice rfl (n := 1) (cs := #[.int .u16 257, .slice none 0 0]) (e := 51) (by first | (go_simp; done) | (go_simp; rfl)) ?_; intro g_t hg w1 hn hb; have G_t := Aside0.mk (show w.heap.size ≤ g_t from by rw [hg]; exact below_size HB.out); replace HB := Aside0.mk (below_step HB.out hb); clear hb; have B_t := Aside0.mk hn; clear hn hg) | ((with_reducible refine gate_dst (N := 7) rfl ?_); refine gate_guard (by rfl) ?_; refine goesL_ (some 7) rfl rfl Tryd.func10 (by kernel_rfl) rfl #[.agg (fr 9 0 (.slice (some ⟨g_t, 0, none⟩) 1 1) 0 0 0 (.slice none 0 0) 0 0 (.slice none 0 0) (.slice none 0 0) (.slice none 0 0) (.slice none 0 0))] rfl (by first | rfl | (simp only [List.map_toArray, List.map_cons, List.map_nil]; done) | (simp only [List.map_toArray, List.map_cons, List.map_nil]; rfl)) ?_; refine (eput9 _ (HA.out.below HB.out) B_t.out).mono ?_; rintro e w2 ⟨v1, rfl, hv, hb⟩; refine ⟨_, rfl, ?_⟩; have F_1 := Aside0.mk hv; clear hv; replace B_t := Aside0.mk (blk_below B_t.out hb); replace HB := Aside0.mk (below_step HB.out hb); clear hb) | ((with_reducible refine gate_dst (N := 14) rfl ?_); refine gate_guard (by rfl) ?_; refine ev_slice rfl (n := 10) (cs := #[.int .u8 17, .int .u8 9, .int .u8 0, .int .u8 0, .int .u8 0, .int .u8 4, .int .u8 1, .int .u8 1, .int .u8 0, .int .u8 0]) (e := 5) (by first | (go_simp; done) | (go_simp; rfl)) ?_; intro g_b hg w3 hn hb; have G_b := Aside0.mk (show w.heap.size ≤ g_b from by rw [hg]; exact below_size HB.out); replace B_t := Aside0.mk (blk_below B_t.out hb); replace F_1 := Aside0.mk (F_1.out.below hb); replace HB := Aside0.mk (below_step HB.out hb); clear hb; have B_b := Aside0.mk hn; clear hn hg) | ((with_reducible refine gate_dst (N := 15) rfl ?_); refine gate_guard (by rfl) ?_; refine goesL_ (some 15) rfl rfl Tryd.func17 (by kernel_rfl) rfl #[v1, .slice (some ⟨g_b, 0, none⟩) 10 10] rfl (by first | rfl | (simp only [List.map_toArray, List.map_cons, List.map_nil]; done) | (simp only [List.map_toArray, List.map_cons, List.map_nil]; rfl)) ?_; refine (equal_calls F_1.out (rd_of_v (v_blk_ints B_b.out rfl rfl (by decide))) HE.out).mono ?_; rintro e w4 ⟨rfl, hb⟩; refine ⟨_, rfl, ?_⟩; replace B_t := Aside0.mk (blk_below B_t.out hb); replace B_b := Aside0.mk (blk_below B_b.out hb); replace F_1 := Aside0.mk (F_1.out.below hb); replace HB := Aside0.mk (below_step HB.out hb); clear hb))
 go_ret
 exact ⟨rfl, HB.out⟩
end Go.Proofs.YteanncchmenlkaaDoor.Hw
namespace Go.Proofs.YteanncchmenlkaaDoor.Hw
open Go.RowKit Go.Proofs.YteanncchmenlkaaDoorW.PrintWords Go.Proofs.YteanncchmenlkaaDoorW.PrintLast Go.Proofs.YteanncchmenlkaaDoorW.PrintMore Go.Proofs.YteanncchmenlkaaDoor.Print Go.Proofs.YteanncchmenlkaaDoor.Sp Go.Proofs.YteanncchmenlkaaDoor.Pl
set_option linter.unusedVariables false
set_option linter.unusedSimpArgs false
theorem fr_one {c s q0 q1 q2 q4 q5 : Int} {v2 v3 v6 v7 v8 v9 : Value} (h2 : v2.oneCell' = true) (h3 : v3.oneCell' = true) (h6 : v6.oneCell' = true) (h7 : v7.oneCell' = true) (h8 : v8.oneCell' = true) (h9 : v9.oneCell' = true) : (fr c s v2 q0 q1 q2 v3 q4 q5 v6 v7 v8 v9).all (·.oneCell') = true := by
 simp [h2, h3, h6, h7, h8, h9, show ∀ k n, (Value.int k n).oneCell' = true from fun _ _ => rfl]
def TG5 : Bool × List (List Nat × List Nat) := (true, [([], []), ([0], [0]), ([1], [1]), ([], []), ([3], [3]), ([4], [4]), ([5], [5]), ([2, 6], [2, 6]), ([], []), ([8, 7, 5, 0, 1, 2, 3, 4, 5, 6, 7, 8], [7, 8])])
def BG5 : List Nat := [0, 1, 3, 0, 8, 24, 56, 127, 0, 511]
theorem tabG5 : rtab .any (opsOf Tryd.f11 5) = TG5 := by kernel_rfl
theorem bitsG5 : waitsOk TG5.2 BG5 = true := by kernel_rfl
set_option maxHeartbeats 8000000 in
set_option maxRecDepth 100000 in
theorem get_short (w : World) (A : Option Addr) (n cap : Nat) (hn : n < 6) : Calls Tryd.prog 11 #[.slice A n cap] w fun e w' => e = .returned (.tuple #[.agg (fr 0 0 (.slice none 0 0) 0 0 0 (.slice none 0 0) 0 0 (.slice none 0 0) (.slice none 0 0) (.slice none 0 0) (.slice none 0 0)), .int .i64 0, .int .i64 2]) ∧ Below w.heap.size w w' := by
 have hu32 := Tryd.underlying32
 have hlt : decide ((n : Int) < 6) = true := decide_eq_true (by omega)
 have HB := Aside0.mk (Below.refl w.heap.size w)
 go_enter Tryd.func11, Tryd.ntmps11
 go_wp2_with (first | ((with_reducible refine gate_dst (N := 2) rfl ?_); refine gate_guard (by rfl) ?_; refine box_event rfl (N := 2) rfl (cs := #[.int .u8 0, .int .u16 0, .slice none 0 0, .int .u16 0, .int .u8 0, .int .u8 0, .slice none 0 0, .int .u16 0, .int .u32 0, .slice none 0 0, .slice none 0 0, .slice none 0 0, .slice none 0 0]) (t := 32) (by first | (go_simp; done) | (go_simp; rfl)) ?_; intro g_r hg w1 hn hb; have G_r := Aside0.mk (show w.heap.size ≤ g_r from by rw [hg]; exact below_size HB.out); replace HB := Aside0.mk (below_step HB.out hb); clear hb; have B_r := Aside0.mk hn; clear hn hg) | ((with_reducible refine gate_store (p := 2) rfl ?_); refine ev_store rfl rfl rfl (cells := (fr 0 0 (.slice none 0 0) 0 0 0 (.slice none 0 0) 0 0 (.slice none 0 0) (.slice none 0 0) (.slice none 0 0) (.slice none 0 0))) rfl B_r.out rfl (by kernel_rfl) (fr_one rfl rfl rfl rfl rfl rfl) ?_; intro w2 hn ho; replace B_r := Aside0.mk hn; replace HB := Aside0.mk (below_only HB.out ho G_r.out); clear hn ho))
 exact bodyPost_ret (results_ctt rfl _ _ g_r 32 (fr 0 0 (.slice none 0 0) 0 0 0 (.slice none 0 0) 0 0 (.slice none 0 0) (.slice none 0 0) (.slice none 0 0) (.slice none 0 0)) (0, 0) _ rfl B_r.out hu32 rfl (by kernel_rfl)) rfl ⟨rfl, HB.out⟩
set_option maxHeartbeats 16000000 in
set_option maxRecDepth 100000 in
theorem get_cut (w : World) (g_b cap : Nat) (l : List Int) (s m : Int) (hS : GS w) (hs0 : s ≠ 0) (hs : 0 ≤ s ∧ s ≤ 65535) (hm : 0 ≤ m ∧ m ≤ 1494) (h6 : 6 ≤ l.length) (hcap : l.length ≤ cap) (hlt : (l.length : Int) < 6 + m)
 (c0 : ∀ W, Below w.heap.size w W → W.cell? ⟨g_b, 0, none⟩ = some (.int .u8 17)) (c1 : ∀ W, Below w.heap.size w W → W.cell? ⟨g_b, 1, none⟩ = some (.int .u8 0))
 (cg2 : ∀ W, Below w.heap.size w W → Calls Tryd.prog 32 #[.slice (some ⟨g_b, 2, none⟩) (l.length - 2) (cap - 2), .int .i64 2] W fun e w' => e = .returned (.int .u64 s) ∧ Below W.heap.size W w')
 (cg4 : ∀ W, Below w.heap.size w W → Calls Tryd.prog 32 #[.slice (some ⟨g_b, 4, none⟩) (l.length - 4) (cap - 4), .int .i64 2] W fun e w' => e = .returned (.int .u64 m) ∧ Below W.heap.size W w') :
 Calls Tryd.prog 11 #[.slice (some ⟨g_b, 0, none⟩) l.length cap] w fun e w' => e = .returned (.tuple #[.agg (fr 0 0 (.slice none 0 0) 0 0 0 (.slice none 0 0) 0 0 (.slice none 0 0) (.slice none 0 0) (.slice none 0 0) (.slice none 0 0)), .int .i64 0, .int .i64 2]) ∧ Below w.heap.size w w' := by
 have hu32 := Tryd.underlying32
 have hlt6 : decide ((l.length : Int) < 6) = false := decide_eq_false (by omega)
 have hgt1 : decide ((1500 : Int) < 6 + m) = false := decide_eq_false (by omega)
 have hgt2 : decide ((l.length : Int) < 6 + m) = true := decide_eq_true hlt
 obtain ⟨i0, hi0, _, hsz0, _⟩ := info_parts info5
 have hsl2 : ∀ W : World, (Instr.slice 24 (.slice (some ⟨g_b, 0, none⟩) l.length cap) (some (.int .i64 2)) none none).run Tryd.prog W = .ok (.slice (some ⟨g_b, 2, none⟩) (l.length - 2) (cap - 2)) W := by
  intro W
  rw [cut_from (P := Tryd.prog) 24 5 .i64 Tryd.underlying24 hi0 1 hsz0 (some ⟨g_b, 0, none⟩) l.length cap 2 (by omega) (by omega) W]
  rw [if_neg (show cap ≠ (2 : Int).toNat from by show cap ≠ 2; omega), Option.map_some, add_plain]
  rfl
 have hsl4 : ∀ W : World, (Instr.slice 24 (.slice (some ⟨g_b, 0, none⟩) l.length cap) (some (.int .i64 4)) none none).run Tryd.prog W = .ok (.slice (some ⟨g_b, 4, none⟩) (l.length - 4) (cap - 4)) W := by
  intro W
  rw [cut_from (P := Tryd.prog) 24 5 .i64 Tryd.underlying24 hi0 1 hsz0 (some ⟨g_b, 0, none⟩) l.length cap 4 (by omega) (by omega) W]
  rw [if_neg (show cap ≠ (4 : Int).toNat from by show cap ≠ 4; omega), Option.map_some, add_plain]
  rfl
 have h0 := Aside0.mk c0
 have h1 := Aside0.mk c1
 have hg2 := Aside0.mk cg2
 have hg4 := Aside0.mk cg4
 have HSR := Aside0.mk hs
 have HC2 := Aside0.mk hsl2
 have hrt := Aside0.mk (fun (W : World) (hW : Below w.heap.size w W) => right0 s hs0 W (hS.below hW))
 have q0 : (0 < l.length) = True := eq_true (by omega)
 have HQ := Aside0.mk (show (0 < l.length) = True ∧ (1 < l.length) = True ∧ (0 : Int) ≤ (l.length : Int) ∧ 6 ≤ l.length from ⟨eq_true (by omega), eq_true (by omega), by omega, h6⟩)
 obtain ⟨hm0, hm1⟩ := hm
 clear hS c0 c1 cg2 cg4 hs h6 hcap hlt
 have HB := Aside0.mk (Below.refl w.heap.size w)
 go_enter Tryd.func11, Tryd.ntmps11
 go_upto_region 5 with (first | ((with_reducible refine gate_dst (N := 2) rfl ?_); refine gate_guard (by rfl) ?_; refine box_event rfl (N := 2) rfl (cs := #[.int .u8 0, .int .u16 0, .slice none 0 0, .int .u16 0, .int .u8 0, .int .u8 0, .slice none 0 0, .int .u16 0, .int .u32 0, .slice none 0 0, .slice none 0 0, .slice none 0 0, .slice none 0 0]) (t := 32) (by first | (go_simp; done) | (go_simp; rfl)) ?_; intro g_r hg w1 hn hb; have G_r := Aside0.mk (show w.heap.size ≤ g_r from by rw [hg]; exact below_size HB.out); replace HB := Aside0.mk (below_step HB.out hb); clear hb; have B_r := Aside0.mk hn; clear hn hg) | ((with_reducible refine gate_dst (N := 17) rfl ?_); refine gate_guard (by rfl) ?_; refine ev_loadc rfl rfl rfl (h0.out _ HB.out) Tryd.underlying5 rfl ?_))
 refine start_ (n := 10) (S := fun w' => True) (ds := []) #[false, false, false, false, false, false, false, false, false, false] (by kernel_rfl) rfl rfl trivial (fun hHeld => ?_)
 refine with_tabW tabG5 bitsG5 (fun HT_ HW_ => ?_)
 replace B_r := Aside0.mk (blk_drew B_r.out)
 replace HB := Aside0.mk (below_drew1 HB.out)
 generalize w1.drew = wd at B_r HB ⊢
 refine pure_ (i := 0) (N := some 20) (v := ?_) (a' := ?_) #[true, false, false, false, false, false, false, false, false, false] rfl rfl (by kernel_rfl) (fun _ _ _ h => h) (Or.inl ⟨by rfl, ?_⟩) ?_ ?_
 rotate_left
 · intro w'
   go_simp
   with_reducible rfl
 rotate_left
 · simp only [Act.put, List.setIfInBounds_toArray, List.set_cons_zero, List.set_cons_succ, i64_w, i32_w]
   rfl
 refine pure_ (i := 3) (N := some 23) (v := ?_) (a' := ?_) #[true, false, false, true, false, false, false, false, false, false] rfl rfl (by kernel_rfl) (fun _ _ _ h => h) (Or.inl ⟨by rfl, ?_⟩) ?_ ?_
 rotate_left
 · intro w'
   go_simp
   with_reducible rfl
 rotate_left
 · simp only [Act.put, List.setIfInBounds_toArray, List.set_cons_zero, List.set_cons_succ, i64_w, i32_w]
   rfl
 refine inv_at [1, 2, 4, 5, 6, 7, 8, 9] (fun a0_ b a w' => ∃ (g_f : Nat) (m8_ : Value), a = putSel a0_ b [(1, 21, .pointer (some ⟨g_b, 1, none⟩)), (2, 22, .int .u8 0), (4, 24, .slice (some ⟨g_b, 2, none⟩) (l.length - 2) (cap - 2)), (5, 25, .int .u64 s), (6, 26, .int .u16 s), (7, 27, .agg (fr 0 s (.slice none 0 0) 0 0 0 (.slice none 0 0) 0 0 (.slice none 0 0) (.slice none 0 0) (.slice none 0 0) (.slice none 0 0))), (8, 5, m8_)] ∧ (w'.heap[g_r]? = some (.cells (fr 0 0 (.slice none 0 0) 0 0 0 (.slice none 0 0) 0 0 (.slice none 0 0) (.slice none 0 0) (.slice none 0 0) (.slice none 0 0)) 32 (0, 0))) ∧ (Below w.heap.size w w') ∧ (b 8 = true → w.heap.size ≤ g_f) ∧ (b 8 = true → g_r ≠ g_f) ∧ (b 8 = true → b 9 = false → w'.heap[g_f]? = some (.cells (fr 0 0 (.slice none 0 0) 0 0 0 (.slice none 0 0) 0 0 (.slice none 0 0) (.slice none 0 0) (.slice none 0 0) (.slice none 0 0)) 32 (0, 0))) ∧ (b 9 = true → w'.heap[g_f]? = some (.cells (fr 0 s (.slice none 0 0) 0 0 0 (.slice none 0 0) 0 0 (.slice none 0 0) (.slice none 0 0) (.slice none 0 0) (.slice none 0 0)) 32 (0, 0))) ∧ (b 8 = true → (m8_ : Value) = .pointer (some ⟨g_f, 0, none⟩))) HT_.out HW_.out (by kernel_rfl) (by kernel_rfl) ?_ ?_ ?_
 · exact ⟨g_r, .bool false, by simp only [putSel, Bool.false_eq_true, if_false], B_r.out, HB.out, fun h_ => absurd h_ (by decide), fun h_ => absurd h_ (by decide), fun h_ => absurd h_ (by decide), fun h_ => absurd h_ (by decide), fun h_ => absurd h_ (by decide)⟩
 · skip
   clear B_r HB
   refine steps_cons ?_ ?_
   · rintro b a w' ⟨g_f, m8_, ha, Q_B_r, Q_HB, Q_G_f, Q_N_r_f, Q_Z_f, Q_B_f, Q_X8_⟩ hb_ hon hoff
     refine ⟨_, rfl, fun K hK => ?_⟩
     have e20 : a.tmps[20]? = some (.slice (some ⟨g_b, 0, none⟩) l.length cap) := by rw [ha]; exact (putSel_off rfl).trans rfl
     replace ha := Aside0.mk ha
     have B_r := Aside0.mk Q_B_r
     have HB := Aside0.mk Q_HB
     have q0 := HQ.out.1
     have q1 := HQ.out.2.1
     have q2 := HQ.out.2.2.1
     have q3 := HQ.out.2.2.2
     refine value_ (w1 := w') (v := .pointer (some ⟨g_b, 1, none⟩)) (by rfl) rfl ?_ ?_
     · go_simp
       first | done | rfl | (intro hbad; exfalso; have q9 := HQ.out.2.2.2; omega)
     refine hK.out _ _ ⟨g_f, m8_, (by rw [ha.out]; exact putSel_upk 0 hb_ rfl rfl rfl), B_r.out, HB.out, Q_G_f, Q_N_r_f, fun h0_ h1_ => (Q_Z_f h0_ h1_), fun h0_ => absurd ((hoff 9 (by kernel_rfl)).symm.trans h0_) (by decide), Q_X8_⟩
   refine steps_cons ?_ ?_
   · rintro b a w' ⟨g_f, m8_, ha, Q_B_r, Q_HB, Q_G_f, Q_N_r_f, Q_Z_f, Q_B_f, Q_X8_⟩ hb_ hon hoff
     refine ⟨_, rfl, fun K hK => ?_⟩
     have e21 : a.tmps[21]? = some (.pointer (some ⟨g_b, 1, none⟩)) := by rw [ha]; exact putSel_on (e := (1, 21, .pointer (some ⟨g_b, 1, none⟩))) 0 rfl rfl (hon 1 (by kernel_rfl)) rfl
     replace ha := Aside0.mk ha
     have B_r := Aside0.mk Q_B_r
     have HB := Aside0.mk Q_HB
     have hc1 := h1.out _ HB.out
     refine value_ (w1 := w') (v := .int .u8 0) (by rfl) rfl ?_ ?_
     · go_simp
       try rfl
     refine hK.out _ _ ⟨g_f, m8_, (by rw [ha.out]; exact putSel_upk 1 hb_ rfl rfl rfl), B_r.out, HB.out, Q_G_f, Q_N_r_f, fun h0_ h1_ => (Q_Z_f h0_ h1_), fun h0_ => absurd ((hoff 9 (by kernel_rfl)).symm.trans h0_) (by decide), Q_X8_⟩
   refine steps_cons ?_ ?_
   · rintro b a w' ⟨g_f, m8_, ha, Q_B_r, Q_HB, Q_G_f, Q_N_r_f, Q_Z_f, Q_B_f, Q_X8_⟩ hb_ hon hoff
     refine ⟨_, rfl, fun K hK => ?_⟩
     have e23 : a.tmps[23]? = some (.slice (some ⟨g_b, 0, none⟩) l.length cap) := by rw [ha]; exact (putSel_off rfl).trans rfl
     replace ha := Aside0.mk ha
     have B_r := Aside0.mk Q_B_r
     have HB := Aside0.mk Q_HB
     refine value_ (w1 := w') (v := .slice (some ⟨g_b, 2, none⟩) (l.length - 2) (cap - 2)) (by rfl) rfl ?_ ?_
     · go_simp
       try rfl
     refine hK.out _ _ ⟨g_f, m8_, (by rw [ha.out]; exact putSel_upk 2 hb_ rfl rfl rfl), B_r.out, HB.out, Q_G_f, Q_N_r_f, fun h0_ h1_ => (Q_Z_f h0_ h1_), fun h0_ => absurd ((hoff 9 (by kernel_rfl)).symm.trans h0_) (by decide), Q_X8_⟩
   refine steps_cons ?_ ?_
   · rintro b a w' ⟨g_f, m8_, ha, Q_B_r, Q_HB, Q_G_f, Q_N_r_f, Q_Z_f, Q_B_f, Q_X8_⟩ hb_ hon hoff
     refine ⟨_, rfl, fun K hK => ?_⟩
     have e24 : a.tmps[24]? = some (.slice (some ⟨g_b, 2, none⟩) (l.length - 2) (cap - 2)) := by rw [ha]; exact putSel_on (e := (4, 24, .slice (some ⟨g_b, 2, none⟩) (l.length - 2) (cap - 2))) 2 rfl rfl (hon 4 (by kernel_rfl)) rfl
     replace ha := Aside0.mk ha
     have B_r := Aside0.mk Q_B_r
     have HB := Aside0.mk Q_HB
     refine goes_ Tryd.func32 (by kernel_rfl) rfl #[.slice (some ⟨g_b, 2, none⟩) (l.length - 2) (cap - 2), .int .i64 2] (by rfl) rfl rfl (by first | (simp only [List.map_toArray, List.map_cons, List.map_nil, Act.eval, Array.getD_eq_getD_getElem?, Option.getD_some, e24]; done) | (simp only [List.map_toArray, List.map_cons, List.map_nil, Act.eval, Array.getD_eq_getD_getElem?, Option.getD_some, e24]; rfl)) ?_
     refine (hg2.out _ HB.out).mono ?_
     rintro e w1 ⟨rfl, hb⟩
     refine ⟨_, rfl, ?_⟩
     refine hK.out _ _ ⟨g_f, m8_, (by rw [ha.out]; exact putSel_upk 3 hb_ rfl rfl rfl), blk_below B_r.out hb, below_step HB.out hb, Q_G_f, Q_N_r_f, fun h0_ h1_ => blk_below (Q_Z_f h0_ h1_) hb, fun h0_ => absurd ((hoff 9 (by kernel_rfl)).symm.trans h0_) (by decide), Q_X8_⟩
   refine steps_cons ?_ ?_
   · rintro b a w' ⟨g_f, m8_, ha, Q_B_r, Q_HB, Q_G_f, Q_N_r_f, Q_Z_f, Q_B_f, Q_X8_⟩ hb_ hon hoff
     refine ⟨_, rfl, fun K hK => ?_⟩
     have e25 : a.tmps[25]? = some (.int .u64 s) := by rw [ha]; exact putSel_on (e := (5, 25, .int .u64 s)) 3 rfl rfl (hon 5 (by kernel_rfl)) rfl
     replace ha := Aside0.mk ha
     have B_r := Aside0.mk Q_B_r
     have HB := Aside0.mk Q_HB
     refine value_ (w1 := w') (v := .int .u16 s) (by rfl) rfl ?_ ?_
     · have s0 := HSR.out.1
       have s1 := HSR.out.2
       go_simp
       first | done | (rw [IntKind.wrap_u16]; exact Int.emod_eq_of_lt s0 (by omega)) | (simp only [IntKind.wrap_u16]; omega)
     refine hK.out _ _ ⟨g_f, m8_, (by rw [ha.out]; exact putSel_upk 4 hb_ rfl rfl rfl), B_r.out, HB.out, Q_G_f, Q_N_r_f, fun h0_ h1_ => (Q_Z_f h0_ h1_), fun h0_ => absurd ((hoff 9 (by kernel_rfl)).symm.trans h0_) (by decide), Q_X8_⟩
   refine steps_cons ?_ ?_
   · rintro b a w' ⟨g_f, m8_, ha, Q_B_r, Q_HB, Q_G_f, Q_N_r_f, Q_Z_f, Q_B_f, Q_X8_⟩ hb_ hon hoff
     refine ⟨_, rfl, fun K hK => ?_⟩
     have e22 : a.tmps[22]? = some (.int .u8 0) := by rw [ha]; exact putSel_on (e := (2, 22, .int .u8 0)) 1 rfl rfl (hon 2 (by kernel_rfl)) rfl
     have e26 : a.tmps[26]? = some (.int .u16 s) := by rw [ha]; exact putSel_on (e := (6, 26, .int .u16 s)) 4 rfl rfl (hon 6 (by kernel_rfl)) rfl
     replace ha := Aside0.mk ha
     have B_r := Aside0.mk Q_B_r
     have HB := Aside0.mk Q_HB
     refine value_ (w1 := w') (v := .agg (fr 0 s (.slice none 0 0) 0 0 0 (.slice none 0 0) 0 0 (.slice none 0 0) (.slice none 0 0) (.slice none 0 0) (.slice none 0 0))) (by rfl) rfl ?_ ?_
     · go_simp
       try rfl
     refine hK.out _ _ ⟨g_f, m8_, (by rw [ha.out]; exact putSel_upk 5 hb_ rfl rfl rfl), B_r.out, HB.out, Q_G_f, Q_N_r_f, fun h0_ h1_ => (Q_Z_f h0_ h1_), fun h0_ => absurd ((hoff 9 (by kernel_rfl)).symm.trans h0_) (by decide), Q_X8_⟩
   refine steps_cons ?_ ?_
   · rintro b a w' ⟨g_f, m8_, ha, Q_B_r, Q_HB, Q_G_f, Q_N_r_f, Q_Z_f, Q_B_f, Q_X8_⟩ hb_ hon hoff
     refine ⟨_, rfl, fun K hK => ?_⟩
     replace ha := Aside0.mk ha
     have B_r := Aside0.mk Q_B_r
     have HB := Aside0.mk Q_HB
     refine box_step (by rfl) rfl (cs := #[.int .u8 0, .int .u16 0, .slice none 0 0, .int .u16 0, .int .u8 0, .int .u8 0, .slice none 0 0, .int .u16 0, .int .u32 0, .slice none 0 0, .slice none 0 0, .slice none 0 0, .slice none 0 0]) (t := 32) (by first | (go_simp; done) | (go_simp; rfl)) ?_
     rintro g_ hg w1 hn hb
     have m5 := blk_lt B_r.out
     refine hK.out _ _ ⟨g_, (.pointer (some ⟨g_, 0, none⟩)), (by rw [ha.out]; exact putSel_upk 6 hb_ rfl rfl rfl), blk_below B_r.out hb, below_step HB.out hb, fun _ => by rw [hg]; exact HB.out.size, fun _ => by omega, fun _ _ => hn, fun h0_ => absurd ((hoff 9 (by kernel_rfl)).symm.trans h0_) (by decide), fun _ => rfl⟩
   refine steps_cons ?_ ?_
   · rintro b a w' ⟨g_f, m8_, ha, Q_B_r, Q_HB, Q_G_f, Q_N_r_f, Q_Z_f, Q_B_f, Q_X8_⟩ hb_ hon hoff
     refine ⟨_, rfl, fun K hK => ?_⟩
     have e5 : a.tmps[5]? = some (m8_) := by rw [ha]; exact putSel_on (e := (8, 5, m8_)) 6 rfl rfl (hon 8 (by kernel_rfl)) rfl
     rw [Q_X8_ (hon 8 (by kernel_rfl))] at e5
     have e27 : a.tmps[27]? = some (.agg (fr 0 s (.slice none 0 0) 0 0 0 (.slice none 0 0) 0 0 (.slice none 0 0) (.slice none 0 0) (.slice none 0 0) (.slice none 0 0))) := by rw [ha]; exact putSel_on (e := (7, 27, .agg (fr 0 s (.slice none 0 0) 0 0 0 (.slice none 0 0) 0 0 (.slice none 0 0) (.slice none 0 0) (.slice none 0 0) (.slice none 0 0)))) 5 rfl rfl (hon 7 (by kernel_rfl)) rfl
     replace ha := Aside0.mk ha
     have B_r := Aside0.mk Q_B_r
     have HB := Aside0.mk Q_HB
     have G_f := Aside0.mk (Q_G_f (hon 8 (by kernel_rfl)))
     have N_r_f := Aside0.mk (Q_N_r_f (hon 8 (by kernel_rfl)))
     have Z_f := Aside0.mk (Q_Z_f (hon 8 (by kernel_rfl)) hb_)
     refine st_store (by rfl) rfl (eval_of e5) (eval_of e27) Z_f.out (by rfl) (by kernel_rfl) (fr_one rfl rfl rfl rfl rfl rfl) ?_
     intro w1 hn ho
     refine hK.out _ _ ⟨g_f, m8_, (by rw [ha.out]; exact putSel_none (v := undef) rfl), blk_only B_r.out ho N_r_f.out, below_only HB.out ho G_f.out, Q_G_f, Q_N_r_f, fun _ h1_ => absurd ((up_self b 9).symm.trans h1_) (by decide), fun _ => hn, Q_X8_⟩
   exact steps_nil
 · rintro b a w' hall ⟨g_f, m8_, ha, Q_B_r, Q_HB, Q_G_f, Q_N_r_f, Q_Z_f, Q_B_f, Q_X8_⟩
   clear B_r HB
   have hb1_ := hall 1 (by kernel_rfl)
   have hb2_ := hall 2 (by kernel_rfl)
   have hb4_ := hall 4 (by kernel_rfl)
   have hb5_ := hall 5 (by kernel_rfl)
   have hb6_ := hall 6 (by kernel_rfl)
   have hb7_ := hall 7 (by kernel_rfl)
   have hb8_ := hall 8 (by kernel_rfl)
   have hb9_ := hall 9 (by kernel_rfl)
   subst ha
   obtain rfl := Q_X8_ hb8_
   simp only [putSel, hb1_, hb2_, hb4_, hb5_, hb6_, hb7_, hb8_, hb9_, if_true, Act.put, List.setIfInBounds_toArray, List.set_cons_zero, List.set_cons_succ]
   have B_r := Aside0.mk Q_B_r
   clear Q_B_r
   have HB := Aside0.mk Q_HB
   clear Q_HB
   have G_f := Aside0.mk (Q_G_f hb8_)
   clear Q_G_f
   have N_r_f := Aside0.mk (Q_N_r_f hb8_)
   clear Q_N_r_f
   clear Q_Z_f
   have B_f := Aside0.mk (Q_B_f hb9_)
   clear Q_B_f
   clear hall hb1_ hb2_ hb4_ hb5_ hb6_ hb7_ hb8_ hb9_
   have N_f_r := Aside0.mk N_r_f.out.symm
   go_wp2_with (first | ((with_reducible refine gate_dst (N := 29) rfl ?_); refine gate_guard (by rfl) ?_; refine ev_loadf rfl rfl rfl B_f.out rfl Tryd.underlying5 rfl ?_) | ((with_reducible refine gate_dst (N := 31) rfl ?_); refine gate_guard (by rfl) ?_; refine ev_loadf rfl rfl rfl B_f.out rfl Tryd.underlying22 rfl ?_) | ((with_reducible refine gate_dst (N := 32) rfl ?_); refine gate_guard (by rfl) ?_; refine goesL_ (some 32) rfl rfl Tryd.func29 (by kernel_rfl) rfl #[.int .u8 0, .int .u16 s] rfl (by first | rfl | (simp only [List.map_toArray, List.map_cons, List.map_nil]; done) | (simp only [List.map_toArray, List.map_cons, List.map_nil]; rfl)) ?_; refine (hrt.out _ HB.out).mono ?_; rintro e r1 ⟨rfl, hb⟩; refine ⟨_, rfl, ?_⟩; replace B_r := Aside0.mk (blk_below B_r.out hb); replace B_f := Aside0.mk (blk_below B_f.out hb); replace HB := Aside0.mk (below_step HB.out hb); clear hb) | ((with_reducible refine gate_dst (N := 39) rfl ?_); refine gate_guard (by rfl) ?_; refine goesL_ (some 39) rfl rfl Tryd.func32 (by kernel_rfl) rfl #[.slice (some ⟨g_b, 4, none⟩) (l.length - 4) (cap - 4), .int .i64 2] rfl (by first | rfl | (simp only [List.map_toArray, List.map_cons, List.map_nil]; done) | (simp only [List.map_toArray, List.map_cons, List.map_nil]; rfl)) ?_; refine (hg4.out _ HB.out).mono ?_; rintro e r2 ⟨rfl, hb⟩; refine ⟨_, rfl, ?_⟩; replace B_r := Aside0.mk (blk_below B_r.out hb); replace B_f := Aside0.mk (blk_below B_f.out hb); replace HB := Aside0.mk (below_step HB.out hb); clear hb) | ((with_reducible refine gate_store (p := 2) rfl ?_); refine ev_store rfl rfl rfl (cells := (fr 0 0 (.slice none 0 0) 0 0 0 (.slice none 0 0) 0 0 (.slice none 0 0) (.slice none 0 0) (.slice none 0 0) (.slice none 0 0))) rfl B_r.out rfl (by kernel_rfl) (fr_one rfl rfl rfl rfl rfl rfl) ?_; intro r3 hn ho; replace B_f := Aside0.mk (blk_only B_f.out ho N_f_r.out); replace B_r := Aside0.mk hn; replace HB := Aside0.mk (below_only HB.out ho G_r.out); clear hn ho))
   exact bodyPost_ret (results_ctt rfl _ _ g_r 32 (fr 0 0 (.slice none 0 0) 0 0 0 (.slice none 0 0) 0 0 (.slice none 0 0) (.slice none 0 0) (.slice none 0 0) (.slice none 0 0)) (0, 0) _ rfl B_r.out hu32 rfl (by kernel_rfl)) rfl ⟨rfl, HB.out⟩
end Go.Proofs.YteanncchmenlkaaDoor.Hw
namespace Go.Proofs.YteanncchmenlkaaDoor.Hw
open Go.RowKit Go.Proofs.YteanncchmenlkaaDoorW.PrintWords Go.Proofs.YteanncchmenlkaaDoorW.PrintLast Go.Proofs.YteanncchmenlkaaDoorW.PrintMore Go.Proofs.YteanncchmenlkaaDoor.Print Go.Proofs.YteanncchmenlkaaDoor.Sp Go.Proofs.YteanncchmenlkaaDoor.Pl
set_option linter.unusedVariables false
set_option linter.unusedSimpArgs false
theorem zeros8 (k : Nat) : ∃ l8 : List Int, l8.length = k ∧ Bytes l8 ∧ List.replicate k (0 : Int) = l8 :=
 ⟨_, by simp, fun x hx => by rw [List.eq_of_mem_replicate hx]; unfold Byte; decide, rfl⟩
theorem old8 {w1 W : World} {v : Value} {l : List Int} (h : Kd.V (Kd.int .u8) 0 w1 0 (fun k => k < w1.heap.size) v l) (hb : Below w1.heap.size w1 W) : Kd.V (Kd.int .u8) 0 W 0 (fun k => k < W.heap.size) v l :=
 Kd.V_mono (Kd.V_below h hb) (fun k hk => Nat.lt_of_lt_of_le hk hb.size)
theorem cell_rd {W : World} {g n cap : Nat} {l : List Int} {j : Nat} {x : Int} (h : Rd (Kd.int .u8) W (.slice (some ⟨g, 0, none⟩) n cap) l) (hj : l[j]? = some x) : W.cell? ⟨g, j, none⟩ = some (.int .u8 x) := by
 obtain ⟨hn, _, hC⟩ := Kd.V_reads' h
 obtain ⟨ad, e, hc⟩ := hC.2.2 (by have := (List.getElem?_eq_some_iff.1 hj).1; omega)
 obtain rfl := Option.some.inj e
 obtain ⟨c, hl, hr, hcell⟩ := hc j x hj
 have hcc : c = [Value.int .u8 x] := hr
 have := hcell 0 (.int .u8 x) (by rw [hcc]; rfl)
 rw [add_plain] at this
 simpa [show (Kd.int .u8).sz = 1 from rfl] using this
theorem c_cells {W : World} {g o : Nat} {xs : List Int} (hl : xs.length ≤ 9223372036854775807) (h : ∀ j x, xs[j]? = some x → W.cell? ⟨g, o + j, none⟩ = some (.int .u8 x)) : Kd.C (Kd.int .u8) W (some ⟨g, o, none⟩) xs.length xs :=
 ⟨rfl, hl, fun _ => ⟨_, rfl, fun j p hj => ⟨[.int .u8 p], rfl, rfl, fun i u hu => by
  have h0 : i = 0 ∧ u = .int .u8 p := by
   cases i with
   | zero => exact ⟨rfl, by simpa using hu.symm⟩
   | succ i => simp at hu
  obtain ⟨rfl, rfl⟩ := h0
  have e : (⟨g, o, none⟩ : Addr).add (j * 1 + 0) = ⟨g, o + j, none⟩ := by unfold Addr.add; split <;> simp_all
  show W.cell? ((⟨g, o, none⟩ : Addr).add (j * 1 + 0)) = _
  rw [e]
  exact h j p hj⟩⟩⟩
theorem wget_at {W : World} {g n cap o : Nat} {l : List Int} {r : Int} (m : Nat) (h : Rd (Kd.int .u8) W (.slice (some ⟨g, 0, none⟩) n cap) l) (hb : Bytes l) (hl : l.length ≤ 1000000) (ho : o + 2 ≤ (l.take m).length) (hr : num 0 (((l.take m).drop o).take 2) = r) :
 Calls Tryd.prog 32 #[.slice (some ⟨g, o, none⟩) ((l.take m).length - o) (cap - o), .int .i64 2] W fun e w' => e = .returned (.int .u64 r) ∧ Below W.heap.size W w' := by
 have hn := Kd.V_reads' h
 have htl : (l.take m).length ≤ l.length := by simp; omega
 obtain ⟨k, hk⟩ := Ev.rounds (WGet ((l.take m).drop o) 2 (by decide) (by rw [List.length_drop]; omega) ((hb.take m).drop o))
 rw [hr] at hk
 have hC : Kd.C (Kd.int .u8) W (some ⟨g, o, none⟩) ((l.take m).drop o).length ((l.take m).drop o) := c_cells (by rw [List.length_drop]; omega) (fun j x hj => cell_rd h (by
  rw [List.getElem?_drop, List.getElem?_take] at hj
  split at hj
  · exact hj
  · cases hj))
 have := wire_Get.calls k (some ⟨g, o, none⟩) (cap - o) ((l.take m).drop o) 2 r W hC (by rw [List.length_drop]; omega) hk
 rw [List.length_drop] at this
 exact this.mono fun e w' h => ⟨h.1, h.2.below⟩
def FrZ (W : World) (y : Value) : Prop := ∃ v2 v3 v6 v7 v8 v9 : Value, y = .agg (fr 0 0 v2 0 0 0 v3 0 0 v6 v7 v8 v9) ∧ Rd k85 W v2 [] ∧ Rd k105 W v3 [] ∧ Rd (Kd.int .u8) W v6 [] ∧ Rd (Kd.int .u8) W v7 [] ∧ Rd (Kd.int .u8) W v8 [] ∧ Rd (Kd.int .u32) W v9 []
theorem to_zero_f : marlinelaw22_To.f 20 0 0 [] 0 0 0 [] 0 0 [] [] [] [] = some (0, 0, [], 0, 0, 0, [], 0, 0, [], [], [], []) := by kernel_rfl
theorem same_zero_f : marlineref22_Same.f 20 0 0 [] 0 0 0 [] 0 0 [] [] [] [] 0 0 [] 0 0 0 [] 0 0 [] [] [] [] = some true := by kernel_rfl
theorem to_zero (W : World) : Calls Tryd.prog 13 #[.agg (fr 0 0 (.slice none 0 0) 0 0 0 (.slice none 0 0) 0 0 (.slice none 0 0) (.slice none 0 0) (.slice none 0 0) (.slice none 0 0))] W fun e w' => ∃ y, e = .returned y ∧ FrZ w' y ∧ Below W.heap.size W w' := by
 refine (marlinelaw22_To.calls 20 0 0 (fun _ => True) none 0 [] 0 0 0 (fun _ => True) none 0 [] 0 0 (fun _ => True) none 0 [] (fun _ => True) none 0 [] (fun _ => True) none 0 [] (fun _ => True) none 0 [] _ _ _ _ _ _ _ _ _ _ _ _ _ W (Kd.V_nil _ _ _ _ _) (Kd.V_nil _ _ _ _ _) (Kd.V_nil _ _ _ _ _) (Kd.V_nil _ _ _ _ _) (Kd.V_nil _ _ _ _ _) (Kd.V_nil _ _ _ _ _) to_zero_f).mono ?_
 rintro e w' ⟨v2, v6, v9, v10, v11, v12, rfl, h2, h6, h9, h10, h11, h12, hb⟩
 exact ⟨_, rfl, ⟨_, _, _, _, _, _, rfl, rd_of_n h2, rd_of_n h6, rd_of_v h9, rd_of_v h10, rd_of_v h11, rd_of_v h12⟩, hb⟩
theorem same_zero {W : World} {y : Value} (h : FrZ W y) : Calls Tryd.prog 12 #[y, .agg (fr 0 0 (.slice none 0 0) 0 0 0 (.slice none 0 0) 0 0 (.slice none 0 0) (.slice none 0 0) (.slice none 0 0) (.slice none 0 0))] W fun e w' => e = .returned (.bool true) ∧ Below W.heap.size W w' := by
 obtain ⟨v2, v3, v6, v7, v8, v9, rfl, ⟨A2, c2, rfl, n2, f2⟩, ⟨A3, c3, rfl, n3, f3⟩, ⟨A6, c6, rfl, n6, f6⟩, ⟨A7, c7, rfl, n7, f7⟩, ⟨A8, c8, rfl, n8, f8⟩, ⟨A9, c9, rfl, n9, f9⟩⟩ := h
 exact marlineref22_Same.calls 20 0 0 A2 c2 [] 0 0 0 A3 c3 [] 0 0 A6 c6 [] A7 c7 [] A8 c8 [] A9 c9 [] 0 0 none 0 [] 0 0 0 none 0 [] 0 0 none 0 [] none 0 [] none 0 [] none 0 [] true W (Kd.F_now f2) n2 (Kd.F_now f3) n3 (Kd.F_now f6) n6 (Kd.F_now f7) n7 (Kd.F_now f8) n8 (Kd.F_now f9) n9 (Kd.C_nil _ _) (Nat.le_refl 0) (Kd.C_nil _ _) (Nat.le_refl 0) (Kd.C_nil _ _) (Nat.le_refl 0) (Kd.C_nil _ _) (Nat.le_refl 0) (Kd.C_nil _ _) (Nat.le_refl 0) (Kd.C_nil _ _) (Nat.le_refl 0) same_zero_f
theorem head_of (s k2 : Int) (hs : 0 ≤ s ∧ s ≤ 65535) (hk : 0 ≤ k2 ∧ k2 ≤ 65535) (pl : List Int) (m : Nat) (hm : 6 ≤ m) :
 num 0 ((((([17, 0] ++ be 2 s ++ be 2 k2) ++ pl).take m).drop 2).take 2) = s ∧ num 0 ((((([17, 0] ++ be 2 s ++ be 2 k2) ++ pl).take m).drop 4).take 2) = k2 := by
 rw [be2 s hs.1 (by omega), be2 k2 hk.1 (by omega)]
 obtain ⟨j, rfl⟩ : ∃ j, m = j + 6 := ⟨m - 6, by omega⟩
 have e2 : (((([17, 0] ++ [s / 256, s % 256] ++ [k2 / 256, k2 % 256]) ++ pl).take (j + 6)).drop 2).take 2 = [s / 256, s % 256] := rfl
 have e4 : (((([17, 0] ++ [s / 256, s % 256] ++ [k2 / 256, k2 % 256]) ++ pl).take (j + 6)).drop 4).take 2 = [k2 / 256, k2 % 256] := rfl
 rw [e2, e4]
 refine ⟨?_, ?_⟩
 · simp only [num]; omega
 · simp only [num]; omega
def FrameOf (s : Int) (l8 L : List Int) : Prop := L.length = l8.length + 8 ∧ Bytes L ∧ L[0]? = some 17 ∧ L[1]? = some 0 ∧ ∀ m, 6 ≤ m → num 0 (((L.take m).drop 2).take 2) = s ∧ num 0 (((L.take m).drop 4).take 2) = (l8.length : Int) + 2
theorem frameOf (s : Int) (l8 : List Int) (hs : 0 ≤ s ∧ s ≤ 65535) (hby : Bytes l8) (hl : l8.length + 2 ≤ 1494) : FrameOf s l8 (([(17 : Int), 0] ++ be 2 s ++ be 2 ((([] ++ be 2 33) ++ l8).length : Int)) ++ (([] ++ be 2 33) ++ l8)) := by
 have hk2 : ((([] ++ be 2 33) ++ l8).length : Int) = (l8.length : Int) + 2 := by simp only [List.length_append, List.length_nil, be_length]; omega
 refine ⟨by simp only [List.length_append, List.length_cons, List.length_nil, be_length]; omega, ?_, rfl, rfl, fun m hm => ?_⟩
 · refine Bytes.append (Bytes.append (Bytes.append ?_ (bytes_be _ _)) (bytes_be _ _)) (Bytes.append (Bytes.append Bytes.nil (bytes_be _ _)) hby)
   exact Bytes.cons (by unfold Byte; decide) (Bytes.cons (by unfold Byte; decide) Bytes.nil)
 · have := head_of s ((([] ++ be 2 33) ++ l8).length : Int) hs (by omega) (([] ++ be 2 33) ++ l8) m hm
   rw [hk2] at this
   rw [hk2]
   exact this
theorem eput0 (w : World) (s : Int) (l8 : List Int) (v : Value) (hE : GE w) (hs0 : s ≠ 0) (hs : 0 ≤ s ∧ s ≤ 65535) (h8 : Kd.V (Kd.int .u8) 0 w 0 (fun k => k < w.heap.size) v l8) (hby : Bytes l8) (hl : l8.length + 2 ≤ 1494) :
 Calls Tryd.prog 10 #[.agg (fr 0 s (.slice none 0 0) 33 0 0 (.slice none 0 0) 0 0 (.slice none 0 0) (.slice none 0 0) v (.slice none 0 0))] w fun e w' => ∃ (L : List Int) (g cap : Nat), e = .returned (.tuple #[.slice (some ⟨g, 0, none⟩) L.length cap, .int .i64 0]) ∧ L.length ≤ cap ∧ Rd (Kd.int .u8) w' (.slice (some ⟨g, 0, none⟩) L.length cap) L ∧ FrameOf s l8 L ∧ Below w.heap.size w w' := by
 refine (eput_at w 0 s 33 0 0 0 0 _ _ _ _ _ _ (([] ++ be 2 33) ++ l8) (by decide) hs (fun W hW => right0 s hs0 W (hE.below hW).2)
  (fun W hW => pay0 W s l8 v (hE.below hW).1 (fun W' hW' => Kd.V_mono (Kd.V_below (Kd.V_below h8 hW) hW') (fun k hk => Nat.lt_of_lt_of_le hk hW.size)) hby (by omega)) (by simp only [List.length_append, List.length_nil, be_length]; omega)).mono ?_
 rintro e w' ⟨g, cap, he, hc, hr, hb⟩
 exact ⟨_, g, cap, he, hc, hr, frameOf s l8 hs hby hl, hb⟩
theorem eput0_long (w : World) (s : Int) (l8 : List Int) (v : Value) (hE : GE w) (hs0 : s ≠ 0) (hs : 0 ≤ s ∧ s ≤ 65535) (h8 : Kd.V (Kd.int .u8) 0 w 0 (fun k => k < w.heap.size) v l8) (hby : Bytes l8) (hl : 1494 < l8.length + 2 ∧ l8.length ≤ 5000) :
 Calls Tryd.prog 10 #[.agg (fr 0 s (.slice none 0 0) 33 0 0 (.slice none 0 0) 0 0 (.slice none 0 0) (.slice none 0 0) v (.slice none 0 0))] w fun e w' => e = .returned (.tuple #[.slice none 0 0, .int .i64 3]) ∧ Below w.heap.size w w' :=
 eput_long w 0 s 33 0 0 0 0 _ _ _ _ _ _ (([] ++ be 2 33) ++ l8) (fun W hW => right0 s hs0 W (hE.below hW).2)
  (fun W hW => pay0 W s l8 v (hE.below hW).1 (fun W' hW' => Kd.V_mono (Kd.V_below (Kd.V_below h8 hW) hW') (fun k hk => Nat.lt_of_lt_of_le hk hW.size)) hby (by omega)) (by simp only [List.length_append, List.length_nil, be_length]; omega) (by simp only [List.length_append, List.length_nil, be_length]; omega)
set_option maxHeartbeats 16000000 in
set_option maxRecDepth 100000 in
theorem emost (w : World) (n cut s : Int) (hE0 : GE w) (hn : 0 ≤ n ∧ n ≤ 65535) (hcut : 0 ≤ cut ∧ cut ≤ 65535) (hss : 0 ≤ s ∧ s ≤ 65535) :
 Calls Tryd.prog 3 #[.int .u16 n, .int .u16 cut, .int .u16 s] w fun e w' => e = .returned (.bool true) ∧ Below w.heap.size w w' := by
 have hu32 := Tryd.underlying32
 have hu29 := Tryd.underlying29
 have hE := Aside0.mk hE0
 have HB := Aside0.mk (Below.refl w.heap.size w)
 obtain ⟨hn0, hn1⟩ := hn
 by_cases hz : s = 0
 · have hz0 : (s == 0) = true := by simpa using hz
   clear hz hE0 hcut hss
   go_enter Tryd.func3, Tryd.ntmps3
   go_wp2_with (first | ((with_reducible refine gate_dst (N := 14) rfl ?_); refine gate_guard (by rfl) ?_; refine goesL_ (some 14) rfl rfl Tryd.func9 (by kernel_rfl) rfl #[] rfl (by first | rfl | (simp only [List.map_toArray, List.map_cons, List.map_nil]; done) | (simp only [List.map_toArray, List.map_cons, List.map_nil]; rfl)) ?_; refine (speaks22 _ (hE.out.below HB.out)).mono ?_; rintro e w1 ⟨rfl, hb⟩; refine ⟨_, rfl, ?_⟩; replace HB := Aside0.mk (below_step HB.out hb); clear hb) | ((with_reducible refine gate_dst (N := 20) rfl ?_); refine gate_guard (by rfl) ?_; refine goesL_ (some 20) rfl rfl Tryd.func9 (by kernel_rfl) rfl #[] rfl (by first | rfl | (simp only [List.map_toArray, List.map_cons, List.map_nil]; done) | (simp only [List.map_toArray, List.map_cons, List.map_nil]; rfl)) ?_; refine (speaks22 _ (hE.out.below HB.out)).mono ?_; rintro e w2 ⟨rfl, hb⟩; refine ⟨_, rfl, ?_⟩; replace HB := Aside0.mk (below_step HB.out hb); clear hb))
   go_ret
   exact ⟨rfl, HB.out⟩
 have hz0 : (s == 0) = false := by simpa using hz
 have hs0 := Aside0.mk hz
 have hs := Aside0.mk hss
 have hk0 : 0 ≤ n % 2000 := by omega
 have hk1 : n % 2000 ≤ 1999 := by omega
 have hk2 : (n % 2000).toNat ≤ 1999 := by omega
 have hkn : ((n % 2000).toNat : Int) = n % 2000 := by omega
 have hcut_ := Aside0.mk hcut
 clear hz hE0 hcut hss
 by_cases hlong : 1494 < n % 2000 + 2
 · have hd : decide (1494 < n % 2000 + 2) = true := decide_eq_true hlong
   have HK := Aside0.mk (show 1494 < (n % 2000).toNat + 2 ∧ (n % 2000).toNat ≤ 1999 from by omega)
   clear hlong hkn
   go_enter Tryd.func3, Tryd.ntmps3
   go_wp2_with (first | ((with_reducible refine gate_dst (N := 14) rfl ?_); refine gate_guard (by rfl) ?_; refine goesL_ (some 14) rfl rfl Tryd.func9 (by kernel_rfl) rfl #[] rfl (by first | rfl | (simp only [List.map_toArray, List.map_cons, List.map_nil]; done) | (simp only [List.map_toArray, List.map_cons, List.map_nil]; rfl)) ?_; refine (speaks22 _ (hE.out.below HB.out)).mono ?_; rintro e w1 ⟨rfl, hb⟩; refine ⟨_, rfl, ?_⟩; replace HB := Aside0.mk (below_step HB.out hb); clear hb) | ((with_reducible refine gate_dst (N := 26) rfl ?_); refine gate_guard (by rfl) ?_; refine Kd.R_make (Kd.int .u8) (w0 := w1) _ 5 rfl (N := 26) rfl 24 (.tmp 25) (.tmp 25) rfl (n % 2000) rfl rfl Tryd.underlying24 (.int .u8 0) 1 info5 rfl (by decide) (by decide) 0 (ok := fun _ => True) (okp := fun _ => False) rfl (fun _ hk => hk.elim) trivial hk0 (by omega) (Below.refl _ _) (Nat.le_refl _) ?_; intro v1 w2 hr hb hg1 hg2; clear hg1 hg2; obtain ⟨l8, hl8, hb8, he8⟩ := zeros8 (n % 2000).toNat; rw [he8] at hr; have hv := Kd.V_mono (Kd.V_bound (v_of_n (Kd.R_N hr))) (fun k hk => hk.2); obtain ⟨A8, c8, rfl, n8, g8⟩ := hv; have F_8 := Aside0.mk (show Kd.V (Kd.int .u8) 0 _ 0 (fun k => k < _) (.slice A8 l8.length c8) l8 from Kd.V_mk n8 g8); clear n8 g8 hr he8; have HB8 := Aside0.mk hb8; have HL8 := Aside0.mk hl8; clear hb8 hl8; replace HB := Aside0.mk (below_step HB.out hb); have W_8 := Aside0.mk (Below.refl w2.heap.size w2); clear hb) | ((with_reducible refine gate_dst (N := 8) rfl ?_); refine gate_guard (by rfl) ?_; refine box_event rfl (N := 8) rfl (cs := #[.int .u8 0, .int .u16 0, .slice none 0 0, .int .u16 0, .int .u8 0, .int .u8 0, .slice none 0 0, .int .u16 0, .int .u32 0, .slice none 0 0, .slice none 0 0, .slice none 0 0, .slice none 0 0]) (t := 32) (by first | (go_simp; done) | (go_simp; rfl)) ?_; intro g_f hg w3 hn hb; have G_f := Aside0.mk (show w.heap.size ≤ g_f from by rw [hg]; exact below_size HB.out); replace W_8 := Aside0.mk (below_step W_8.out hb); have G8_f := Aside0.mk (show w2.heap.size ≤ g_f from by rw [hg]; exact Nat.le_refl _); replace HB := Aside0.mk (below_step HB.out hb); clear hb; have B_f := Aside0.mk hn; clear hn hg) | ((with_reducible refine gate_store (p := 8) rfl ?_); refine ev_store rfl rfl rfl (cells := (fr 0 s (.slice none 0 0) 33 0 0 (.slice none 0 0) 0 0 (.slice none 0 0) (.slice none 0 0) (.slice A8 l8.length c8) (.slice none 0 0))) rfl B_f.out rfl (by kernel_rfl) (fr_one rfl rfl rfl rfl rfl rfl) ?_; intro w4 hn ho; replace B_f := Aside0.mk hn; replace W_8 := Aside0.mk (below_only W_8.out ho G8_f.out); replace HB := Aside0.mk (below_only HB.out ho G_f.out); clear hn ho) | ((with_reducible refine gate_dst (N := 30) rfl ?_); refine gate_guard (by rfl) ?_; refine ev_load rfl rfl rfl B_f.out Tryd.underlying32 rfl (by kernel_rfl) ?_) | ((with_reducible refine gate_dst (N := 31) rfl ?_); refine gate_guard (by rfl) ?_; refine goesL_ (some 31) rfl rfl Tryd.func10 (by kernel_rfl) rfl #[.agg (fr 0 s (.slice none 0 0) 33 0 0 (.slice none 0 0) 0 0 (.slice none 0 0) (.slice none 0 0) (.slice A8 l8.length c8) (.slice none 0 0))] rfl (by first | rfl | (simp only [List.map_toArray, List.map_cons, List.map_nil]; done) | (simp only [List.map_toArray, List.map_cons, List.map_nil]; rfl)) ?_; refine (eput0_long _ s l8 (.slice A8 l8.length c8) (hE.out.below HB.out) hs0.out hs.out (old8 F_8.out W_8.out) HB8.out (by have h1 := HL8.out; have h2 := HK.out; omega)).mono ?_; rintro e w5 ⟨rfl, hb⟩; refine ⟨_, rfl, ?_⟩; replace B_f := Aside0.mk (blk_below B_f.out hb); clear W_8; replace HB := Aside0.mk (below_step HB.out hb); clear hb))
   go_ret
   exact ⟨rfl, HB.out⟩
 have hd : decide (1494 < n % 2000 + 2) = false := decide_eq_false hlong
 have HK := Aside0.mk (show (n % 2000).toNat + 2 ≤ 1494 from by omega)
 have HKN := Aside0.mk hkn
 clear hlong hkn
 go_enter Tryd.func3, Tryd.ntmps3
 go_upto_region 8 with (first | ((with_reducible refine gate_dst (N := 14) rfl ?_); refine gate_guard (by rfl) ?_; refine goesL_ (some 14) rfl rfl Tryd.func9 (by kernel_rfl) rfl #[] rfl (by first | rfl | (simp only [List.map_toArray, List.map_cons, List.map_nil]; done) | (simp only [List.map_toArray, List.map_cons, List.map_nil]; rfl)) ?_; refine (speaks22 _ (hE.out.below HB.out)).mono ?_; rintro e w1 ⟨rfl, hb⟩; refine ⟨_, rfl, ?_⟩; replace HB := Aside0.mk (below_step HB.out hb); clear hb) | ((with_reducible refine gate_dst (N := 26) rfl ?_); refine gate_guard (by rfl) ?_; refine Kd.R_make (Kd.int .u8) (w0 := w1) _ 5 rfl (N := 26) rfl 24 (.tmp 25) (.tmp 25) rfl (n % 2000) rfl rfl Tryd.underlying24 (.int .u8 0) 1 info5 rfl (by decide) (by decide) 0 (ok := fun _ => True) (okp := fun _ => False) rfl (fun _ hk => hk.elim) trivial hk0 (by omega) (Below.refl _ _) (Nat.le_refl _) ?_; intro v1 w2 hr hb hg1 hg2; clear hg1 hg2; obtain ⟨l8, hl8, hb8, he8⟩ := zeros8 (n % 2000).toNat; rw [he8] at hr; have hv := Kd.V_mono (Kd.V_bound (v_of_n (Kd.R_N hr))) (fun k hk => hk.2); obtain ⟨A8, c8, rfl, n8, g8⟩ := hv; have F_8 := Aside0.mk (show Kd.V (Kd.int .u8) 0 _ 0 (fun k => k < _) (.slice A8 l8.length c8) l8 from Kd.V_mk n8 g8); clear n8 g8 hr he8; have HB8 := Aside0.mk hb8; have HL8 := Aside0.mk hl8; clear hb8 hl8; replace HB := Aside0.mk (below_step HB.out hb); have W_8 := Aside0.mk (Below.refl w2.heap.size w2); clear hb) | ((with_reducible refine gate_dst (N := 8) rfl ?_); refine gate_guard (by rfl) ?_; refine box_event rfl (N := 8) rfl (cs := #[.int .u8 0, .int .u16 0, .slice none 0 0, .int .u16 0, .int .u8 0, .int .u8 0, .slice none 0 0, .int .u16 0, .int .u32 0, .slice none 0 0, .slice none 0 0, .slice none 0 0, .slice none 0 0]) (t := 32) (by first | (go_simp; done) | (go_simp; rfl)) ?_; intro g_f hg w3 hn hb; have G_f := Aside0.mk (show w.heap.size ≤ g_f from by rw [hg]; exact below_size HB.out); replace W_8 := Aside0.mk (below_step W_8.out hb); have G8_f := Aside0.mk (show w2.heap.size ≤ g_f from by rw [hg]; exact Nat.le_refl _); replace HB := Aside0.mk (below_step HB.out hb); clear hb; have B_f := Aside0.mk hn; clear hn hg) | ((with_reducible refine gate_store (p := 8) rfl ?_); refine ev_store rfl rfl rfl (cells := (fr 0 s (.slice none 0 0) 33 0 0 (.slice none 0 0) 0 0 (.slice none 0 0) (.slice none 0 0) (.slice A8 l8.length c8) (.slice none 0 0))) rfl B_f.out rfl (by kernel_rfl) (fr_one rfl rfl rfl rfl rfl rfl) ?_; intro w4 hn ho; replace B_f := Aside0.mk hn; replace W_8 := Aside0.mk (below_only W_8.out ho G8_f.out); replace HB := Aside0.mk (below_only HB.out ho G_f.out); clear hn ho) | ((with_reducible refine gate_dst (N := 30) rfl ?_); refine gate_guard (by rfl) ?_; refine ev_load rfl rfl rfl B_f.out Tryd.underlying32 rfl (by kernel_rfl) ?_) | ((with_reducible refine gate_dst (N := 31) rfl ?_); refine gate_guard (by rfl) ?_; refine goesL_ (some 31) rfl rfl Tryd.func10 (by kernel_rfl) rfl #[.agg (fr 0 s (.slice none 0 0) 33 0 0 (.slice none 0 0) 0 0 (.slice none 0 0) (.slice none 0 0) (.slice A8 l8.length c8) (.slice none 0 0))] rfl (by first | rfl | (simp only [List.map_toArray, List.map_cons, List.map_nil]; done) | (simp only [List.map_toArray, List.map_cons, List.map_nil]; rfl)) ?_; refine (eput0 _ s l8 (.slice A8 l8.length c8) (hE.out.below HB.out) hs0.out hs.out (old8 F_8.out W_8.out) HB8.out (by have h1 := HL8.out; have h2 := HK.out; omega)).mono ?_; rintro e w5 ⟨L, g_b, cap, rfl, hc, hv, hfr, hb⟩; refine ⟨_, rfl, ?_⟩; have F_L := Aside0.mk hv; have HCAP := Aside0.mk hc; have HFR := Aside0.mk hfr; clear hv hc hfr; replace B_f := Aside0.mk (blk_below B_f.out hb); clear W_8; replace HB := Aside0.mk (below_step HB.out hb); clear hb))
 have hcap := HCAP.out
 have hl8 := HL8.out
 have hkn := HKN.out
 have hk3 := HK.out
 obtain ⟨hlen, hby, h0, h1, hhead⟩ := HFR.out
 rw [show (l8.length : Int) + 2 = n % 2000 + 2 by omega] at hhead
 rw [hl8] at hlen
 have FL := F_L.out
 clear F_L HCAP F_8 HFR HL8 HB8 HKN hl8
 obtain ⟨m, hm⟩ : ∃ m, m = (cut % (L.length : Int)).toNat := ⟨_, rfl⟩
 have hcut0 := hcut_.out.1
 have hcut1 := hcut_.out.2
 have hmod0 : 0 ≤ cut % (L.length : Int) := Int.emod_nonneg _ (by omega)
 have hmod1 : cut % (L.length : Int) < L.length := Int.emod_lt_of_pos _ (by omega)
 have htake : (L.take m).length = m := by rw [List.length_take]; omega
 have hwt : (wrap64 cut).tmod (L.length : Int) = (m : Int) := by
  rw [show wrap64 cut = cut from by unfold wrap64; omega, Int.tmod_eq_emod_of_nonneg (by omega), hm]
  omega
 have hmc : 0 ≤ (m : Int) ∧ (m : Int) ≤ (cap : Int) := by omega
 have hmc1 : (m : Int) ≤ (cap : Int) := hmc.2
 have hne : ((L.length : Int) != n % 2000 + 8) = false := by rw [bne_eq_false_iff_eq]; omega
 have hpos : (8 : Int) ≤ (L.length : Int) := by omega
 have hn0' : ((L.length : Int) == 0) = false := by rw [beq_eq_false_iff_ne]; omega
 by_cases h6 : m < 6
 · have HM := Aside0.mk h6
   clear h6 hhead h0 h1 hby htake hm hcut0 hkn hcap hs hs0 hlen hmod0 hmod1 hmc hcut1 hk3
   go_wp2_with (first | ((with_reducible refine gate_dst (N := 61) rfl ?_); refine gate_guard (by rfl) ?_; refine goesL_ (some 61) rfl rfl Tryd.func11 (by kernel_rfl) rfl #[.slice (some ⟨g_b, 0, none⟩) m cap] rfl (by first | rfl | (simp only [List.map_toArray, List.map_cons, List.map_nil]; done) | (simp only [List.map_toArray, List.map_cons, List.map_nil]; rfl)) ?_; refine (get_short _ _ _ _ HM.out).mono ?_; rintro e r1 ⟨rfl, hb⟩; refine ⟨_, rfl, ?_⟩; replace HB := Aside0.mk (below_step HB.out hb); clear hb) | ((with_reducible refine gate_dst (N := 11) rfl ?_); refine gate_guard (by rfl) ?_; refine box_event rfl (N := 11) rfl (cs := #[.int .u8 0, .int .u16 0, .slice none 0 0, .int .u16 0, .int .u8 0, .int .u8 0, .slice none 0 0, .int .u16 0, .int .u32 0, .slice none 0 0, .slice none 0 0, .slice none 0 0, .slice none 0 0]) (t := 32) (by first | (go_simp; done) | (go_simp; rfl)) ?_; intro g_y hg r2 hn hb; have G_y := Aside0.mk (show w.heap.size ≤ g_y from by rw [hg]; exact below_size HB.out); replace HB := Aside0.mk (below_step HB.out hb); clear hb; have B_y := Aside0.mk hn; clear hn hg) | ((with_reducible refine gate_store (p := 11) rfl ?_); refine ev_store rfl rfl rfl (cells := (fr 0 0 (.slice none 0 0) 0 0 0 (.slice none 0 0) 0 0 (.slice none 0 0) (.slice none 0 0) (.slice none 0 0) (.slice none 0 0))) rfl B_y.out rfl (by kernel_rfl) (fr_one rfl rfl rfl rfl rfl rfl) ?_; intro r3 hn ho; replace B_y := Aside0.mk hn; replace HB := Aside0.mk (below_only HB.out ho G_y.out); clear hn ho) | ((with_reducible refine gate_dst (N := 72) rfl ?_); refine gate_guard (by rfl) ?_; refine ev_load rfl rfl rfl B_y.out Tryd.underlying32 rfl (by kernel_rfl) ?_) | ((with_reducible refine gate_dst (N := 73) rfl ?_); refine gate_guard (by rfl) ?_; refine goesL_ (some 73) rfl rfl Tryd.func13 (by kernel_rfl) rfl #[.agg (fr 0 0 (.slice none 0 0) 0 0 0 (.slice none 0 0) 0 0 (.slice none 0 0) (.slice none 0 0) (.slice none 0 0) (.slice none 0 0))] rfl (by first | rfl | (simp only [List.map_toArray, List.map_cons, List.map_nil]; done) | (simp only [List.map_toArray, List.map_cons, List.map_nil]; rfl)) ?_; refine (to_zero _).mono ?_; rintro e r4 ⟨y_, rfl, hy, hb⟩; refine ⟨_, rfl, ?_⟩; have F_Y := Aside0.mk hy; clear hy; replace B_y := Aside0.mk (blk_below B_y.out hb); replace HB := Aside0.mk (below_step HB.out hb); clear hb) | ((with_reducible refine gate_dst (N := 75) rfl ?_); refine gate_guard (by rfl) ?_; refine goesL_ (some 75) rfl rfl Tryd.func12 (by kernel_rfl) rfl #[y_, .agg (fr 0 0 (.slice none 0 0) 0 0 0 (.slice none 0 0) 0 0 (.slice none 0 0) (.slice none 0 0) (.slice none 0 0) (.slice none 0 0))] rfl (by first | rfl | (simp only [List.map_toArray, List.map_cons, List.map_nil]; done) | (simp only [List.map_toArray, List.map_cons, List.map_nil]; rfl)) ?_; refine (same_zero F_Y.out).mono ?_; rintro e r5 ⟨rfl, hb⟩; refine ⟨_, rfl, ?_⟩; replace B_y := Aside0.mk (blk_below B_y.out hb); replace HB := Aside0.mk (below_step HB.out hb); clear hb))
   go_ret
   exact ⟨rfl, HB.out⟩
 · have hh := hhead m (by omega)
   have hget := (get_cut w5 g_b cap (L.take m) s (n % 2000 + 2) (hE.out.below HB.out).2 hs0.out hs.out (by omega) (by omega) (by omega) (by omega)
    (fun W hW => cell_rd (FL.below hW) h0) (fun W hW => cell_rd (FL.below hW) h1) (fun W hW => wget_at m (FL.below hW) hby (by omega) (by omega) hh.1) (fun W hW => wget_at m (FL.below hW) hby (by omega) (by omega) hh.2))
   rw [htake] at hget
   have HGET := Aside0.mk hget
   clear hget h6 hhead h0 h1 hby htake hm hcut0 hkn hcap hs hs0 hlen hmod0 hmod1 hmc hcut1 hk3 hh FL
   go_wp2_with (first | ((with_reducible refine gate_dst (N := 61) rfl ?_); refine gate_guard (by rfl) ?_; refine goesL_ (some 61) rfl rfl Tryd.func11 (by kernel_rfl) rfl #[.slice (some ⟨g_b, 0, none⟩) m cap] rfl (by first | rfl | (simp only [List.map_toArray, List.map_cons, List.map_nil]; done) | (simp only [List.map_toArray, List.map_cons, List.map_nil]; rfl)) ?_; refine (HGET.out).mono ?_; rintro e r1 ⟨rfl, hb⟩; refine ⟨_, rfl, ?_⟩; replace HB := Aside0.mk (below_step HB.out hb); clear hb) | ((with_reducible refine gate_dst (N := 11) rfl ?_); refine gate_guard (by rfl) ?_; refine box_event rfl (N := 11) rfl (cs := #[.int .u8 0, .int .u16 0, .slice none 0 0, .int .u16 0, .int .u8 0, .int .u8 0, .slice none 0 0, .int .u16 0, .int .u32 0, .slice none 0 0, .slice none 0 0, .slice none 0 0, .slice none 0 0]) (t := 32) (by first | (go_simp; done) | (go_simp; rfl)) ?_; intro g_y hg r2 hn hb; have G_y := Aside0.mk (show w.heap.size ≤ g_y from by rw [hg]; exact below_size HB.out); replace HB := Aside0.mk (below_step HB.out hb); clear hb; have B_y := Aside0.mk hn; clear hn hg) | ((with_reducible refine gate_store (p := 11) rfl ?_); refine ev_store rfl rfl rfl (cells := (fr 0 0 (.slice none 0 0) 0 0 0 (.slice none 0 0) 0 0 (.slice none 0 0) (.slice none 0 0) (.slice none 0 0) (.slice none 0 0))) rfl B_y.out rfl (by kernel_rfl) (fr_one rfl rfl rfl rfl rfl rfl) ?_; intro r3 hn ho; replace B_y := Aside0.mk hn; replace HB := Aside0.mk (below_only HB.out ho G_y.out); clear hn ho) | ((with_reducible refine gate_dst (N := 72) rfl ?_); refine gate_guard (by rfl) ?_; refine ev_load rfl rfl rfl B_y.out Tryd.underlying32 rfl (by kernel_rfl) ?_) | ((with_reducible refine gate_dst (N := 73) rfl ?_); refine gate_guard (by rfl) ?_; refine goesL_ (some 73) rfl rfl Tryd.func13 (by kernel_rfl) rfl #[.agg (fr 0 0 (.slice none 0 0) 0 0 0 (.slice none 0 0) 0 0 (.slice none 0 0) (.slice none 0 0) (.slice none 0 0) (.slice none 0 0))] rfl (by first | rfl | (simp only [List.map_toArray, List.map_cons, List.map_nil]; done) | (simp only [List.map_toArray, List.map_cons, List.map_nil]; rfl)) ?_; refine (to_zero _).mono ?_; rintro e r4 ⟨y_, rfl, hy, hb⟩; refine ⟨_, rfl, ?_⟩; have F_Y := Aside0.mk hy; clear hy; replace B_y := Aside0.mk (blk_below B_y.out hb); replace HB := Aside0.mk (below_step HB.out hb); clear hb) | ((with_reducible refine gate_dst (N := 75) rfl ?_); refine gate_guard (by rfl) ?_; refine goesL_ (some 75) rfl rfl Tryd.func12 (by kernel_rfl) rfl #[y_, .agg (fr 0 0 (.slice none 0 0) 0 0 0 (.slice none 0 0) 0 0 (.slice none 0 0) (.slice none 0 0) (.slice none 0 0) (.slice none 0 0))] rfl (by first | rfl | (simp only [List.map_toArray, List.map_cons, List.map_nil]; done) | (simp only [List.map_toArray, List.map_cons, List.map_nil]; rfl)) ?_; refine (same_zero F_Y.out).mono ?_; rintro e r5 ⟨rfl, hb⟩; refine ⟨_, rfl, ?_⟩; replace B_y := Aside0.mk (blk_below B_y.out hb); replace HB := Aside0.mk (below_step HB.out hb); clear hb))
   go_ret
   exact ⟨rfl, HB.out⟩
theorem int_wf2 {k : IntKind} {n : Int} (h : (Lit.int k n).wf = true) : k.min ≤ n ∧ n ≤ k.max := by simpa [Lit.wf] using h
theorem emost_walk (a0 : Int) (a1 : Int) (a2 : Int) (w : World) (hGL : GE w) (w0 : (Lit.int .u16 a0).wf = true) (w1 : (Lit.int .u16 a1).wf = true) (w2 : (Lit.int .u16 a2).wf = true) :
 Calls Tryd.prog 3 #[.int .u16 a0, .int .u16 a1, .int .u16 a2] w fun e w' => e = .returned (.bool true) ∧ Below w.heap.size w w' :=
 emost w a0 a1 a2 hGL (int_wf2 w0) (int_wf2 w1) (int_wf2 w2)
end Go.Proofs.YteanncchmenlkaaDoor.Hw
