/- What the printed functions of layer 4 (octets, escaped), of its reference and of maps come to, in plain words. -/
import Derived.Test.YtppfoopecdmblaaDoorS00
import Derived.Test.YtppfoopecdmblaaDoorPrintAccmHas
import Derived.Test.YtppfoopecdmblaaDoorPrintAccmMust
import Derived.Test.YtppfoopecdmblaaDoorPrintBytesIndexByte
import Derived.Test.YtppfoopecdmblaaDoorPrintStuffSize
import Derived.Test.YtppfoopecdmblaaDoorPrintStuffStuff
import Derived.Test.YtppfoopecdmblaaDoorPrintStuffUnstuff
import Derived.Test.YtppfoopecdmblaaDoorPrintMarlinelaw04Speaks
namespace Go.Proofs.YtppfoopecdmblaaDoor.Sp
open Go.RowKit Go.Proofs.YtppfoopecdmblaaDoor.Print Go.Proofs.YtppfoopecdmblaaDoorW.PrintWords Go.Proofs.YtppfoopecdmblaaDoorW.PrintLast Go.Proofs.YtppfoopecdmblaaDoor.Pl
set_option linter.unusedVariables false
/-! ### maps -/
def U32 (m : Int) : Prop := 0 ≤ m ∧ m < 4294967296
/-- Is an octet in a map? -/
def has (m c : Int) : Bool := decide (m / 2 ^ c.toNat % 2 = 1)
theorem and1u {x : Int} (h : U32 x) : Go.bits .and .u32 x 1 = x % 2 := by
  obtain ⟨n, rfl⟩ := Int.eq_ofNat_of_zero_le h.1
  have h2 := h.2
  have h3 := u32_and_nat n 1 (by omega) (by omega)
  rw [Nat.and_one_is_mod] at h3
  rw [show ((1 : Nat) : Int) = 1 from rfl] at h3
  rw [h3]
  omega
theorem pow32 {j : Nat} (h : 32 ≤ j) : (4294967296 : Int) ≤ 2 ^ j := by
  have h9 : (2 : Nat) ^ 32 ≤ 2 ^ j := Nat.pow_le_pow_right (by omega) h
  have h8 := Int.ofNat_le.2 h9
  rw [Int.natCast_pow] at h8
  simpa using h8
theorem div_u32 {m : Int} (h : U32 m) (j : Nat) : U32 (m / 2 ^ j) := by
  have hp : (0 : Int) < 2 ^ j := Int.pow_pos (by omega)
  refine ⟨Int.ediv_nonneg h.1 (by omega), ?_⟩
  have := Int.ediv_le_self (2 ^ j) h.1
  have := h.2
  omega
theorem has_big {m c : Int} (h : U32 m) (hc : 32 ≤ c) : has m c = false := by
  unfold has
  rw [decide_eq_false_iff_not]
  have h1 := pow32 (j := c.toNat) (by omega)
  have h2 : m / 2 ^ c.toNat = 0 := Int.ediv_eq_zero_of_lt h.1 (by have := h.2; omega)
  rw [h2]
  decide
theorem bitsHas {m c : Int} (h : U32 m) (hc : Byte c) : ((Go.bits .and .u32 (shr .u32 m c) 1) == 1) = has m c := by
  have hc0 := hc.1
  by_cases h32 : c < 32
  · have e : shr .u32 m c = m / 2 ^ c.toNat := by
      unfold shr
      rw [Nat.min_eq_left (by simp [IntKind.bits]; omega)]
    rw [e, and1u (div_u32 h _)]
    unfold has
    rw [Bool.eq_iff_iff]
    simp
  · have e : shr .u32 m c = m / 2 ^ 32 := by
      unfold shr
      rw [Nat.min_eq_right (by simp [IntKind.bits]; omega)]
      rfl
    rw [e, and1u (div_u32 h _), has_big h (by omega)]
    have h2 : m / 2 ^ 32 = 0 := Int.ediv_eq_zero_of_lt h.1 (by have := h.2; omega)
    rw [h2]
    rfl
theorem HasA {m c : Int} (h : U32 m) (hc : Byte c) : accm_Has.f m c = some (has m c) := by
  unfold accm_Has.f
  rw [if_pos hc.1, bitsHas h hc]
def must (m c : Int) : Bool := decide (c = 126 ∨ c = 125) || has m c
theorem MustA {m c : Int} (h : U32 m) (hc : Byte c) : Ev (fun k => accm_Must.f k m c) (must m c) := by
  have j0 : ∀ b : Bool, Ev (fun k => accm_Must.j0 k m c b) (b || has m c) := by
    intro b
    cases b with
    | true => exact Ev.step (fun k => by simp only [accm_Must.j0]; rw [if_pos trivial]) (Ev.end_ (by simp))
    | false =>
      refine Ev.step (fun k => by simp only [accm_Must.j0]; rw [if_neg (by decide), HasA h hc, Option.bind_some]) (Ev.end_ (by simp))
  unfold accm_Must.f
  by_cases h1 : c = 126
  · refine Ev.pos h1 ?_
    have := j0 (c == 126)
    rw [show must m c = ((c == 126) || has m c) by unfold must; simp [h1]]
    exact this
  · refine Ev.neg h1 ?_
    have := j0 (c == 125)
    rw [show must m c = ((c == 125) || has m c) by unfold must; rw [Bool.eq_iff_iff]; simp [h1]]
    exact this
/-! ### an octet, turned -/
def tn (c : Int) : Int := Go.bits .xor .u8 c 32
theorem tn_all : ((List.range 256).all fun n => decide (tn (n : Int) = if n / 32 % 2 = 1 then (n : Int) - 32 else (n : Int) + 32)) = true := by decide +kernel
theorem tn_eq {c : Int} (h : Byte c) : tn c = if c / 32 % 2 = 1 then c - 32 else c + 32 := by
  obtain ⟨n, rfl⟩ := Int.eq_ofNat_of_zero_le h.1
  have h2 := h.2
  have h3 := List.all_eq_true.1 tn_all n (List.mem_range.2 (by omega))
  rw [decide_eq_true_iff] at h3
  rw [h3]
  by_cases h4 : n / 32 % 2 = 1
  · rw [if_pos h4, if_pos (by omega)]
  · rw [if_neg h4, if_neg (by omega)]
theorem tn_byte {c : Int} (h : Byte c) : Byte (tn c) := by
  rw [tn_eq h]
  have := h.1; have := h.2
  split <;> constructor <;> omega
theorem tn_tn {c : Int} (h : Byte c) : tn (tn c) = c := by
  have h1 := tn_byte h
  rw [tn_eq h1, tn_eq h]
  have := h.1; have := h.2
  split <;> split <;> omega
/-! ### octets, escaped -/
def stf (m : Int) : List Int → List Int
  | [] => []
  | c :: t => if must m c = true then 125 :: tn c :: stf m t else c :: stf m t
theorem stf_append (m : Int) (a b : List Int) : stf m (a ++ b) = stf m a ++ stf m b := by
  induction a with
  | nil => rfl
  | cons c t ih => simp only [List.cons_append, stf, ih]; split <;> rfl
theorem stf_len (m : Int) (l : List Int) : l.length ≤ (stf m l).length ∧ (stf m l).length ≤ 2 * l.length := by
  induction l with
  | nil => simp [stf]
  | cons c t ih => simp only [stf]; split <;> simp only [List.length_cons] <;> omega
theorem stf_bytes {m : Int} {l : List Int} (h : Bytes l) : Bytes (stf m l) := by
  induction l with
  | nil => exact Bytes.nil
  | cons c t ih =>
    simp only [stf]
    split
    · exact Bytes.cons (by constructor <;> omega) (Bytes.cons (tn_byte h.head) (ih h.tail))
    · exact Bytes.cons h.head (ih h.tail)
theorem bytesAt {l : List Int} (h : Bytes l) {i : Nat} {c : Int} {t : List Int} (e : l.drop i = c :: t) : Byte c := by
  have h4 := h.drop i
  rw [e] at h4
  exact h4.head
theorem SizeS_l0 (m : Int) (hm : U32 m) (l : List Int) (hl : Lim l) (hb : Bytes l) : ∀ (t : List Int) (i : Nat) (n : Int), l.drop i = t → 0 ≤ n → n + t.length ≤ 4000000 →
    Ev (fun k => stuff_Size.l0 k m n l (l.length : Int) i) (n + ((stf m t).length : Int) - t.length)
  | [], i, n, h, h0, h2 => by
    have h3 := drop_nil_len h
    exact Ev.step (fun k => by simp only [stuff_Size.l0]; rw [if_neg (by omega)]) (Ev.end_ (by simp [stf]))
  | c :: t, i, n, h, h0, h2 => by
    obtain ⟨e1, e2, e3⟩ := rd_drop h
    have hc := bytesAt hb h
    simp only [List.length_cons] at h2
    unfold Lim at hl
    refine Ev.step (fun k => by simp only [stuff_Size.l0]; rw [if_pos (by omega), if_pos (by omega), if_pos (by omega), e1, suc i (by omega)]) ?_
    refine Ev.bind (MustA hm hc) ?_
    by_cases hq : must m c = true
    · refine Ev.pos hq ?_
      rw [w64 (x := n + 1) (by omega) (by omega)]
      have ih := SizeS_l0 m hm l hl hb t (i + 1) (n + 1) e2 (by omega) (by omega)
      have e : n + ((stf m (c :: t)).length : Int) - ((c :: t).length : Int) = n + 1 + ((stf m t).length : Int) - t.length := by
        simp only [stf, if_pos hq, List.length_cons]; omega
      rw [e]
      exact ih
    · refine Ev.neg hq ?_
      have ih := SizeS_l0 m hm l hl hb t (i + 1) n e2 h0 (by omega)
      have e : n + ((stf m (c :: t)).length : Int) - ((c :: t).length : Int) = n + ((stf m t).length : Int) - t.length := by
        simp only [stf, if_neg hq, List.length_cons]; omega
      rw [e]
      exact ih
theorem SizeS (m : Int) (hm : U32 m) (l : List Int) (hl : Lim l) (hb : Bytes l) : Ev (fun k => stuff_Size.f k m l) ((stf m l).length : Int) := by
  unfold stuff_Size.f
  have h := SizeS_l0 m hm l hl hb l 0 (l.length : Int) rfl (by omega) (by unfold Lim at hl; omega)
  rw [show (l.length : Int) + ((stf m l).length : Int) - l.length = (stf m l).length by omega] at h
  exact h
theorem StuffS_l0 (m : Int) (hm : U32 m) (l : List Int) (hl : Lim l) (hb : Bytes l) : ∀ (t : List Int) (i : Nat) (x : List Int), l.drop i = t → x.length + 2 * t.length ≤ 4000000 →
    Ev (fun k => stuff_Stuff.l0 k m x l (l.length : Int) i) (x ++ stf m t)
  | [], i, x, h, h2 => by
    have h3 := drop_nil_len h
    exact Ev.step (fun k => by simp only [stuff_Stuff.l0]; rw [if_neg (by omega)]) (Ev.end_ (by simp [stf]))
  | c :: t, i, x, h, h2 => by
    obtain ⟨e1, e2, e3⟩ := rd_drop h
    have hc := bytesAt hb h
    simp only [List.length_cons] at h2
    unfold Lim at hl
    refine Ev.step (fun k => by simp only [stuff_Stuff.l0]; rw [if_pos (by omega), if_pos (by omega), if_pos (by omega), e1, suc i (by omega)]) ?_
    refine Ev.bind (MustA hm hc) ?_
    by_cases hq : must m c = true
    · refine Ev.pos hq (Ev.pos (by omega) (Ev.name (Ev.pos (by simp; omega) ?_)))
      have ih := StuffS_l0 m hm l hl hb t (i + 1) ((x ++ [125]) ++ [tn c]) e2 (by simp; omega)
      rw [show x ++ stf m (c :: t) = ((x ++ [125]) ++ [tn c]) ++ stf m t by simp only [stf, if_pos hq]; simp]
      exact ih
    · refine Ev.neg hq (Ev.pos (by omega) ?_)
      have ih := StuffS_l0 m hm l hl hb t (i + 1) (x ++ [c]) e2 (by simp; omega)
      rw [show x ++ stf m (c :: t) = (x ++ [c]) ++ stf m t by simp only [stf, if_neg hq]; simp]
      exact ih
theorem StuffS (m : Int) (hm : U32 m) (l : List Int) (hl : Lim l) (hb : Bytes l) : Ev (fun k => stuff_Stuff.f k m l) (stf m l) := by
  unfold stuff_Stuff.f
  have h1 := (stf_len m l).2
  refine Ev.bind (SizeS m hm l hl hb) (Ev.pos (by omega) (Ev.pos (by unfold Lim at hl; omega) ?_))
  exact StuffS_l0 m hm l hl hb l 0 [] rfl (by unfold Lim at hl; simp; omega)
/-! ### octets, read -/
/-- What is read of octets; e: the one ahead was an escape. -/
def out : Bool → List Int → List Int
  | _, [] => []
  | true, c :: t => tn c :: out false t
  | false, c :: t => if c = 125 then out true t else c :: out false t
/-- Does an escape stand at their end? -/
def esc : Bool → List Int → Bool
  | e, [] => e
  | true, _ :: t => esc false t
  | false, c :: t => if c = 125 then esc true t else esc false t
theorem out_append (a b : List Int) : ∀ e, out e (a ++ b) = out e a ++ out (esc e a) b := by
  induction a with
  | nil => intro e; cases e <;> rfl
  | cons c t ih =>
    intro e
    cases e with
    | true => simp only [List.cons_append, out, esc, ih]
    | false => simp only [List.cons_append, out, esc]; split <;> simp only [ih, List.cons_append]
theorem esc_append (a b : List Int) : ∀ e, esc e (a ++ b) = esc (esc e a) b := by
  induction a with
  | nil => intro e; cases e <;> rfl
  | cons c t ih =>
    intro e
    cases e with
    | true => simp only [List.cons_append, esc, ih]
    | false => simp only [List.cons_append, esc]; split <;> simp only [ih]
theorem clean_out {a : List Int} (h : 125 ∉ a) : out false a = a ∧ esc false a = false := by
  induction a with
  | nil => exact ⟨rfl, rfl⟩
  | cons c t ih =>
    have hc : c ≠ 125 := fun e => h (by simp [e])
    obtain ⟨h1, h2⟩ := ih (fun hm => h (by simp [hm]))
    simp only [out, esc, if_neg hc, h1, h2]
    exact ⟨trivial, trivial⟩
theorem out_len (t : List Int) : ∀ e, (out e t).length ≤ t.length := by
  induction t with
  | nil => intro e; cases e <;> simp [out]
  | cons c t ih =>
    intro e
    cases e with
    | true => simp only [out, List.length_cons]; have := ih false; omega
    | false =>
      have h1 := ih true
      have h2 := ih false
      simp only [out]
      split <;> simp only [List.length_cons] <;> omega
def left (m : Int) (l : List Int) : List Int := l.filter fun x => !has m x
theorem left_append (m : Int) (a b : List Int) : left m (a ++ b) = left m a ++ left m b := List.filter_append a b
theorem left_len (m : Int) (l : List Int) : (left m l).length ≤ l.length := List.length_filter_le _ _
theorem left_bytes {m : Int} {l : List Int} (h : Bytes l) : Bytes (left m l) := fun x hx => h x (List.mem_filter.1 hx).1
def unst (m : Int) (l : List Int) : List Int × Int := if 126 ∈ l then ([], 4) else if esc false (left m l) = true then ([], 10) else (out false (left m l), 0)
theorem out_bytes {l : List Int} (h : Bytes l) : ∀ e, Bytes (out e l) := by
  induction l with
  | nil => intro e; cases e <;> exact Bytes.nil
  | cons c t ih =>
    intro e
    cases e with
    | true => exact Bytes.cons (tn_byte h.head) (ih h.tail false)
    | false =>
      simp only [out]
      split
      · exact ih h.tail true
      · exact Bytes.cons h.head (ih h.tail false)
theorem unst_bytes {m : Int} {l : List Int} (h : Bytes l) : Bytes (unst m l).1 := by
  unfold unst
  split
  · exact Bytes.nil
  · split
    · exact Bytes.nil
    · exact out_bytes (left_bytes h) false
theorem unst_len (m : Int) (l : List Int) : (unst m l).1.length ≤ l.length := by
  unfold unst
  split
  · simp
  · split
    · simp
    · have := out_len (left m l) false; have := left_len m l; simp only; omega
/-- The place of the first such octet, or -1. -/
def pos : List Int → Int → Int
  | [], _ => -1
  | x :: t, c => if x = c then 0 else if pos t c = -1 then -1 else pos t c + 1
theorem pos_index : ∀ (l : List Int) (c : Int), Bytes l → Byte c → bytes_IndexByte.f l c = some (pos l c)
  | [], c, _, _ => rfl
  | x :: t, c, hl, hc => by
    have ih := Option.some.inj (pos_index t c hl.tail hc)
    show some (Go.Lib.indexByte (UInt8.ofNat x.toNat :: Go.Lib.bytesOf t) c.toNat.toUInt8) = _
    have hx := hl.head
    have hx0 := hx.1; have hx1 := hx.2; have hc0 := hc.1; have hc1 := hc.2
    have e : (UInt8.ofNat x.toNat == c.toNat.toUInt8) = decide (x = c) := by
      by_cases h : x = c
      · subst h; simp
      · rw [decide_eq_false h, beq_eq_false_iff_ne]
        intro h2
        have h3 := congrArg UInt8.toNat h2
        have h4 : (c.toNat.toUInt8).toNat = c.toNat % 256 := by simp [Nat.toUInt8]
        rw [UInt8.toNat_ofNat', h4, Nat.mod_eq_of_lt (by omega), Nat.mod_eq_of_lt (by omega)] at h3
        omega
    simp only [Go.Lib.indexByte, e, ih, pos]
    congr 1
    by_cases h : x = c
    · simp [h]
    · simp only [h, decide_false, Bool.false_eq_true, if_false]
      by_cases h2 : pos t c = -1
      · simp [h2]
      · rw [if_neg h2, if_neg (by simpa using h2)]
theorem pos_ge (l : List Int) (c : Int) : -1 ≤ pos l c := by
  induction l with
  | nil => simp [pos]
  | cons x t ih =>
    simp only [pos]
    split
    · omega
    · split <;> omega
theorem pos_none {l : List Int} {c : Int} : pos l c < 0 ↔ c ∉ l := by
  induction l with
  | nil => simp [pos]
  | cons x t ih =>
    have := pos_ge t c
    simp only [pos, List.mem_cons]
    by_cases h : x = c
    · rw [if_pos h]; simp [h]
    · rw [if_neg h]
      by_cases h2 : pos t c = -1
      · rw [if_pos h2]
        have h3 := ih.1 (by omega)
        simp only [Int.reduceNeg, Int.reduceLT, true_iff, not_or]
        exact ⟨fun e => h e.symm, h3⟩
      · rw [if_neg h2]
        have h3 : ¬ c ∉ t := fun hn => h2 (by have := ih.2 hn; omega)
        constructor
        · intro h4; omega
        · intro h4; exact absurd (fun hm => h4 (.inr hm)) h3
theorem pos_some : ∀ {l : List Int} {c : Int}, 0 ≤ pos l c → ∃ a b, l = a ++ c :: b ∧ c ∉ a ∧ (pos l c).toNat = a.length
  | [], c, h => by simp [pos] at h
  | x :: t, c, h => by
    simp only [pos] at h ⊢
    by_cases h1 : x = c
    · rw [if_pos h1]
      exact ⟨[], t, by simp [h1], by simp, rfl⟩
    · rw [if_neg h1] at h ⊢
      by_cases h2 : pos t c = -1
      · rw [if_pos h2] at h; omega
      · rw [if_neg h2] at h ⊢
        have := pos_ge t c
        obtain ⟨a, b, e1, e2, e3⟩ := pos_some (l := t) (c := c) (by omega)
        refine ⟨x :: a, b, by rw [e1]; rfl, ?_, by simp only [List.length_cons]; omega⟩
        simp only [List.mem_cons, not_or]
        exact ⟨fun e => h1 e.symm, e2⟩
theorem Unst_l0 : ∀ (n : Nat) (x o : List Int), x.length ≤ n → Bytes x → o.length + x.length ≤ 3000000 → Ev (fun k => stuff_Unstuff.l0 k x o) (if esc false x = true then ([], 10) else (o ++ out false x, 0))
  | n, x, o, hn, hb, hl => by
    refine Ev.step (fun k => by simp only [stuff_Unstuff.l0]; rw [pos_index x 125 hb (by constructor <;> omega), Option.bind_some]) ?_
    by_cases h0 : pos x 125 < 0
    · obtain ⟨h1, h2⟩ := clean_out (pos_none.1 h0)
      rw [h1, h2, if_neg Bool.false_ne_true]
      exact Ev.pos h0 (Ev.pos (by omega) (Ev.now _))
    · refine Ev.neg h0 ?_
      obtain ⟨a, b, e1, e2, e3⟩ := pos_some (l := x) (c := 125) (by omega)
      obtain ⟨h1, h2⟩ := clean_out e2
      have hp : pos x 125 = a.length := by omega
      rw [hp]
      have hxl : x.length = a.length + 1 + b.length := by rw [e1]; simp; omega
      cases b with
      | nil =>
        have e4 : esc false x = true := by rw [e1, esc_append, h2]; rfl
        rw [if_pos e4]
        exact Ev.pos (by simp only [List.length_nil] at hxl; omega) (Ev.now _)
      | cons d b =>
        simp only [List.length_cons] at hxl
        refine Ev.neg (by omega) (Ev.pos (by omega) ?_)
        have e5 : esc false x = esc false b := by rw [e1, esc_append, h2]; rfl
        have e6 : out false x = a ++ tn d :: out false b := by rw [e1, out_append, h1, h2]; rfl
        have e7 : rd x ((a.length : Int) + 1) = d := by
          rw [e1]; unfold rd
          rw [show ((a.length : Int) + 1).toNat = a.length + 1 by omega]
          simp [List.getD_eq_getElem?_getD]
        have e8 : x.drop ((a.length : Int) + 2).toNat = b := by
          rw [show ((a.length : Int) + 2).toNat = a.length + 2 by omega, e1, List.drop_append]
          simp [List.drop_eq_nil_of_le]
        have e9 : x.take ((a.length : Int)).toNat = a := by rw [Int.toNat_natCast, e1]; simp
        rw [e5, e6, e7, e8, e9]
        have hbb : Bytes b := fun y hy => hb y (by rw [e1]; simp [hy])
        cases n with
        | zero => omega
        | succ n =>
          have ih := Unst_l0 n b ((o ++ a) ++ [tn d]) (by omega) hbb (by simp; omega)
          rw [show ((o ++ a) ++ [tn d]) ++ out false b = o ++ (a ++ tn d :: out false b) by simp] at ih
          exact ih
theorem UnstS (m : Int) (hm : U32 m) (l : List Int) (hl : Lim l) (hb : Bytes l) : Ev (fun k => stuff_Unstuff.f k m l) (unst m l) := by
  unfold stuff_Unstuff.f unst
  unfold Lim at hl
  have hbb : (l.all fun x => decide (0 ≤ x ∧ x < 256)) = true := List.all_eq_true.2 fun x hx => decide_eq_true (hb x hx)
  refine Ev.pos ⟨hbb, by omega⟩ ?_
  rw [pos_index l 126 hb (by constructor <;> omega)]
  refine Ev.name ?_
  have hf : (l.filter fun x => !stuff_Unstuff.has m x) = left m l := by
    unfold left
    refine List.filter_congr fun x hx => ?_
    unfold stuff_Unstuff.has
    rw [bitsHas hm (hb x hx)]
  by_cases h : 126 ∈ l
  · rw [if_pos h]
    have hp : 0 ≤ pos l 126 := by
      rcases Int.lt_or_le (pos l 126) 0 with h1 | h1
      · exact absurd h (pos_none.1 h1)
      · exact h1
    exact Ev.pos hp (Ev.now _)
  · rw [if_neg h]
    refine Ev.neg (by have := pos_none.2 h; omega) ?_
    rw [hf]
    have := Unst_l0 (left m l).length (left m l) [] (Nat.le_refl _) (left_bytes hb) (by have := left_len m l; simp; omega)
    rw [List.nil_append] at this
    exact this
theorem Speaks04 : Ev (fun k => marlinelaw04_speaks.f k) true := by
  unfold marlinelaw04_speaks.f
  refine Ev.bind (StuffS 131072 (by constructor <;> omega) [126, 17] (by unfold Lim; decide) (bytes_lit (by decide))) ?_
  refine Ev.bind (Equal _ [125, 94, 125, 49] (by unfold Lim; decide)) (Ev.end_ ?_)
  decide +kernel
end Go.Proofs.YtppfoopecdmblaaDoor.Sp
