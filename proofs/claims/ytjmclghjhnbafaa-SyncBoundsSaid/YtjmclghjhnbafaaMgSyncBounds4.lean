/- Texts of this claim, several in one: what Go functions come to, and plain words on it; each says itself what it proves. -/
import Derived.Test.YtjmclghjhnbafaaMgSyncBounds1
import Derived.Test.YtjmclghjhnbafaaMgSyncBounds2
import Derived.Test.YtjmclghjhnbafaaMgSyncBounds3
/- What the printed functions of layer 6 and of its reference come to, in plain words. -/
namespace Go.Proofs.Ytjmclghjhnbafaa.Sp
open Go.RowKit Go.Proofs.Ytjmclghjhnbafaa.Print Go.Proofs.YtjmclghjhnbafaaW.PrintWords Go.Proofs.YtjmclghjhnbafaaW.PrintLast Go.Proofs.Ytjmclghjhnbafaa.Pl
set_option linter.unusedVariables false
theorem Insert_l0 (c : List Int) (hl : Lim c) (hbit : ∀ x ∈ c, x = 0 ∨ x = 1) : ∀ (t : List Int) (i : Nat) (x : List Int) (n : Int), c.drop i = t → x.length ≤ 2 * i → 0 ≤ n → n ≤ 4 → Ev (fun k => zero_Insert.l0 k x n c (c.length : Int) i) (x ++ ins n t)
  | [], i, x, n, h1, hx, h0, h4 => by
    have h3 := drop_nil_len h1
    rw [ins, List.append_nil]
    exact Ev.step (fun k => by simp only [zero_Insert.l0]; rw [if_neg (by omega)]) (Ev.now _)
  | b :: t, i, x, n, h1, hx, h0, h4 => by
    obtain ⟨e1, e2, e3⟩ := rd_drop h1
    have hb := hbit b (by have : b ∈ c.drop i := by rw [h1]; simp
                          exact List.mem_of_mem_drop this)
    unfold Lim at hl
    have e : x ++ ins n (b :: t) = if b = 0 then (x ++ [b]) ++ ins 0 t else if n + 1 = 5 then ((x ++ [b]) ++ [0]) ++ ins 0 t else (x ++ [b]) ++ ins (n + 1) t := by
      rcases hb with rfl | rfl
      · simp [ins]
      · have e9 : (1 : Int) % 2 = 1 := by decide
        rw [ins, e9, if_neg (show ¬ (1 : Int) = 0 by decide), if_neg (show ¬ (1 : Int) = 0 by decide)]
        split <;> simp
    rw [e]
    refine Ev.step (fun k => by simp only [zero_Insert.l0]; rw [if_pos (by omega), if_pos (by omega), if_pos (by omega), if_pos (by omega), e1, suc i (by omega), w64 (x := n + 1) (by omega) (by omega)]) ?_
    refine Ev.name ?_
    by_cases hz : b = 0
    · rw [if_pos hz]
      exact Ev.pos hz (Insert_l0 c hl hbit t (i + 1) _ 0 e2 (by simp; omega) (by omega) (by omega))
    · rw [if_neg hz]
      refine Ev.neg hz ?_
      by_cases h5 : n + 1 = 5
      · rw [if_pos h5]
        refine Ev.pos h5 (Ev.pos (by simp; omega) ?_)
        exact Insert_l0 c hl hbit t (i + 1) _ 0 e2 (by simp; omega) (by omega) (by omega)
      · rw [if_neg h5]
        exact Ev.neg h5 (Insert_l0 c hl hbit t (i + 1) _ (n + 1) e2 (by simp; omega) (by omega) (by omega))
theorem Insert (l : List Int) (hl : Lim l) (hb : Bytes l) : Ev (fun k => zero_Insert.f k l) (ins 0 l) := by
  have hlc : Lim (clean l) := by unfold Lim; rw [clean_length]; exact hl
  have h := Insert_l0 (clean l) hlc (fun x hx => bit_clean hx) (clean l) 0 [] 0 rfl (by simp) (by omega) (by omega)
  rw [ins_clean] at h
  have hll := hl
  unfold Lim at hll
  have hq : Int.tdiv (l.length : Int) 5 = (l.length : Int) / 5 := Int.tdiv_eq_ediv_of_nonneg (by omega)
  unfold zero_Insert.f
  simp only [w64 (x := (l.length : Int) / 5) (by omega) (by omega), w64 (x := (l.length : Int) + (l.length : Int) / 5) (by omega) (by omega)]
  refine Ev.pos (by omega) (Ev.pos (by omega) ?_)
  refine Ev.bind (Clean l hl hb) ?_
  exact h
theorem Flag : Ev (fun k => zero_Flag.f k) [0, 1, 1, 1, 1, 1, 1, 0] := by
  unfold zero_Flag.f
  refine Ev.bind (Of [126] (by unfold Lim; decide) (bytes_lit (by decide))) ?_
  exact Ev.end_ (by decide)

def told : Option (List Int) → List Int → List Int × Int
  | none, _ => ([], 10)
  | some r, x => (x ++ r, 0)
theorem rRemove_l0 (l : List Int) (hl : Lim l) (hb : Bytes l) : ∀ (t : List Int) (i : Nat) (x : List Int) (n : Int), l.drop i = t → x.length ≤ i → 0 ≤ n → n ≤ 5 → Ev (fun k => marlineref06_Remove.l0 k l x n i) (told (rrem n t) x)
  | [], i, x, n, h1, hx, h0, h4 => by
    have h3 := drop_nil_len h1
    rw [rrem, told, List.append_nil]
    exact Ev.step (fun k => by simp only [marlineref06_Remove.l0]; rw [if_neg (by omega)]) (Ev.now _)
  | b :: t, i, x, n, h1, hx, h0, h4 => by
    obtain ⟨e1, e2, e3⟩ := rd_drop h1
    have hc : Byte b := by
      have h4 := hb.drop i
      rw [h1] at h4
      exact h4.head
    have hll := hl
    unfold Lim at hll
    have hc0 := hc.1
    refine Ev.step (fun k => by simp only [marlineref06_Remove.l0]; rw [if_pos (by omega), if_pos (by omega), e1, Int.tmod_eq_emod_of_nonneg hc0, suc i (by omega), w64 (x := n + 1) (by omega) (by omega)]) ?_
    rw [rrem]
    by_cases hb1 : b % 2 = 1
    · rw [if_pos hb1]
      refine Ev.pos hb1 ?_
      by_cases h6 : n + 1 = 6
      · rw [if_pos h6]
        exact Ev.pos h6 (Ev.now _)
      · rw [if_neg h6]
        refine Ev.neg h6 (Ev.pos (by omega) ?_)
        have ih := rRemove_l0 l hl hb t (i + 1) (x ++ [1]) (n + 1) e2 (by simp; omega) (by omega) (by omega)
        rw [show told ((rrem (n + 1) t).map (1 :: ·)) x = told (rrem (n + 1) t) (x ++ [1]) by cases rrem (n + 1) t <;> simp [told]]
        exact ih
    · rw [if_neg hb1]
      refine Ev.neg hb1 ?_
      by_cases h5 : n < 5
      · refine Ev.pos h5 (Ev.pos (by omega) ?_)
        have ih := rRemove_l0 l hl hb t (i + 1) (x ++ [0]) 0 e2 (by simp; omega) (by omega) (by omega)
        rw [show told ((rrem 0 t).map (fun r => if n < 5 then 0 :: r else r)) x = told (rrem 0 t) (x ++ [0]) by cases rrem 0 t <;> simp [told, h5]]
        exact ih
      · refine Ev.neg h5 ?_
        have ih := rRemove_l0 l hl hb t (i + 1) x 0 e2 (by omega) (by omega) (by omega)
        rw [show told ((rrem 0 t).map (fun r => if n < 5 then 0 :: r else r)) x = told (rrem 0 t) x by cases rrem 0 t <;> simp [told, h5]]
        exact ih
theorem rRemove (l : List Int) (hl : Lim l) (hb : Bytes l) : Ev (fun k => marlineref06_Remove.f k l) (if run l > 5 then ([], 10) else (rem 0 l, 0)) := by
  have h := rRemove_l0 l hl hb l 0 [] 0 rfl (by simp) (by omega) (by omega)
  rw [rrem_is 0 l (by omega) (by omega)] at h
  rw [show (if run l > 5 then (([] : List Int), (10 : Int)) else (rem 0 l, 0)) = told (if peak 0 l > 5 then none else some (rem 0 l)) [] by unfold run; split <;> rfl]
  exact h
theorem Concat3 (a b c : List Int) (ha : Lim a) (hb : Lim b) (hc : Lim c) : Ev (fun k => slices_Concat_byte_byte.f k [a, b, c]) (a ++ b ++ c) := by
  unfold Lim at ha hb hc
  unfold slices_Concat_byte_byte.f
  have r0 : rd_L1 [a, b, c] 0 = a := rfl
  have r1 : rd_L1 [a, b, c] 1 = b := rfl
  have r2 : rd_L1 [a, b, c] 2 = c := rfl
  have w0 : wrap64 (0 + (a.length : Int)) = a.length := w64 (by omega) (by omega) |>.trans (by omega)
  have w1 : wrap64 ((a.length : Int) + b.length) = a.length + b.length := w64 (by omega) (by omega)
  have w2 : wrap64 ((a.length : Int) + b.length + c.length) = a.length + b.length + c.length := w64 (by omega) (by omega)
  have v0 : wrap64 (0 + 1 : Int) = 1 := w64 (by omega) (by omega)
  have v1 : wrap64 (1 + 1 : Int) = 2 := w64 (by omega) (by omega)
  have v2 : wrap64 (2 + 1 : Int) = 3 := w64 (by omega) (by omega)
  refine Ev.step (fun k => by simp only [slices_Concat_byte_byte.l0]; rw [if_pos (by simp), if_pos (by omega), if_pos (by simp), r0, w0, if_neg (by omega), v0]) ?_
  refine Ev.step (fun k => by simp only [slices_Concat_byte_byte.l0]; rw [if_pos (by simp), if_pos (by omega), if_pos (by simp), r1, w1, if_neg (by omega), v1]) ?_
  refine Ev.step (fun k => by simp only [slices_Concat_byte_byte.l0]; rw [if_pos (by simp), if_pos (by omega), if_pos (by simp), r2, w2, if_neg (by omega), v2]) ?_
  refine Ev.step (fun k => by simp only [slices_Concat_byte_byte.l0]; rw [if_neg (by simp)]) ?_
  have hg : slices_Grow_byte_byte.f ([] : List Int) ((a.length : Int) + b.length + c.length) = some [] := by
    unfold slices_Grow_byte_byte.f
    rw [if_pos (by omega), if_pos (by omega)]
  rw [hg]
  refine Ev.name ?_
  refine Ev.step (fun k => by simp only [slices_Concat_byte_byte.l1]; rw [if_pos (by simp), if_pos (by omega), if_pos (by simp), r0, if_pos (by simp only [List.length_nil]; omega), v0, List.nil_append]) ?_
  refine Ev.step (fun k => by simp only [slices_Concat_byte_byte.l1]; rw [if_pos (by simp), if_pos (by omega), if_pos (by simp), r1, if_pos (by omega), v1]) ?_
  refine Ev.step (fun k => by simp only [slices_Concat_byte_byte.l1]; rw [if_pos (by simp), if_pos (by omega), if_pos (by simp), r2, if_pos (by rw [List.length_append]; omega), v2]) ?_
  exact Ev.step (fun k => by simp only [slices_Concat_byte_byte.l1]; rw [if_neg (by simp)]) (Ev.now _)
/-- A flag's bits. -/
def flag : List Int := [0, 1, 1, 1, 1, 1, 1, 0]
/-- What octets come to, wrapped. -/
def wrapZ (l : List Int) : List Int := flag ++ ins 0 (ofOct l) ++ flag
theorem WrapZ (l : List Int) (hl : l.length ≤ 10000) (hb : Bytes l) : Ev (fun k => sync_Wrap.f k l) (wrapZ l) := by
  unfold sync_Wrap.f
  have h8 := ofOct_length l
  have hi := ins_len 0 (ofOct l) (by omega) (by omega)
  have hbb : Bytes (ofOct l) := by rw [← clean_ofOct]; exact bytes_clean _
  exact Ev.bind Flag (Ev.bind (Of l (by unfold Lim; omega) hb) (Ev.bind (Insert (ofOct l) (by unfold Lim; omega) hbb) (Ev.bind Flag (Ev.bind (Concat3 flag (ins 0 (ofOct l)) flag (by unfold Lim flag; simp) (by unfold Lim; omega) (by unfold Lim flag; simp)) (Ev.now _)))))
end Go.Proofs.Ytjmclghjhnbafaa.Sp

/- A text that a program of this claim (wip/x) laid out of the translation: what Go functions come to, and that they come to it. Lean checks it. -/
namespace Go.Proofs.Ytjmclghjhnbafaa.Print
open Go.RowKit Go.Proofs.YtjmclghjhnbafaaW.PrintWords Go.Proofs.YtjmclghjhnbafaaW.PrintLast Go.Proofs.YtjmclghjhnbafaaW.PrintMore
attribute [local go_sem] max2_int min2_int max_two min_two max_three min_three max_four min_four   -- for this text's walks alone
set_option linter.unusedVariables false
set_option linter.unusedSimpArgs false

/-! ### marlinelaw07_same: function 26 -/
def marlinelaw07_same.l0 : Nat → List (S54) → List (S54) → Int → Int → Option (Bool)
  | 0, _, _, _, _ => none
  | k + 1, x0, x1, x12, x13 => if x13 < x12 then (if 0 ≤ x13 then (if x13 < (x0.length : Int) then (if x13 < (x1.length : Int) then (if ((rd_T54 x0 x13).f0) = ((rd_T54 x1 x13).f0) then ((marlineref01_Equal.f k ((rd_T54 x0 x13).f1) ((rd_T54 x1 x13).f1)).bind fun t307 => (if t307 = true then (marlinelaw07_same.l0 k x0 x1 x12 (wrap64 (x13 + 1))) else (some false))) else (some false)) else (none)) else (none)) else (none)) else (some true)
def marlinelaw07_same.f (k : Nat) (l0 : List (S54)) (l1 : List (S54)) : Option (Bool) := if (l0.length : Int) = (l1.length : Int) then (marlinelaw07_same.l0 k l0 l1 (l0.length : Int) 0) else (some false)
theorem marlinelaw07_same.mono_l : ∀ k, (∀ y0 y1 y2 y3, LeO (marlinelaw07_same.l0 k y0 y1 y2 y3) (marlinelaw07_same.l0 (k + 1) y0 y1 y2 y3))
  | 0 => fun _ _ _ _ r h => by simp [marlinelaw07_same.l0] at h
  | k + 1 => by
    have ih0 := marlinelaw07_same.mono_l k
    · intro y0 y1 y2 y3
      unfold marlinelaw07_same.l0
      repeat' first
      | (with_reducible exact ih0 _ _ _ _)
      | (with_reducible exact marlineref01_Equal.mono _ _ _)
      | (with_reducible exact LeO.refl _)
      | (with_reducible exact LeO.none _)
      | (with_reducible refine LeO.ite ?_ ?_)
      | (with_reducible refine LeO.bind ?_ (fun _ => ?_))
      | exact ih0 _ _ _ _
      | exact marlineref01_Equal.mono _ _ _
      | exact LeO.none _
      | refine LeO.ite ?_ ?_
      | refine LeO.bind ?_ (fun _ => ?_)
theorem marlinelaw07_same.mono : ∀ a0 a1 k, LeO (marlinelaw07_same.f k a0 a1) (marlinelaw07_same.f (k + 1) a0 a1) := by
  intro a0 a1 k
  have ih0 := marlinelaw07_same.mono_l k
  unfold marlinelaw07_same.f
  repeat' first
      | (with_reducible exact ih0 _ _ _ _)
      | (with_reducible exact marlineref01_Equal.mono _ _ _)
      | (with_reducible exact LeO.refl _)
      | (with_reducible exact LeO.none _)
      | (with_reducible refine LeO.ite ?_ ?_)
      | (with_reducible refine LeO.bind ?_ (fun _ => ?_))
      | exact ih0 _ _ _ _
      | exact marlineref01_Equal.mono _ _ _
      | exact LeO.none _
      | refine LeO.ite ?_ ?_
      | refine LeO.bind ?_ (fun _ => ?_)
set_option maxHeartbeats 8000000 in
set_option maxRecDepth 100000 in
theorem marlinelaw07_same.calls (k : Nat) (A0 : Option Addr) (c0 : Nat) (l0 : List (S54)) (A1 : Option Addr) (c1 : Nat) (l1 : List (S54)) (r : Bool) (w : World) (hr0 : Kd.C k54 w A0 l0.length l0) (hc0 : l0.length ≤ c0) (hr1 : Kd.C k54 w A1 l1.length l1) (hc1 : l1.length ≤ c1) (h : marlinelaw07_same.f k l0 l1 = some r) :
    Calls Try.prog 26 #[.slice A0 l0.length c0, .slice A1 l1.length c1] w fun e w' => e = .returned (.bool r) ∧ Drawn0 w w' := by
  have HR0 := Aside0.mk hr0
  have HC0 := Aside0.mk hc0
  clear hr0 hc0
  have HR1 := Aside0.mk hr1
  have HC1 := Aside0.mk hc1
  clear hr1 hc1
  have H : (if (l0.length : Int) = (l1.length : Int) then (marlinelaw07_same.l0 k l0 l1 (l0.length : Int) 0) else (some false)) = some r := h
  clear h
  by_cases c3 : (l0.length : Int) = (l1.length : Int)
  · rw [if_pos c3] at H
    have c3b0 : ((l0.length : Int) == (l1.length : Int)) = true := beq_iff_eq.mpr c3
    have c3b1 : ((l0.length : Int) != (l1.length : Int)) = false := bne_eq_false_iff_eq.mpr c3
    have c3b2 : (l0.length == l1.length) = true := by first | simpa using c3 | (simp at c3 ⊢; omega)
    clear c3
    have H' := Aside0.mk H
    clear H
    go_enter Try.func26, Try.ntmps26
    go_wp2
    repeat (go_quiet (fail); try go_wp2)
    go_loopg [13] k (fun kq v13 w' => ∃ (x13_1 : Int), v13 = .int .i64 x13_1 ∧ Aside0 (marlinelaw07_same.l0 kq l0 l1 (l0.length : Int) x13_1 = some r) ∧ Aside0 (kq ≤ k) ∧ Drawn0 w w')
    case atStart => exact ⟨(0), (by first | rfl | (simp; done) | (simp [*]; done)), H', ⟨Nat.le_refl _⟩, by repeat (first | exact Drawn0.refl _ | apply Drawn0.step)⟩
    case round =>
      clear H'
      try clear c1
      try clear c2
      try clear p2
      try clear c3
      try clear c3b0
      try clear c3b1
      try clear c3b2
      obtain ⟨x13_1, rfl, HA, HK1, ⟨m1, rfl⟩⟩ := hrel
      cases gk with
      | zero => exact absurd HA.out (by simp [marlinelaw07_same.l0])
      | succ k1 =>
        have H := HA.out
        clear HA
        simp only [marlinelaw07_same.l0] at H
        by_cases c4 : x13_1 < (l0.length : Int)
        · rw [if_pos c4] at H
          have c4b0 : decide (x13_1 < (l0.length : Int)) = true := decide_eq_true c4
          clear c4
          by_cases c5 : 0 ≤ x13_1
          · rw [if_pos c5] at H
            have c5b0 : decide (0 ≤ x13_1) = true := decide_eq_true c5
            clear c5
            by_cases c6 : x13_1 < (l0.length : Int)
            · rw [if_pos c6] at H
              have c6b0 : decide (x13_1 < (l0.length : Int)) = true := decide_eq_true c6
              clear c6
              by_cases c7 : x13_1 < (l1.length : Int)
              · rw [if_pos c7] at H
                have c7b0 : decide (x13_1 < (l1.length : Int)) = true := decide_eq_true c7
                clear c7
                by_cases c8 : ((rd_T54 l0 x13_1).f0) = ((rd_T54 l1 x13_1).f0)
                · rw [if_pos c8] at H
                  have c8b0 : (((rd_T54 l0 x13_1).f0) == ((rd_T54 l1 x13_1).f0)) = true := beq_iff_eq.mpr c8
                  have c8b1 : (((rd_T54 l0 x13_1).f0) != ((rd_T54 l1 x13_1).f0)) = false := bne_eq_false_iff_eq.mpr c8
                  clear c8
                  replace H := Option.bind_eq_some_iff.mp H
                  obtain ⟨t307, A90, H⟩ := H
                  replace H : (if t307 = true then (marlinelaw07_same.l0 k1 l0 l1 (l0.length : Int) (wrap64 (x13_1 + 1))) else (some false)) = some r := H
                  have A9 := Aside0.mk A90
                  clear A90
                  by_cases c10 : t307 = true
                  · subst c10
                    have H1 : (marlinelaw07_same.l0 k1 l0 l1 (l0.length : Int) (wrap64 (x13_1 + 1))) = some r := by rw [if_pos rfl] at H; exact H
                    clear H
                    have H := H1
                    clear H1
                    have H' := Aside0.mk H
                    clear H
                    have p303 : 0 ≤ (x13_1 : Int) := of_decide_eq_true (by first | (with_reducible assumption) | assumption)
                    have q303 : x13_1 < (l0.length : Int) := of_decide_eq_true (by first | (with_reducible assumption) | assumption)
                    (try clear hHeld)
                    obtain ⟨ad303, A303_1, c303_1, e303, hx303_0, hx303_1, hl303_1, hi303_1⟩ := at_T54 HR0.out x13_1 p303 q303
                    cases e303
                    have HR303_1 := Aside0.mk hi303_1
                    have HC303_1 := Aside0.mk hl303_1
                    clear hi303_1 hl303_1
                    replace p303 := eq_true p303
                    replace q303 := eq_true q303
                    have p304 : 0 ≤ (x13_1 : Int) := of_decide_eq_true (by first | (with_reducible assumption) | assumption)
                    have q304 : x13_1 < (l1.length : Int) := of_decide_eq_true (by first | (with_reducible assumption) | assumption)
                    (try clear hHeld)
                    obtain ⟨ad304, A304_1, c304_1, e304, hx304_0, hx304_1, hl304_1, hi304_1⟩ := at_T54 HR1.out x13_1 p304 q304
                    cases e304
                    have HR304_1 := Aside0.mk hi304_1
                    have HC304_1 := Aside0.mk hl304_1
                    clear hi304_1 hl304_1
                    replace p304 := eq_true p304
                    replace q304 := eq_true q304
                    have p305 : 0 ≤ (x13_1 : Int) := of_decide_eq_true (by first | (with_reducible assumption) | assumption)
                    have q305 : x13_1 < (l0.length : Int) := of_decide_eq_true (by first | (with_reducible assumption) | assumption)
                    (try clear hHeld)
                    obtain ⟨ad305, A305_1, c305_1, e305, hx305_0, hx305_1, hl305_1, hi305_1⟩ := at_T54 HR0.out x13_1 p305 q305
                    obtain rfl : ad303 = ad305 := (by injection e305)
                    have HR305_1 := Aside0.mk hi305_1
                    have HC305_1 := Aside0.mk hl305_1
                    clear hi305_1 hl305_1
                    replace p305 := eq_true p305
                    replace q305 := eq_true q305
                    have ea_ := Option.some.inj (hx303_1.symm.trans hx305_1)
                    injection ea_ with ea_ en_ ec_
                    subst ea_
                    subst ec_
                    clear en_
                    have p306 : 0 ≤ (x13_1 : Int) := of_decide_eq_true (by first | (with_reducible assumption) | assumption)
                    have q306 : x13_1 < (l1.length : Int) := of_decide_eq_true (by first | (with_reducible assumption) | assumption)
                    (try clear hHeld)
                    obtain ⟨ad306, A306_1, c306_1, e306, hx306_0, hx306_1, hl306_1, hi306_1⟩ := at_T54 HR1.out x13_1 p306 q306
                    obtain rfl : ad304 = ad306 := (by injection e306)
                    have HR306_1 := Aside0.mk hi306_1
                    have HC306_1 := Aside0.mk hl306_1
                    clear hi306_1 hl306_1
                    replace p306 := eq_true p306
                    replace q306 := eq_true q306
                    have ea_ := Option.some.inj (hx304_1.symm.trans hx306_1)
                    injection ea_ with ea_ en_ ec_
                    subst ea_
                    subst ec_
                    clear en_
                    go_wp2_with (first | (go_at_call 17; (with_reducible refine (marlineref01_Equal.calls k1 _ _ ((rd_T54 l0 x13_1).f1) _ _ ((rd_T54 l1 x13_1).f1) true _ ?side1 ?side2 ?side3 ?side4 A9.out).mono ?_); (case side1 => repeat (first | exact HR305_1.out | (with_reducible refine Kd.C_alloc ?_ _) | (with_reducible refine Kd.C_drewN ?_ _) | (with_reducible refine Kd.C_drew ?_))); (case side2 => exact HC305_1.out); (case side3 => repeat (first | exact HR306_1.out | (with_reducible refine Kd.C_alloc ?_ _) | (with_reducible refine Kd.C_drewN ?_ _) | (with_reducible refine Kd.C_drew ?_))); (case side4 => exact HC306_1.out); rintro e w' ⟨rfl, ⟨nd, rfl⟩⟩; (try first | exact ⟨rfl, _, World.drewN_drewN _ _ _⟩ | exact ⟨rfl, _, Eq.trans (World.drewN_drewN _ _ _) (congrArg (World.drewN _) (Nat.add_assoc _ _ _))⟩)))
                    repeat (go_quiet (first | (go_at_call 17; (with_reducible refine (marlineref01_Equal.calls k1 _ _ ((rd_T54 l0 x13_1).f1) _ _ ((rd_T54 l1 x13_1).f1) true _ ?side1 ?side2 ?side3 ?side4 A9.out).mono ?_); (case side1 => repeat (first | exact HR305_1.out | (with_reducible refine Kd.C_alloc ?_ _) | (with_reducible refine Kd.C_drewN ?_ _) | (with_reducible refine Kd.C_drew ?_))); (case side2 => exact HC305_1.out); (case side3 => repeat (first | exact HR306_1.out | (with_reducible refine Kd.C_alloc ?_ _) | (with_reducible refine Kd.C_drewN ?_ _) | (with_reducible refine Kd.C_drew ?_))); (case side4 => exact HC306_1.out); rintro e w' ⟨rfl, ⟨nd, rfl⟩⟩; (try first | exact ⟨rfl, _, World.drewN_drewN _ _ _⟩ | exact ⟨rfl, _, Eq.trans (World.drewN_drewN _ _ _) (congrArg (World.drewN _) (Nat.add_assoc _ _ _))⟩))); try go_wp2_with (first | (go_at_call 17; (with_reducible refine (marlineref01_Equal.calls k1 _ _ ((rd_T54 l0 x13_1).f1) _ _ ((rd_T54 l1 x13_1).f1) true _ ?side1 ?side2 ?side3 ?side4 A9.out).mono ?_); (case side1 => repeat (first | exact HR305_1.out | (with_reducible refine Kd.C_alloc ?_ _) | (with_reducible refine Kd.C_drewN ?_ _) | (with_reducible refine Kd.C_drew ?_))); (case side2 => exact HC305_1.out); (case side3 => repeat (first | exact HR306_1.out | (with_reducible refine Kd.C_alloc ?_ _) | (with_reducible refine Kd.C_drewN ?_ _) | (with_reducible refine Kd.C_drew ?_))); (case side4 => exact HC306_1.out); rintro e w' ⟨rfl, ⟨nd, rfl⟩⟩; (try first | exact ⟨rfl, _, World.drewN_drewN _ _ _⟩ | exact ⟨rfl, _, Eq.trans (World.drewN_drewN _ _ _) (congrArg (World.drewN _) (Nat.add_assoc _ _ _))⟩))))
                    go_roundg k1
                    case measure => have := HK1.out; omega
                    case rel => exact ⟨(wrap64 (x13_1 + 1)), (by first | rfl | (simp; done) | (simp [*]; done)), H', ⟨by have := HK1.out; omega⟩, by repeat (first | exact Drawn0.refl _ | apply Drawn0.step)⟩
                  · replace c10 := Bool.eq_false_iff.mpr c10
                    subst c10
                    have H1 : (some false) = some r := by rw [if_neg (show ¬ (false = true) by decide)] at H; exact H
                    clear H
                    have H := H1
                    clear H1
                    obtain rfl := Option.some.inj H
                    have p303 : 0 ≤ (x13_1 : Int) := of_decide_eq_true (by first | (with_reducible assumption) | assumption)
                    have q303 : x13_1 < (l0.length : Int) := of_decide_eq_true (by first | (with_reducible assumption) | assumption)
                    (try clear hHeld)
                    obtain ⟨ad303, A303_1, c303_1, e303, hx303_0, hx303_1, hl303_1, hi303_1⟩ := at_T54 HR0.out x13_1 p303 q303
                    cases e303
                    have HR303_1 := Aside0.mk hi303_1
                    have HC303_1 := Aside0.mk hl303_1
                    clear hi303_1 hl303_1
                    replace p303 := eq_true p303
                    replace q303 := eq_true q303
                    have p304 : 0 ≤ (x13_1 : Int) := of_decide_eq_true (by first | (with_reducible assumption) | assumption)
                    have q304 : x13_1 < (l1.length : Int) := of_decide_eq_true (by first | (with_reducible assumption) | assumption)
                    (try clear hHeld)
                    obtain ⟨ad304, A304_1, c304_1, e304, hx304_0, hx304_1, hl304_1, hi304_1⟩ := at_T54 HR1.out x13_1 p304 q304
                    cases e304
                    have HR304_1 := Aside0.mk hi304_1
                    have HC304_1 := Aside0.mk hl304_1
                    clear hi304_1 hl304_1
                    replace p304 := eq_true p304
                    replace q304 := eq_true q304
                    have p305 : 0 ≤ (x13_1 : Int) := of_decide_eq_true (by first | (with_reducible assumption) | assumption)
                    have q305 : x13_1 < (l0.length : Int) := of_decide_eq_true (by first | (with_reducible assumption) | assumption)
                    (try clear hHeld)
                    obtain ⟨ad305, A305_1, c305_1, e305, hx305_0, hx305_1, hl305_1, hi305_1⟩ := at_T54 HR0.out x13_1 p305 q305
                    obtain rfl : ad303 = ad305 := (by injection e305)
                    have HR305_1 := Aside0.mk hi305_1
                    have HC305_1 := Aside0.mk hl305_1
                    clear hi305_1 hl305_1
                    replace p305 := eq_true p305
                    replace q305 := eq_true q305
                    have ea_ := Option.some.inj (hx303_1.symm.trans hx305_1)
                    injection ea_ with ea_ en_ ec_
                    subst ea_
                    subst ec_
                    clear en_
                    have p306 : 0 ≤ (x13_1 : Int) := of_decide_eq_true (by first | (with_reducible assumption) | assumption)
                    have q306 : x13_1 < (l1.length : Int) := of_decide_eq_true (by first | (with_reducible assumption) | assumption)
                    (try clear hHeld)
                    obtain ⟨ad306, A306_1, c306_1, e306, hx306_0, hx306_1, hl306_1, hi306_1⟩ := at_T54 HR1.out x13_1 p306 q306
                    obtain rfl : ad304 = ad306 := (by injection e306)
                    have HR306_1 := Aside0.mk hi306_1
                    have HC306_1 := Aside0.mk hl306_1
                    clear hi306_1 hl306_1
                    replace p306 := eq_true p306
                    replace q306 := eq_true q306
                    have ea_ := Option.some.inj (hx304_1.symm.trans hx306_1)
                    injection ea_ with ea_ en_ ec_
                    subst ea_
                    subst ec_
                    clear en_
                    go_wp2_with (first | (go_at_call 17; (with_reducible refine (marlineref01_Equal.calls k1 _ _ ((rd_T54 l0 x13_1).f1) _ _ ((rd_T54 l1 x13_1).f1) false _ ?side1 ?side2 ?side3 ?side4 A9.out).mono ?_); (case side1 => repeat (first | exact HR305_1.out | (with_reducible refine Kd.C_alloc ?_ _) | (with_reducible refine Kd.C_drewN ?_ _) | (with_reducible refine Kd.C_drew ?_))); (case side2 => exact HC305_1.out); (case side3 => repeat (first | exact HR306_1.out | (with_reducible refine Kd.C_alloc ?_ _) | (with_reducible refine Kd.C_drewN ?_ _) | (with_reducible refine Kd.C_drew ?_))); (case side4 => exact HC306_1.out); rintro e w' ⟨rfl, ⟨nd, rfl⟩⟩; (try first | exact ⟨rfl, _, World.drewN_drewN _ _ _⟩ | exact ⟨rfl, _, Eq.trans (World.drewN_drewN _ _ _) (congrArg (World.drewN _) (Nat.add_assoc _ _ _))⟩)))
                    repeat (go_quiet (first | (go_at_call 17; (with_reducible refine (marlineref01_Equal.calls k1 _ _ ((rd_T54 l0 x13_1).f1) _ _ ((rd_T54 l1 x13_1).f1) false _ ?side1 ?side2 ?side3 ?side4 A9.out).mono ?_); (case side1 => repeat (first | exact HR305_1.out | (with_reducible refine Kd.C_alloc ?_ _) | (with_reducible refine Kd.C_drewN ?_ _) | (with_reducible refine Kd.C_drew ?_))); (case side2 => exact HC305_1.out); (case side3 => repeat (first | exact HR306_1.out | (with_reducible refine Kd.C_alloc ?_ _) | (with_reducible refine Kd.C_drewN ?_ _) | (with_reducible refine Kd.C_drew ?_))); (case side4 => exact HC306_1.out); rintro e w' ⟨rfl, ⟨nd, rfl⟩⟩; (try first | exact ⟨rfl, _, World.drewN_drewN _ _ _⟩ | exact ⟨rfl, _, Eq.trans (World.drewN_drewN _ _ _) (congrArg (World.drewN _) (Nat.add_assoc _ _ _))⟩))); try go_wp2_with (first | (go_at_call 17; (with_reducible refine (marlineref01_Equal.calls k1 _ _ ((rd_T54 l0 x13_1).f1) _ _ ((rd_T54 l1 x13_1).f1) false _ ?side1 ?side2 ?side3 ?side4 A9.out).mono ?_); (case side1 => repeat (first | exact HR305_1.out | (with_reducible refine Kd.C_alloc ?_ _) | (with_reducible refine Kd.C_drewN ?_ _) | (with_reducible refine Kd.C_drew ?_))); (case side2 => exact HC305_1.out); (case side3 => repeat (first | exact HR306_1.out | (with_reducible refine Kd.C_alloc ?_ _) | (with_reducible refine Kd.C_drewN ?_ _) | (with_reducible refine Kd.C_drew ?_))); (case side4 => exact HC306_1.out); rintro e w' ⟨rfl, ⟨nd, rfl⟩⟩; (try first | exact ⟨rfl, _, World.drewN_drewN _ _ _⟩ | exact ⟨rfl, _, Eq.trans (World.drewN_drewN _ _ _) (congrArg (World.drewN _) (Nat.add_assoc _ _ _))⟩))))
                    go_ret
                    exact ⟨by first | rfl | (simp; done) | (simp [*]; done), by repeat (first | exact Drawn0.refl _ | apply Drawn0.step)⟩
                · rw [if_neg c8] at H
                  have c8b0 : (((rd_T54 l0 x13_1).f0) == ((rd_T54 l1 x13_1).f0)) = false := beq_eq_false_iff_ne.mpr c8
                  have c8b1 : (((rd_T54 l0 x13_1).f0) != ((rd_T54 l1 x13_1).f0)) = true := bne_iff_ne.mpr c8
                  obtain rfl := Option.some.inj H
                  have p303 : 0 ≤ (x13_1 : Int) := of_decide_eq_true (by first | (with_reducible assumption) | assumption)
                  have q303 : x13_1 < (l0.length : Int) := of_decide_eq_true (by first | (with_reducible assumption) | assumption)
                  (try clear hHeld)
                  obtain ⟨ad303, A303_1, c303_1, e303, hx303_0, hx303_1, hl303_1, hi303_1⟩ := at_T54 HR0.out x13_1 p303 q303
                  cases e303
                  have HR303_1 := Aside0.mk hi303_1
                  have HC303_1 := Aside0.mk hl303_1
                  clear hi303_1 hl303_1
                  replace p303 := eq_true p303
                  replace q303 := eq_true q303
                  have p304 : 0 ≤ (x13_1 : Int) := of_decide_eq_true (by first | (with_reducible assumption) | assumption)
                  have q304 : x13_1 < (l1.length : Int) := of_decide_eq_true (by first | (with_reducible assumption) | assumption)
                  (try clear hHeld)
                  obtain ⟨ad304, A304_1, c304_1, e304, hx304_0, hx304_1, hl304_1, hi304_1⟩ := at_T54 HR1.out x13_1 p304 q304
                  cases e304
                  have HR304_1 := Aside0.mk hi304_1
                  have HC304_1 := Aside0.mk hl304_1
                  clear hi304_1 hl304_1
                  replace p304 := eq_true p304
                  replace q304 := eq_true q304
                  go_wp2
                  repeat (go_quiet (fail); try go_wp2)
                  go_ret
                  exact ⟨by first | rfl | (simp; done) | (simp [*]; done), by repeat (first | exact Drawn0.refl _ | apply Drawn0.step)⟩
              · rw [if_neg c7] at H
                exact absurd H (by simp)
            · rw [if_neg c6] at H
              exact absurd H (by simp)
          · rw [if_neg c5] at H
            exact absurd H (by simp)
        · rw [if_neg c4] at H
          have c4b0 : decide (x13_1 < (l0.length : Int)) = false := decide_eq_false c4
          clear c4
          obtain rfl := Option.some.inj H
          go_wp2
          repeat (go_quiet (fail); try go_wp2)
          go_ret
          exact ⟨by first | rfl | (simp; done) | (simp [*]; done), by repeat (first | exact Drawn0.refl _ | apply Drawn0.step)⟩
  · rw [if_neg c3] at H
    have c3b0 : ((l0.length : Int) == (l1.length : Int)) = false := beq_eq_false_iff_ne.mpr c3
    have c3b1 : ((l0.length : Int) != (l1.length : Int)) = true := bne_iff_ne.mpr c3
    have c3b2 : (l0.length == l1.length) = false := by first | simpa using c3 | (simp at c3 ⊢; omega)
    obtain rfl := Option.some.inj H
    go_enter Try.func26, Try.ntmps26
    go_wp2
    repeat (go_quiet (fail); try go_wp2)
    go_ret
    exact ⟨by first | rfl | (simp; done) | (simp [*]; done), by repeat (first | exact Drawn0.refl _ | apply Drawn0.step)⟩

end Go.Proofs.Ytjmclghjhnbafaa.Print

/- A text that a program of this claim (wip/x) laid out of the translation: what Go functions come to, and that they come to it. Lean checks it. -/
namespace Go.Proofs.Ytjmclghjhnbafaa.Print
open Go.RowKit Go.Proofs.YtjmclghjhnbafaaW.PrintWords Go.Proofs.YtjmclghjhnbafaaW.PrintLast Go.Proofs.YtjmclghjhnbafaaW.PrintMore
attribute [local go_sem] max2_int min2_int max_two min_two max_three min_three max_four min_four   -- for this text's walks alone
set_option linter.unusedVariables false
set_option linter.unusedSimpArgs false

/-! ### marlinelaw07_right: function 23 -/
def marlinelaw07_right.l0 : Nat → Int → List (List Int) → Int → List (List Int) → Int → Int → Option (Bool)
  | 0, _, _, _, _, _, _ => none
  | k + 1, x0, x1, x5, x8, x9, x10 => if x10 < x9 then (if 0 ≤ x10 then (if x10 < (x8.length : Int) then (marlinelaw07_right.l0 k x0 x1 (wrap64 (x5 + ((rd_L1 x8 x10).length : Int))) x8 x9 (wrap64 (x10 + 1))) else (none)) else (none)) else (if x0 ≥ 1 then (if x0 ≤ 1048576 then (if (x1.length : Int) ≤ 60 then (some (decide (x5 ≤ 900))) else (some false)) else (some false)) else (some false))
def marlinelaw07_right.f (k : Nat) (a0 : Int) (l1 : List (List Int)) : Option (Bool) := marlinelaw07_right.l0 k a0 l1 0 l1 (l1.length : Int) 0
theorem marlinelaw07_right.mono_l : ∀ k, (∀ y0 y1 y2 y3 y4 y5, LeO (marlinelaw07_right.l0 k y0 y1 y2 y3 y4 y5) (marlinelaw07_right.l0 (k + 1) y0 y1 y2 y3 y4 y5))
  | 0 => fun _ _ _ _ _ _ r h => by simp [marlinelaw07_right.l0] at h
  | k + 1 => by
    have ih0 := marlinelaw07_right.mono_l k
    · intro y0 y1 y2 y3 y4 y5
      unfold marlinelaw07_right.l0
      repeat' first
      | (with_reducible exact ih0 _ _ _ _ _ _)
      | (with_reducible exact LeO.refl _)
      | (with_reducible exact LeO.none _)
      | (with_reducible refine LeO.ite ?_ ?_)
      | (with_reducible refine LeO.bind ?_ (fun _ => ?_))
      | exact ih0 _ _ _ _ _ _
      | exact LeO.none _
      | refine LeO.ite ?_ ?_
      | refine LeO.bind ?_ (fun _ => ?_)
theorem marlinelaw07_right.mono : ∀ a0 a1 k, LeO (marlinelaw07_right.f k a0 a1) (marlinelaw07_right.f (k + 1) a0 a1) := by
  intro a0 a1 k
  have ih0 := marlinelaw07_right.mono_l k
  unfold marlinelaw07_right.f
  repeat' first
      | (with_reducible exact ih0 _ _ _ _ _ _)
      | (with_reducible exact LeO.refl _)
      | (with_reducible exact LeO.none _)
      | (with_reducible refine LeO.ite ?_ ?_)
      | (with_reducible refine LeO.bind ?_ (fun _ => ?_))
      | exact ih0 _ _ _ _ _ _
      | exact LeO.none _
      | refine LeO.ite ?_ ?_
      | refine LeO.bind ?_ (fun _ => ?_)
set_option maxHeartbeats 8000000 in
set_option maxRecDepth 100000 in
theorem marlinelaw07_right.calls (k : Nat) (a0 : Int) (A1 : Option Addr) (c1 : Nat) (l1 : List (List Int)) (r : Bool) (w : World) (hr1 : Kd.C (Kd.slice 5 (Kd.int .u8)) w A1 l1.length l1) (hc1 : l1.length ≤ c1) (h : marlinelaw07_right.f k a0 l1 = some r) :
    Calls Try.prog 23 #[.int .i64 a0, .slice A1 l1.length c1] w fun e w' => e = .returned (.bool r) ∧ Drawn0 w w' := by
  have HR1 := Aside0.mk hr1
  have HC1 := Aside0.mk hc1
  clear hr1 hc1
  have H : (marlinelaw07_right.l0 k a0 l1 0 l1 (l1.length : Int) 0) = some r := h
  clear h
  have H' := Aside0.mk H
  clear H
  go_enter Try.func23, Try.ntmps23
  go_wp2
  go_loopg [5, 10] k (fun kq v5 v10 w' => ∃ (x5_1 : Int) (x10_1 : Int), v5 = .int .i64 x5_1 ∧ v10 = .int .i64 x10_1 ∧ Aside0 (marlinelaw07_right.l0 kq a0 l1 x5_1 l1 (l1.length : Int) x10_1 = some r) ∧ Aside0 (kq ≤ k) ∧ Drawn0 w w')
  case atStart => exact ⟨(0), (0), (by first | rfl | (simp; done) | (simp [*]; done)), (by first | rfl | (simp; done) | (simp [*]; done)), H', ⟨Nat.le_refl _⟩, by repeat (first | exact Drawn0.refl _ | apply Drawn0.step)⟩
  case round =>
    clear H'
    try clear c1
    try clear c2
    try clear p2
    obtain ⟨x5_1, x10_1, rfl, rfl, HA, HK1, ⟨m1, rfl⟩⟩ := hrel
    cases gk with
    | zero => exact absurd HA.out (by simp [marlinelaw07_right.l0])
    | succ k1 =>
      have H := HA.out
      clear HA
      simp only [marlinelaw07_right.l0] at H
      by_cases c3 : x10_1 < (l1.length : Int)
      · rw [if_pos c3] at H
        have c3b0 : decide (x10_1 < (l1.length : Int)) = true := decide_eq_true c3
        clear c3
        by_cases c4 : 0 ≤ x10_1
        · rw [if_pos c4] at H
          have c4b0 : decide (0 ≤ x10_1) = true := decide_eq_true c4
          clear c4
          by_cases c5 : x10_1 < (l1.length : Int)
          · rw [if_pos c5] at H
            have c5b0 : decide (x10_1 < (l1.length : Int)) = true := decide_eq_true c5
            clear c5
            have H' := Aside0.mk H
            clear H
            have p302 : 0 ≤ (x10_1 : Int) := of_decide_eq_true (by first | (with_reducible assumption) | assumption)
            have q302 : x10_1 < (l1.length : Int) := of_decide_eq_true (by first | (with_reducible assumption) | assumption)
            (try clear hHeld)
            obtain ⟨ad302, A302_0, c302_0, e302, hx302_0, hl302_0, hi302_0⟩ := at_L1 HR1.out x10_1 p302 q302
            cases e302
            have HR302_0 := Aside0.mk hi302_0
            have HC302_0 := Aside0.mk hl302_0
            clear hi302_0 hl302_0
            replace p302 := eq_true p302
            replace q302 := eq_true q302
            go_wp2
            go_roundg k1
            case measure => have := HK1.out; omega
            case rel => exact ⟨(wrap64 (x5_1 + ((rd_L1 l1 x10_1).length : Int))), (wrap64 (x10_1 + 1)), (by first | rfl | (simp; done) | (simp [*]; done)), (by first | rfl | (simp; done) | (simp [*]; done)), H', ⟨by have := HK1.out; omega⟩, by repeat (first | exact Drawn0.refl _ | apply Drawn0.step)⟩
          · rw [if_neg c5] at H
            exact absurd H (by simp)
        · rw [if_neg c4] at H
          exact absurd H (by simp)
      · rw [if_neg c3] at H
        have c3b0 : decide (x10_1 < (l1.length : Int)) = false := decide_eq_false c3
        clear c3
        by_cases c6 : a0 ≥ 1
        · rw [if_pos c6] at H
          have c6b0 : decide (1 ≤ a0) = true := decide_eq_true c6
          clear c6
          by_cases c7 : a0 ≤ 1048576
          · rw [if_pos c7] at H
            have c7b0 : decide (a0 ≤ 1048576) = true := decide_eq_true c7
            clear c7
            by_cases c8 : (l1.length : Int) ≤ 60
            · rw [if_pos c8] at H
              have c8b0 : decide ((l1.length : Int) ≤ 60) = true := decide_eq_true c8
              have c8b1 : decide (l1.length ≤ 60) = true := decide_eq_true (by omega)
              clear c8
              obtain rfl := Option.some.inj H
              go_wp2
              go_ret
              exact ⟨by first | rfl | (simp; done) | (simp [*]; done), by repeat (first | exact Drawn0.refl _ | apply Drawn0.step)⟩
            · rw [if_neg c8] at H
              have c8b0 : decide ((l1.length : Int) ≤ 60) = false := decide_eq_false c8
              have c8b1 : decide (l1.length ≤ 60) = false := decide_eq_false (by omega)
              clear c8
              obtain rfl := Option.some.inj H
              go_wp2
              go_ret
              exact ⟨by first | rfl | (simp; done) | (simp [*]; done), by repeat (first | exact Drawn0.refl _ | apply Drawn0.step)⟩
          · rw [if_neg c7] at H
            have c7b0 : decide (a0 ≤ 1048576) = false := decide_eq_false c7
            clear c7
            obtain rfl := Option.some.inj H
            go_wp2
            go_ret
            exact ⟨by first | rfl | (simp; done) | (simp [*]; done), by repeat (first | exact Drawn0.refl _ | apply Drawn0.step)⟩
        · rw [if_neg c6] at H
          have c6b0 : decide (1 ≤ a0) = false := decide_eq_false c6
          clear c6
          obtain rfl := Option.some.inj H
          go_wp2
          go_ret
          exact ⟨by first | rfl | (simp; done) | (simp [*]; done), by repeat (first | exact Drawn0.refl _ | apply Drawn0.step)⟩

end Go.Proofs.Ytjmclghjhnbafaa.Print

/- The synchronous deframer as a fold, in plain words: chunks joined, how much is told and kept; speaks, same and right of its laws. -/
namespace Go.Proofs.Ytjmclghjhnbafaa.Sp
open Go.RowKit Go.Proofs.Ytjmclghjhnbafaa.Print Go.Proofs.YtjmclghjhnbafaaW.PrintWords Go.Proofs.YtjmclghjhnbafaaW.PrintLast Go.Proofs.Ytjmclghjhnbafaa.Pl
set_option linter.unusedVariables false
theorem sstep_out (m : Int) (o : List S54) (s : Sst) (c : Int) : sstep m (o, s) c = (o ++ (sstep m ([], s) c).1, (sstep m ([], s) c).2) := by
  unfold sstep
  by_cases h1 : sbit c = true
  · simp [h1]
  · simp only [if_neg h1]
    by_cases h2 : s.ones = 6
    · simp only [if_pos h2]
      by_cases h3 : s.any = true <;> simp [h3]
    · simp [h2]
theorem sfold_out (m : Int) : ∀ (l : List Int) (o : List S54) (s : Sst), l.foldl (sstep m) (o, s) = (o ++ (sfeed m s l).1, (sfeed m s l).2)
  | [], o, s => by simp [sfeed]
  | c :: t, o, s => by
    unfold sfeed
    rw [List.foldl_cons, List.foldl_cons, sstep_out m o s c]
    rw [sfold_out m t (o ++ (sstep m ([], s) c).1) (sstep m ([], s) c).2]
    have h := sfold_out m t (sstep m ([], s) c).1 (sstep m ([], s) c).2
    rw [show ((sstep m ([], s) c).1, (sstep m ([], s) c).2) = sstep m ([], s) c from rfl] at h
    rw [h, List.append_assoc]
theorem sfeed_append (m : Int) (s : Sst) (a b : List Int) : sfeed m s (a ++ b) = ((sfeed m s a).1 ++ (sfeed m (sfeed m s a).2 b).1, (sfeed m (sfeed m s a).2 b).2) := by
  have h := sfold_out m b (sfeed m s a).1 (sfeed m s a).2
  rw [show ((sfeed m s a).1, (sfeed m s a).2) = sfeed m s a from rfl] at h
  rw [← h]
  unfold sfeed
  rw [List.foldl_append]
theorem sfeed_cons (m : Int) (s : Sst) (c : Int) (t : List Int) : sfeed m s (c :: t) = ((sstep m ([], s) c).1 ++ (sfeed m (sstep m ([], s) c).2 t).1, (sfeed m (sstep m ([], s) c).2 t).2) := by
  have h := sfold_out m t (sstep m ([], s) c).1 (sstep m ([], s) c).2
  rw [show ((sstep m ([], s) c).1, (sstep m ([], s) c).2) = sstep m ([], s) c from rfl] at h
  rw [← h]
  rfl
theorem sok0 {n : Nat} (h : n ≤ 100000) : Sok s00 n := ⟨by simp only [s00, List.length_nil]; omega, Bytes.nil, by simp [s00], by simp only [s00]; omega⟩
theorem Sok.le {s : Sst} {n k : Nat} (h : Sok s n) (hk : k ≤ n) : Sok s k := ⟨by have := h.len; omega, h.byt, h.on0, by have := h.on1; omega⟩
theorem Sok.after {m : Int} {s : Sst} {n : Nat} {l : List Int} (h : Sok s (n + l.length)) : Sok (sfeed m s l).2 n ∧ (sfeed m s l).1.length ≤ l.length := by
  have := Sok.fold m l ([], s) n h
  simpa [sfeed] using this
theorem soc_len (l : List Int) : (soc l).length ≤ l.length / 8 := by
  unfold soc
  split
  · rw [octs_length]; exact Nat.le_refl _
  · simp
theorem sseg_len (m : Int) (s : Sst) : (sseg m s (soc s.bits)).length ≤ s.bits.length / 8 := by
  unfold sseg
  split
  · exact soc_len _
  · simp
theorem sstep_seg {m : Int} {s : Sst} {n : Nat} (h : Sok s n) (c : Int) : ∀ x ∈ (sstep m ([], s) c).1, x.f1.length ≤ 1000000 := by
  intro x hx
  unfold sstep at hx
  split at hx
  · simp at hx
  · split at hx
    · simp only at hx
      split at hx
      · rw [List.nil_append, List.mem_singleton] at hx
        subst hx
        have h1 := sseg_len m s
        have h2 := h.len
        simp only at h1 ⊢
        omega
      · simp at hx
    · simp at hx
theorem sfeed_seg {m : Int} : ∀ (l : List Int) (s : Sst), Sok s l.length → ∀ x ∈ (sfeed m s l).1, x.f1.length ≤ 1000000
  | [], s, h => by simp [sfeed]
  | c :: t, s, h => by
    intro x hx
    rw [sfeed_cons] at hx
    rcases List.mem_append.1 hx with hx | hx
    · exact sstep_seg h c x hx
    · exact sfeed_seg t _ (Sok.step (p := ([], s)) h c).1 x hx
/-- Feed's function is the fold, where what is kept is small. -/
theorem FeedS (m : Int) (s : Sst) (l : List Int) (h : Sok s l.length) :
    sync_Deframer_Feed.f m s.bits s.many s.any s.broken s.ones s.zero s.stuff l = some ((sfeed m s l).1, (sfeed m s l).2.bits, (sfeed m s l).2.many, (sfeed m s l).2.any, (sfeed m s l).2.broken, (sfeed m s l).2.ones, (sfeed m s l).2.zero, (sfeed m s l).2.stuff) := by
  unfold sync_Deframer_Feed.f
  rw [if_pos ⟨h.len, List.all_eq_true.2 (fun x hx => decide_eq_true (h.byt x hx)), h.on0, h.on1⟩]
theorem FeedS0 (m : Int) (l : List Int) (h : l.length ≤ 100000) :
    sync_Deframer_Feed.f m [] 0 false false 0 false false l = some ((sfeed m s00 l).1, (sfeed m s00 l).2.bits, (sfeed m s00 l).2.many, (sfeed m s00 l).2.any, (sfeed m s00 l).2.broken, (sfeed m s00 l).2.ones, (sfeed m s00 l).2.zero, (sfeed m s00 l).2.stuff) :=
  FeedS m s00 l (sok0 h)
theorem sfeed_speaks : (sfeed 9 s00 [0, 1, 1, 1, 1, 1, 1, 0, 0, 0, 0, 0, 0, 0, 0, 0, 0, 1, 1, 1, 1, 1, 1, 0]).1 = [⟨0, [0]⟩] := by kernel_rfl
theorem wrap_speaks : wrapZ [0] = [0, 1, 1, 1, 1, 1, 1, 0, 0, 0, 0, 0, 0, 0, 0, 0, 0, 1, 1, 1, 1, 1, 1, 0] := by kernel_rfl
theorem Speaks07 : Ev (fun k => marlinelaw07_speaks.f k) true := by
  unfold marlinelaw07_speaks.f
  refine Ev.bind (WrapZ [0] (by simp) (bytes_lit (by decide))) ?_
  rw [wrap_speaks, FeedS0 9 _ (by simp)]
  refine Ev.name ?_
  simp only [sfeed_speaks]
  refine Ev.pos (by simp) (Ev.pos (by simp) (Ev.pos (by simp) (Ev.pos rfl ?_)))
  refine Ev.bind (Equal [0] [0] (by unfold Lim; simp)) (Ev.end_ (by simp))
/-! ### same -/
def SegsOk (l : List S54) : Prop := l.length ≤ 1000000 ∧ ∀ s ∈ l, Lim s.f1
theorem rdT_drop {xs : List S54} {i : Nat} {b : S54} {t : List S54} (h : xs.drop i = b :: t) : rd_T54 xs (i : Int) = b ∧ xs.drop (i + 1) = t ∧ i < xs.length := by
  have h1 : i < xs.length := by
    apply Decidable.byContradiction
    intro hn
    rw [List.drop_of_length_le (by omega)] at h
    cases h
  have h2 := List.drop_eq_getElem_cons h1
  rw [h] at h2
  injection h2 with h3 h4
  refine ⟨?_, h4.symm, h1⟩
  unfold rd_T54
  rw [Int.toNat_natCast, List.getD_eq_getElem?_getD, List.getElem?_eq_getElem h1]
  exact h3.symm
theorem Same_l0 (l : List S54) (ok : SegsOk l) : ∀ (t : List S54) (i : Nat), l.drop i = t → Ev (fun k => marlinelaw07_same.l0 k l l (l.length : Int) i) true
  | [], i, h => by
    have h3 : l.length ≤ i := by
      have := congrArg List.length h
      simp at this; omega
    exact Ev.step (fun k => by simp only [marlinelaw07_same.l0]; rw [if_neg (by omega)]) (Ev.end_ rfl)
  | c :: t, i, h => by
    obtain ⟨e1, e2, e3⟩ := rdT_drop h
    have h0 := ok.1
    have hc : Lim c.f1 := ok.2 c (by
      have : c ∈ l.drop i := by rw [h]; simp
      exact List.mem_of_mem_drop this)
    refine Ev.step (fun k => by simp only [marlinelaw07_same.l0]; rw [if_pos (by omega), if_pos (by omega), if_pos (by omega), if_pos (by omega), if_pos trivial, e1, suc i (by omega)]) ?_
    refine Ev.bind (Equal c.f1 c.f1 hc) (Ev.pos (by simp) ?_)
    exact Same_l0 l ok t (i + 1) e2
theorem SameD (l : List S54) (ok : SegsOk l) : Ev (fun k => marlinelaw07_same.f k l l) true := by
  unfold marlinelaw07_same.f
  exact Ev.pos rfl (Same_l0 l ok l 0 rfl)
/-! ### right -/
def tot : List (List Int) → Int
  | [] => 0
  | c :: t => c.length + tot t
theorem tot_nn (l : List (List Int)) : 0 ≤ tot l := by
  induction l with
  | nil => simp [tot]
  | cons c t ih => simp only [tot]; omega
def SegsLim (l : List (List Int)) : Prop := ∀ c ∈ l, (c.length : Int) ≤ 140737488351232
theorem rdL_drop {xs : List (List Int)} {i : Nat} {b : List Int} {t : List (List Int)} (h : xs.drop i = b :: t) : rd_L1 xs (i : Int) = b ∧ xs.drop (i + 1) = t ∧ i < xs.length := by
  have h1 : i < xs.length := by
    apply Decidable.byContradiction
    intro hn
    rw [List.drop_of_length_le (by omega)] at h
    cases h
  have h2 := List.drop_eq_getElem_cons h1
  rw [h] at h2
  injection h2 with h3 h4
  refine ⟨?_, h4.symm, h1⟩
  unfold rd_L1
  rw [Int.toNat_natCast, List.getD_eq_getElem?_getD, List.getElem?_eq_getElem h1]
  exact h3.symm
theorem dropL_nil {xs : List (List Int)} {i : Nat} (h : xs.drop i = []) : xs.length ≤ i := by
  have := congrArg List.length h
  simp at this; omega
/-- What right answers: whether few octets, where the chunks are no more than 60; no matter what where there are more. -/
theorem Right_l0 (m : Int) (l : List (List Int)) (hs : SegsLim l) (hl : l.length ≤ 5864062014634) : ∀ (t : List (List Int)) (i : Nat) (n : Int), l.drop i = t →
    ∃ n' : Int, (l.length ≤ 60 → 0 ≤ n → n + 140737488351232 * t.length ≤ 140737488351232 * 60 → n' = n + tot t) ∧ Ev (fun k => marlinelaw07_right.l0 k m l n l (l.length : Int) i) (if m ≥ 1 ∧ m ≤ 1048576 ∧ (l.length : Int) ≤ 60 then decide (n' ≤ 900) else false)
  | [], i, n, h => by
    have h3 := dropL_nil h
    refine ⟨n, fun _ _ _ => by simp [tot], Ev.step (fun k => by simp only [marlinelaw07_right.l0]; rw [if_neg (by omega)]) ?_⟩
    by_cases h1 : m ≥ 1
    · refine Ev.pos h1 ?_
      by_cases h2 : m ≤ 1048576
      · refine Ev.pos h2 ?_
        by_cases h4 : (l.length : Int) ≤ 60
        · exact Ev.pos h4 (Ev.end_ (by rw [if_pos ⟨h1, h2, h4⟩]))
        · exact Ev.neg h4 (Ev.end_ (by rw [if_neg (fun h => h4 h.2.2)]))
      · exact Ev.neg h2 (Ev.end_ (by rw [if_neg (fun h => h2 h.2.1)]))
    · exact Ev.neg h1 (Ev.end_ (by rw [if_neg (fun h => h1 h.1)]))
  | c :: t, i, n, h => by
    obtain ⟨e1, e2, e3⟩ := rdL_drop h
    have hc := hs c (List.mem_of_mem_drop (by rw [h]; simp : c ∈ l.drop i))
    obtain ⟨n', k1, k2⟩ := Right_l0 m l hs hl t (i + 1) (wrap64 (n + c.length)) e2
    refine ⟨n', ?_, Ev.step (fun k => by simp only [marlinelaw07_right.l0]; rw [if_pos (by omega), if_pos (by omega), if_pos (by omega), e1, show wrap64 ((i : Int) + 1) = ((i + 1 : Nat) : Int) by rw [w64 (by omega) (by omega)]; omega]) k2⟩
    intro a b d
    simp only [List.length_cons] at d
    have w : wrap64 (n + c.length) = n + c.length := w64 (by omega) (by omega)
    rw [w] at k1
    rw [k1 a (by omega) (by omega)]
    simp only [tot]
    omega
theorem RightD (m : Int) (l : List (List Int)) (hs : SegsLim l) (hl : l.length ≤ 5864062014634) : ∃ b : Bool, (b = true → 1 ≤ m ∧ m ≤ 1048576 ∧ l.length ≤ 60 ∧ tot l ≤ 900) ∧ Ev (fun k => marlinelaw07_right.f k m l) b := by
  obtain ⟨n', k1, k2⟩ := Right_l0 m l hs hl l 0 0 rfl
  refine ⟨_, ?_, k2⟩
  intro h
  by_cases h1 : m ≥ 1 ∧ m ≤ 1048576 ∧ (l.length : Int) ≤ 60
  · rw [if_pos h1, decide_eq_true_iff] at h
    have := k1 (by omega) (by omega) (by omega)
    exact ⟨by omega, by omega, by omega, by omega⟩
  · rw [if_neg h1] at h; cases h
theorem segs_ok (m : Int) (l : List Int) (h : l.length ≤ 100000) : SegsOk (sfeed m s00 l).1 := by
  have h1 := sok0 h
  have h2 := (Sok.after (m := m) (n := 0) (l := l) (by rw [Nat.zero_add]; exact h1)).2
  exact ⟨by omega, fun x hx => by have := sfeed_seg l s00 h1 x hx; unfold Lim; omega⟩
end Go.Proofs.Ytjmclghjhnbafaa.Sp

/- How much the synchronous deframer tells and keeps; what a flag does to it. -/
namespace Go.Proofs.Ytjmclghjhnbafaa.Sp
open Go.RowKit Go.Proofs.Ytjmclghjhnbafaa.Print Go.Proofs.YtjmclghjhnbafaaW.PrintWords Go.Proofs.YtjmclghjhnbafaaW.PrintLast Go.Proofs.Ytjmclghjhnbafaa.Pl
set_option linter.unusedVariables false
theorem wm {m : Int} (h1 : 1 ≤ m) (h2 : m ≤ 1048576) : wrap64 (8 * m) = 8 * m := w64 (by omega) (by omega)
theorem sput_cap {m : Int} (h1 : 1 ≤ m) (h2 : m ≤ 1048576) (b : Int) : ∀ (k : Nat) (s : Sst), (s.bits.length : Int) ≤ 8 * m → ((sput m b k s).bits.length : Int) ≤ 8 * m
  | 0, s, h => h
  | k + 1, s, h => by
    have ih := sput_cap h1 h2 b k s h
    simp only [sput, sput1, wm h1 h2]
    split
    · rw [List.length_append]; simp only [List.length_cons, List.length_nil]; omega
    · exact ih
/-- What is kept fits, and is no more than was fed. -/
structure Ib (m : Int) (s : Sst) (n : Nat) : Prop where
  cap : (s.bits.length : Int) ≤ 8 * m
  bud : (s.bits.length : Int) + (if s.zero = true then 1 else 0) + s.ones ≤ n
  on0 : 0 ≤ s.ones
theorem ssettle_b {m : Int} (h1 : 1 ≤ m) (h2 : m ≤ 1048576) (s : Sst) (h : (s.bits.length : Int) ≤ 8 * m) : ((ssettle m s).bits.length : Int) ≤ 8 * m ∧ ((ssettle m s).bits.length : Int) ≤ s.bits.length + (if s.zero = true then 1 else 0) := by
  unfold ssettle
  by_cases hz : s.zero = true
  · rw [if_pos hz, if_pos hz]
    by_cases hs : s.stuff = true
    · rw [if_pos hs]; simp only; exact ⟨h, by omega⟩
    · rw [if_neg hs]
      have a := sput_cap h1 h2 0 1 { s with any := true } h
      have b := sput_len m 0 1 { s with any := true }
      simp only at a b ⊢
      exact ⟨a, by omega⟩
  · rw [if_neg hz, if_neg hz]
    exact ⟨h, by omega⟩
theorem srow_b {m : Int} (h1 : 1 ≤ m) (h2 : m ≤ 1048576) (s : Sst) (h : (s.bits.length : Int) ≤ 8 * m) (h0 : 0 ≤ s.ones) : ((srow m s).bits.length : Int) ≤ 8 * m ∧ ((srow m s).bits.length : Int) ≤ s.bits.length + (if s.zero = true then 1 else 0) + s.ones := by
  obtain ⟨a, b⟩ := ssettle_b h1 h2 s h
  have c := sput_cap h1 h2 1 (min s.ones 5).toNat (srow1 (ssettle m s)) a
  have d := sput_len m 1 (min s.ones 5).toNat (srow1 (ssettle m s))
  rw [show (srow1 (ssettle m s)).bits = (ssettle m s).bits from rfl] at d
  unfold srow
  exact ⟨c, by omega⟩
def Good7 (m : Int) (x : S54) : Prop := (x.f0 = 0 → (x.f1.length : Int) ≤ m) ∧ (x.f0 ≠ 0 → x.f1.length = 0)
def sum7 : List S54 → Nat
  | [] => 0
  | s :: t => s.f1.length + sum7 t
theorem sum7_append (a b : List S54) : sum7 (a ++ b) = sum7 a + sum7 b := by
  induction a with
  | nil => simp [sum7]
  | cons s t ih => simp only [List.cons_append, sum7, ih]; omega
theorem sstep_inv {m : Int} (h1 : 1 ≤ m) (h2 : m ≤ 1048576) {s : Sst} {n : Nat} (hn : n ≤ 100000) (h : Ib m s n) (c : Int) :
    (∀ x ∈ (sstep m ([], s) c).1, Good7 m x) ∧ ∃ n' : Nat, 8 * sum7 (sstep m ([], s) c).1 + n' ≤ n + 1 ∧ Ib m (sstep m ([], s) c).2 n' := by
  obtain ⟨a, b, d⟩ := h
  have hz0 : (0 : Int) ≤ (if s.zero = true then (1 : Int) else 0) := by split <;> omega
  unfold sstep
  by_cases hb : sbit c = true
  · have w : wrap64 (s.ones + 1) = s.ones + 1 := w64 (by omega) (by omega)
    rw [if_pos hb]
    refine ⟨fun x hx => by simp at hx, n + 1, by simp [sum7], a, ?_, by simp only; rw [w]; omega⟩
    show (s.bits.length : Int) + (if s.zero = true then (1 : Int) else 0) + wrap64 (s.ones + 1) ≤ ((n + 1 : Nat) : Int)
    rw [w]
    omega
  · rw [if_neg hb]
    by_cases h6 : s.ones = 6
    · simp only [if_pos h6]
      refine ⟨?_, 0, ?_, by simp [s00]; omega, by simp [s00], by simp [s00]⟩
      · intro x hx
        split at hx
        · rw [List.nil_append, List.mem_singleton] at hx
          subst hx
          have hl := sseg_len m s
          refine ⟨fun _ => by simp only; omega, fun hk => ?_⟩
          simp only at hk ⊢
          unfold sseg
          rw [if_neg hk]
          rfl
        · simp at hx
      · split
        · have hl := sseg_len m s
          simp only [List.nil_append, sum7]
          split at b <;> omega
        · simp [sum7]
    · simp only [if_neg h6]
      obtain ⟨e, f⟩ := srow_b h1 h2 s a d
      refine ⟨fun x hx => by simp at hx, n + 1, by simp [sum7], e, ?_, by simp⟩
      simp only [if_true]
      omega
theorem sfeed_inv {m : Int} (h1 : 1 ≤ m) (h2 : m ≤ 1048576) : ∀ (l : List Int) (s : Sst) (n : Nat), n + l.length ≤ 100000 → Ib m s n → (∀ x ∈ (sfeed m s l).1, Good7 m x) ∧ 8 * sum7 (sfeed m s l).1 ≤ n + l.length
  | [], s, n, hn, h => by simp [sfeed, sum7]
  | c :: t, s, n, hn, h => by
    simp only [List.length_cons] at hn ⊢
    obtain ⟨a, n', b, d⟩ := sstep_inv h1 h2 (by omega) h c
    obtain ⟨e, f⟩ := sfeed_inv h1 h2 t _ n' (by omega) d
    rw [sfeed_cons]
    refine ⟨fun x hx => ?_, by simp only [sum7_append]; omega⟩
    rcases List.mem_append.1 hx with hx | hx
    · exact a x hx
    · exact e x hx
/-! ### a flag -/
theorem feed_ones (m : Int) (s : Sst) (h : s.ones = 0) : (sfeed m s [1, 1, 1, 1, 1, 1, 0]).2 = s00 := by
  obtain ⟨bits, many, any, broken, ones, zero, stuff⟩ := s
  simp only at h
  subst h
  kernel_rfl
theorem step_zero (m : Int) (s : Sst) : (sstep m ([], s) 0).2.ones = 0 := by
  unfold sstep
  rw [if_neg (by decide)]
  split <;> rfl
theorem feed_flag (m : Int) (s : Sst) : (sfeed m s flag).2 = s00 := by
  unfold flag
  rw [sfeed_cons]
  exact feed_ones m _ (step_zero m s)
theorem flag_none (m : Int) : sfeed m s00 flag = ([], s00) := by kernel_rfl
theorem flag_none1 (m : Int) : sfeed m s00 (flag.drop 1) = ([], s00) := by kernel_rfl
end Go.Proofs.Ytjmclghjhnbafaa.Sp

/- The statement SyncBounds, in plain words. -/
namespace Go.Proofs.Ytjmclghjhnbafaa.Sp
open Go.RowKit Go.Proofs.Ytjmclghjhnbafaa.Print Go.Proofs.YtjmclghjhnbafaaW.PrintWords Go.Proofs.YtjmclghjhnbafaaW.PrintLast Go.Proofs.Ytjmclghjhnbafaa.Pl
set_option linter.unusedVariables false
theorem Bounds_l0 (m : Int) (h1 : 1 ≤ m) (h2 : m ≤ 1048576) (l : List Int) (hl : l.length ≤ 900) (sh : Bool) (st : Sst) (hst : Sok st 100) (got : List S54) (hg : ∀ x ∈ got, Good7 m x) (hn : got.length ≤ 1000) (hs : 8 * sum7 got ≤ l.length) :
    ∀ (t : List S54) (i a : Nat), got.drop i = t → a + sum7 t = sum7 got → Ev (fun k => marlinelaw07_SyncBounds.l0 k m l sh a got (got.length : Int) i m st.bits st.many st.any st.broken st.ones st.zero st.stuff) true
  | [], i, a, h, ha => by
    have h3 : got.length ≤ i := by
      have := congrArg List.length h
      simp at this; omega
    simp only [sum7] at ha
    have w : wrap64 (8 * (a : Int)) = 8 * a := w64 (by omega) (by omega)
    have hF := FeedS m st flag (Sok.le hst (by decide))
    rw [feed_flag] at hF
    simp only [s00] at hF
    have h00 := FeedS0 m flag (by decide)
    rw [flag_none] at h00
    simp only [s00] at h00
    have h01 := FeedS0 m (flag.drop 1) (by decide)
    rw [flag_none1] at h01
    simp only [s00] at h01
    refine Ev.step (fun k => by simp only [marlinelaw07_SyncBounds.l0]; rw [if_neg (by omega)]) ?_
    refine Ev.bind Flag ?_
    rw [show ([0, 1, 1, 1, 1, 1, 1, 0] : List Int) = flag from rfl, hF]
    refine Ev.name (Ev.bind Flag ?_)
    rw [show ([0, 1, 1, 1, 1, 1, 1, 0] : List Int) = flag from rfl]
    cases sh with
    | true =>
      refine Ev.pos rfl (Ev.pos (by decide) (Ev.name (Ev.pos (by rw [w]; omega) ?_)))
      rw [show (1 : Int).toNat = 1 from rfl, h01]
      refine Ev.name (Ev.pos (by simp) ?_)
      simp only
      rw [h01]
      exact Ev.name (Ev.end_ (by simp))
    | false =>
      refine Ev.neg (by decide) (Ev.pos (by rw [w]; omega) ?_)
      simp only
      rw [h00]
      refine Ev.name (Ev.pos (by simp) ?_)
      simp only
      rw [h00]
      exact Ev.name (Ev.end_ (by simp))
  | c :: t, i, a, h, ha => by
    obtain ⟨e1, e2, e3⟩ := rdT_drop h
    have hc := hg c (List.mem_of_mem_drop (by rw [h]; simp : c ∈ got.drop i))
    simp only [sum7] at ha
    have w : wrap64 ((a : Int) + (c.f1.length : Int)) = ((a + c.f1.length : Nat) : Int) := by rw [w64 (by omega) (by omega)]; omega
    refine Ev.step (fun k => by simp only [marlinelaw07_SyncBounds.l0]; rw [if_pos (by omega), if_pos (by omega), if_pos (by omega), e1, w, suc i (by omega)]) ?_
    have ih := Bounds_l0 m h1 h2 l hl sh st hst got hg hn hs t (i + 1) (a + c.f1.length) e2 (by omega)
    obtain ⟨c1, c2⟩ := hc
    by_cases h0 : c.f0 = 0
    · have := c1 h0
      exact Ev.pos h0 (Ev.neg (by omega) ih)
    · have := c2 h0
      exact Ev.neg h0 (Ev.neg (by omega) ih)
theorem SyncBounds : marlinelaw07_SyncBounds.Pure := by
  intro a0 l1 a2 h0 hm hs hw
  refine Ev.rounds ?_
  unfold marlinelaw07_SyncBounds.f
  refine Ev.bind Speaks07 (Ev.pos rfl ?_)
  have out : Ev (fun k => marlinelaw07_SyncBounds.j0 k a0 l1 a2 true) true :=
    Ev.step (fun k => by simp only [marlinelaw07_SyncBounds.j0]; rw [if_pos trivial]) (Ev.bind Speaks07 (Ev.now _))
  by_cases c1 : a0 < 1
  · exact Ev.pos c1 out
  refine Ev.neg c1 ?_
  by_cases c2 : a0 > 1048576
  · exact Ev.pos c2 out
  refine Ev.neg c2 ?_
  by_cases c3 : (l1.length : Int) > 900
  · rw [decide_eq_true c3]; exact out
  · rw [decide_eq_false c3]
    have hF := FeedS0 a0 l1 (by omega)
    have hk := Sok.after (m := a0) (n := 100) (l := l1) (sok0 (by omega))
    obtain ⟨g1, g2⟩ := sfeed_inv (m := a0) (by omega) (by omega) l1 s00 0 (by omega) ⟨by simp [s00]; omega, by simp [s00], by simp [s00]⟩
    refine Ev.step (fun k => by simp only [marlinelaw07_SyncBounds.j0]; rw [if_neg (by decide), hF]) ?_
    refine Ev.name ?_
    exact Bounds_l0 a0 (by omega) (by omega) l1 (by omega) a2 (sfeed a0 s00 l1).2 hk.1 (sfeed a0 s00 l1).1 g1 (by omega) (by omega) _ 0 0 rfl (by rw [List.drop_zero]; omega)
end Go.Proofs.Ytjmclghjhnbafaa.Sp

/- The plain part of marlinelaw07.SyncBounds: its printed form gives true for every input in its kinds' ranges. -/
namespace Go.Proofs.Ytjmclghjhnbafaa.Pure
open Go.Proofs.Ytjmclghjhnbafaa.Print
theorem SyncBounds : marlinelaw07_SyncBounds.Pure := Go.Proofs.Ytjmclghjhnbafaa.Sp.SyncBounds
end Go.Proofs.Ytjmclghjhnbafaa.Pure
