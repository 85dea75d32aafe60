/- What the printed functions of the layers 1 and 6 and their references come to, in plain words. -/
import Derived.Test.YtofanmciehbabaaPl
import Derived.Test.YtofanmciehbabaaPrintMarlineref01Equal
import Derived.Test.YtofanmciehbabaaPrintBitsOf
import Derived.Test.YtofanmciehbabaaPrintBitsRun
import Derived.Test.YtofanmciehbabaaPrintBitsClean
namespace Go.Proofs.Ytofanmciehbabaa.Sp
open Go.RowKit Go.Proofs.Ytofanmciehbabaa.Print Go.Proofs.YtofanmciehbabaaW.PrintWords Go.Proofs.YtofanmciehbabaaW.PrintLast Go.Proofs.Ytofanmciehbabaa.Pl
set_option linter.unusedVariables false
/-- A list that a loop may go through. -/
def Lim (l : List Int) : Prop := l.length ≤ 1000000
theorem suc (i : Nat) (h : i ≤ 2000000) : wrap64 ((i : Int) + 1) = ((i + 1 : Nat) : Int) := by rw [w64 (by omega) (by omega)]; omega

theorem Equal_l0 (a b : List Int) (hl : a.length = b.length) (ha : Lim a) : ∀ (t u : List Int) (i : Nat), a.drop i = t → b.drop i = u → Ev (fun k => marlineref01_Equal.l0 k a b i) (decide (t = u))
  | [], u, i, h1, h2 => by
    have h3 := drop_nil_len h1
    have h4 := drop_len h2
    obtain rfl : u = [] := List.eq_nil_of_length_eq_zero (by omega)
    exact Ev.step (fun k => by simp only [marlineref01_Equal.l0]; rw [if_neg (by omega)]; rfl) (Ev.now _)
  | x :: t, u, i, h1, h2 => by
    obtain ⟨e1, e2, e3⟩ := rd_drop h1
    cases u with
    | nil => have := drop_nil_len h2; omega
    | cons y u =>
      obtain ⟨f1, f2, f3⟩ := rd_drop h2
      unfold Lim at ha
      by_cases hxy : x = y
      · subst hxy
        have ih := Equal_l0 a b hl ha t u (i + 1) e2 f2
        rw [show decide (x :: t = x :: u) = decide (t = u) by simp]
        exact Ev.step (fun k => by simp only [marlineref01_Equal.l0]; rw [if_pos (by omega), if_pos (by omega), if_pos (by omega), e1, f1, if_pos rfl, suc i (by omega)]) ih
      · rw [show decide (x :: t = y :: u) = false by simp [hxy]]
        exact Ev.step (fun k => by simp only [marlineref01_Equal.l0]; rw [if_pos (by omega), if_pos (by omega), if_pos (by omega), e1, f1, if_neg hxy]) (Ev.now _)
theorem Equal (a b : List Int) (ha : Lim a) : Ev (fun k => marlineref01_Equal.f k a b) (decide (a = b)) := by
  by_cases hl : a.length = b.length
  · exact Ev.congr (fun k => by unfold marlineref01_Equal.f; rw [if_pos (by omega)]; rfl) (Equal_l0 a b hl ha a b 0 rfl rfl)
  · rw [show decide (a = b) = false by simp; rintro rfl; exact hl rfl]
    exact Ev.congr (fun k => by unfold marlineref01_Equal.f; rw [if_neg (by omega)]) (Ev.now _)

theorem Of_l1 (l : List Int) (x : List Int) (c : Int) (hc : Byte c) (hx : x.length ≤ 9000000) (i : Nat) (r : List Int) (h : Ev (fun k => bits_Of.l0 k (x ++ eight c) l (l.length : Int) (wrap64 ((i : Int) + 1))) r) : Ev (fun k => bits_Of.l1 k x c l (l.length : Int) i 0) r := by
  have b0 : Go.bits .and .u8 (shr .u8 c 0) 1 = c % 2 := (bit_at hc 0 (by omega)).trans (by simp)
  have b1 : Go.bits .and .u8 (shr .u8 c 1) 1 = c / 2 % 2 := bit_at hc 1 (by omega)
  have b2 : Go.bits .and .u8 (shr .u8 c 2) 1 = c / 4 % 2 := bit_at hc 2 (by omega)
  have b3 : Go.bits .and .u8 (shr .u8 c 3) 1 = c / 8 % 2 := bit_at hc 3 (by omega)
  have b4 : Go.bits .and .u8 (shr .u8 c 4) 1 = c / 16 % 2 := bit_at hc 4 (by omega)
  have b5 : Go.bits .and .u8 (shr .u8 c 5) 1 = c / 32 % 2 := bit_at hc 5 (by omega)
  have b6 : Go.bits .and .u8 (shr .u8 c 6) 1 = c / 64 % 2 := bit_at hc 6 (by omega)
  have b7 : Go.bits .and .u8 (shr .u8 c 7) 1 = c / 128 % 2 := bit_at hc 7 (by omega)
  have s : ∀ j : Int, 0 ≤ j → j < 8 → wrap64 (j + 1) = j + 1 := fun j h0 h1 => w64 (by omega) (by omega)
  have e : x ++ eight c = (((((((x ++ [c % 2]) ++ [c / 2 % 2]) ++ [c / 4 % 2]) ++ [c / 8 % 2]) ++ [c / 16 % 2]) ++ [c / 32 % 2]) ++ [c / 64 % 2]) ++ [c / 128 % 2] := by simp [eight]
  rw [e] at h
  refine Ev.step (f := fun k => bits_Of.l1 k (x ++ [c % 2]) c l (l.length : Int) i 1) (fun k => by simp only [bits_Of.l1]; rw [if_pos (by omega), if_pos (by omega), if_pos (by omega), b0, s 0 (by omega) (by omega)]; rfl) ?_
  refine Ev.step (f := fun k => bits_Of.l1 k _ c l (l.length : Int) i 2) (fun k => by simp only [bits_Of.l1]; rw [if_pos (by omega), if_pos (by omega), if_pos (by simp; omega), b1, s 1 (by omega) (by omega)]; rfl) ?_
  refine Ev.step (f := fun k => bits_Of.l1 k _ c l (l.length : Int) i 3) (fun k => by simp only [bits_Of.l1]; rw [if_pos (by omega), if_pos (by omega), if_pos (by simp; omega), b2, s 2 (by omega) (by omega)]; rfl) ?_
  refine Ev.step (f := fun k => bits_Of.l1 k _ c l (l.length : Int) i 4) (fun k => by simp only [bits_Of.l1]; rw [if_pos (by omega), if_pos (by omega), if_pos (by simp; omega), b3, s 3 (by omega) (by omega)]; rfl) ?_
  refine Ev.step (f := fun k => bits_Of.l1 k _ c l (l.length : Int) i 5) (fun k => by simp only [bits_Of.l1]; rw [if_pos (by omega), if_pos (by omega), if_pos (by simp; omega), b4, s 4 (by omega) (by omega)]; rfl) ?_
  refine Ev.step (f := fun k => bits_Of.l1 k _ c l (l.length : Int) i 6) (fun k => by simp only [bits_Of.l1]; rw [if_pos (by omega), if_pos (by omega), if_pos (by simp; omega), b5, s 5 (by omega) (by omega)]; rfl) ?_
  refine Ev.step (f := fun k => bits_Of.l1 k _ c l (l.length : Int) i 7) (fun k => by simp only [bits_Of.l1]; rw [if_pos (by omega), if_pos (by omega), if_pos (by simp; omega), b6, s 6 (by omega) (by omega)]; rfl) ?_
  refine Ev.step (f := fun k => bits_Of.l1 k _ c l (l.length : Int) i 8) (fun k => by simp only [bits_Of.l1]; rw [if_pos (by omega), if_pos (by omega), if_pos (by simp; omega), b7, s 7 (by omega) (by omega)]; rfl) ?_
  exact Ev.step (fun k => by simp only [bits_Of.l1]; rw [if_neg (by omega)]) h
theorem Of_l0 (l : List Int) (hl : Lim l) (hb : Bytes l) : ∀ (t : List Int) (i : Nat) (x : List Int), l.drop i = t → x.length ≤ 8 * i → Ev (fun k => bits_Of.l0 k x l (l.length : Int) i) (x ++ ofOct t)
  | [], i, x, h1, hx => by
    have h3 := drop_nil_len h1
    rw [ofOct, List.append_nil]
    exact Ev.step (fun k => by simp only [bits_Of.l0]; rw [if_neg (by omega)]) (Ev.now _)
  | c :: t, i, x, h1, hx => by
    obtain ⟨e1, e2, e3⟩ := rd_drop h1
    unfold Lim at hl
    have ih := Of_l0 l hl hb t (i + 1) (x ++ eight c) e2 (by simp [eight]; omega)
    rw [ofOct, ← List.append_assoc]
    have hc : Byte c := by
      have h4 := hb.drop i
      rw [h1] at h4
      exact h4.head
    refine Ev.step (fun k => by simp only [bits_Of.l0]; rw [if_pos (by omega), if_pos (by omega), if_pos (by omega), e1]) (Of_l1 l x c hc (by omega) i _ ?_)
    rw [suc i (by omega)]
    exact ih
theorem Of (l : List Int) (hl : Lim l) (hb : Bytes l) : Ev (fun k => bits_Of.f k l) (ofOct l) := by
  have h := Of_l0 l hl hb l 0 [] rfl (by simp)
  unfold Lim at hl
  refine Ev.congr (fun k => by unfold bits_Of.f; rw [w64 (by omega) (by omega), if_pos (by omega), if_pos (by omega)]; rfl) h

theorem Run_l0 (l : List Int) (hl : Lim l) (hb : Bytes l) : ∀ (t : List Int) (i : Nat) (m n : Int), l.drop i = t → 0 ≤ n → n ≤ i → Ev (fun k => bits_Run.l0 k m n l (l.length : Int) i) (max m (peak n t) + if t = [] then m - max m 0 else 0)
  | [], i, m, n, h1, hn, hi => by
    have h3 := drop_nil_len h1
    rw [peak, if_pos rfl, show max m 0 + (m - max m 0) = m by omega]
    exact Ev.step (fun k => by simp only [bits_Run.l0]; rw [if_neg (by omega)]) (Ev.now _)
  | c :: t, i, m, n, h1, hn, hi => by
    obtain ⟨e1, e2, e3⟩ := rd_drop h1
    unfold Lim at hl
    have hc : Byte c := by
      have h4 := hb.drop i
      rw [h1] at h4
      exact h4.head
    have hbm := bitmul n c hn
    have ih := Run_l0 l hl hb t (i + 1) (max m ((n + 1) * (c % 2))) ((n + 1) * (c % 2)) e2 (by omega) (by omega)
    rw [if_neg (by simp), Int.add_zero, peak]
    have hp := peak_nonneg ((n + 1) * (c % 2)) t (by omega)
    have e : max m (max ((n + 1) * (c % 2)) (peak ((n + 1) * (c % 2)) t)) = (max (max m ((n + 1) * (c % 2))) (peak ((n + 1) * (c % 2)) t) + if t = [] then max m ((n + 1) * (c % 2)) - max (max m ((n + 1) * (c % 2))) 0 else 0) := by
      split
      · omega
      · omega
    rw [e]
    have hm : ∀ p : Int, mx m p = max m p := fun p => by unfold mx; split <;> omega
    refine Ev.step (fun k => ?_) ih
    simp only [bits_Run.l0]
    rw [if_pos (by omega), if_pos (by omega), if_pos (by omega), e1, and1 hc, w64 (x := n + 1) (by omega) (by omega), w64 (x := c % 2) (by omega) (by omega), w64 (x := (n + 1) * (c % 2)) (by omega) (by omega), hm, suc i (by omega)]
theorem Run (l : List Int) (hl : Lim l) (hb : Bytes l) : Ev (fun k => bits_Run.f k l) (run l) := by
  have h := Run_l0 l hl hb l 0 0 0 rfl (by omega) (by omega)
  have hp := run_nonneg l
  have e : (max 0 (peak 0 l) + if l = [] then (0 : Int) - max 0 0 else 0) = run l := by
    unfold run at hp ⊢
    split <;> omega
  rw [e] at h
  exact h

theorem Clean_l0 (l : List Int) (hl : Lim l) (hb : Bytes l) : ∀ (t : List Int) (i : Nat) (d : List Int), l.drop i = t → d.length = i → Ev (fun k => bits_Clean.l0 k (d ++ List.replicate t.length 0) l (l.length : Int) i) (d ++ clean t)
  | [], i, d, h1, hd => by
    have h3 := drop_nil_len h1
    exact Ev.step (fun k => by simp only [bits_Clean.l0]; rw [if_neg (by omega)]; rfl) (Ev.now _)
  | c :: t, i, d, h1, hd => by
    obtain ⟨e1, e2, e3⟩ := rd_drop h1
    unfold Lim at hl
    have hc : Byte c := by
      have h4 := hb.drop i
      rw [h1] at h4
      exact h4.head
    have ih := Clean_l0 l hl hb t (i + 1) (d ++ [c % 2]) e2 (by simp [hd])
    have e : d ++ clean (c :: t) = (d ++ [c % 2]) ++ clean t := by simp [clean]
    rw [e]
    refine Ev.step (fun k => ?_) ih
    simp only [bits_Clean.l0]
    rw [if_pos (by omega), if_pos (by omega), if_pos (by omega), if_pos (by simp [hd]; omega), e1, and1 hc, suc i (by omega), Int.toNat_natCast, List.length_cons, List.replicate_succ, List.set_append_right _ _ (by omega), hd, Nat.sub_self, List.set_cons_zero]
    simp
theorem Clean (l : List Int) (hl : Lim l) (hb : Bytes l) : Ev (fun k => bits_Clean.f k l) (clean l) := by
  have h := Clean_l0 l hl hb l 0 [] rfl rfl
  unfold Lim at hl
  refine Ev.congr (fun k => ?_) h
  unfold bits_Clean.f
  rw [if_pos (by omega), if_pos (by omega), Int.toNat_natCast]
  rfl
end Go.Proofs.Ytofanmciehbabaa.Sp
