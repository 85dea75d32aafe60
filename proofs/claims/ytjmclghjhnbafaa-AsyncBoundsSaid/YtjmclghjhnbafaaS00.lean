/- Words for plain texts over printed functions: a list that a loop may go through, a test that is decided, and what the reference's comparing comes to. No condition. -/
import Derived.Test.YtjmclghjhnbafaaPl
import Derived.Test.YtjmclghjhnbafaaPrintMarlineref01Equal
namespace Go.Proofs.Ytjmclghjhnbafaa.Sp
open Go.RowKit Go.Proofs.Ytjmclghjhnbafaa.Print Go.Proofs.YtjmclghjhnbafaaW.PrintWords Go.Proofs.YtjmclghjhnbafaaW.PrintLast Go.Proofs.Ytjmclghjhnbafaa.Pl
set_option linter.unusedVariables false
theorem Ev.pos {α : Type} {c : Prop} [Decidable c] {g h : Nat → Option α} {r : α} (hc : c) (k : Ev g r) : Ev (fun n => if c then g n else h n) r :=
  Ev.congr (fun n => if_pos hc) k
theorem Ev.neg {α : Type} {c : Prop} [Decidable c] {g h : Nat → Option α} {r : α} (hc : ¬ c) (k : Ev h r) : Ev (fun n => if c then g n else h n) r :=
  Ev.congr (fun n => if_neg hc) k
theorem Ev.end_ {α : Type} {x r : α} (h : x = r) : Ev (fun _ => some x) r := h ▸ Ev.now _
theorem Ev.name {α β : Type} {x : β} {g : Nat → β → Option α} {r : α} (h : Ev (fun n => g n x) r) : Ev (fun n => (some x).bind (g n)) r := Ev.congr (fun n => Option.bind_some _ _) h
/-- A list that a loop may go through. -/
def Lim (l : List Int) : Prop := l.length ≤ 1000000
theorem suc (i : Nat) (h : i ≤ 2000000) : wrap64 ((i : Int) + 1) = ((i + 1 : Nat) : Int) := by rw [w64 (by omega) (by omega)]; omega

theorem Equal_l0 (a b : List Int) (hl : a.length = b.length) (ha : Lim a) : ∀ (t u : List Int) (i : Nat), a.drop i = t → b.drop i = u → Ev (fun k => marlineref01_Equal.l0 k a b i) (decide (t = u))
  | [], u, i, h1, h2 => by
    have h3 := drop_nil_len h1
    have h4 := drop_len h2
    obtain rfl : u = [] := List.eq_nil_of_length_eq_zero (by omega)
    exact Ev.step (fun k => by simp only [marlineref01_Equal.l0]; rw [if_neg (by omega)]; rfl) (Ev.now _)
  | x :: t, u, i, h1, h2 => by
    obtain ⟨e1, e2, e3⟩ := rd_drop h1
    cases u with
    | nil => have := drop_nil_len h2; omega
    | cons y u =>
      obtain ⟨f1, f2, f3⟩ := rd_drop h2
      unfold Lim at ha
      by_cases hxy : x = y
      · subst hxy
        have ih := Equal_l0 a b hl ha t u (i + 1) e2 f2
        rw [show decide (x :: t = x :: u) = decide (t = u) by simp]
        exact Ev.step (fun k => by simp only [marlineref01_Equal.l0]; rw [if_pos (by omega), if_pos (by omega), if_pos (by omega), e1, f1, if_pos rfl, suc i (by omega)]) ih
      · rw [show decide (x :: t = y :: u) = false by simp [hxy]]
        exact Ev.step (fun k => by simp only [marlineref01_Equal.l0]; rw [if_pos (by omega), if_pos (by omega), if_pos (by omega), e1, f1, if_neg hxy]) (Ev.now _)
theorem Equal (a b : List Int) (ha : Lim a) : Ev (fun k => marlineref01_Equal.f k a b) (decide (a = b)) := by
  by_cases hl : a.length = b.length
  · exact Ev.congr (fun k => by unfold marlineref01_Equal.f; rw [if_pos (by omega)]; rfl) (Equal_l0 a b hl ha a b 0 rfl rfl)
  · rw [show decide (a = b) = false by simp; rintro rfl; exact hl rfl]
    exact Ev.congr (fun k => by unfold marlineref01_Equal.f; rw [if_neg (by omega)]) (Ev.now _)

end Go.Proofs.Ytjmclghjhnbafaa.Sp
