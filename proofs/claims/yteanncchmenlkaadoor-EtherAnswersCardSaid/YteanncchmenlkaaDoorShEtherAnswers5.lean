/- Texts of this claim, several in one, told shortly by a program of this claim (wip/x/shrink.py): what Go functions come to, and plain words on it. -/
import Derived.Laws.BitsAllLaws
import Derived.RowKit
import Derived.Test.YteanncchmenlkaaDoorShEtherAnswers1
namespace Go.Proofs.YteanncchmenlkaaDoor.Pl
open Go.RowKit Go.Proofs.YteanncchmenlkaaDoorW.PrintWords
set_option linter.unusedVariables false
theorem u8_of_wf {x : Int} (h : (Lit.int .u8 x).wf = true) : 0 ≤ x ∧ x < 256 := by
 simp [Lit.wf, IntKind.min, IntKind.max, IntKind.bits, IntKind.signed] at h
 omega
theorem w64 {x : Int} (h0 : -9223372036854775808 ≤ x) (h1 : x ≤ 9223372036854775807) : wrap64 x = x := by unfold wrap64; omega
def Byte (x : Int) : Prop := 0 ≤ x ∧ x < 256
def Bytes (l : List Int) : Prop := ∀ x ∈ l, Byte x
theorem bytes_of_wf {l : List Int} (h : ∀ x ∈ l, (Lit.int .u8 x).wf = true) : Bytes l := fun x hx => u8_of_wf (h x hx)
theorem Bytes.take {l : List Int} (h : Bytes l) (n : Nat) : Bytes (l.take n) := fun x hx => h x (List.mem_of_mem_take hx)
theorem Bytes.drop {l : List Int} (h : Bytes l) (n : Nat) : Bytes (l.drop n) := fun x hx => h x (List.mem_of_mem_drop hx)
theorem Bytes.nil : Bytes [] := fun x hx => by simp at hx
theorem Bytes.head {x : Int} {l : List Int} (h : Bytes (x :: l)) : Byte x := h x (by simp)
theorem Bytes.tail {x : Int} {l : List Int} (h : Bytes (x :: l)) : Bytes l := fun y hy => h y (by simp [hy])
theorem rd_drop {xs : List Int} {i : Nat} {b : Int} {t : List Int} (h : xs.drop i = b :: t) : rd xs (i : Int) = b ∧ xs.drop (i + 1) = t ∧ i < xs.length := by
 have hlt : i < xs.length := by
  rcases Nat.lt_or_ge i xs.length with h1 | h1
  · exact h1
  · rw [List.drop_eq_nil_of_le h1] at h; cases h
 rw [List.drop_eq_getElem_cons hlt] at h
 injection h with h1 h2
 refine ⟨?_, h2, hlt⟩
 unfold rd
 rw [Int.toNat_natCast, List.getD_eq_getElem?_getD, List.getElem?_eq_getElem hlt]
 exact h1
theorem drop_nil_len {xs : List Int} {i : Nat} (h : xs.drop i = []) : xs.length ≤ i := by
 rcases Nat.lt_or_ge i xs.length with h1 | h1
 · rw [List.drop_eq_getElem_cons h1] at h; cases h
 · exact h1
theorem drop_len {xs t : List Int} {i : Nat} (h : xs.drop i = t) : t.length = xs.length - i := by rw [← h, List.length_drop]
end Go.Proofs.YteanncchmenlkaaDoor.Pl
