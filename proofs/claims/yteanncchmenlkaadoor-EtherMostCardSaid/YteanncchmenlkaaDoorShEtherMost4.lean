/- Texts of this claim, several in one, told shortly by a program of this claim (wip/x/shrink.py): what Go functions come to, and plain words on it. -/
import Derived.Laws.BitsAllLaws
import Derived.RowKit
import Derived.Test.YteanncchmenlkaaDoorShEtherMost1
namespace Go.Proofs.YteanncchmenlkaaDoor.Pl
open Go.RowKit Go.Proofs.YteanncchmenlkaaDoorW.PrintWords
set_option linter.unusedVariables false
theorem w64 {x : Int} (h0 : -9223372036854775808 ≤ x) (h1 : x ≤ 9223372036854775807) : wrap64 x = x := by unfold wrap64; omega
theorem wu64 {x : Int} (h0 : 0 ≤ x) (h1 : x < 18446744073709551616) : IntKind.u64.wrap x = x := by rw [IntKind.wrap_u64]; omega
def Byte (x : Int) : Prop := 0 ≤ x ∧ x < 256
def Bytes (l : List Int) : Prop := ∀ x ∈ l, Byte x
theorem Bytes.take {l : List Int} (h : Bytes l) (n : Nat) : Bytes (l.take n) := fun x hx => h x (List.mem_of_mem_take hx)
theorem Bytes.drop {l : List Int} (h : Bytes l) (n : Nat) : Bytes (l.drop n) := fun x hx => h x (List.mem_of_mem_drop hx)
theorem Bytes.append {l m : List Int} (h : Bytes l) (k : Bytes m) : Bytes (l ++ m) := fun x hx => by rcases List.mem_append.1 hx with hx | hx; exact h x hx; exact k x hx
theorem Bytes.cons {x : Int} {l : List Int} (h : Byte x) (k : Bytes l) : Bytes (x :: l) := fun y hy => by rcases List.mem_cons.1 hy with rfl | hy; exact h; exact k y hy
theorem Bytes.nil : Bytes [] := fun x hx => by simp at hx
theorem Bytes.head {x : Int} {l : List Int} (h : Bytes (x :: l)) : Byte x := h x (by simp)
theorem Bytes.tail {x : Int} {l : List Int} (h : Bytes (x :: l)) : Bytes l := fun y hy => h y (by simp [hy])
theorem rd_drop {xs : List Int} {i : Nat} {b : Int} {t : List Int} (h : xs.drop i = b :: t) : rd xs (i : Int) = b ∧ xs.drop (i + 1) = t ∧ i < xs.length := by
 have hlt : i < xs.length := by
  rcases Nat.lt_or_ge i xs.length with h1 | h1
  · exact h1
  · rw [List.drop_eq_nil_of_le h1] at h; cases h
 rw [List.drop_eq_getElem_cons hlt] at h
 injection h with h1 h2
 refine ⟨?_, h2, hlt⟩
 unfold rd
 rw [Int.toNat_natCast, List.getD_eq_getElem?_getD, List.getElem?_eq_getElem hlt]
 exact h1
theorem drop_nil_len {xs : List Int} {i : Nat} (h : xs.drop i = []) : xs.length ≤ i := by
 rcases Nat.lt_or_ge i xs.length with h1 | h1
 · rw [List.drop_eq_getElem_cons h1] at h; cases h
 · exact h1
theorem drop_len {xs t : List Int} {i : Nat} (h : xs.drop i = t) : t.length = xs.length - i := by rw [← h, List.length_drop]
def peak : Int → List Int → Int
 | _, [] => 0
 | n, b :: t => max ((n + 1) * (b % 2)) (peak ((n + 1) * (b % 2)) t)
def run (l : List Int) : Int := peak 0 l
end Go.Proofs.YteanncchmenlkaaDoor.Pl
