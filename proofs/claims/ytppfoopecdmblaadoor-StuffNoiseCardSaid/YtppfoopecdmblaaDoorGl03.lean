/- What a laid table gives the walks: the table of the counting of 0s lies in memory as the program's text lays it. -/
import Derived.Test.YtppfoopecdmblaaDoorRows
import Derived.Test.YtppfoopecdmblaaDoorPrintBitsTrailingZeros32
import Derived.ProofKit
import Derived.LaidMore
import Derived.OpenShut
import Derived.Stop.Joined
namespace Go.Proofs.YtppfoopecdmblaaDoor.Gl
open Go.ChangeShapes Go.WideShapes Go.ChangeAt Go.WideMaps Go.WideElems Go.RowKit Go.Proofs.YtppfoopecdmblaaDoor.Print
set_option maxRecDepth 100000
abbrev laid1 : List (String × DataW Unit) := [("math/bits.deBruijn32tab", Rows.laid_math_bits_deBruijn32tab)]
theorem gTab : Tryd.prog.globalNamed "math/bits.deBruijn32tab" = some 0 := by kernel_rfl
theorem tTab : (Tryd.prog.globals[0]?).map (·.type) = some 41 := by kernel_rfl
theorem door_met (os : Os) (args : Array Value) : laidMetH Tryd.prog laid1 ((World.doorLaid Tryd.prog 400 os).forCall (fun _ _ => 0) ⟨#[], args, []⟩).memory :=
  laidMetH_of_parts3 (fuel := 8) (laidMet_of_run' 8 (by kernel_rfl) (by kernel_rfl)) (by kernel_rfl) (by kernel_rfl)
theorem tab_at (i : Nat) (h : i < 32) : ∃ k : Int, ((match (Rows.laid_math_bits_deBruijn32tab : DataW Unit) with | .agg l => l | _ => [])[i]?) = some (.lit (.int .u8 k)) ∧ bits_TrailingZeros32.tab.getD i 0 = k := by
  have : ∀ i : Fin 32, ((match (Rows.laid_math_bits_deBruijn32tab : DataW Unit) with | .agg l => l | _ => [])[i.1]?) = some (.lit (.int .u8 (bits_TrailingZeros32.tab.getD i.1 0))) := by
    intro i
    match i with
    | ⟨i, h⟩ => 
      repeat (first | omega | (rcases i with _ | i; · rfl))
  exact ⟨_, this ⟨i, h⟩, rfl⟩
theorem of_laid {W : World} (h : laidMetH Tryd.prog laid1 W) : GL W := by
  rw [MakeChecks.laidMetH_plain _ _ _ (by kernel_rfl)] at h
  obtain ⟨ps, ⟨g0, t0, cs0, f0, p0, q0, hg0, ht0, hv0, hd0, _, _⟩, _, _⟩ := h
  obtain rfl := Option.some.inj (gTab.symm.trans hg0)
  obtain rfl := Option.some.inj (tTab.symm.trans ht0)
  obtain ⟨xs, m1, rfl, hx1, hlen, hn, hel⟩ := DataW.trod_array Tryd.underlying41 hd0
  simp only [Prod.mk.injEq] at hx1
  have c5 : Tryd.prog.cellsOf 5 = 1 := by kernel_rfl
  intro i hi
  have h0 := hel i hi
  rw [c5, Nat.mul_one] at h0
  have hix : i < xs.length := by omega
  rw [List.getElem?_eq_getElem hix] at h0
  obtain ⟨k, e1, e2, _⟩ := DataW.trod_int Tryd.underlying5 h0
  obtain ⟨k2, e3, e4⟩ := tab_at i hi
  have e5 := hx1.1
  have e6 : (xs.map (·.1))[i]? = some (.lit (.int .u8 k)) := by
    rw [List.getElem?_map, List.getElem?_eq_getElem hix, e2]
    rfl
  rw [e5] at e3
  simp only [e6, Option.some.injEq, DataW.lit.injEq, Lit.int.injEq, true_and] at e3
  have e7 := World.var?_cell hg0 hv0 i
  rw [e7, e4, ← e3]
  have e8 := congrArg (fun l : List Value => l[0]?) e1
  simp only [List.getElem?_take, List.getElem?_drop] at e8
  simpa using e8
end Go.Proofs.YtppfoopecdmblaaDoor.Gl
