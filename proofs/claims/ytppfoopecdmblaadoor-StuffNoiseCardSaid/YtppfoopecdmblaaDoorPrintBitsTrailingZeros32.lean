/- A text that a program of this claim (wip/x) laid out of the translation: what Go functions come to, and that they come to it. Lean checks it. -/
import Derived.Test.YtppfoopecdmblaaDoorPrint0
namespace Go.Proofs.YtppfoopecdmblaaDoor.Print
open Go.RowKit Go.Proofs.YtppfoopecdmblaaDoorW.PrintWords Go.Proofs.YtppfoopecdmblaaDoorW.PrintLast Go.Proofs.YtppfoopecdmblaaDoorW.PrintMore
attribute [local go_sem] max2_int min2_int max_two min_two max_three min_three max_four min_four   -- for this text's walks alone
set_option linter.unusedVariables false
set_option linter.unusedSimpArgs false

/-! ### bits_TrailingZeros32: function 9 -/
/-- The table, as the program's text lays it. -/
def bits_TrailingZeros32.tab : List Int := [0, 1, 28, 2, 29, 14, 24, 3, 30, 22, 20, 15, 25, 17, 4, 8, 31, 27, 13, 23, 21, 19, 16, 7, 26, 12, 18, 6, 11, 5, 10, 9]
/-- The table lies in memory as it was laid. -/
def GL (w : World) : Prop := ∀ i : Nat, i < 32 → w.cell? ⟨0, i, none⟩ = some (.int .u8 (bits_TrailingZeros32.tab.getD i 0))
theorem GL.lt {w : World} (h : GL w) : 0 < w.heap.size := World.block_lt_of_cell? w _ (h 0 (by decide))
theorem GL.below {w w1 : World} (h : GL w) (hb : Below w.heap.size w w1) : GL w1 := fun i hi => (hb.cell (World.block_lt_of_cell? w _ (h i hi))).trans (h i hi)
def bits_TrailingZeros32.ix (x : Int) : Int := ((Go.bits .and .u32 x ((-x) % 4294967296)) * 125613361) % 4294967296 / 134217728
def bits_TrailingZeros32.f (x : Int) : Option Int := if x = 0 then some 32 else some (bits_TrailingZeros32.tab.getD (bits_TrailingZeros32.ix x).toNat 0)
theorem bits_TrailingZeros32.ix_lt (x : Int) : 0 ≤ bits_TrailingZeros32.ix x ∧ bits_TrailingZeros32.ix x < 32 := by
  unfold bits_TrailingZeros32.ix
  omega
set_option maxHeartbeats 8000000 in
set_option maxRecDepth 100000 in
theorem bits_TrailingZeros32.calls (a0 : Int) (r : Int) (w : World) (h : bits_TrailingZeros32.f a0 = some r) (hGL : GL w := by first | exact hGL | exact hGL.below HB.out) :
    Calls Tryd.prog 9 #[.int .u32 a0] w fun e w' => e = .returned (.int .i64 r) ∧ Drawn0 w w' := by
  unfold bits_TrailingZeros32.f at h
  obtain ⟨q0, q1⟩ := bits_TrailingZeros32.ix_lt a0
  by_cases c : a0 = 0
  · subst c
    rw [if_pos rfl] at h
    obtain rfl := Option.some.inj h
    go_enter Tryd.func9, Tryd.ntmps9
    go_wp2
    go_ret
    exact ⟨rfl, by repeat (first | exact Drawn0.refl _ | apply Drawn0.step)⟩
  · rw [if_neg c] at h
    obtain rfl := Option.some.inj h
    have cb : decide (a0 = 0) = false := decide_eq_false c
    have cb1 : (a0 == 0) = false := beq_eq_false_iff_ne.mpr c
    have tw : wrap64 (bits_TrailingZeros32.tab.getD (bits_TrailingZeros32.ix a0).toNat 0) = bits_TrailingZeros32.tab.getD (bits_TrailingZeros32.ix a0).toNat 0 := by
      obtain ⟨i, hi⟩ : ∃ i : Nat, (bits_TrailingZeros32.ix a0).toNat = i := ⟨_, rfl⟩
      have hi2 : i < 32 := by omega
      rw [hi]
      have : ∀ i : Fin 32, 0 ≤ bits_TrailingZeros32.tab.getD i.1 0 ∧ bits_TrailingZeros32.tab.getD i.1 0 < 256 := by decide
      obtain ⟨z0, z1⟩ := this ⟨i, hi2⟩
      simp only at z0 z1
      unfold wrap64
      omega
    have hx := hGL (bits_TrailingZeros32.ix a0).toNat (by omega)
    unfold bits_TrailingZeros32.ix at q0 q1 hx tw ⊢
    simp only [List.getD_eq_getElem?_getD] at tw
    go_enter Tryd.func9, Tryd.ntmps9
    go_wp2
    go_ret
    exact ⟨by simp [tw], by repeat (first | exact Drawn0.refl _ | apply Drawn0.step)⟩


end Go.Proofs.YtppfoopecdmblaaDoor.Print
