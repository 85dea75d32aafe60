/- A text that a program of this claim (wip/x) laid out of the translation: what Go functions come to, and that they come to it. Lean checks it. -/
import Derived.Test.YthkgaciibfjejaaDoorPrint0
namespace Go.Proofs.YthkgaciibfjejaaDoor.Print
open Go.RowKit Go.Proofs.YthkgaciibfjejaaDoorW.PrintWords Go.Proofs.YthkgaciibfjejaaDoorW.PrintLast Go.Proofs.YthkgaciibfjejaaDoorW.PrintMore
attribute [local go_sem] max2_int min2_int max_two min_two max_three min_three max_four min_four   -- for this text's walks alone
set_option linter.unusedVariables false
set_option linter.unusedSimpArgs false

/-! ### tags_Name: function 18 -/
/-- A type's name. -/
def nameOf (x : Int) : ByteArray :=
  if x = 257 then ⟨#[115, 101, 114, 118, 105, 99, 101]⟩ else if x = 258 then ⟨#[110, 97, 109, 101]⟩ else if x = 259 then ⟨#[117, 110, 105, 113, 117, 101]⟩
  else if x = 260 then ⟨#[99, 111, 111, 107, 105, 101]⟩ else if x = 261 then ⟨#[118, 101, 110, 100, 111, 114]⟩ else if x = 272 then ⟨#[114, 101, 108, 97, 121]⟩
  else if x = 513 then ⟨#[110, 111, 45, 115, 101, 114, 118, 105, 99, 101]⟩ else if x = 514 then ⟨#[110, 111, 45, 115, 121, 115, 116, 101, 109]⟩ else if x = 515 then ⟨#[101, 114, 114, 111, 114]⟩ else ⟨#[]⟩
/-- The names lie in memory as they were laid. -/
def GL (w : World) : Prop := ∃ (bm : Nat) (es : Array MapEntry) (clock : Nat), w.cell? ⟨0, 0, none⟩ = some (.map (some bm)) ∧ w.heap[bm]? = some (.map es clock) ∧
  ∀ W : World, W.heap[bm]? = some (.map es clock) → ∀ x : Int, 0 ≤ x → x < 65536 → (Instr.lookup 57 (.map (some bm)) (.int .u16 x) false).run Tryd.prog W = .ok (.string (nameOf x)) W
theorem GL.below {w w1 : World} (h : GL w) (hb : Below w.heap.size w w1) : GL w1 := by
  obtain ⟨bm, es, clock, h1, h2, h3⟩ := h
  exact ⟨bm, es, clock, (hb.cell (World.block_lt_of_cell? w _ h1)).trans h1, blk_below h2 hb, h3⟩
def tags_Name.f (x : Int) : Option ByteArray := if 0 ≤ x ∧ x < 65536 then some (nameOf x) else none
set_option maxHeartbeats 8000000 in
set_option maxRecDepth 100000 in
theorem tags_Name.calls (a0 : Int) (r : ByteArray) (w : World) (h : tags_Name.f a0 = some r) (hGL : GL w := by first | exact hGL | exact hGL.below HB.out | exact hGL.below (by repeat (first | (with_reducible first | exact HB.out | apply below_alloc | apply pw_below_drewN | apply below_drew1) | exact HB.out))) :
    Calls Tryd.prog 18 #[.int .u16 a0] w fun e w' => e = .returned (.string r) ∧ Drawn0 w w' := by
  unfold tags_Name.f at h
  by_cases c : 0 ≤ a0 ∧ a0 < 65536
  · rw [if_pos c] at h
    obtain rfl := Option.some.inj h
    obtain ⟨bm, es, clock, h1, h2, h3⟩ := hGL
    have hrun := h3 w h2 a0 c.1 c.2
    clear h3 h c
    generalize nameOf a0 = s at hrun ⊢
    go_enter Tryd.func18, Tryd.ntmps18
    go_wp2
    go_ret
    exact ⟨rfl, by repeat (first | exact Drawn0.refl _ | apply Drawn0.step)⟩
  · rw [if_neg c] at h
    exact absurd h (by simp)


end Go.Proofs.YthkgaciibfjejaaDoor.Print
