/- A text that a program of this claim (wip/x) laid out of the translation: what Go functions come to, and that they come to it. Lean checks it. -/
import Derived.Test.YtppfoopecdmblaaDoorPrint0
namespace Go.Proofs.YtppfoopecdmblaaDoor.Print
open Go.RowKit Go.Proofs.YtppfoopecdmblaaDoorW.PrintWords Go.Proofs.YtppfoopecdmblaaDoorW.PrintLast Go.Proofs.YtppfoopecdmblaaDoorW.PrintMore
attribute [local go_sem] max2_int min2_int max_two min_two max_three min_three max_four min_four   -- for this text's walks alone
set_option linter.unusedVariables false
set_option linter.unusedSimpArgs false

/-! ### bytes_IndexByte: function 10 -/
def bytes_IndexByte.f (l0 : List Int) (a1 : Int) : Option Int := some (Go.Lib.indexByte (Go.Lib.bytesOf l0) a1.toNat.toUInt8)
theorem bytes_IndexByte.calls (A0 : Option Addr) (c0 : Nat) (l0 : List Int) (a1 : Int) (r : Int) (w : World) (hr0 : Kd.C (Kd.int .u8) w A0 l0.length l0) (hc0 : l0.length ≤ c0) (h : bytes_IndexByte.f l0 a1 = some r) :
    Calls Tryd.prog 10 #[.slice A0 l0.length c0, .int .u8 a1] w fun e w' => e = .returned (.int .i64 r) ∧ Drawn0 w w' := by
  have e0 := Option.some.inj h
  clear h hc0
  rcases A0 with _ | ad
  · obtain rfl : l0 = [] := by
      rcases Nat.eq_zero_or_pos l0.length with h0 | h0
      · exact List.eq_nil_of_length_eq_zero h0
      · obtain ⟨ad, h, _⟩ := hr0.2.2 h0
        cases h
    obtain rfl : -1 = r := e0
    clear hr0
    go_enter Tryd.func10, Tryd.ntmps10
    go_wp2
    rw [run_callFunc_extern Tryd.func17 (by kernel_rfl) (by kernel_rfl) (by kernel_rfl) (e := Extern.BytealgIndexByte.indexByte) (by kernel_rfl), Go.Lib.run_indexByteNil w 0 c0 a1]
    simp only [Result.andThen]
    rw [Oper.upon_value]
    go_wp2
    go_ret
    exact ⟨rfl, Drawn0.refl _⟩
  · have hc : ∀ i, i < l0.length → w.cell? (ad.add i) = some (.int .u8 (l0.getD i 0)) := fun i hi => by
      obtain ⟨ad', e, hx⟩ := Kd.at_int hr0 (i : Int) (by omega) (by omega)
      cases e
      simpa [rd] using hx
    have hrun := Go.Lib.run_indexByteAt (P := Tryd.prog) w ad l0.length c0 l0 rfl hc a1
    rw [e0] at hrun
    have HRUN := Aside0.mk hrun
    clear hrun hc hr0 e0
    go_enter Tryd.func10, Tryd.ntmps10
    go_wp2
    rw [run_callFunc_extern Tryd.func17 (by kernel_rfl) (by kernel_rfl) (by kernel_rfl) (e := Extern.BytealgIndexByte.indexByte) (by kernel_rfl), HRUN.out]
    simp only [Result.andThen]
    rw [Oper.upon_value]
    go_wp2
    go_ret
    exact ⟨rfl, Drawn0.refl _⟩


end Go.Proofs.YtppfoopecdmblaaDoor.Print
