/- The statement AccmWithin, in plain words: true of any three maps. No condition. -/
import Derived.Test.YtofanmciehbabaaDoorS03
import Derived.Test.YtofanmciehbabaaDoorPrintMarlinelaw03AccmWithin
namespace Go.Proofs.YtofanmciehbabaaDoor.Sp
open Go.RowKit Go.Proofs.YtofanmciehbabaaDoor.Print Go.Proofs.YtofanmciehbabaaDoorW.PrintWords Go.Proofs.YtofanmciehbabaaDoorW.PrintLast Go.Proofs.YtofanmciehbabaaDoor.Pl
set_option linter.unusedVariables false
theorem u32_of_wf {a : Int} (h : (Lit.int .u32 a).wf = true) : U32 a := by
  have h1 : IntKind.u32.min ≤ a ∧ a ≤ IntKind.u32.max := by simpa [Lit.wf] using h
  have h2 : IntKind.u32.min = 0 := by decide
  have h3 : IntKind.u32.max = 4294967295 := by decide
  rw [h2, h3] at h1
  exact ⟨by omega, by omega⟩
theorem AccmWithin : marlinelaw03_AccmWithin.Pure := by
  intro a b c ha hb hc
  have A := u32_of_wf ha
  have B := u32_of_wf hb
  have C := u32_of_wf hc
  have nA := A.nat
  have nB := B.nat
  have nC := C.nat
  have ia : Go.bits .and .u32 a b = ((a.toNat &&& b.toNat : Nat) : Int) := u32_and a b A.1 A.2 B.1 B.2
  have io : Go.bits .or .u32 a b = ((a.toNat ||| b.toNat : Nat) : Int) := u32_or a b A.1 A.2 B.1 B.2
  have la : a.toNat &&& b.toNat < 4294967296 := Nat.lt_of_le_of_lt Nat.and_le_left nA
  have lo : a.toNat ||| b.toNat < 4294967296 := Nat.or_lt_two_pow (n := 32) nA nB
  have refl : ∀ {x : Nat}, x < 4294967296 → win x x = true := fun h => (win_iff h h).2 fun i hi => hi
  refine Ev.rounds ?_
  unfold marlinelaw03_AccmWithin.f
  refine Ev.bind Speaks03 (Ev.pos rfl ?_)
  rw [WithinA A A, WithinA A (b := 4294967295) ⟨by omega, by omega⟩, WithinA (a := 0) ⟨by omega, by omega⟩ A, ia, io, WithinA (a := ((a.toNat &&& b.toNat : Nat) : Int)) ⟨by omega, by omega⟩ A, WithinA A (b := ((a.toNat ||| b.toNat : Nat) : Int)) ⟨by omega, by omega⟩]
  simp only [Option.bind_some, Int.toNat_natCast]
  refine Ev.pos (refl nA) (Ev.pos ((win_iff nA (by decide)).2 fun i hi => ?_) (Ev.pos ((win_iff (by decide) nA).2 fun i hi => ?_) (Ev.pos ((win_iff la nA).2 fun i hi => ?_) ?_)))
  · by_cases h : i < 32
    · have := tb_not (b := 0) (i := i) (by omega)
      rw [Nat.sub_zero, Nat.zero_testBit] at this
      rw [show ((4294967295 : Int)).toNat = 4294967295 from rfl, this]
      simp [h]
    · rw [tb_big nA (by omega)] at hi; cases hi
  · rw [show ((0 : Int)).toNat = 0 from rfl, Nat.zero_testBit] at hi; cases hi
  · rw [Nat.testBit_and] at hi
    exact (Bool.and_eq_true _ _ ▸ hi).1
  rw [(win_iff nA lo).2 fun i hi => by rw [Nat.testBit_or, hi]; rfl]
  have last : Ev (fun k => marlinelaw03_AccmWithin.j1 k a b c false) true := by
    refine Ev.step (fun k => by simp only [marlinelaw03_AccmWithin.j1]; rw [if_neg (by decide), WithinA A B, WithinA B C, WithinA A C]) ?_
    by_cases h1 : win a.toNat b.toNat = true
    · refine Ev.name (Ev.pos h1 ?_)
      by_cases h2 : win b.toNat c.toNat = true
      · exact Ev.name (Ev.pos h2 (Ev.name (Ev.end_ ((win_iff nA nC).2 fun i hi => (win_iff nB nC).1 h2 i ((win_iff nA nB).1 h1 i hi)))))
      · exact Ev.name (Ev.neg h2 (Ev.now _))
    · exact Ev.name (Ev.neg h1 (Ev.now _))
  refine Ev.step (fun k => by simp only [marlinelaw03_AccmWithin.j0]; rw [if_neg (by decide), WithinA A B, WithinA B A]) ?_
  by_cases h1 : win a.toNat b.toNat = true
  · refine Ev.name (Ev.pos h1 (Ev.name ?_))
    have e : (win b.toNat a.toNat != (a == b)) = false := by
      rw [bne_eq_false_iff_eq, Bool.eq_iff_iff, beq_iff_eq]
      constructor
      · intro h2
        have : a.toNat = b.toNat := Nat.eq_of_testBit_eq fun i => by
          rw [Bool.eq_iff_iff]
          exact ⟨(win_iff nA nB).1 h1 i, (win_iff nB nA).1 h2 i⟩
        have := A.1
        have := B.1
        omega
      · intro h2
        subst h2
        exact refl nA
    rw [e]
    exact last
  · exact Ev.name (Ev.neg h1 last)
end Go.Proofs.YtofanmciehbabaaDoor.Sp
