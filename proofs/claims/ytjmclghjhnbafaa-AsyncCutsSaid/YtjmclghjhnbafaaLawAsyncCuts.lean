/- Proved: marline/marlinelaw05.AsyncCuts returns true for every input, and each argument reads behind the call as it read before (the given statement AsyncCutsSaid). No condition. -/
import Derived.Test.YtjmclghjhnbafaaRows
import Derived.Test.YtjmclghjhnbafaaPrintMarlinelaw05AsyncCuts
import Derived.Test.YtjmclghjhnbafaaPureAsyncCuts
import Derived.WalkKit
import Derived.ProofKit
import Derived.OpenShut
import Derived.ShutString
import Derived.ChangeOld
import Derived.Below
import Derived.SizedLaws
import Derived.ChangeArms
import Derived.ChangeSlices
import Derived.Test.YtjmclghjhnbafaaWSized
import Derived.Test.YtjmclghjhnbafaaXRow
namespace Go.Proofs.Ytjmclghjhnbafaa.asyncCuts
open Go.ChangeShapes Go.WideShapes Go.ChangeAt Go.RowKit
open Go.ChangeMaps (open_string shut_string)
set_option linter.unusedVariables false
theorem own : ownKnob Try.prog.godebug = none := by kernel_rfl
open Go.Proofs.YtjmclghjhnbafaaW.PrintWords Go.Proofs.Ytjmclghjhnbafaa.Print
theorem laidOut : laidOutB Try.prog = true := by kernel_rfl
def IsRow (k : IntKind) (w : World) (a : Option Addr) (len cap : Nat) (zs : List Int) : Prop :=
  (a = none ∧ len = 0 ∧ cap = 0 ∧ zs = []) ∨
  ∃ x, a = some x ∧ len ≤ cap ∧ cap ≤ maxLen ∧ zs.length = cap ∧ (∀ i, i < zs.length → w.cell? (x.add i) = some (.int k (zs.getD i 0))) ∧ ∀ n ∈ zs, (Lit.int k n).wf = true
set_option maxRecDepth 100000 in
theorem lifted (os : Os) (started : os.Started) (H : Type) (enc : TypeId × Value → H) :
    ReturnsInHanded {} Try.checked os 3 .any (Rows.asyncCutsSpec.pre6 enc Try.prog Try.f3 Rows.asyncCutsRow.domain false) (Rows.asyncCutsSpec.post enc Try.prog Try.f3 false true false false) := by
  refine returnsInHanded_of_change_sized (C := Try.checked) own started (by kernel_rfl) Try.func3
    (ChangeSpec.witness6 (enc := enc) (C := Try.checked) false ⟨#[], #[.int .u32 0, .int .i64 0, .slice none 0 0], []⟩ 8 (by kernel_rfl) (by kernel_rfl) (by kernel_rfl) (by kernel_rfl)) ?_
  intro W base args ds gs before hval0 hW hcnd hsz0 _
  have hsz : (DataW.weightsEach Try.prog (Try.f3.params.toList ++ Rows.asyncCutsSpec.plain.varTypes Try.prog) (ds ++ gs)).all (· ≤ reachBytes) = true := hsz0
  have hval : ∀ (j : Nat) t v, Try.f3.params[j]? = some t → args[j]? = some v → Value.okWide Try.prog W .any base t v := hval0
  have hW' := hW
  obtain ⟨p, q, hA0, hV, rfl, hfz, hnd⟩ := hW
  have hA : DataW.TrodAll enc Try.prog W 0 (fun _ => true) true Try.f3.params.toList args.toList ds p := hA0
  rw [Try.params3] at hA hval hsz
  obtain ⟨v0, vs0, d0, ds0, p0, q0, hargs, rfl, rfl, h0, r0⟩ := trodAll_cons hA
  obtain ⟨v1, vs1, d1, ds1, p1, q1, rfl, rfl, rfl, h1, r1⟩ := trodAll_cons r0
  obtain ⟨v2, vs2, d2, ds2, p2, q2, rfl, rfl, rfl, h2, r2⟩ := trodAll_cons r1
  obtain ⟨rfl, rfl, rfl⟩ := trodAll_nil r2
  obtain rfl : args = #[v0, v1, v2] := by cases args; simp_all
  obtain ⟨rfl, rfl⟩ := trodVars_none hV
  obtain ⟨a0, rfl, rfl, rfl, w0⟩ := open_int Try.underlying22 (hval 0 22 v0 rfl rfl) h0
  obtain ⟨a1, rfl, rfl, rfl, w1⟩ := open_int Try.underlying3 (hval 1 3 v1 rfl rfl) h1
  have k2 := h2
  have lt2 : ∀ x ∈ p2, x.block < W.heap.size := by obtain ⟨m, hm⟩ := k2; exact DataW.trod_lt m _ _ _ hm
  obtain ⟨fuel2, hf2⟩ := h2
  obtain ⟨z2, hz2, wz2⟩ := ((XRow.opens_slice (d := (Kd.slice 5 (Kd.int .u8))) (wf := fun y_ => ((y_.length ≤ 9223372036854775807 ∧ y_.length * 1 ≤ 140737488351232) ∧ ∀ y0_ ∈ y_, (Lit.int .u8 y0_).wf = true)) Try.underlying23 (by kernel_rfl) (B := 24) (by kernel_rfl) (XRow.opens_slice (d := (Kd.int .u8)) (wf := fun y_ => (Lit.int .u8 y_).wf = true) Try.underlying28 (by kernel_rfl) (B := 1) (by kernel_rfl) (XRow.opens_int Try.underlying5))) : XRow.Opens enc Try.prog W 23 (Kd.slice 28 (Kd.slice 5 (Kd.int .u8))) (fun y_ => ((y_.length ≤ 9223372036854775807 ∧ y_.length * 24 ≤ 140737488351232) ∧ ∀ y0_ ∈ y_, ((y0_.length ≤ 9223372036854775807 ∧ y0_.length * 1 ≤ 140737488351232) ∧ ∀ y1_ ∈ y0_, (Lit.int .u8 y1_).wf = true)))) fuel2 _ _ hf2 (XRow.arg_weights hsz (j := 2) rfl rfl)
  obtain ⟨a2, len2, cap2, rfl⟩ := okWide_slice Try.underlying23 (hval 2 23 v2 rfl rfl)
  obtain ⟨A2, c2, he2, hc2, hr2⟩ := hz2
  simp only [Value.cells] at he2
  obtain ⟨rfl, rfl, rfl⟩ : a2 = A2 ∧ len2 = z2.length ∧ cap2 = c2 := by injection he2 with he _; injection he with h1 h2 h3; exact ⟨h1, h2, h3⟩
  clear hA0 hval0 hsz0 hsz
  refine (Print.marlinelaw05_AsyncCuts.walk Pure.AsyncCuts a0 a1 _ _ z2 W w0 w1 hr2 hc2 wz2).mono fun e W' ⟨he, bel⟩ => ?_
  subst he
  exact ⟨_, rfl, _, _, _, [], _, [], hW', trodAll_mk1 (shut_bool Try.underlying4 _), (trodAll_cons_mk (shut_int Try.underlying22 w0) (trodAll_cons_mk (shut_int Try.underlying3 w1) (trodAll_cons_mk (Below.trod laidOut (by kernel_rfl) (of_decide_eq_true (by kernel_rfl)) k2 bel lt2) trodAll_mk0))), rfl, bel.frame _, fun h => by cases h⟩
theorem over : Rows.asyncCutsRow.holds Try.pinned (OpenSpec.ofChange Rows.asyncCutsSpec) :=
  OpenClaim.holds_of_wide 3 Try.f3 rfl rfl rfl rfl rfl rfl rfl ⟨rfl, rfl, rfl, rfl, rfl⟩ rfl rfl rfl rfl rfl (by kernel_rfl) Try.func3 (by kernel_rfl)
    (of_decide_eq_true (by kernel_rfl)) (by unfold Func.isWrapper; first | (rw [if_pos (by decide +kernel)]; kernel_rfl) | (rw [if_neg (by decide +kernel)]; exact ⟨rfl, rfl⟩))
    (fun os started H enc _ => lifted os started H enc)
theorem proved : Rows.AsyncCutsSaid := over
#print axioms proved
end Go.Proofs.Ytjmclghjhnbafaa.asyncCuts
namespace Go.Proofs.Ytjmclghjhnbafaa
/-- The row, under a short name, for the claim. -/
theorem asyncCuts_holds : Rows.AsyncCutsSaid := asyncCuts.proved
end Go.Proofs.Ytjmclghjhnbafaa
