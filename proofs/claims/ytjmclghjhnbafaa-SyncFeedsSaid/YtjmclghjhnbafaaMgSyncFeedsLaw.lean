/- Proved: marline/marlinelaw07.SyncFeeds returns true for every input, and each argument reads behind the call as it read before (the given statement SyncFeedsSaid). No condition. -/
import Derived.Test.YtjmclghjhnbafaaRows
import Derived.WalkKit
import Derived.ProofKit
import Derived.OpenShut
import Derived.ShutString
import Derived.ChangeOld
import Derived.Below
import Derived.SizedLaws
import Derived.ChangeArms
import Derived.ChangeSlices
import Derived.Test.YtjmclghjhnbafaaWSized
import Derived.Test.YtjmclghjhnbafaaMgSyncFeeds3
import Derived.Test.YtjmclghjhnbafaaMgSyncFeeds4
namespace Go.Proofs.Ytjmclghjhnbafaa.syncFeeds
open Go.ChangeShapes Go.WideShapes Go.ChangeAt Go.RowKit
open Go.ChangeMaps (open_string shut_string)
set_option linter.unusedVariables false
theorem own : ownKnob Try.prog.godebug = none := by kernel_rfl
open Go.Proofs.YtjmclghjhnbafaaW.PrintWords Go.Proofs.Ytjmclghjhnbafaa.Print
theorem laidOut : laidOutB Try.prog = true := by kernel_rfl
def IsRow (k : IntKind) (w : World) (a : Option Addr) (len cap : Nat) (zs : List Int) : Prop :=
  (a = none ∧ len = 0 ∧ cap = 0 ∧ zs = []) ∨
  ∃ x, a = some x ∧ len ≤ cap ∧ cap ≤ maxLen ∧ zs.length = cap ∧ (∀ i, i < zs.length → w.cell? (x.add i) = some (.int k (zs.getD i 0))) ∧ ∀ n ∈ zs, (Lit.int k n).wf = true
set_option maxRecDepth 100000 in
theorem lifted (os : Os) (started : os.Started) (H : Type) (enc : TypeId × Value → H) :
    ReturnsInHanded {} Try.checked os 10 .any (Rows.syncFeedsSpec.pre6 enc Try.prog Try.f10 Rows.syncFeedsRow.domain false) (Rows.syncFeedsSpec.post enc Try.prog Try.f10 false true false false) := by
  refine returnsInHanded_of_change_sized (C := Try.checked) own started (by kernel_rfl) Try.func10
    (ChangeSpec.witness6 (enc := enc) (C := Try.checked) false ⟨#[], #[.int .i64 0, .slice none 0 0], []⟩ 8 (by kernel_rfl) (by kernel_rfl) (by kernel_rfl) (by kernel_rfl)) ?_
  intro W base args ds gs before hval0 hW hcnd hsz0 _
  have hsz : (DataW.weightsEach Try.prog (Try.f10.params.toList ++ Rows.syncFeedsSpec.plain.varTypes Try.prog) (ds ++ gs)).all (· ≤ reachBytes) = true := hsz0
  have hval : ∀ (j : Nat) t v, Try.f10.params[j]? = some t → args[j]? = some v → Value.okWide Try.prog W .any base t v := hval0
  have hW' := hW
  obtain ⟨p, q, hA0, hV, rfl, hfz, hnd⟩ := hW
  have hA : DataW.TrodAll enc Try.prog W 0 (fun _ => true) true Try.f10.params.toList args.toList ds p := hA0
  rw [Try.params10] at hA hval hsz
  obtain ⟨v0, vs0, d0, ds0, p0, q0, hargs, rfl, rfl, h0, r0⟩ := trodAll_cons hA
  obtain ⟨v1, vs1, d1, ds1, p1, q1, rfl, rfl, rfl, h1, r1⟩ := trodAll_cons r0
  obtain ⟨rfl, rfl, rfl⟩ := trodAll_nil r1
  obtain rfl : args = #[v0, v1] := by cases args; simp_all
  obtain ⟨rfl, rfl⟩ := trodVars_none hV
  obtain ⟨a0, rfl, rfl, rfl, w0⟩ := open_int Try.underlying3 (hval 0 3 v0 rfl rfl) h0
  have k1 := h1
  have lt1 : ∀ x ∈ p1, x.block < W.heap.size := by obtain ⟨m, hm⟩ := k1; exact DataW.trod_lt m _ _ _ hm
  obtain ⟨fuel1, hf1⟩ := h1
  obtain ⟨z1, hz1, wz1⟩ := ((XRow.opens_slice (d := (Kd.slice 5 (Kd.int .u8))) (wf := fun y_ => ((y_.length ≤ 9223372036854775807 ∧ y_.length * 1 ≤ 140737488351232) ∧ ∀ y0_ ∈ y_, (Lit.int .u8 y0_).wf = true)) Try.underlying23 (by kernel_rfl) (B := 24) (by kernel_rfl) (XRow.opens_slice (d := (Kd.int .u8)) (wf := fun y_ => (Lit.int .u8 y_).wf = true) Try.underlying28 (by kernel_rfl) (B := 1) (by kernel_rfl) (XRow.opens_int Try.underlying5))) : XRow.Opens enc Try.prog W 23 (Kd.slice 28 (Kd.slice 5 (Kd.int .u8))) (fun y_ => ((y_.length ≤ 9223372036854775807 ∧ y_.length * 24 ≤ 140737488351232) ∧ ∀ y0_ ∈ y_, ((y0_.length ≤ 9223372036854775807 ∧ y0_.length * 1 ≤ 140737488351232) ∧ ∀ y1_ ∈ y0_, (Lit.int .u8 y1_).wf = true)))) fuel1 _ _ hf1 (XRow.arg_weights hsz (j := 1) rfl rfl)
  obtain ⟨a1, len1, cap1, rfl⟩ := okWide_slice Try.underlying23 (hval 1 23 v1 rfl rfl)
  obtain ⟨A1, c1, he1, hc1, hr1⟩ := hz1
  simp only [Value.cells] at he1
  obtain ⟨rfl, rfl, rfl⟩ : a1 = A1 ∧ len1 = z1.length ∧ cap1 = c1 := by injection he1 with he _; injection he with h1 h2 h3; exact ⟨h1, h2, h3⟩
  clear hA0 hval0 hsz0 hsz
  refine (Print.marlinelaw07_SyncFeeds.walk Pure.SyncFeeds a0 _ _ z1 W w0 hr1 hc1 wz1).mono fun e W' ⟨he, bel⟩ => ?_
  subst he
  exact ⟨_, rfl, _, _, _, [], _, [], hW', trodAll_mk1 (shut_bool Try.underlying4 _), (trodAll_cons_mk (shut_int Try.underlying3 w0) (trodAll_cons_mk (Below.trod laidOut (by kernel_rfl) (of_decide_eq_true (by kernel_rfl)) k1 bel lt1) trodAll_mk0)), rfl, bel.frame _, fun h => by cases h⟩
theorem over : Rows.syncFeedsRow.holds Try.pinned (OpenSpec.ofChange Rows.syncFeedsSpec) :=
  OpenClaim.holds_of_wide 10 Try.f10 rfl rfl rfl rfl rfl rfl rfl ⟨rfl, rfl, rfl, rfl, rfl⟩ rfl rfl rfl rfl rfl (by kernel_rfl) Try.func10 (by kernel_rfl)
    (of_decide_eq_true (by kernel_rfl)) (by unfold Func.isWrapper; first | (rw [if_pos (by decide +kernel)]; kernel_rfl) | (rw [if_neg (by decide +kernel)]; exact ⟨rfl, rfl⟩))
    (fun os started H enc _ => lifted os started H enc)
theorem proved : Rows.SyncFeedsSaid := over
#print axioms proved
end Go.Proofs.Ytjmclghjhnbafaa.syncFeeds
namespace Go.Proofs.Ytjmclghjhnbafaa
/-- The row, under a short name, for the claim. -/
theorem syncFeeds_holds : Rows.SyncFeedsSaid := syncFeeds.proved
end Go.Proofs.Ytjmclghjhnbafaa
