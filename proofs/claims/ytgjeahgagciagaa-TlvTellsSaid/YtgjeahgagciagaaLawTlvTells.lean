/- Proved: marline/marlinelaw12.TlvTells returns true for every input, and each argument reads behind the call as it read before (the given statement TlvTellsSaid). No condition. -/
import Derived.Test.YtgjeahgagciagaaRows
import Derived.Test.YtgjeahgagciagaaPrintMarlinelaw12TlvTells
import Derived.Test.YtgjeahgagciagaaPureTlvTells
import Derived.WalkKit
import Derived.ProofKit
import Derived.OpenShut
import Derived.ShutString
import Derived.ChangeOld
import Derived.Below
import Derived.SizedLaws
import Derived.ChangeArms
import Derived.ChangeSlices
import Derived.Test.YtgjeahgagciagaaWSized
namespace Go.Proofs.Ytgjeahgagciagaa.tlvTells
open Go.ChangeShapes Go.WideShapes Go.ChangeAt Go.RowKit
open Go.ChangeMaps (open_string shut_string)
set_option linter.unusedVariables false
theorem own : ownKnob Try.prog.godebug = none := by kernel_rfl
open Go.Proofs.YtgjeahgagciagaaW.PrintWords Go.Proofs.Ytgjeahgagciagaa.Print
set_option maxRecDepth 100000 in
theorem opens_56 {H : Type} {enc : TypeId × Value → H} {w : World} : XRow.Opens enc Try.prog w 56 k56 (fun x_ => ((Lit.int .u8 x_.f0).wf = true ∧ ((x_.f1.length ≤ 9223372036854775807 ∧ x_.f1.length * 1 ≤ 140737488351232) ∧ ∀ y0_ ∈ x_.f1, (Lit.int .u8 y0_).wf = true))) := by
  intro fuel cs x hx hz
  obtain ⟨xs, n, _, rfl, hl, hlen, hf⟩ := DataW.trod_struct Try.underlying56 hx
  replace hl : cs.length = 2 := hl.trans (by kernel_rfl)
  replace hlen : xs.length = 2 := hlen
  obtain ⟨a0, k0_, w0⟩ := ((XRow.opens_int Try.underlying5) : XRow.Opens enc Try.prog w 5 (Kd.int .u8) (fun y_ => (Lit.int .u8 y_).wf = true)) n _ _ ((hf 0 _ rfl).trans (List.getElem?_eq_getElem (show 0 < xs.length by omega))) (XRow.field_weights Try.underlying56 hz (j := 0) rfl (List.getElem?_eq_getElem (show 0 < xs.length by omega)))
  replace k0_ : (Kd.int .u8).K w a0 ((cs.drop 0).take (Try.prog.cellsOf 5)) := k0_
  rw [show Try.prog.cellsOf 5 = 1 from by kernel_rfl] at k0_
  obtain ⟨a1, k1_, w1⟩ := ((XRow.opens_slice (d := (Kd.int .u8)) (wf := fun y_ => (Lit.int .u8 y_).wf = true) Try.underlying23 (by kernel_rfl) (B := 1) (by kernel_rfl) (XRow.opens_int Try.underlying5)) : XRow.Opens enc Try.prog w 23 (Kd.slice 5 (Kd.int .u8)) (fun y_ => ((y_.length ≤ 9223372036854775807 ∧ y_.length * 1 ≤ 140737488351232) ∧ ∀ y0_ ∈ y_, (Lit.int .u8 y0_).wf = true))) n _ _ ((hf 1 _ rfl).trans (List.getElem?_eq_getElem (show 1 < xs.length by omega))) (XRow.field_weights Try.underlying56 hz (j := 1) rfl (List.getElem?_eq_getElem (show 1 < xs.length by omega)))
  replace k1_ : (Kd.slice 5 (Kd.int .u8)).K w a1 ((cs.drop 1).take (Try.prog.cellsOf 23)) := k1_
  rw [show Try.prog.cellsOf 23 = 1 from by kernel_rfl] at k1_
  rw [← XRow.seg_last (cs := cs) (o := 1) (s := 1) (by omega)] at k1_
  exact ⟨⟨a0, a1⟩, (show (Kd.pair (Kd.int .u8) (Kd.slice 5 (Kd.int .u8))).K w (a0, a1) cs from ⟨_, _, XRow.seg cs 0 1, k0_, k1_⟩), ⟨w0, w1⟩⟩
theorem laidOut : laidOutB Try.prog = true := by kernel_rfl
def IsRow (k : IntKind) (w : World) (a : Option Addr) (len cap : Nat) (zs : List Int) : Prop :=
  (a = none ∧ len = 0 ∧ cap = 0 ∧ zs = []) ∨
  ∃ x, a = some x ∧ len ≤ cap ∧ cap ≤ maxLen ∧ zs.length = cap ∧ (∀ i, i < zs.length → w.cell? (x.add i) = some (.int k (zs.getD i 0))) ∧ ∀ n ∈ zs, (Lit.int k n).wf = true
set_option maxRecDepth 100000 in
theorem lifted (os : Os) (started : os.Started) (H : Type) (enc : TypeId × Value → H) :
    ReturnsInHanded {} Try.checked os 6 .any (Rows.tlvTellsSpec.pre6 enc Try.prog Try.f6 Rows.tlvTellsRow.domain false) (Rows.tlvTellsSpec.post enc Try.prog Try.f6 false true false false) := by
  refine returnsInHanded_of_change_sized (C := Try.checked) own started (by kernel_rfl) Try.func6
    (ChangeSpec.witness6 (enc := enc) (C := Try.checked) false ⟨#[], #[.slice none 0 0, .slice none 0 0, .slice none 0 0, .int .u8 0], []⟩ 8 (by kernel_rfl) (by kernel_rfl) (by kernel_rfl) (by kernel_rfl)) ?_
  intro W base args ds gs before hval0 hW hcnd hsz0 _
  have hsz : (DataW.weightsEach Try.prog (Try.f6.params.toList ++ Rows.tlvTellsSpec.plain.varTypes Try.prog) (ds ++ gs)).all (· ≤ reachBytes) = true := hsz0
  have hval : ∀ (j : Nat) t v, Try.f6.params[j]? = some t → args[j]? = some v → Value.okWide Try.prog W .any base t v := hval0
  have hW' := hW
  obtain ⟨p, q, hA0, hV, rfl, hfz, hnd⟩ := hW
  have hA : DataW.TrodAll enc Try.prog W 0 (fun _ => true) true Try.f6.params.toList args.toList ds p := hA0
  rw [Try.params6] at hA hval hsz
  obtain ⟨v0, vs0, d0, ds0, p0, q0, hargs, rfl, rfl, h0, r0⟩ := trodAll_cons hA
  obtain ⟨v1, vs1, d1, ds1, p1, q1, rfl, rfl, rfl, h1, r1⟩ := trodAll_cons r0
  obtain ⟨v2, vs2, d2, ds2, p2, q2, rfl, rfl, rfl, h2, r2⟩ := trodAll_cons r1
  obtain ⟨v3, vs3, d3, ds3, p3, q3, rfl, rfl, rfl, h3, r3⟩ := trodAll_cons r2
  obtain ⟨rfl, rfl, rfl⟩ := trodAll_nil r3
  obtain rfl : args = #[v0, v1, v2, v3] := by cases args; simp_all
  obtain ⟨rfl, rfl⟩ := trodVars_none hV
  have k0 := h0
  have lt0 : ∀ x ∈ p0, x.block < W.heap.size := by obtain ⟨m, hm⟩ := k0; exact DataW.trod_lt m _ _ _ hm
  obtain ⟨fuel0, hf0⟩ := h0
  obtain ⟨z0, hz0, wz0⟩ := ((XRow.opens_slice (d := k56) (wf := fun y_ => ((Lit.int .u8 y_.f0).wf = true ∧ ((y_.f1.length ≤ 9223372036854775807 ∧ y_.f1.length * 1 ≤ 140737488351232) ∧ ∀ y0_ ∈ y_.f1, (Lit.int .u8 y0_).wf = true))) Try.underlying22 (by kernel_rfl) (B := 32) (by kernel_rfl) opens_56) : XRow.Opens enc Try.prog W 22 (Kd.slice 56 k56) (fun y_ => ((y_.length ≤ 9223372036854775807 ∧ y_.length * 32 ≤ 140737488351232) ∧ ∀ y0_ ∈ y_, ((Lit.int .u8 y0_.f0).wf = true ∧ ((y0_.f1.length ≤ 9223372036854775807 ∧ y0_.f1.length * 1 ≤ 140737488351232) ∧ ∀ y1_ ∈ y0_.f1, (Lit.int .u8 y1_).wf = true))))) fuel0 _ _ hf0 (XRow.arg_weights hsz (j := 0) rfl rfl)
  obtain ⟨a0, len0, cap0, rfl⟩ := okWide_slice Try.underlying22 (hval 0 22 v0 rfl rfl)
  obtain ⟨A0, c0, he0, hc0, hr0⟩ := hz0
  simp only [Value.cells] at he0
  obtain ⟨rfl, rfl, rfl⟩ : a0 = A0 ∧ len0 = z0.length ∧ cap0 = c0 := by injection he0 with he _; injection he with h1 h2 h3; exact ⟨h1, h2, h3⟩
  have k1 := h1
  have lt1 : ∀ x ∈ p1, x.block < W.heap.size := by obtain ⟨m, hm⟩ := k1; exact DataW.trod_lt m _ _ _ hm
  obtain ⟨fuel1, hf1⟩ := h1
  obtain ⟨z1, hz1, wz1⟩ := ((XRow.opens_slice (d := k56) (wf := fun y_ => ((Lit.int .u8 y_.f0).wf = true ∧ ((y_.f1.length ≤ 9223372036854775807 ∧ y_.f1.length * 1 ≤ 140737488351232) ∧ ∀ y0_ ∈ y_.f1, (Lit.int .u8 y0_).wf = true))) Try.underlying22 (by kernel_rfl) (B := 32) (by kernel_rfl) opens_56) : XRow.Opens enc Try.prog W 22 (Kd.slice 56 k56) (fun y_ => ((y_.length ≤ 9223372036854775807 ∧ y_.length * 32 ≤ 140737488351232) ∧ ∀ y0_ ∈ y_, ((Lit.int .u8 y0_.f0).wf = true ∧ ((y0_.f1.length ≤ 9223372036854775807 ∧ y0_.f1.length * 1 ≤ 140737488351232) ∧ ∀ y1_ ∈ y0_.f1, (Lit.int .u8 y1_).wf = true))))) fuel1 _ _ hf1 (XRow.arg_weights hsz (j := 1) rfl rfl)
  obtain ⟨a1, len1, cap1, rfl⟩ := okWide_slice Try.underlying22 (hval 1 22 v1 rfl rfl)
  obtain ⟨A1, c1, he1, hc1, hr1⟩ := hz1
  simp only [Value.cells] at he1
  obtain ⟨rfl, rfl, rfl⟩ : a1 = A1 ∧ len1 = z1.length ∧ cap1 = c1 := by injection he1 with he _; injection he with h1 h2 h3; exact ⟨h1, h2, h3⟩
  obtain ⟨a2, len2, cap2, rfl⟩ := okWide_slice Try.underlying23 (hval 2 23 v2 rfl rfl)
  have k2 := h2
  have lt2 : ∀ x ∈ p2, x.block < W.heap.size := by obtain ⟨m, hm⟩ := k2; exact DataW.trod_lt m _ _ _ hm
  obtain ⟨fuel2, hf2⟩ := h2
  have y2 : len2 * 1 ≤ 140737488351232 := Go.Proofs.YtgjeahgagciagaaW.PrintWords.sized_ints hsz (j := 2) (t := 23) rfl rfl Try.underlying23 Try.underlying5 (by kernel_rfl) (by kernel_rfl) ⟨fuel2, hf2⟩
  obtain ⟨z2, hz2, wz2⟩ := ((XRow.opens_slice (d := (Kd.int .u8)) (wf := fun y_ => (Lit.int .u8 y_).wf = true) Try.underlying23 (by kernel_rfl) (B := 1) (by kernel_rfl) (XRow.opens_int Try.underlying5)) : XRow.Opens enc Try.prog W 23 (Kd.slice 5 (Kd.int .u8)) (fun y_ => ((y_.length ≤ 9223372036854775807 ∧ y_.length * 1 ≤ 140737488351232) ∧ ∀ y0_ ∈ y_, (Lit.int .u8 y0_).wf = true))) fuel2 _ _ hf2 (XRow.arg_weights hsz (j := 2) rfl rfl)
  obtain ⟨A2, c2, he2, hc2, hr2⟩ := hz2
  simp only [Value.cells] at he2
  obtain ⟨rfl, rfl, rfl⟩ : a2 = A2 ∧ len2 = z2.length ∧ cap2 = c2 := by injection he2 with he _; injection he with h1 h2 h3; exact ⟨h1, h2, h3⟩
  obtain ⟨a3, rfl, rfl, rfl, w3⟩ := open_int Try.underlying5 (hval 3 5 v3 rfl rfl) h3
  clear hA0 hval0 hsz0 hsz
  refine (Print.marlinelaw12_TlvTells.walk Pure.TlvTells _ _ z0 _ _ z1 _ _ z2 a3 W hr0 hc0 wz0 hr1 hc1 wz1 hr2 hc2 (by simpa [maxLen] using wz2.1.1) (by simpa using wz2.1.2) wz2.2 w3).mono fun e W' ⟨he, bel⟩ => ?_
  subst he
  exact ⟨_, rfl, _, _, _, [], _, [], hW', trodAll_mk1 (shut_bool Try.underlying4 _), (trodAll_cons_mk (Below.trod laidOut (by kernel_rfl) (of_decide_eq_true (by kernel_rfl)) k0 bel lt0) (trodAll_cons_mk (Below.trod laidOut (by kernel_rfl) (of_decide_eq_true (by kernel_rfl)) k1 bel lt1) (trodAll_cons_mk (Below.trod laidOut (by kernel_rfl) (of_decide_eq_true (by kernel_rfl)) k2 bel lt2) (trodAll_cons_mk (shut_int Try.underlying5 w3) trodAll_mk0)))), rfl, bel.frame _, fun h => by cases h⟩
theorem over : Rows.tlvTellsRow.holds Try.pinned (OpenSpec.ofChange Rows.tlvTellsSpec) :=
  OpenClaim.holds_of_wide 6 Try.f6 rfl rfl rfl rfl rfl rfl rfl ⟨rfl, rfl, rfl, rfl, rfl⟩ rfl rfl rfl rfl rfl (by kernel_rfl) Try.func6 (by kernel_rfl)
    (of_decide_eq_true (by kernel_rfl)) (by unfold Func.isWrapper; first | (rw [if_pos (by decide +kernel)]; kernel_rfl) | (rw [if_neg (by decide +kernel)]; exact ⟨rfl, rfl⟩))
    (fun os started H enc _ => lifted os started H enc)
theorem proved : Rows.TlvTellsSaid := over
#print axioms proved
end Go.Proofs.Ytgjeahgagciagaa.tlvTells
namespace Go.Proofs.Ytgjeahgagciagaa
/-- The row, under a short name, for the claim. -/
theorem tlvTells_holds : Rows.TlvTellsSaid := tlvTells.proved
end Go.Proofs.Ytgjeahgagciagaa
