/- Proved: marline/marlinelaw15.LcpFields returns true for every input that finds its tables as the program's text lays them, and each argument reads behind the call as it read before; and the card that ties the tables to the text (the given statement LcpFieldsCardSaid). No condition beyond the card's own. The row is proved in either form: with the premises on the clock or without them; no walk looks at the clock. -/
import Derived.Test.YtgjdjjofhmhimaaDoorRows
import Derived.ProofKit
import Derived.LaidMore
import Derived.OpenShut
import Derived.Stop.Joined
import Derived.Clock
import Derived.Test.YtgjdjjofhmhimaaDoorCards
import Derived.Test.YtgjdjjofhmhimaaDoorTie
import Derived.SevenTiedAt
import Derived.WalkKit
import Derived.ShutString
import Derived.ChangeOld
import Derived.Below
import Derived.SizedLaws
import Derived.ChangeArms
import Derived.ChangeSlices
import Derived.Test.YtgjdjjofhmhimaaDoorShLcpFields3
import Derived.Test.YtgjdjjofhmhimaaDoorShLcpFields4
import Derived.Test.YtgjdjjofhmhimaaDoorShLcpFields5
namespace Go.Proofs.YtgjdjjofhmhimaaDoor.Gl
open Go.ChangeShapes Go.WideShapes Go.ChangeAt Go.WideMaps Go.WideElems Go.RowKit Go.Proofs.YtgjdjjofhmhimaaDoor.Print
set_option maxRecDepth 100000
set_option linter.unusedVariables false
abbrev laid1 : List (String × DataW Unit) := [("marline/opts.all", Rows.laid_marline_opts_all)]
theorem door_met (os : Os) (args : Array Value) : laidMetH Tryd.prog laid1 ((World.doorLaid Tryd.prog 400 os).forCall (fun _ _ => 0) ⟨#[], args, []⟩).memory :=
 laidMetH_of_parts3 (fuel := 8) (laidMet_of_run' 8 (by kernel_rfl) (by kernel_rfl)) (by kernel_rfl) (by kernel_rfl)
theorem of_laid {W : World} (h : laidMetH Tryd.prog laid1 W) : GL W := trivial
end Go.Proofs.YtgjdjjofhmhimaaDoor.Gl
namespace Go.Proofs.YtgjdjjofhmhimaaDoor.lcpFields
open Go.ChangeShapes Go.WideShapes Go.ChangeAt Go.RowKit
open Go.ChangeMaps (open_string shut_string)
set_option linter.unusedVariables false
theorem own : ownKnob Tryd.prog.godebug = none := by kernel_rfl
open Go.Proofs.YtgjdjjofhmhimaaDoorW.PrintWords Go.Proofs.YtgjdjjofhmhimaaDoor.Print
set_option maxRecDepth 100000 in
theorem opens_34 {H : Type} {enc : TypeId × Value → H} {w : World} : XRow.Opens enc Tryd.prog w 34 k34 (fun x_ => ((Lit.int .u8 x_.f0).wf = true ∧ ((x_.f1.length ≤ 9223372036854775807 ∧ x_.f1.length * 1 ≤ 140737488351232) ∧ ∀ y0_ ∈ x_.f1, (Lit.int .u8 y0_).wf = true))) := by
 intro fuel cs x hx hz
 obtain ⟨xs, n, _, rfl, hl, hlen, hf⟩ := DataW.trod_struct Tryd.underlying34 hx
 replace hl : cs.length = 2 := hl.trans (by kernel_rfl)
 replace hlen : xs.length = 2 := hlen
 obtain ⟨a0, k0_, w0⟩ := ((XRow.opens_int Tryd.underlying5) : XRow.Opens enc Tryd.prog w 5 (Kd.int .u8) (fun y_ => (Lit.int .u8 y_).wf = true)) n _ _ ((hf 0 _ rfl).trans (List.getElem?_eq_getElem (show 0 < xs.length by omega))) (XRow.field_weights Tryd.underlying34 hz (j := 0) rfl (List.getElem?_eq_getElem (show 0 < xs.length by omega)))
 replace k0_ : (Kd.int .u8).K w a0 ((cs.drop 0).take (Tryd.prog.cellsOf 5)) := k0_
 rw [show Tryd.prog.cellsOf 5 = 1 from by kernel_rfl] at k0_
 obtain ⟨a1, k1_, w1⟩ := ((XRow.opens_slice (d := (Kd.int .u8)) (wf := fun y_ => (Lit.int .u8 y_).wf = true) Tryd.underlying25 (by kernel_rfl) (B := 1) (by kernel_rfl) (XRow.opens_int Tryd.underlying5)) : XRow.Opens enc Tryd.prog w 25 (Kd.slice 5 (Kd.int .u8)) (fun y_ => ((y_.length ≤ 9223372036854775807 ∧ y_.length * 1 ≤ 140737488351232) ∧ ∀ y0_ ∈ y_, (Lit.int .u8 y0_).wf = true))) n _ _ ((hf 1 _ rfl).trans (List.getElem?_eq_getElem (show 1 < xs.length by omega))) (XRow.field_weights Tryd.underlying34 hz (j := 1) rfl (List.getElem?_eq_getElem (show 1 < xs.length by omega)))
 replace k1_ : (Kd.slice 5 (Kd.int .u8)).K w a1 ((cs.drop 1).take (Tryd.prog.cellsOf 25)) := k1_
 rw [show Tryd.prog.cellsOf 25 = 1 from by kernel_rfl] at k1_
 rw [← XRow.seg_last (cs := cs) (o := 1) (s := 1) (by omega)] at k1_
 exact ⟨⟨a0, a1⟩, (show (Kd.pair (Kd.int .u8) (Kd.slice 5 (Kd.int .u8))).K w (a0, a1) cs from ⟨_, _, XRow.seg cs 0 1, k0_, k1_⟩), ⟨w0, w1⟩⟩
set_option maxRecDepth 100000 in
theorem opens_28 {H : Type} {enc : TypeId × Value → H} {w : World} : XRow.Opens enc Tryd.prog w 28 k28 (fun x_ => ((Lit.int .u16 x_.f0).wf = true ∧ (Lit.int .u8 x_.f1).wf = true ∧ (Lit.int .u8 x_.f2).wf = true ∧ ((x_.f3.length ≤ 9223372036854775807 ∧ x_.f3.length * 32 ≤ 140737488351232) ∧ ∀ y0_ ∈ x_.f3, ((Lit.int .u8 y0_.f0).wf = true ∧ ((y0_.f1.length ≤ 9223372036854775807 ∧ y0_.f1.length * 1 ≤ 140737488351232) ∧ ∀ y1_ ∈ y0_.f1, (Lit.int .u8 y1_).wf = true))) ∧ (Lit.int .u16 x_.f4).wf = true ∧ (Lit.int .u32 x_.f5).wf = true ∧ ((x_.f6.length ≤ 9223372036854775807 ∧ x_.f6.length * 1 ≤ 140737488351232) ∧ ∀ y0_ ∈ x_.f6, (Lit.int .u8 y0_).wf = true) ∧ ((x_.f7.length ≤ 9223372036854775807 ∧ x_.f7.length * 1 ≤ 140737488351232) ∧ ∀ y0_ ∈ x_.f7, (Lit.int .u8 y0_).wf = true) ∧ ((x_.f8.length ≤ 9223372036854775807 ∧ x_.f8.length * 1 ≤ 140737488351232) ∧ ∀ y0_ ∈ x_.f8, (Lit.int .u8 y0_).wf = true) ∧ ((x_.f9.length ≤ 9223372036854775807 ∧ x_.f9.length * 4 ≤ 140737488351232) ∧ ∀ y0_ ∈ x_.f9, (Lit.int .u32 y0_).wf = true))) := by
 intro fuel cs x hx hz
 obtain ⟨xs, n, _, rfl, hl, hlen, hf⟩ := DataW.trod_struct Tryd.underlying28 hx
 replace hl : cs.length = 10 := hl.trans (by kernel_rfl)
 replace hlen : xs.length = 10 := hlen
 obtain ⟨a0, k0_, w0⟩ := ((XRow.opens_int Tryd.underlying22) : XRow.Opens enc Tryd.prog w 22 (Kd.int .u16) (fun y_ => (Lit.int .u16 y_).wf = true)) n _ _ ((hf 0 _ rfl).trans (List.getElem?_eq_getElem (show 0 < xs.length by omega))) (XRow.field_weights Tryd.underlying28 hz (j := 0) rfl (List.getElem?_eq_getElem (show 0 < xs.length by omega)))
 replace k0_ : (Kd.int .u16).K w a0 ((cs.drop 0).take (Tryd.prog.cellsOf 22)) := k0_
 rw [show Tryd.prog.cellsOf 22 = 1 from by kernel_rfl] at k0_
 obtain ⟨a1, k1_, w1⟩ := ((XRow.opens_int Tryd.underlying5) : XRow.Opens enc Tryd.prog w 5 (Kd.int .u8) (fun y_ => (Lit.int .u8 y_).wf = true)) n _ _ ((hf 1 _ rfl).trans (List.getElem?_eq_getElem (show 1 < xs.length by omega))) (XRow.field_weights Tryd.underlying28 hz (j := 1) rfl (List.getElem?_eq_getElem (show 1 < xs.length by omega)))
 replace k1_ : (Kd.int .u8).K w a1 ((cs.drop 1).take (Tryd.prog.cellsOf 5)) := k1_
 rw [show Tryd.prog.cellsOf 5 = 1 from by kernel_rfl] at k1_
 obtain ⟨a2, k2_, w2⟩ := ((XRow.opens_int Tryd.underlying5) : XRow.Opens enc Tryd.prog w 5 (Kd.int .u8) (fun y_ => (Lit.int .u8 y_).wf = true)) n _ _ ((hf 2 _ rfl).trans (List.getElem?_eq_getElem (show 2 < xs.length by omega))) (XRow.field_weights Tryd.underlying28 hz (j := 2) rfl (List.getElem?_eq_getElem (show 2 < xs.length by omega)))
 replace k2_ : (Kd.int .u8).K w a2 ((cs.drop 2).take (Tryd.prog.cellsOf 5)) := k2_
 rw [show Tryd.prog.cellsOf 5 = 1 from by kernel_rfl] at k2_
 obtain ⟨a3, k3_, w3⟩ := ((XRow.opens_slice (d := k34) (wf := fun y_ => ((Lit.int .u8 y_.f0).wf = true ∧ ((y_.f1.length ≤ 9223372036854775807 ∧ y_.f1.length * 1 ≤ 140737488351232) ∧ ∀ y0_ ∈ y_.f1, (Lit.int .u8 y0_).wf = true))) Tryd.underlying23 (by kernel_rfl) (B := 32) (by kernel_rfl) opens_34) : XRow.Opens enc Tryd.prog w 23 (Kd.slice 34 k34) (fun y_ => ((y_.length ≤ 9223372036854775807 ∧ y_.length * 32 ≤ 140737488351232) ∧ ∀ y0_ ∈ y_, ((Lit.int .u8 y0_.f0).wf = true ∧ ((y0_.f1.length ≤ 9223372036854775807 ∧ y0_.f1.length * 1 ≤ 140737488351232) ∧ ∀ y1_ ∈ y0_.f1, (Lit.int .u8 y1_).wf = true))))) n _ _ ((hf 3 _ rfl).trans (List.getElem?_eq_getElem (show 3 < xs.length by omega))) (XRow.field_weights Tryd.underlying28 hz (j := 3) rfl (List.getElem?_eq_getElem (show 3 < xs.length by omega)))
 replace k3_ : (Kd.slice 34 k34).K w a3 ((cs.drop 3).take (Tryd.prog.cellsOf 23)) := k3_
 rw [show Tryd.prog.cellsOf 23 = 1 from by kernel_rfl] at k3_
 obtain ⟨a4, k4_, w4⟩ := ((XRow.opens_int Tryd.underlying22) : XRow.Opens enc Tryd.prog w 22 (Kd.int .u16) (fun y_ => (Lit.int .u16 y_).wf = true)) n _ _ ((hf 4 _ rfl).trans (List.getElem?_eq_getElem (show 4 < xs.length by omega))) (XRow.field_weights Tryd.underlying28 hz (j := 4) rfl (List.getElem?_eq_getElem (show 4 < xs.length by omega)))
 replace k4_ : (Kd.int .u16).K w a4 ((cs.drop 4).take (Tryd.prog.cellsOf 22)) := k4_
 rw [show Tryd.prog.cellsOf 22 = 1 from by kernel_rfl] at k4_
 obtain ⟨a5, k5_, w5⟩ := ((XRow.opens_int Tryd.underlying24) : XRow.Opens enc Tryd.prog w 24 (Kd.int .u32) (fun y_ => (Lit.int .u32 y_).wf = true)) n _ _ ((hf 5 _ rfl).trans (List.getElem?_eq_getElem (show 5 < xs.length by omega))) (XRow.field_weights Tryd.underlying28 hz (j := 5) rfl (List.getElem?_eq_getElem (show 5 < xs.length by omega)))
 replace k5_ : (Kd.int .u32).K w a5 ((cs.drop 5).take (Tryd.prog.cellsOf 24)) := k5_
 rw [show Tryd.prog.cellsOf 24 = 1 from by kernel_rfl] at k5_
 obtain ⟨a6, k6_, w6⟩ := ((XRow.opens_slice (d := (Kd.int .u8)) (wf := fun y_ => (Lit.int .u8 y_).wf = true) Tryd.underlying25 (by kernel_rfl) (B := 1) (by kernel_rfl) (XRow.opens_int Tryd.underlying5)) : XRow.Opens enc Tryd.prog w 25 (Kd.slice 5 (Kd.int .u8)) (fun y_ => ((y_.length ≤ 9223372036854775807 ∧ y_.length * 1 ≤ 140737488351232) ∧ ∀ y0_ ∈ y_, (Lit.int .u8 y0_).wf = true))) n _ _ ((hf 6 _ rfl).trans (List.getElem?_eq_getElem (show 6 < xs.length by omega))) (XRow.field_weights Tryd.underlying28 hz (j := 6) rfl (List.getElem?_eq_getElem (show 6 < xs.length by omega)))
 replace k6_ : (Kd.slice 5 (Kd.int .u8)).K w a6 ((cs.drop 6).take (Tryd.prog.cellsOf 25)) := k6_
 rw [show Tryd.prog.cellsOf 25 = 1 from by kernel_rfl] at k6_
 obtain ⟨a7, k7_, w7⟩ := ((XRow.opens_slice (d := (Kd.int .u8)) (wf := fun y_ => (Lit.int .u8 y_).wf = true) Tryd.underlying25 (by kernel_rfl) (B := 1) (by kernel_rfl) (XRow.opens_int Tryd.underlying5)) : XRow.Opens enc Tryd.prog w 25 (Kd.slice 5 (Kd.int .u8)) (fun y_ => ((y_.length ≤ 9223372036854775807 ∧ y_.length * 1 ≤ 140737488351232) ∧ ∀ y0_ ∈ y_, (Lit.int .u8 y0_).wf = true))) n _ _ ((hf 7 _ rfl).trans (List.getElem?_eq_getElem (show 7 < xs.length by omega))) (XRow.field_weights Tryd.underlying28 hz (j := 7) rfl (List.getElem?_eq_getElem (show 7 < xs.length by omega)))
 replace k7_ : (Kd.slice 5 (Kd.int .u8)).K w a7 ((cs.drop 7).take (Tryd.prog.cellsOf 25)) := k7_
 rw [show Tryd.prog.cellsOf 25 = 1 from by kernel_rfl] at k7_
 obtain ⟨a8, k8_, w8⟩ := ((XRow.opens_slice (d := (Kd.int .u8)) (wf := fun y_ => (Lit.int .u8 y_).wf = true) Tryd.underlying25 (by kernel_rfl) (B := 1) (by kernel_rfl) (XRow.opens_int Tryd.underlying5)) : XRow.Opens enc Tryd.prog w 25 (Kd.slice 5 (Kd.int .u8)) (fun y_ => ((y_.length ≤ 9223372036854775807 ∧ y_.length * 1 ≤ 140737488351232) ∧ ∀ y0_ ∈ y_, (Lit.int .u8 y0_).wf = true))) n _ _ ((hf 8 _ rfl).trans (List.getElem?_eq_getElem (show 8 < xs.length by omega))) (XRow.field_weights Tryd.underlying28 hz (j := 8) rfl (List.getElem?_eq_getElem (show 8 < xs.length by omega)))
 replace k8_ : (Kd.slice 5 (Kd.int .u8)).K w a8 ((cs.drop 8).take (Tryd.prog.cellsOf 25)) := k8_
 rw [show Tryd.prog.cellsOf 25 = 1 from by kernel_rfl] at k8_
 obtain ⟨a9, k9_, w9⟩ := ((XRow.opens_slice (d := (Kd.int .u32)) (wf := fun y_ => (Lit.int .u32 y_).wf = true) Tryd.underlying26 (by kernel_rfl) (B := 4) (by kernel_rfl) (XRow.opens_int Tryd.underlying24)) : XRow.Opens enc Tryd.prog w 26 (Kd.slice 24 (Kd.int .u32)) (fun y_ => ((y_.length ≤ 9223372036854775807 ∧ y_.length * 4 ≤ 140737488351232) ∧ ∀ y0_ ∈ y_, (Lit.int .u32 y0_).wf = true))) n _ _ ((hf 9 _ rfl).trans (List.getElem?_eq_getElem (show 9 < xs.length by omega))) (XRow.field_weights Tryd.underlying28 hz (j := 9) rfl (List.getElem?_eq_getElem (show 9 < xs.length by omega)))
 replace k9_ : (Kd.slice 24 (Kd.int .u32)).K w a9 ((cs.drop 9).take (Tryd.prog.cellsOf 26)) := k9_
 rw [show Tryd.prog.cellsOf 26 = 1 from by kernel_rfl] at k9_
 rw [← XRow.seg_last (cs := cs) (o := 9) (s := 1) (by omega)] at k9_
 exact ⟨⟨a0, a1, a2, a3, a4, a5, a6, a7, a8, a9⟩, (show (Kd.pair (Kd.int .u16) (Kd.pair (Kd.int .u8) (Kd.pair (Kd.int .u8) (Kd.pair (Kd.slice 34 k34) (Kd.pair (Kd.int .u16) (Kd.pair (Kd.int .u32) (Kd.pair (Kd.slice 5 (Kd.int .u8)) (Kd.pair (Kd.slice 5 (Kd.int .u8)) (Kd.pair (Kd.slice 5 (Kd.int .u8)) (Kd.slice 24 (Kd.int .u32))))))))))).K w (a0, a1, a2, a3, a4, a5, a6, a7, a8, a9) cs from ⟨_, _, XRow.seg cs 0 1, k0_, ⟨_, _, XRow.seg cs 1 1, k1_, ⟨_, _, XRow.seg cs 2 1, k2_, ⟨_, _, XRow.seg cs 3 1, k3_, ⟨_, _, XRow.seg cs 4 1, k4_, ⟨_, _, XRow.seg cs 5 1, k5_, ⟨_, _, XRow.seg cs 6 1, k6_, ⟨_, _, XRow.seg cs 7 1, k7_, ⟨_, _, XRow.seg cs 8 1, k8_, k9_⟩⟩⟩⟩⟩⟩⟩⟩⟩), ⟨w0, w1, w2, w3, w4, w5, w6, w7, w8, w9⟩⟩
theorem laidOut : laidOutB Tryd.prog = true := by kernel_rfl
set_option maxRecDepth 100000 in
theorem lifted (os : Os) (started : os.Started) (H : Type) (enc : TypeId × Value → H) :
 ReturnsInHanded {} Tryd.checked os 3 .any (fun w args => (Rows.lcpFieldsSpec.pre enc Tryd.prog Tryd.f3 [] false w args ∧ laidMetH Tryd.prog Gl.laid1 w) ∧ sizedMet enc Tryd.prog Tryd.f3 (OpenSpec.ofChange Rows.lcpFieldsSpec) false w args) (Rows.lcpFieldsSpec.post enc Tryd.prog Tryd.f3 false true false false) := by
 refine returnsInHanded_of_change_and (C := Tryd.checked) (X := fun w _ => laidMetH Tryd.prog Gl.laid1 w) (fun _ _ _ hh h => h.of_heap hh) own started (by kernel_rfl) Tryd.func3
  (ChangeSpec.witness_shaped (enc := enc) (C := Tryd.checked) (os := os) (X := fun w _ => laidMetH Tryd.prog Gl.laid1 w) false (World.doorLaid Tryd.prog 400 os) #[.agg #[.int .u16 0, .int .u8 0, .int .u8 0, .slice none 0 0, .int .u16 0, .int .u32 0, .slice none 0 0, .slice none 0 0, .slice none 0 0, .slice none 0 0], .int .u8 0] 8 rfl (World.shaped_of_RefB (by kernel_rfl) (by kernel_rfl)) (by kernel_rfl) (by kernel_rfl) (by kernel_rfl) (Gl.door_met os _)) ?_
 intro W base args ds gs before hval0 hW hcnd hsz0 hL_ _
 have hGL_ := Gl.of_laid hL_
 have hsz : (DataW.weightsEach Tryd.prog (Tryd.f3.params.toList ++ Rows.lcpFieldsSpec.plain.varTypes Tryd.prog) (ds ++ gs)).all (· ≤ reachBytes) = true := hsz0
 have hval : ∀ (j : Nat) t v, Tryd.f3.params[j]? = some t → args[j]? = some v → Value.okWide Tryd.prog W .any base t v := hval0
 have hW' := hW
 obtain ⟨p, q, hA0, hV, rfl, hfz, hnd⟩ := hW
 have hA : DataW.TrodAll enc Tryd.prog W 0 (fun _ => true) true Tryd.f3.params.toList args.toList ds p := hA0
 rw [Tryd.params3] at hA hval hsz
 obtain ⟨v0, vs0, d0, ds0, p0, q0, hargs, rfl, rfl, h0, r0⟩ := trodAll_cons hA
 obtain ⟨v1, vs1, d1, ds1, p1, q1, rfl, rfl, rfl, h1, r1⟩ := trodAll_cons r0
 obtain ⟨rfl, rfl, rfl⟩ := trodAll_nil r1
 obtain rfl : args = #[v0, v1] := by cases args; simp_all
 obtain ⟨rfl, rfl⟩ := trodVars_none hV
 have k0 := h0
 have lt0 : ∀ x ∈ p0, x.block < W.heap.size := by obtain ⟨m, hm⟩ := k0; exact DataW.trod_lt m _ _ _ hm
 obtain ⟨fuel0, hf0⟩ := h0
 obtain ⟨z0, hz0, wz0⟩ := (opens_28 : XRow.Opens enc Tryd.prog W 28 k28 (fun y_ => ((Lit.int .u16 y_.f0).wf = true ∧ (Lit.int .u8 y_.f1).wf = true ∧ (Lit.int .u8 y_.f2).wf = true ∧ ((y_.f3.length ≤ 9223372036854775807 ∧ y_.f3.length * 32 ≤ 140737488351232) ∧ ∀ y0_ ∈ y_.f3, ((Lit.int .u8 y0_.f0).wf = true ∧ ((y0_.f1.length ≤ 9223372036854775807 ∧ y0_.f1.length * 1 ≤ 140737488351232) ∧ ∀ y1_ ∈ y0_.f1, (Lit.int .u8 y1_).wf = true))) ∧ (Lit.int .u16 y_.f4).wf = true ∧ (Lit.int .u32 y_.f5).wf = true ∧ ((y_.f6.length ≤ 9223372036854775807 ∧ y_.f6.length * 1 ≤ 140737488351232) ∧ ∀ y0_ ∈ y_.f6, (Lit.int .u8 y0_).wf = true) ∧ ((y_.f7.length ≤ 9223372036854775807 ∧ y_.f7.length * 1 ≤ 140737488351232) ∧ ∀ y0_ ∈ y_.f7, (Lit.int .u8 y0_).wf = true) ∧ ((y_.f8.length ≤ 9223372036854775807 ∧ y_.f8.length * 1 ≤ 140737488351232) ∧ ∀ y0_ ∈ y_.f8, (Lit.int .u8 y0_).wf = true) ∧ ((y_.f9.length ≤ 9223372036854775807 ∧ y_.f9.length * 4 ≤ 140737488351232) ∧ ∀ y0_ ∈ y_.f9, (Lit.int .u32 y0_).wf = true)))) fuel0 _ _ hf0 (XRow.arg_weights hsz (j := 0) rfl rfl)
 obtain ⟨cs0, rfl, _⟩ := okWide_struct Tryd.underlying28 (hval 0 28 v0 rfl rfl)
 obtain ⟨A0_3, c0_3, A0_6, c0_6, A0_7, c0_7, A0_8, c0_8, A0_9, c0_9, he0, hc0_3, hr0_3, hc0_6, hr0_6, hc0_7, hr0_7, hc0_8, hr0_8, hc0_9, hr0_9⟩ := k28_open hz0
 obtain rfl : cs0 = #[.int .u16 z0.f0, .int .u8 z0.f1, .int .u8 z0.f2, .slice A0_3 z0.f3.length c0_3, .int .u16 z0.f4, .int .u32 z0.f5, .slice A0_6 z0.f6.length c0_6, .slice A0_7 z0.f7.length c0_7, .slice A0_8 z0.f8.length c0_8, .slice A0_9 z0.f9.length c0_9] := Array.ext' he0
 obtain ⟨a1, rfl, rfl, rfl, w1⟩ := open_int Tryd.underlying5 (hval 1 5 v1 rfl rfl) h1
 clear hA0 hval0 hsz0 hsz
 refine (Hw.fields_walk z0.f0 z0.f1 z0.f2 _ _ z0.f3 z0.f4 z0.f5 _ _ z0.f6 _ _ z0.f7 _ _ z0.f8 _ _ z0.f9 a1 W hGL_ wz0.1 wz0.2.1 wz0.2.2.1 hr0_3 hc0_3 wz0.2.2.2.1 wz0.2.2.2.2.1 wz0.2.2.2.2.2.1 hr0_6 hc0_6 wz0.2.2.2.2.2.2.1 hr0_7 hc0_7 wz0.2.2.2.2.2.2.2.1 hr0_8 hc0_8 wz0.2.2.2.2.2.2.2.2.1 hr0_9 hc0_9 wz0.2.2.2.2.2.2.2.2.2 w1).mono fun e W' ⟨he, bel⟩ => ?_
 subst he
 exact ⟨_, rfl, _, _, _, [], _, [], hW', trodAll_mk1 (shut_bool Tryd.underlying4 _), (trodAll_cons_mk (Below.trod laidOut (by kernel_rfl) (of_decide_eq_true (by kernel_rfl)) k0 bel lt0) (trodAll_cons_mk (shut_int Tryd.underlying5 w1) trodAll_mk0)), rfl, bel.frame _, fun h => by cases h⟩
set_option maxRecDepth 100000 in
theorem lifted_time (os : Os) (started : os.Started) (H : Type) (enc : TypeId × Value → H) (Fi : Stop.Interp) :
 ReturnsInHanded { calm := true } Tryd.checked os 3 .any (fun w args => (Rows.lcpFieldsSpec.pre enc Tryd.prog Tryd.f3 [] false w args ∧ laidMetH Tryd.prog Gl.laid1 w) ∧ sizedMet enc Tryd.prog Tryd.f3 (OpenSpec.ofChange Rows.lcpFieldsSpec) false w args) ((OpenSpec.ofChange Rows.lcpFieldsSpec).postWith enc Tryd.prog Tryd.f3 Fi (outsideKept [.timePasses]) false true false) := by
 refine Clock.returns_of_change (C := Tryd.checked) (X := fun w _ => laidMetH Tryd.prog Gl.laid1 w) (fun _ _ _ hh h => h.of_heap hh) own started (by kernel_rfl) Tryd.func3
  (Clock.witness_at (enc := enc) (C := Tryd.checked) (os := os) (apart := false) (X := fun w _ => laidMetH Tryd.prog Gl.laid1 w) (World.doorLaid Tryd.prog 400 os) #[.agg #[.int .u16 0, .int .u8 0, .int .u8 0, .slice none 0 0, .int .u16 0, .int .u32 0, .slice none 0 0, .slice none 0 0, .slice none 0 0, .slice none 0 0], .int .u8 0] 8 rfl (World.shaped_of_RefB (by kernel_rfl) (by kernel_rfl)) (by kernel_rfl) (by kernel_rfl) (by kernel_rfl) (Gl.door_met os _)) ?_
 intro W base args ds gs before hval0 hW hcnd hsz0 hL_ _
 have hGL_ := Gl.of_laid hL_
 have hsz : (DataW.weightsEach Tryd.prog (Tryd.f3.params.toList ++ Rows.lcpFieldsSpec.plain.varTypes Tryd.prog) (ds ++ gs)).all (· ≤ reachBytes) = true := hsz0
 have hval : ∀ (j : Nat) t v, Tryd.f3.params[j]? = some t → args[j]? = some v → Value.okWide Tryd.prog W .any base t v := hval0
 have hW' := hW
 obtain ⟨p, q, hA0, hV, rfl, hfz, hnd⟩ := hW
 have hA : DataW.TrodAll enc Tryd.prog W 0 (fun _ => true) true Tryd.f3.params.toList args.toList ds p := hA0
 rw [Tryd.params3] at hA hval hsz
 obtain ⟨v0, vs0, d0, ds0, p0, q0, hargs, rfl, rfl, h0, r0⟩ := trodAll_cons hA
 obtain ⟨v1, vs1, d1, ds1, p1, q1, rfl, rfl, rfl, h1, r1⟩ := trodAll_cons r0
 obtain ⟨rfl, rfl, rfl⟩ := trodAll_nil r1
 obtain rfl : args = #[v0, v1] := by cases args; simp_all
 obtain ⟨rfl, rfl⟩ := trodVars_none hV
 have k0 := h0
 have lt0 : ∀ x ∈ p0, x.block < W.heap.size := by obtain ⟨m, hm⟩ := k0; exact DataW.trod_lt m _ _ _ hm
 obtain ⟨fuel0, hf0⟩ := h0
 obtain ⟨z0, hz0, wz0⟩ := (opens_28 : XRow.Opens enc Tryd.prog W 28 k28 (fun y_ => ((Lit.int .u16 y_.f0).wf = true ∧ (Lit.int .u8 y_.f1).wf = true ∧ (Lit.int .u8 y_.f2).wf = true ∧ ((y_.f3.length ≤ 9223372036854775807 ∧ y_.f3.length * 32 ≤ 140737488351232) ∧ ∀ y0_ ∈ y_.f3, ((Lit.int .u8 y0_.f0).wf = true ∧ ((y0_.f1.length ≤ 9223372036854775807 ∧ y0_.f1.length * 1 ≤ 140737488351232) ∧ ∀ y1_ ∈ y0_.f1, (Lit.int .u8 y1_).wf = true))) ∧ (Lit.int .u16 y_.f4).wf = true ∧ (Lit.int .u32 y_.f5).wf = true ∧ ((y_.f6.length ≤ 9223372036854775807 ∧ y_.f6.length * 1 ≤ 140737488351232) ∧ ∀ y0_ ∈ y_.f6, (Lit.int .u8 y0_).wf = true) ∧ ((y_.f7.length ≤ 9223372036854775807 ∧ y_.f7.length * 1 ≤ 140737488351232) ∧ ∀ y0_ ∈ y_.f7, (Lit.int .u8 y0_).wf = true) ∧ ((y_.f8.length ≤ 9223372036854775807 ∧ y_.f8.length * 1 ≤ 140737488351232) ∧ ∀ y0_ ∈ y_.f8, (Lit.int .u8 y0_).wf = true) ∧ ((y_.f9.length ≤ 9223372036854775807 ∧ y_.f9.length * 4 ≤ 140737488351232) ∧ ∀ y0_ ∈ y_.f9, (Lit.int .u32 y0_).wf = true)))) fuel0 _ _ hf0 (XRow.arg_weights hsz (j := 0) rfl rfl)
 obtain ⟨cs0, rfl, _⟩ := okWide_struct Tryd.underlying28 (hval 0 28 v0 rfl rfl)
 obtain ⟨A0_3, c0_3, A0_6, c0_6, A0_7, c0_7, A0_8, c0_8, A0_9, c0_9, he0, hc0_3, hr0_3, hc0_6, hr0_6, hc0_7, hr0_7, hc0_8, hr0_8, hc0_9, hr0_9⟩ := k28_open hz0
 obtain rfl : cs0 = #[.int .u16 z0.f0, .int .u8 z0.f1, .int .u8 z0.f2, .slice A0_3 z0.f3.length c0_3, .int .u16 z0.f4, .int .u32 z0.f5, .slice A0_6 z0.f6.length c0_6, .slice A0_7 z0.f7.length c0_7, .slice A0_8 z0.f8.length c0_8, .slice A0_9 z0.f9.length c0_9] := Array.ext' he0
 obtain ⟨a1, rfl, rfl, rfl, w1⟩ := open_int Tryd.underlying5 (hval 1 5 v1 rfl rfl) h1
 clear hA0 hval0 hsz0 hsz
 refine (Hw.fields_walk z0.f0 z0.f1 z0.f2 _ _ z0.f3 z0.f4 z0.f5 _ _ z0.f6 _ _ z0.f7 _ _ z0.f8 _ _ z0.f9 a1 W hGL_ wz0.1 wz0.2.1 wz0.2.2.1 hr0_3 hc0_3 wz0.2.2.2.1 wz0.2.2.2.2.1 wz0.2.2.2.2.2.1 hr0_6 hc0_6 wz0.2.2.2.2.2.2.1 hr0_7 hc0_7 wz0.2.2.2.2.2.2.2.1 hr0_8 hc0_8 wz0.2.2.2.2.2.2.2.2.1 hr0_9 hc0_9 wz0.2.2.2.2.2.2.2.2.2 w1).mono fun e W' ⟨he, bel⟩ => ?_
 subst he
 have bel2 := (Clock.Since.of_below bel).2
 exact ⟨_, rfl, ⟨_, _, _, [], _, [], hW', trodAll_mk1 (shut_bool Tryd.underlying4 _), (trodAll_cons_mk (Below.trod laidOut (by kernel_rfl) (of_decide_eq_true (by kernel_rfl)) k0 bel2 lt0) (trodAll_cons_mk (shut_int Tryd.underlying5 w1) trodAll_mk0)), rfl, bel2.frame _, fun h => by cases h⟩, (Clock.Since.of_below bel).1⟩
theorem over : Rows.lcpFieldsRow.holds Tryd.pinned (OpenSpec.ofChange Rows.lcpFieldsSpec) := by
  first
    | exact OpenClaim.holds_of_wide 3 Tryd.f3 rfl rfl rfl rfl rfl rfl rfl ⟨rfl, rfl, rfl, rfl, rfl⟩ rfl rfl rfl rfl rfl (by kernel_rfl) Tryd.func3 (by kernel_rfl)
        (of_decide_eq_true (by kernel_rfl)) (by unfold Func.isWrapper; first | (rw [if_pos (by decide +kernel)]; kernel_rfl) | (rw [if_neg (by decide +kernel)]; exact ⟨rfl, rfl⟩))
        (fun os started H enc _ => lifted os started H enc)
    | exact Clock.holds_of_wide_time 3 Tryd.f3 rfl rfl rfl rfl rfl rfl rfl ⟨rfl, rfl, rfl, rfl, rfl⟩ rfl rfl rfl rfl rfl (by kernel_rfl) Tryd.func3 (by kernel_rfl)
        (of_decide_eq_true (by kernel_rfl)) (by unfold Func.isWrapper; first | (rw [if_pos (by decide +kernel)]; kernel_rfl) | (rw [if_neg (by decide +kernel)]; exact ⟨rfl, rfl⟩))
        (fun os started H enc _ Fi => lifted_time os started H enc Fi)
theorem proved : Rows.LcpFieldsSaid := over
set_option maxRecDepth 100000 in
theorem carded : Claim7.holds Tryd.pinned (.plain (OpenSpec.ofChange Rows.lcpFieldsSpec)) Rows.lcpFieldsCard :=
 Claim7.holds_tied_plain_at .later [] [.data] true (true, "3fccb4cd329b22779488dc1af053d9b8cec84eb41fd099cfafdb07cd01fe7182") false
  proved (fun _ h => by cases h) (by kernel_rfl) (fun _ h => by cases h) lcpFields_row_tie rfl ⟨rfl, rfl⟩ (by kernel_rfl) rfl
  (fun f fn hf hfn => by
   obtain rfl : f = 3 := Option.some.inj ((show Tryd.prog.funcNamed "marline/marlinelaw15.LcpFields" = some 3 by kernel_rfl).symm.trans hf) |>.symm
   obtain rfl : fn = Tryd.f3 := (Option.some.inj (Tryd.func3.symm.trans hfn)).symm
   exact ⟨by kernel_rfl, fun j t ht => by
    rw [Tryd.params3] at ht
    have hm : t ∈ [28, 5] := by simpa using Array.mem_of_getElem? ht
    have hall : ([28, 5].all fun u => !Tryd.prog.wantsStandIn u) = true := by kernel_rfl
    exact (show Tryd.prog.wantsStandIn t = false by simpa using List.all_eq_true.1 hall t hm)⟩)
  (by kernel_rfl)
end Go.Proofs.YtgjdjjofhmhimaaDoor.lcpFields
namespace Go.Proofs.YtgjdjjofhmhimaaDoor
theorem lcpFields_card_holds : Rows.LcpFieldsCardSaid := lcpFields.carded
end Go.Proofs.YtgjdjjofhmhimaaDoor
