/- Proved: marline/marlinelaw21.TagsFinds returns true for every input that finds its tables as the program's text lays them, and each argument reads behind the call as it read before; and the card that ties the tables to the text (the given statement TagsFindsCardSaid). No condition beyond the card's own. -/
import Derived.Test.YthkgaciibfjejaaDoorRows
import Derived.Test.YthkgaciibfjejaaDoorCards
import Derived.Test.YthkgaciibfjejaaDoorTie
import Derived.Test.YthkgaciibfjejaaDoorGl21
import Derived.SevenTiedAt
import Derived.LaidMore
import Derived.Stop.Joined
import Derived.Test.YthkgaciibfjejaaDoorPrintMarlinelaw21TagsFinds
import Derived.Test.YthkgaciibfjejaaDoorPureTagsFinds
import Derived.WalkKit
import Derived.ProofKit
import Derived.OpenShut
import Derived.ShutString
import Derived.ChangeOld
import Derived.Below
import Derived.SizedLaws
import Derived.ChangeArms
import Derived.ChangeSlices
import Derived.Test.YthkgaciibfjejaaDoorWSized
namespace Go.Proofs.YthkgaciibfjejaaDoor.tagsFinds
open Go.ChangeShapes Go.WideShapes Go.ChangeAt Go.RowKit
open Go.ChangeMaps (open_string shut_string)
set_option linter.unusedVariables false
theorem own : ownKnob Tryd.prog.godebug = none := by kernel_rfl
open Go.Proofs.YthkgaciibfjejaaDoorW.PrintWords Go.Proofs.YthkgaciibfjejaaDoor.Print
set_option maxRecDepth 100000 in
theorem opens_32 {H : Type} {enc : TypeId × Value → H} {w : World} : XRow.Opens enc Tryd.prog w 32 k32 (fun x_ => ((Lit.int .u16 x_.f0).wf = true ∧ ((x_.f1.length ≤ 9223372036854775807 ∧ x_.f1.length * 1 ≤ 140737488351232) ∧ ∀ y0_ ∈ x_.f1, (Lit.int .u8 y0_).wf = true))) := by
  intro fuel cs x hx hz
  obtain ⟨xs, n, _, rfl, hl, hlen, hf⟩ := DataW.trod_struct Tryd.underlying32 hx
  replace hl : cs.length = 2 := hl.trans (by kernel_rfl)
  replace hlen : xs.length = 2 := hlen
  obtain ⟨a0, k0_, w0⟩ := ((XRow.opens_int Tryd.underlying23) : XRow.Opens enc Tryd.prog w 23 (Kd.int .u16) (fun y_ => (Lit.int .u16 y_).wf = true)) n _ _ ((hf 0 _ rfl).trans (List.getElem?_eq_getElem (show 0 < xs.length by omega))) (XRow.field_weights Tryd.underlying32 hz (j := 0) rfl (List.getElem?_eq_getElem (show 0 < xs.length by omega)))
  replace k0_ : (Kd.int .u16).K w a0 ((cs.drop 0).take (Tryd.prog.cellsOf 23)) := k0_
  rw [show Tryd.prog.cellsOf 23 = 1 from by kernel_rfl] at k0_
  obtain ⟨a1, k1_, w1⟩ := ((XRow.opens_slice (d := (Kd.int .u8)) (wf := fun y_ => (Lit.int .u8 y_).wf = true) Tryd.underlying28 (by kernel_rfl) (B := 1) (by kernel_rfl) (XRow.opens_int Tryd.underlying5)) : XRow.Opens enc Tryd.prog w 28 (Kd.slice 5 (Kd.int .u8)) (fun y_ => ((y_.length ≤ 9223372036854775807 ∧ y_.length * 1 ≤ 140737488351232) ∧ ∀ y0_ ∈ y_, (Lit.int .u8 y0_).wf = true))) n _ _ ((hf 1 _ rfl).trans (List.getElem?_eq_getElem (show 1 < xs.length by omega))) (XRow.field_weights Tryd.underlying32 hz (j := 1) rfl (List.getElem?_eq_getElem (show 1 < xs.length by omega)))
  replace k1_ : (Kd.slice 5 (Kd.int .u8)).K w a1 ((cs.drop 1).take (Tryd.prog.cellsOf 28)) := k1_
  rw [show Tryd.prog.cellsOf 28 = 1 from by kernel_rfl] at k1_
  rw [← XRow.seg_last (cs := cs) (o := 1) (s := 1) (by omega)] at k1_
  exact ⟨⟨a0, a1⟩, (show (Kd.pair (Kd.int .u16) (Kd.slice 5 (Kd.int .u8))).K w (a0, a1) cs from ⟨_, _, XRow.seg cs 0 1, k0_, k1_⟩), ⟨w0, w1⟩⟩
theorem laidOut : laidOutB Tryd.prog = true := by kernel_rfl
def IsRow (k : IntKind) (w : World) (a : Option Addr) (len cap : Nat) (zs : List Int) : Prop :=
  (a = none ∧ len = 0 ∧ cap = 0 ∧ zs = []) ∨
  ∃ x, a = some x ∧ len ≤ cap ∧ cap ≤ maxLen ∧ zs.length = cap ∧ (∀ i, i < zs.length → w.cell? (x.add i) = some (.int k (zs.getD i 0))) ∧ ∀ n ∈ zs, (Lit.int k n).wf = true
set_option maxRecDepth 100000 in
theorem lifted (os : Os) (started : os.Started) (H : Type) (enc : TypeId × Value → H) :
    ReturnsInHanded {} Tryd.checked os 3 .any (fun w args => (Rows.tagsFindsSpec.pre enc Tryd.prog Tryd.f3 [] false w args ∧ laidMetH Tryd.prog Gl.laid1 w) ∧ sizedMet enc Tryd.prog Tryd.f3 (OpenSpec.ofChange Rows.tagsFindsSpec) false w args) (Rows.tagsFindsSpec.post enc Tryd.prog Tryd.f3 false true false false) := by
  refine returnsInHanded_of_change_and (C := Tryd.checked) (X := fun w _ => laidMetH Tryd.prog Gl.laid1 w) (fun _ _ _ hh h => h.of_heap hh) own started (by kernel_rfl) Tryd.func3
    (ChangeSpec.witness_shaped (enc := enc) (C := Tryd.checked) (os := os) (X := fun w _ => laidMetH Tryd.prog Gl.laid1 w) false (World.doorLaid Tryd.prog 400 os) #[.slice none 0 0, .int .u16 0] 8 rfl (World.shaped_of_RefB (by kernel_rfl) (by kernel_rfl)) (by kernel_rfl) (by kernel_rfl) (by kernel_rfl) (Gl.door_met os _)) ?_
  intro W base args ds gs before hval0 hW hcnd hsz0 hL_ _
  have hGL_ := Gl.of_laid hL_
  have hsz : (DataW.weightsEach Tryd.prog (Tryd.f3.params.toList ++ Rows.tagsFindsSpec.plain.varTypes Tryd.prog) (ds ++ gs)).all (· ≤ reachBytes) = true := hsz0
  have hval : ∀ (j : Nat) t v, Tryd.f3.params[j]? = some t → args[j]? = some v → Value.okWide Tryd.prog W .any base t v := hval0
  have hW' := hW
  obtain ⟨p, q, hA0, hV, rfl, hfz, hnd⟩ := hW
  have hA : DataW.TrodAll enc Tryd.prog W 0 (fun _ => true) true Tryd.f3.params.toList args.toList ds p := hA0
  rw [Tryd.params3] at hA hval hsz
  obtain ⟨v0, vs0, d0, ds0, p0, q0, hargs, rfl, rfl, h0, r0⟩ := trodAll_cons hA
  obtain ⟨v1, vs1, d1, ds1, p1, q1, rfl, rfl, rfl, h1, r1⟩ := trodAll_cons r0
  obtain ⟨rfl, rfl, rfl⟩ := trodAll_nil r1
  obtain rfl : args = #[v0, v1] := by cases args; simp_all
  obtain ⟨rfl, rfl⟩ := trodVars_none hV
  have k0 := h0
  have lt0 : ∀ x ∈ p0, x.block < W.heap.size := by obtain ⟨m, hm⟩ := k0; exact DataW.trod_lt m _ _ _ hm
  obtain ⟨fuel0, hf0⟩ := h0
  obtain ⟨z0, hz0, wz0⟩ := ((XRow.opens_slice (d := k32) (wf := fun y_ => ((Lit.int .u16 y_.f0).wf = true ∧ ((y_.f1.length ≤ 9223372036854775807 ∧ y_.f1.length * 1 ≤ 140737488351232) ∧ ∀ y0_ ∈ y_.f1, (Lit.int .u8 y0_).wf = true))) Tryd.underlying22 (by kernel_rfl) (B := 32) (by kernel_rfl) opens_32) : XRow.Opens enc Tryd.prog W 22 (Kd.slice 32 k32) (fun y_ => ((y_.length ≤ 9223372036854775807 ∧ y_.length * 32 ≤ 140737488351232) ∧ ∀ y0_ ∈ y_, ((Lit.int .u16 y0_.f0).wf = true ∧ ((y0_.f1.length ≤ 9223372036854775807 ∧ y0_.f1.length * 1 ≤ 140737488351232) ∧ ∀ y1_ ∈ y0_.f1, (Lit.int .u8 y1_).wf = true))))) fuel0 _ _ hf0 (XRow.arg_weights hsz (j := 0) rfl rfl)
  obtain ⟨a0, len0, cap0, rfl⟩ := okWide_slice Tryd.underlying22 (hval 0 22 v0 rfl rfl)
  obtain ⟨A0, c0, he0, hc0, hr0⟩ := hz0
  simp only [Value.cells] at he0
  obtain ⟨rfl, rfl, rfl⟩ : a0 = A0 ∧ len0 = z0.length ∧ cap0 = c0 := by injection he0 with he _; injection he with h1 h2 h3; exact ⟨h1, h2, h3⟩
  obtain ⟨a1, rfl, rfl, rfl, w1⟩ := open_int Tryd.underlying23 (hval 1 23 v1 rfl rfl) h1
  clear hA0 hval0 hsz0 hsz
  refine (Print.marlinelaw21_TagsFinds.walk Pure.TagsFinds _ _ z0 a1 W hGL_ hr0 hc0 wz0 w1).mono fun e W' ⟨he, bel⟩ => ?_
  subst he
  exact ⟨_, rfl, _, _, _, [], _, [], hW', trodAll_mk1 (shut_bool Tryd.underlying4 _), (trodAll_cons_mk (Below.trod laidOut (by kernel_rfl) (of_decide_eq_true (by kernel_rfl)) k0 bel lt0) (trodAll_cons_mk (shut_int Tryd.underlying23 w1) trodAll_mk0)), rfl, bel.frame _, fun h => by cases h⟩
theorem over : Rows.tagsFindsRow.holds Tryd.pinned (OpenSpec.ofChange Rows.tagsFindsSpec) :=
  OpenClaim.holds_of_wide 3 Tryd.f3 rfl rfl rfl rfl rfl rfl rfl ⟨rfl, rfl, rfl, rfl, rfl⟩ rfl rfl rfl rfl rfl (by kernel_rfl) Tryd.func3 (by kernel_rfl)
    (of_decide_eq_true (by kernel_rfl)) (by unfold Func.isWrapper; first | (rw [if_pos (by decide +kernel)]; kernel_rfl) | (rw [if_neg (by decide +kernel)]; exact ⟨rfl, rfl⟩))
    (fun os started H enc _ => lifted os started H enc)
theorem proved : Rows.TagsFindsSaid := over
set_option maxRecDepth 100000 in
theorem carded : Claim7.holds Tryd.pinned (.plain (OpenSpec.ofChange Rows.tagsFindsSpec)) Rows.tagsFindsCard :=
  Claim7.holds_tied_plain_at .later [] [.mapped] true (true, "0e28bc2feb53fc65924863198c6bdf7d4a7bc3eb3f45e3dcca1d603985ae5334") false
    proved (fun _ h => by cases h) (by kernel_rfl) (fun _ h => by cases h) tagsFinds_row_tie rfl ⟨rfl, rfl⟩ (by kernel_rfl) rfl
    (fun f fn hf hfn => by
      obtain rfl : f = 3 := Option.some.inj ((show Tryd.prog.funcNamed "marline/marlinelaw21.TagsFinds" = some 3 by kernel_rfl).symm.trans hf) |>.symm
      obtain rfl : fn = Tryd.f3 := (Option.some.inj (Tryd.func3.symm.trans hfn)).symm
      exact ⟨by kernel_rfl, fun j t ht => by
        rw [Tryd.params3] at ht
        have hm : t ∈ [22, 23] := by simpa using Array.mem_of_getElem? ht
        have hall : ([22, 23].all fun u => !Tryd.prog.wantsStandIn u) = true := by kernel_rfl
        exact (show Tryd.prog.wantsStandIn t = false by simpa using List.all_eq_true.1 hall t hm)⟩)
    (by kernel_rfl)
#print axioms carded
end Go.Proofs.YthkgaciibfjejaaDoor.tagsFinds
namespace Go.Proofs.YthkgaciibfjejaaDoor
/-- The tied card, under a short name, for the claim. -/
theorem tagsFinds_card_holds : Rows.TagsFindsCardSaid := tagsFinds.carded
end Go.Proofs.YthkgaciibfjejaaDoor
