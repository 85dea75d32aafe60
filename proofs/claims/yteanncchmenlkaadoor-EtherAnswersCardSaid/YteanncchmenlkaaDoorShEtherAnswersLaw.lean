/- Proved: marline/marlinelaw22.EtherAnswers returns true for every input that finds its tables as the program's text lays them, and each argument reads behind the call as it read before; and the card that ties the tables to the text (the given statement EtherAnswersCardSaid). No condition beyond the card's own. The row is proved in either form: with the premises on the clock or without them; no walk looks at the clock. -/
import Derived.Test.YteanncchmenlkaaDoorRows
import Derived.ChangeSame
import Derived.ProofKit
import Derived.LaidMore
import Derived.OpenShut
import Derived.Stop.Joined
import Derived.Test.YteanncchmenlkaaDoorCards
import Derived.Test.YteanncchmenlkaaDoorTie
import Derived.SevenTiedAt
import Derived.Clock
import Derived.WalkKit
import Derived.ShutString
import Derived.ChangeOld
import Derived.Below
import Derived.SizedLaws
import Derived.ChangeArms
import Derived.ChangeSlices
import Derived.Test.YteanncchmenlkaaDoorShEtherAnswers4
import Derived.Test.YteanncchmenlkaaDoorShEtherAnswers5
import Derived.Test.YteanncchmenlkaaDoorShEtherAnswers6
namespace Go.Proofs.YteanncchmenlkaaDoor.Gl
open Go.ChangeShapes Go.WideShapes Go.ChangeAt Go.WideMaps Go.WideElems Go.RowKit Go.Proofs.YteanncchmenlkaaDoor.Print
set_option maxRecDepth 100000
set_option linter.unusedVariables false
abbrev laid1 : List (String × DataW Unit) := [("marline/opts.all", Rows.laid_marline_opts_all), ("marline/ncp.addresses", Rows.laid_marline_ncp_addresses), ("marline/ether.sessions", Rows.laid_marline_ether_sessions)]
theorem gAddr : Tryd.prog.globalNamed "marline/ncp.addresses" = some 1 := by kernel_rfl
theorem tAddr : (Tryd.prog.globals[1]?).map (·.type) = some 132 := by kernel_rfl
theorem door_met (os : Os) (args : Array Value) : laidMetH Tryd.prog laid1 ((World.doorLaid Tryd.prog 400 os).forCall (fun _ _ => 0) ⟨#[], args, []⟩).memory :=
 laidMetH_of_parts3 (fuel := 8) (laidMet_of_run' 8 (by kernel_rfl) (by kernel_rfl)) (by kernel_rfl) (by kernel_rfl)
theorem at33 (zd : DataW Unit) : (Rows.laid_marline_ncp_addresses : DataW Unit).atKey (.int .u16 33) zd = zd := by
 simp [Rows.laid_marline_ncp_addresses, DataW.atKey, List.find?, Lit.sameKey]
theorem addr_of {W : World} {cs : Array Value} {fuel : Nat} {p : List MemPlace} (hv : W.var? Tryd.prog "marline/ncp.addresses" = some cs) (hd : DataW.trod (fun _ => ()) Tryd.prog W 0 (fun _ => true) false fuel 132 cs.toList = some (Rows.laid_marline_ncp_addresses, p)) : Hw.GA W := by
 rcases open_map Tryd.underlying132 hd with ⟨_, hx⟩ | ⟨bm, es, clock, m, rfl, hcs, hb, _, F, hx⟩
 · simp [Rows.laid_marline_ncp_addresses] at hx
 simp only [Prod.mk.injEq] at hx
 have hcell : W.cell? ⟨1, 0, none⟩ = some (.map (some bm)) := by
  have := World.var?_cell gAddr hv 0
  rw [Array.eq_one_of_toList hcs] at this
  simpa using this
 refine ⟨bm, es, clock, hcell, hb, fun W' hb' => ?_⟩
 have zero : (zeroValue 5).run Tryd.prog W' = .ok (.int .u8 0) W' := by kernel_rfl
 have hkey : keyOf Tryd.prog 22 (.int .u16 33) = some (.int .u16 33) := Maps.keyOf_int_mk Tryd.underlying22 (by decide)
 have e1 : ∀ zd : DataW Unit, (Rows.laid_marline_ncp_addresses : DataW Unit).atKey (.int .u16 33) zd = (DataW.map ((es.toList.map (rg Tryd.prog 22 _)).foldr DataW.insert [])).atKey (.int .u16 33) zd := fun zd => by rw [hx.1]
 rcases Maps.fit_look true (Maps.int_keyed Tryd.underlying22) Tryd.underlying132 zero hb' F hkey with ⟨hrun, _, hat⟩ | ⟨e0, y, _, _, hrun, hRv, hat, _⟩
 · exact hrun
 · have h1 := hat .nil
   rw [← e1, at33] at h1
   have h2 := hat (.lit (.bool true))
   rw [← e1, at33] at h2
   rw [← h1] at h2
   cases h2
theorem gSess : Tryd.prog.globalNamed "marline/ether.sessions" = some 0 := by kernel_rfl
theorem tSess : (Tryd.prog.globals[0]?).map (·.type) = some 96 := by kernel_rfl
theorem elem_bools {H : Type} {enc : TypeId × Value → H} {P : Program} {base : Nat} {held : Bool} {e : TypeId} {f0 f1 : Field} (he : P.underlying e = some (.struct #[f0, f1])) (o0 : f0.offset = 0) (o1 : f1.offset = 1) (h0 : P.underlying f0.type = some .bool) (h1 : P.underlying f1.type = some .bool) (c0 : P.cellsOf f0.type = 1) (c1 : P.cellsOf f1.type = 1) (ce : P.cellsOf e = 2)
 {W : World} {sp : Nat → Bool} {n : Nat} {v : Value} {z : DataW H × List MemPlace} (h : elemAt enc P W base sp held n e v = some z) :
 ∃ a b, v = .agg #[.bool a, .bool b] ∧ z = (.agg [.lit (.bool a), .lit (.bool b)], []) := by
 unfold elemAt at h
 split at h
 · rename_i hf
   obtain ⟨y0, y1, m, rfl, hl, g0, g1⟩ := trod_struct2 he h
   obtain ⟨a, e0, rfl⟩ := DataW.trod_bool h0 g0
   obtain ⟨b, e1, rfl⟩ := DataW.trod_bool h1 g1
   cases v <;> simp [Value.formed, he] at hf
   rename_i cs
   obtain ⟨l⟩ := cs
   rw [ce] at hl
   simp [Value.cells] at hl e0 e1
   match l, hl with
   | [x0, x1], _ =>
    simp [c0, c1, o0, o1] at e0 e1
    subst e0 e1
    exact ⟨a, b, rfl, rfl⟩
 · cases h
theorem at0 (zd : DataW Unit) : (Rows.laid_marline_ether_sessions : DataW Unit).atKey (.int .u8 0) zd = .agg [.lit (.bool false), .lit (.bool true)] := by
 simp [Rows.laid_marline_ether_sessions, DataW.atKey, List.find?, Lit.sameKey]
theorem at9 (zd : DataW Unit) : (Rows.laid_marline_ether_sessions : DataW Unit).atKey (.int .u8 9) zd = .agg [.lit (.bool true), .lit (.bool false)] := by
 simp [Rows.laid_marline_ether_sessions, DataW.atKey, List.find?, Lit.sameKey]
theorem sess_of {W : World} {cs : Array Value} {fuel : Nat} {p : List MemPlace} (hv : W.var? Tryd.prog "marline/ether.sessions" = some cs) (hd : DataW.trod (fun _ => ()) Tryd.prog W 0 (fun _ => true) false fuel 96 cs.toList = some (Rows.laid_marline_ether_sessions, p)) : Hw.GS W := by
 rcases open_map Tryd.underlying96 hd with ⟨_, hx⟩ | ⟨bm, es, clock, m, rfl, hcs, hb, _, F, hx⟩
 · simp [Rows.laid_marline_ether_sessions] at hx
 simp only [Prod.mk.injEq] at hx
 have hcell : W.cell? ⟨0, 0, none⟩ = some (.map (some bm)) := by
  have := World.var?_cell gSess hv 0
  rw [Array.eq_one_of_toList hcs] at this
  simpa using this
 have look : ∀ (k : Int) (a b : Bool), keyOf Tryd.prog 5 (.int .u8 k) = some (.int .u8 k) → (∀ zd : DataW Unit, (Rows.laid_marline_ether_sessions : DataW Unit).atKey (.int .u8 k) zd = .agg [.lit (.bool a), .lit (.bool b)]) →
  ∀ W' : World, W'.heap[bm]? = some (.map es clock) → (Instr.lookup 96 (.map (some bm)) (.int .u8 k) true).run Tryd.prog W' = .ok (.tuple #[.agg #[.bool a, .bool b], .bool true]) W' := by
  intro k a b hkey hl W' hb'
  have zero : (zeroValue 94).run Tryd.prog W' = .ok (.agg #[.bool false, .bool false]) W' := by kernel_rfl
  have e1 : ∀ zd : DataW Unit, (Rows.laid_marline_ether_sessions : DataW Unit).atKey (.int .u8 k) zd = (DataW.map ((es.toList.map (rg Tryd.prog 5 _)).foldr DataW.insert [])).atKey (.int .u8 k) zd := fun zd => by rw [hx.1]
  rcases Maps.fit_look true (Maps.int_keyed Tryd.underlying5) Tryd.underlying96 zero hb' F hkey with ⟨_, _, hat⟩ | ⟨e0, y, _, _, hrun, hRv, hat, _⟩
  · have h1 := hat .nil
    rw [← e1, hl] at h1
    cases h1
  · have h1 := hat .nil
    rw [← e1, hl] at h1
    obtain ⟨a', b', hv', hz'⟩ := elem_bools Tryd.underlying94 rfl rfl Tryd.underlying4 Tryd.underlying4 (by kernel_rfl) (by kernel_rfl) (by kernel_rfl) hRv
    rw [hz'] at h1
    simp only [DataW.agg.injEq, List.cons.injEq, DataW.lit.injEq, Lit.bool.injEq, and_true] at h1
    obtain ⟨rfl, rfl⟩ := h1
    rw [hrun, hv']
    rfl
 exact ⟨bm, es, clock, hcell, hb, look 9 true false (Maps.keyOf_int_mk Tryd.underlying5 (by decide)) at9, look 0 false true (Maps.keyOf_int_mk Tryd.underlying5 (by decide)) at0⟩
theorem of_laid {W : World} (h : laidMetH Tryd.prog laid1 W) : Hw.GE W := by
 rw [MakeChecks.laidMetH_plain _ _ _ (by kernel_rfl)] at h
 obtain ⟨ps, ⟨g0, t0, cs0, f0, p0, q0, _, _, _, _, ⟨g1, t1, cs1, f1, p1, q1, hg1, ht1, hv1, hd1, ⟨g2, t2, cs2, f2, p2, q2, hg2, ht2, hv2, hd2, _, _⟩, _⟩, _⟩, _, _⟩ := h
 obtain rfl := Option.some.inj (gAddr.symm.trans hg1)
 obtain rfl := Option.some.inj (tAddr.symm.trans ht1)
 obtain rfl := Option.some.inj (gSess.symm.trans hg2)
 obtain rfl := Option.some.inj (tSess.symm.trans ht2)
 exact ⟨addr_of hv1 hd1, sess_of hv2 hd2⟩
end Go.Proofs.YteanncchmenlkaaDoor.Gl
namespace Go.Proofs.YteanncchmenlkaaDoor.etherAnswers
open Go.ChangeShapes Go.WideShapes Go.ChangeAt Go.RowKit
open Go.ChangeMaps (open_string shut_string)
set_option linter.unusedVariables false
theorem own : ownKnob Tryd.prog.godebug = none := by kernel_rfl
open Go.Proofs.YteanncchmenlkaaDoorW.PrintWords Go.Proofs.YteanncchmenlkaaDoor.Print
set_option maxRecDepth 100000 in
theorem opens_85 {H : Type} {enc : TypeId × Value → H} {w : World} : XRow.Opens enc Tryd.prog w 85 k85 (fun x_ => ((Lit.int .u16 x_.f0).wf = true ∧ ((x_.f1.length ≤ 9223372036854775807 ∧ x_.f1.length * 1 ≤ 140737488351232) ∧ ∀ y0_ ∈ x_.f1, (Lit.int .u8 y0_).wf = true))) := by
 intro fuel cs x hx hz
 obtain ⟨xs, n, _, rfl, hl, hlen, hf⟩ := DataW.trod_struct Tryd.underlying85 hx
 replace hl : cs.length = 2 := hl.trans (by kernel_rfl)
 replace hlen : xs.length = 2 := hlen
 obtain ⟨a0, k0_, w0⟩ := ((XRow.opens_int Tryd.underlying22) : XRow.Opens enc Tryd.prog w 22 (Kd.int .u16) (fun y_ => (Lit.int .u16 y_).wf = true)) n _ _ ((hf 0 _ rfl).trans (List.getElem?_eq_getElem (show 0 < xs.length by omega))) (XRow.field_weights Tryd.underlying85 hz (j := 0) rfl (List.getElem?_eq_getElem (show 0 < xs.length by omega)))
 replace k0_ : (Kd.int .u16).K w a0 ((cs.drop 0).take (Tryd.prog.cellsOf 22)) := k0_
 rw [show Tryd.prog.cellsOf 22 = 1 from by kernel_rfl] at k0_
 obtain ⟨a1, k1_, w1⟩ := ((XRow.opens_slice (d := (Kd.int .u8)) (wf := fun y_ => (Lit.int .u8 y_).wf = true) Tryd.underlying24 (by kernel_rfl) (B := 1) (by kernel_rfl) (XRow.opens_int Tryd.underlying5)) : XRow.Opens enc Tryd.prog w 24 (Kd.slice 5 (Kd.int .u8)) (fun y_ => ((y_.length ≤ 9223372036854775807 ∧ y_.length * 1 ≤ 140737488351232) ∧ ∀ y0_ ∈ y_, (Lit.int .u8 y0_).wf = true))) n _ _ ((hf 1 _ rfl).trans (List.getElem?_eq_getElem (show 1 < xs.length by omega))) (XRow.field_weights Tryd.underlying85 hz (j := 1) rfl (List.getElem?_eq_getElem (show 1 < xs.length by omega)))
 replace k1_ : (Kd.slice 5 (Kd.int .u8)).K w a1 ((cs.drop 1).take (Tryd.prog.cellsOf 24)) := k1_
 rw [show Tryd.prog.cellsOf 24 = 1 from by kernel_rfl] at k1_
 rw [← XRow.seg_last (cs := cs) (o := 1) (s := 1) (by omega)] at k1_
 exact ⟨⟨a0, a1⟩, (show (Kd.pair (Kd.int .u16) (Kd.slice 5 (Kd.int .u8))).K w (a0, a1) cs from ⟨_, _, XRow.seg cs 0 1, k0_, k1_⟩), ⟨w0, w1⟩⟩
set_option maxRecDepth 100000 in
theorem opens_105 {H : Type} {enc : TypeId × Value → H} {w : World} : XRow.Opens enc Tryd.prog w 105 k105 (fun x_ => ((Lit.int .u8 x_.f0).wf = true ∧ ((x_.f1.length ≤ 9223372036854775807 ∧ x_.f1.length * 1 ≤ 140737488351232) ∧ ∀ y0_ ∈ x_.f1, (Lit.int .u8 y0_).wf = true))) := by
 intro fuel cs x hx hz
 obtain ⟨xs, n, _, rfl, hl, hlen, hf⟩ := DataW.trod_struct Tryd.underlying105 hx
 replace hl : cs.length = 2 := hl.trans (by kernel_rfl)
 replace hlen : xs.length = 2 := hlen
 obtain ⟨a0, k0_, w0⟩ := ((XRow.opens_int Tryd.underlying5) : XRow.Opens enc Tryd.prog w 5 (Kd.int .u8) (fun y_ => (Lit.int .u8 y_).wf = true)) n _ _ ((hf 0 _ rfl).trans (List.getElem?_eq_getElem (show 0 < xs.length by omega))) (XRow.field_weights Tryd.underlying105 hz (j := 0) rfl (List.getElem?_eq_getElem (show 0 < xs.length by omega)))
 replace k0_ : (Kd.int .u8).K w a0 ((cs.drop 0).take (Tryd.prog.cellsOf 5)) := k0_
 rw [show Tryd.prog.cellsOf 5 = 1 from by kernel_rfl] at k0_
 obtain ⟨a1, k1_, w1⟩ := ((XRow.opens_slice (d := (Kd.int .u8)) (wf := fun y_ => (Lit.int .u8 y_).wf = true) Tryd.underlying24 (by kernel_rfl) (B := 1) (by kernel_rfl) (XRow.opens_int Tryd.underlying5)) : XRow.Opens enc Tryd.prog w 24 (Kd.slice 5 (Kd.int .u8)) (fun y_ => ((y_.length ≤ 9223372036854775807 ∧ y_.length * 1 ≤ 140737488351232) ∧ ∀ y0_ ∈ y_, (Lit.int .u8 y0_).wf = true))) n _ _ ((hf 1 _ rfl).trans (List.getElem?_eq_getElem (show 1 < xs.length by omega))) (XRow.field_weights Tryd.underlying105 hz (j := 1) rfl (List.getElem?_eq_getElem (show 1 < xs.length by omega)))
 replace k1_ : (Kd.slice 5 (Kd.int .u8)).K w a1 ((cs.drop 1).take (Tryd.prog.cellsOf 24)) := k1_
 rw [show Tryd.prog.cellsOf 24 = 1 from by kernel_rfl] at k1_
 rw [← XRow.seg_last (cs := cs) (o := 1) (s := 1) (by omega)] at k1_
 exact ⟨⟨a0, a1⟩, (show (Kd.pair (Kd.int .u8) (Kd.slice 5 (Kd.int .u8))).K w (a0, a1) cs from ⟨_, _, XRow.seg cs 0 1, k0_, k1_⟩), ⟨w0, w1⟩⟩
set_option maxRecDepth 100000 in
theorem opens_42 {H : Type} {enc : TypeId × Value → H} {w : World} : XRow.Opens enc Tryd.prog w 42 k42 (fun x_ => ((Lit.int .u16 x_.f0).wf = true ∧ (Lit.int .u8 x_.f1).wf = true ∧ (Lit.int .u8 x_.f2).wf = true ∧ ((x_.f3.length ≤ 9223372036854775807 ∧ x_.f3.length * 32 ≤ 140737488351232) ∧ ∀ y0_ ∈ x_.f3, ((Lit.int .u8 y0_.f0).wf = true ∧ ((y0_.f1.length ≤ 9223372036854775807 ∧ y0_.f1.length * 1 ≤ 140737488351232) ∧ ∀ y1_ ∈ y0_.f1, (Lit.int .u8 y1_).wf = true))) ∧ (Lit.int .u16 x_.f4).wf = true ∧ (Lit.int .u32 x_.f5).wf = true ∧ ((x_.f6.length ≤ 9223372036854775807 ∧ x_.f6.length * 1 ≤ 140737488351232) ∧ ∀ y0_ ∈ x_.f6, (Lit.int .u8 y0_).wf = true) ∧ ((x_.f7.length ≤ 9223372036854775807 ∧ x_.f7.length * 1 ≤ 140737488351232) ∧ ∀ y0_ ∈ x_.f7, (Lit.int .u8 y0_).wf = true) ∧ ((x_.f8.length ≤ 9223372036854775807 ∧ x_.f8.length * 1 ≤ 140737488351232) ∧ ∀ y0_ ∈ x_.f8, (Lit.int .u8 y0_).wf = true) ∧ ((x_.f9.length ≤ 9223372036854775807 ∧ x_.f9.length * 4 ≤ 140737488351232) ∧ ∀ y0_ ∈ x_.f9, (Lit.int .u32 y0_).wf = true))) := by
 intro fuel cs x hx hz
 obtain ⟨xs, n, _, rfl, hl, hlen, hf⟩ := DataW.trod_struct Tryd.underlying42 hx
 replace hl : cs.length = 10 := hl.trans (by kernel_rfl)
 replace hlen : xs.length = 10 := hlen
 obtain ⟨a0, k0_, w0⟩ := ((XRow.opens_int Tryd.underlying22) : XRow.Opens enc Tryd.prog w 22 (Kd.int .u16) (fun y_ => (Lit.int .u16 y_).wf = true)) n _ _ ((hf 0 _ rfl).trans (List.getElem?_eq_getElem (show 0 < xs.length by omega))) (XRow.field_weights Tryd.underlying42 hz (j := 0) rfl (List.getElem?_eq_getElem (show 0 < xs.length by omega)))
 replace k0_ : (Kd.int .u16).K w a0 ((cs.drop 0).take (Tryd.prog.cellsOf 22)) := k0_
 rw [show Tryd.prog.cellsOf 22 = 1 from by kernel_rfl] at k0_
 obtain ⟨a1, k1_, w1⟩ := ((XRow.opens_int Tryd.underlying5) : XRow.Opens enc Tryd.prog w 5 (Kd.int .u8) (fun y_ => (Lit.int .u8 y_).wf = true)) n _ _ ((hf 1 _ rfl).trans (List.getElem?_eq_getElem (show 1 < xs.length by omega))) (XRow.field_weights Tryd.underlying42 hz (j := 1) rfl (List.getElem?_eq_getElem (show 1 < xs.length by omega)))
 replace k1_ : (Kd.int .u8).K w a1 ((cs.drop 1).take (Tryd.prog.cellsOf 5)) := k1_
 rw [show Tryd.prog.cellsOf 5 = 1 from by kernel_rfl] at k1_
 obtain ⟨a2, k2_, w2⟩ := ((XRow.opens_int Tryd.underlying5) : XRow.Opens enc Tryd.prog w 5 (Kd.int .u8) (fun y_ => (Lit.int .u8 y_).wf = true)) n _ _ ((hf 2 _ rfl).trans (List.getElem?_eq_getElem (show 2 < xs.length by omega))) (XRow.field_weights Tryd.underlying42 hz (j := 2) rfl (List.getElem?_eq_getElem (show 2 < xs.length by omega)))
 replace k2_ : (Kd.int .u8).K w a2 ((cs.drop 2).take (Tryd.prog.cellsOf 5)) := k2_
 rw [show Tryd.prog.cellsOf 5 = 1 from by kernel_rfl] at k2_
 obtain ⟨a3, k3_, w3⟩ := ((XRow.opens_slice (d := k105) (wf := fun y_ => ((Lit.int .u8 y_.f0).wf = true ∧ ((y_.f1.length ≤ 9223372036854775807 ∧ y_.f1.length * 1 ≤ 140737488351232) ∧ ∀ y0_ ∈ y_.f1, (Lit.int .u8 y0_).wf = true))) Tryd.underlying40 (by kernel_rfl) (B := 32) (by kernel_rfl) opens_105) : XRow.Opens enc Tryd.prog w 40 (Kd.slice 105 k105) (fun y_ => ((y_.length ≤ 9223372036854775807 ∧ y_.length * 32 ≤ 140737488351232) ∧ ∀ y0_ ∈ y_, ((Lit.int .u8 y0_.f0).wf = true ∧ ((y0_.f1.length ≤ 9223372036854775807 ∧ y0_.f1.length * 1 ≤ 140737488351232) ∧ ∀ y1_ ∈ y0_.f1, (Lit.int .u8 y1_).wf = true))))) n _ _ ((hf 3 _ rfl).trans (List.getElem?_eq_getElem (show 3 < xs.length by omega))) (XRow.field_weights Tryd.underlying42 hz (j := 3) rfl (List.getElem?_eq_getElem (show 3 < xs.length by omega)))
 replace k3_ : (Kd.slice 105 k105).K w a3 ((cs.drop 3).take (Tryd.prog.cellsOf 40)) := k3_
 rw [show Tryd.prog.cellsOf 40 = 1 from by kernel_rfl] at k3_
 obtain ⟨a4, k4_, w4⟩ := ((XRow.opens_int Tryd.underlying22) : XRow.Opens enc Tryd.prog w 22 (Kd.int .u16) (fun y_ => (Lit.int .u16 y_).wf = true)) n _ _ ((hf 4 _ rfl).trans (List.getElem?_eq_getElem (show 4 < xs.length by omega))) (XRow.field_weights Tryd.underlying42 hz (j := 4) rfl (List.getElem?_eq_getElem (show 4 < xs.length by omega)))
 replace k4_ : (Kd.int .u16).K w a4 ((cs.drop 4).take (Tryd.prog.cellsOf 22)) := k4_
 rw [show Tryd.prog.cellsOf 22 = 1 from by kernel_rfl] at k4_
 obtain ⟨a5, k5_, w5⟩ := ((XRow.opens_int Tryd.underlying26) : XRow.Opens enc Tryd.prog w 26 (Kd.int .u32) (fun y_ => (Lit.int .u32 y_).wf = true)) n _ _ ((hf 5 _ rfl).trans (List.getElem?_eq_getElem (show 5 < xs.length by omega))) (XRow.field_weights Tryd.underlying42 hz (j := 5) rfl (List.getElem?_eq_getElem (show 5 < xs.length by omega)))
 replace k5_ : (Kd.int .u32).K w a5 ((cs.drop 5).take (Tryd.prog.cellsOf 26)) := k5_
 rw [show Tryd.prog.cellsOf 26 = 1 from by kernel_rfl] at k5_
 obtain ⟨a6, k6_, w6⟩ := ((XRow.opens_slice (d := (Kd.int .u8)) (wf := fun y_ => (Lit.int .u8 y_).wf = true) Tryd.underlying24 (by kernel_rfl) (B := 1) (by kernel_rfl) (XRow.opens_int Tryd.underlying5)) : XRow.Opens enc Tryd.prog w 24 (Kd.slice 5 (Kd.int .u8)) (fun y_ => ((y_.length ≤ 9223372036854775807 ∧ y_.length * 1 ≤ 140737488351232) ∧ ∀ y0_ ∈ y_, (Lit.int .u8 y0_).wf = true))) n _ _ ((hf 6 _ rfl).trans (List.getElem?_eq_getElem (show 6 < xs.length by omega))) (XRow.field_weights Tryd.underlying42 hz (j := 6) rfl (List.getElem?_eq_getElem (show 6 < xs.length by omega)))
 replace k6_ : (Kd.slice 5 (Kd.int .u8)).K w a6 ((cs.drop 6).take (Tryd.prog.cellsOf 24)) := k6_
 rw [show Tryd.prog.cellsOf 24 = 1 from by kernel_rfl] at k6_
 obtain ⟨a7, k7_, w7⟩ := ((XRow.opens_slice (d := (Kd.int .u8)) (wf := fun y_ => (Lit.int .u8 y_).wf = true) Tryd.underlying24 (by kernel_rfl) (B := 1) (by kernel_rfl) (XRow.opens_int Tryd.underlying5)) : XRow.Opens enc Tryd.prog w 24 (Kd.slice 5 (Kd.int .u8)) (fun y_ => ((y_.length ≤ 9223372036854775807 ∧ y_.length * 1 ≤ 140737488351232) ∧ ∀ y0_ ∈ y_, (Lit.int .u8 y0_).wf = true))) n _ _ ((hf 7 _ rfl).trans (List.getElem?_eq_getElem (show 7 < xs.length by omega))) (XRow.field_weights Tryd.underlying42 hz (j := 7) rfl (List.getElem?_eq_getElem (show 7 < xs.length by omega)))
 replace k7_ : (Kd.slice 5 (Kd.int .u8)).K w a7 ((cs.drop 7).take (Tryd.prog.cellsOf 24)) := k7_
 rw [show Tryd.prog.cellsOf 24 = 1 from by kernel_rfl] at k7_
 obtain ⟨a8, k8_, w8⟩ := ((XRow.opens_slice (d := (Kd.int .u8)) (wf := fun y_ => (Lit.int .u8 y_).wf = true) Tryd.underlying24 (by kernel_rfl) (B := 1) (by kernel_rfl) (XRow.opens_int Tryd.underlying5)) : XRow.Opens enc Tryd.prog w 24 (Kd.slice 5 (Kd.int .u8)) (fun y_ => ((y_.length ≤ 9223372036854775807 ∧ y_.length * 1 ≤ 140737488351232) ∧ ∀ y0_ ∈ y_, (Lit.int .u8 y0_).wf = true))) n _ _ ((hf 8 _ rfl).trans (List.getElem?_eq_getElem (show 8 < xs.length by omega))) (XRow.field_weights Tryd.underlying42 hz (j := 8) rfl (List.getElem?_eq_getElem (show 8 < xs.length by omega)))
 replace k8_ : (Kd.slice 5 (Kd.int .u8)).K w a8 ((cs.drop 8).take (Tryd.prog.cellsOf 24)) := k8_
 rw [show Tryd.prog.cellsOf 24 = 1 from by kernel_rfl] at k8_
 obtain ⟨a9, k9_, w9⟩ := ((XRow.opens_slice (d := (Kd.int .u32)) (wf := fun y_ => (Lit.int .u32 y_).wf = true) Tryd.underlying27 (by kernel_rfl) (B := 4) (by kernel_rfl) (XRow.opens_int Tryd.underlying26)) : XRow.Opens enc Tryd.prog w 27 (Kd.slice 26 (Kd.int .u32)) (fun y_ => ((y_.length ≤ 9223372036854775807 ∧ y_.length * 4 ≤ 140737488351232) ∧ ∀ y0_ ∈ y_, (Lit.int .u32 y0_).wf = true))) n _ _ ((hf 9 _ rfl).trans (List.getElem?_eq_getElem (show 9 < xs.length by omega))) (XRow.field_weights Tryd.underlying42 hz (j := 9) rfl (List.getElem?_eq_getElem (show 9 < xs.length by omega)))
 replace k9_ : (Kd.slice 26 (Kd.int .u32)).K w a9 ((cs.drop 9).take (Tryd.prog.cellsOf 27)) := k9_
 rw [show Tryd.prog.cellsOf 27 = 1 from by kernel_rfl] at k9_
 rw [← XRow.seg_last (cs := cs) (o := 9) (s := 1) (by omega)] at k9_
 exact ⟨⟨a0, a1, a2, a3, a4, a5, a6, a7, a8, a9⟩, (show (Kd.pair (Kd.int .u16) (Kd.pair (Kd.int .u8) (Kd.pair (Kd.int .u8) (Kd.pair (Kd.slice 105 k105) (Kd.pair (Kd.int .u16) (Kd.pair (Kd.int .u32) (Kd.pair (Kd.slice 5 (Kd.int .u8)) (Kd.pair (Kd.slice 5 (Kd.int .u8)) (Kd.pair (Kd.slice 5 (Kd.int .u8)) (Kd.slice 26 (Kd.int .u32))))))))))).K w (a0, a1, a2, a3, a4, a5, a6, a7, a8, a9) cs from ⟨_, _, XRow.seg cs 0 1, k0_, ⟨_, _, XRow.seg cs 1 1, k1_, ⟨_, _, XRow.seg cs 2 1, k2_, ⟨_, _, XRow.seg cs 3 1, k3_, ⟨_, _, XRow.seg cs 4 1, k4_, ⟨_, _, XRow.seg cs 5 1, k5_, ⟨_, _, XRow.seg cs 6 1, k6_, ⟨_, _, XRow.seg cs 7 1, k7_, ⟨_, _, XRow.seg cs 8 1, k8_, k9_⟩⟩⟩⟩⟩⟩⟩⟩⟩), ⟨w0, w1, w2, w3, w4, w5, w6, w7, w8, w9⟩⟩
set_option maxRecDepth 100000 in
theorem opens_44 {H : Type} {enc : TypeId × Value → H} {w : World} : XRow.Opens enc Tryd.prog w 44 k44 (fun x_ => ((Lit.int .u8 x_.f0).wf = true ∧ (Lit.int .u16 x_.f1).wf = true ∧ ((x_.f2.length ≤ 9223372036854775807 ∧ x_.f2.length * 32 ≤ 140737488351232) ∧ ∀ y0_ ∈ x_.f2, ((Lit.int .u16 y0_.f0).wf = true ∧ ((y0_.f1.length ≤ 9223372036854775807 ∧ y0_.f1.length * 1 ≤ 140737488351232) ∧ ∀ y1_ ∈ y0_.f1, (Lit.int .u8 y1_).wf = true))) ∧ ((Lit.int .u16 x_.f3.f0).wf = true ∧ (Lit.int .u8 x_.f3.f1).wf = true ∧ (Lit.int .u8 x_.f3.f2).wf = true ∧ ((x_.f3.f3.length ≤ 9223372036854775807 ∧ x_.f3.f3.length * 32 ≤ 140737488351232) ∧ ∀ y0_ ∈ x_.f3.f3, ((Lit.int .u8 y0_.f0).wf = true ∧ ((y0_.f1.length ≤ 9223372036854775807 ∧ y0_.f1.length * 1 ≤ 140737488351232) ∧ ∀ y1_ ∈ y0_.f1, (Lit.int .u8 y1_).wf = true))) ∧ (Lit.int .u16 x_.f3.f4).wf = true ∧ (Lit.int .u32 x_.f3.f5).wf = true ∧ ((x_.f3.f6.length ≤ 9223372036854775807 ∧ x_.f3.f6.length * 1 ≤ 140737488351232) ∧ ∀ y0_ ∈ x_.f3.f6, (Lit.int .u8 y0_).wf = true) ∧ ((x_.f3.f7.length ≤ 9223372036854775807 ∧ x_.f3.f7.length * 1 ≤ 140737488351232) ∧ ∀ y0_ ∈ x_.f3.f7, (Lit.int .u8 y0_).wf = true) ∧ ((x_.f3.f8.length ≤ 9223372036854775807 ∧ x_.f3.f8.length * 1 ≤ 140737488351232) ∧ ∀ y0_ ∈ x_.f3.f8, (Lit.int .u8 y0_).wf = true) ∧ ((x_.f3.f9.length ≤ 9223372036854775807 ∧ x_.f3.f9.length * 4 ≤ 140737488351232) ∧ ∀ y0_ ∈ x_.f3.f9, (Lit.int .u32 y0_).wf = true)))) := by
 intro fuel cs x hx hz
 obtain ⟨xs, n, _, rfl, hl, hlen, hf⟩ := DataW.trod_struct Tryd.underlying44 hx
 replace hl : cs.length = 13 := hl.trans (by kernel_rfl)
 replace hlen : xs.length = 4 := hlen
 obtain ⟨a0, k0_, w0⟩ := ((XRow.opens_int Tryd.underlying5) : XRow.Opens enc Tryd.prog w 5 (Kd.int .u8) (fun y_ => (Lit.int .u8 y_).wf = true)) n _ _ ((hf 0 _ rfl).trans (List.getElem?_eq_getElem (show 0 < xs.length by omega))) (XRow.field_weights Tryd.underlying44 hz (j := 0) rfl (List.getElem?_eq_getElem (show 0 < xs.length by omega)))
 replace k0_ : (Kd.int .u8).K w a0 ((cs.drop 0).take (Tryd.prog.cellsOf 5)) := k0_
 rw [show Tryd.prog.cellsOf 5 = 1 from by kernel_rfl] at k0_
 obtain ⟨a1, k1_, w1⟩ := ((XRow.opens_int Tryd.underlying22) : XRow.Opens enc Tryd.prog w 22 (Kd.int .u16) (fun y_ => (Lit.int .u16 y_).wf = true)) n _ _ ((hf 1 _ rfl).trans (List.getElem?_eq_getElem (show 1 < xs.length by omega))) (XRow.field_weights Tryd.underlying44 hz (j := 1) rfl (List.getElem?_eq_getElem (show 1 < xs.length by omega)))
 replace k1_ : (Kd.int .u16).K w a1 ((cs.drop 1).take (Tryd.prog.cellsOf 22)) := k1_
 rw [show Tryd.prog.cellsOf 22 = 1 from by kernel_rfl] at k1_
 obtain ⟨a2, k2_, w2⟩ := ((XRow.opens_slice (d := k85) (wf := fun y_ => ((Lit.int .u16 y_.f0).wf = true ∧ ((y_.f1.length ≤ 9223372036854775807 ∧ y_.f1.length * 1 ≤ 140737488351232) ∧ ∀ y0_ ∈ y_.f1, (Lit.int .u8 y0_).wf = true))) Tryd.underlying39 (by kernel_rfl) (B := 32) (by kernel_rfl) opens_85) : XRow.Opens enc Tryd.prog w 39 (Kd.slice 85 k85) (fun y_ => ((y_.length ≤ 9223372036854775807 ∧ y_.length * 32 ≤ 140737488351232) ∧ ∀ y0_ ∈ y_, ((Lit.int .u16 y0_.f0).wf = true ∧ ((y0_.f1.length ≤ 9223372036854775807 ∧ y0_.f1.length * 1 ≤ 140737488351232) ∧ ∀ y1_ ∈ y0_.f1, (Lit.int .u8 y1_).wf = true))))) n _ _ ((hf 2 _ rfl).trans (List.getElem?_eq_getElem (show 2 < xs.length by omega))) (XRow.field_weights Tryd.underlying44 hz (j := 2) rfl (List.getElem?_eq_getElem (show 2 < xs.length by omega)))
 replace k2_ : (Kd.slice 85 k85).K w a2 ((cs.drop 2).take (Tryd.prog.cellsOf 39)) := k2_
 rw [show Tryd.prog.cellsOf 39 = 1 from by kernel_rfl] at k2_
 obtain ⟨a3, k3_, w3⟩ := (opens_42 : XRow.Opens enc Tryd.prog w 42 k42 (fun y_ => ((Lit.int .u16 y_.f0).wf = true ∧ (Lit.int .u8 y_.f1).wf = true ∧ (Lit.int .u8 y_.f2).wf = true ∧ ((y_.f3.length ≤ 9223372036854775807 ∧ y_.f3.length * 32 ≤ 140737488351232) ∧ ∀ y0_ ∈ y_.f3, ((Lit.int .u8 y0_.f0).wf = true ∧ ((y0_.f1.length ≤ 9223372036854775807 ∧ y0_.f1.length * 1 ≤ 140737488351232) ∧ ∀ y1_ ∈ y0_.f1, (Lit.int .u8 y1_).wf = true))) ∧ (Lit.int .u16 y_.f4).wf = true ∧ (Lit.int .u32 y_.f5).wf = true ∧ ((y_.f6.length ≤ 9223372036854775807 ∧ y_.f6.length * 1 ≤ 140737488351232) ∧ ∀ y0_ ∈ y_.f6, (Lit.int .u8 y0_).wf = true) ∧ ((y_.f7.length ≤ 9223372036854775807 ∧ y_.f7.length * 1 ≤ 140737488351232) ∧ ∀ y0_ ∈ y_.f7, (Lit.int .u8 y0_).wf = true) ∧ ((y_.f8.length ≤ 9223372036854775807 ∧ y_.f8.length * 1 ≤ 140737488351232) ∧ ∀ y0_ ∈ y_.f8, (Lit.int .u8 y0_).wf = true) ∧ ((y_.f9.length ≤ 9223372036854775807 ∧ y_.f9.length * 4 ≤ 140737488351232) ∧ ∀ y0_ ∈ y_.f9, (Lit.int .u32 y0_).wf = true)))) n _ _ ((hf 3 _ rfl).trans (List.getElem?_eq_getElem (show 3 < xs.length by omega))) (XRow.field_weights Tryd.underlying44 hz (j := 3) rfl (List.getElem?_eq_getElem (show 3 < xs.length by omega)))
 replace k3_ : k42.K w a3 ((cs.drop 3).take (Tryd.prog.cellsOf 42)) := k3_
 rw [show Tryd.prog.cellsOf 42 = 10 from by kernel_rfl] at k3_
 rw [← XRow.seg_last (cs := cs) (o := 3) (s := 10) (by omega)] at k3_
 exact ⟨⟨a0, a1, a2, a3⟩, (show (Kd.pair (Kd.int .u8) (Kd.pair (Kd.int .u16) (Kd.pair (Kd.slice 85 k85) k42))).K w (a0, a1, a2, a3) cs from ⟨_, _, XRow.seg cs 0 1, k0_, ⟨_, _, XRow.seg cs 1 1, k1_, ⟨_, _, XRow.seg cs 2 1, k2_, k3_⟩⟩⟩), ⟨w0, w1, w2, w3⟩⟩
theorem laidOut : laidOutB Tryd.prog = true := by kernel_rfl
set_option maxRecDepth 100000 in
theorem lifted (os : Os) (started : os.Started) (H : Type) (enc : TypeId × Value → H) :
    ReturnsInHanded {} Tryd.checked os 4 .any (fun w args => (Rows.etherAnswersSpec.pre enc Tryd.prog Tryd.f4 [] false w args ∧ laidMetH Tryd.prog Gl.laid1 w) ∧ sizedMet enc Tryd.prog Tryd.f4 (OpenSpec.ofChange Rows.etherAnswersSpec) false w args) (Rows.etherAnswersSpec.post enc Tryd.prog Tryd.f4 false true false false) := by
  refine returnsInHanded_of_change_and (C := Tryd.checked) (X := fun w _ => laidMetH Tryd.prog Gl.laid1 w) (fun _ _ _ hh h => h.of_heap hh) own started (by kernel_rfl) Tryd.func4
    (ChangeSpec.witness_shaped (enc := enc) (C := Tryd.checked) (os := os) (X := fun w _ => laidMetH Tryd.prog Gl.laid1 w) false (World.doorLaid Tryd.prog 400 os) #[.agg #[.int .u8 0, .int .u16 0, .slice none 0 0, .int .u16 0, .int .u8 0, .int .u8 0, .slice none 0 0, .int .u16 0, .int .u32 0, .slice none 0 0, .slice none 0 0, .slice none 0 0, .slice none 0 0], .agg #[.int .u8 0, .int .u16 0, .slice none 0 0, .int .u16 0, .int .u8 0, .int .u8 0, .slice none 0 0, .int .u16 0, .int .u32 0, .slice none 0 0, .slice none 0 0, .slice none 0 0, .slice none 0 0], .slice none 0 0, .slice none 0 0] 8 rfl (World.shaped_of_RefB (by kernel_rfl) (by kernel_rfl)) (by kernel_rfl) (by kernel_rfl) (by kernel_rfl) (Gl.door_met os _)) ?_
  intro W base args ds gs before hval0 hW hcnd hsz0 hL_ _
  have hGL_ := Gl.of_laid hL_
  have hsz : (DataW.weightsEach Tryd.prog (Tryd.f4.params.toList ++ Rows.etherAnswersSpec.plain.varTypes Tryd.prog) (ds ++ gs)).all (· ≤ reachBytes) = true := hsz0
  have hval : ∀ (j : Nat) t v, Tryd.f4.params[j]? = some t → args[j]? = some v → Value.okWide Tryd.prog W .any base t v := hval0
  have hW' := hW
  obtain ⟨p, q, hA0, hV, rfl, hfz, hnd⟩ := hW
  have hA : DataW.TrodAll enc Tryd.prog W 0 (fun _ => true) true Tryd.f4.params.toList args.toList ds p := hA0
  rw [Tryd.params4] at hA hval hsz
  obtain ⟨v0, vs0, d0, ds0, p0, q0, hargs, rfl, rfl, h0, r0⟩ := trodAll_cons hA
  obtain ⟨v1, vs1, d1, ds1, p1, q1, rfl, rfl, rfl, h1, r1⟩ := trodAll_cons r0
  obtain ⟨v2, vs2, d2, ds2, p2, q2, rfl, rfl, rfl, h2, r2⟩ := trodAll_cons r1
  obtain ⟨v3, vs3, d3, ds3, p3, q3, rfl, rfl, rfl, h3, r3⟩ := trodAll_cons r2
  obtain ⟨rfl, rfl, rfl⟩ := trodAll_nil r3
  obtain rfl : args = #[v0, v1, v2, v3] := by cases args; simp_all
  obtain ⟨rfl, rfl⟩ := trodVars_none hV
  have k0 := h0
  have lt0 : ∀ x ∈ p0, x.block < W.heap.size := by obtain ⟨m, hm⟩ := k0; exact DataW.trod_lt m _ _ _ hm
  obtain ⟨fuel0, hf0⟩ := h0
  obtain ⟨z0, hz0, wz0⟩ := (opens_44 : XRow.Opens enc Tryd.prog W 44 k44 (fun y_ => ((Lit.int .u8 y_.f0).wf = true ∧ (Lit.int .u16 y_.f1).wf = true ∧ ((y_.f2.length ≤ 9223372036854775807 ∧ y_.f2.length * 32 ≤ 140737488351232) ∧ ∀ y0_ ∈ y_.f2, ((Lit.int .u16 y0_.f0).wf = true ∧ ((y0_.f1.length ≤ 9223372036854775807 ∧ y0_.f1.length * 1 ≤ 140737488351232) ∧ ∀ y1_ ∈ y0_.f1, (Lit.int .u8 y1_).wf = true))) ∧ ((Lit.int .u16 y_.f3.f0).wf = true ∧ (Lit.int .u8 y_.f3.f1).wf = true ∧ (Lit.int .u8 y_.f3.f2).wf = true ∧ ((y_.f3.f3.length ≤ 9223372036854775807 ∧ y_.f3.f3.length * 32 ≤ 140737488351232) ∧ ∀ y0_ ∈ y_.f3.f3, ((Lit.int .u8 y0_.f0).wf = true ∧ ((y0_.f1.length ≤ 9223372036854775807 ∧ y0_.f1.length * 1 ≤ 140737488351232) ∧ ∀ y1_ ∈ y0_.f1, (Lit.int .u8 y1_).wf = true))) ∧ (Lit.int .u16 y_.f3.f4).wf = true ∧ (Lit.int .u32 y_.f3.f5).wf = true ∧ ((y_.f3.f6.length ≤ 9223372036854775807 ∧ y_.f3.f6.length * 1 ≤ 140737488351232) ∧ ∀ y0_ ∈ y_.f3.f6, (Lit.int .u8 y0_).wf = true) ∧ ((y_.f3.f7.length ≤ 9223372036854775807 ∧ y_.f3.f7.length * 1 ≤ 140737488351232) ∧ ∀ y0_ ∈ y_.f3.f7, (Lit.int .u8 y0_).wf = true) ∧ ((y_.f3.f8.length ≤ 9223372036854775807 ∧ y_.f3.f8.length * 1 ≤ 140737488351232) ∧ ∀ y0_ ∈ y_.f3.f8, (Lit.int .u8 y0_).wf = true) ∧ ((y_.f3.f9.length ≤ 9223372036854775807 ∧ y_.f3.f9.length * 4 ≤ 140737488351232) ∧ ∀ y0_ ∈ y_.f3.f9, (Lit.int .u32 y0_).wf = true))))) fuel0 _ _ hf0 (XRow.arg_weights hsz (j := 0) rfl rfl)
  obtain ⟨cs0, rfl, _⟩ := okWide_struct Tryd.underlying44 (hval 0 44 v0 rfl rfl)
  obtain ⟨A0_2, c0_2, A0_6, c0_6, A0_9, c0_9, A0_10, c0_10, A0_11, c0_11, A0_12, c0_12, he0, hc0_2, hr0_2, hc0_6, hr0_6, hc0_9, hr0_9, hc0_10, hr0_10, hc0_11, hr0_11, hc0_12, hr0_12⟩ := k44_open hz0
  obtain rfl : cs0 = #[.int .u8 z0.f0, .int .u16 z0.f1, .slice A0_2 z0.f2.length c0_2, .int .u16 z0.f3.f0, .int .u8 z0.f3.f1, .int .u8 z0.f3.f2, .slice A0_6 z0.f3.f3.length c0_6, .int .u16 z0.f3.f4, .int .u32 z0.f3.f5, .slice A0_9 z0.f3.f6.length c0_9, .slice A0_10 z0.f3.f7.length c0_10, .slice A0_11 z0.f3.f8.length c0_11, .slice A0_12 z0.f3.f9.length c0_12] := Array.ext' he0
  have k1 := h1
  have lt1 : ∀ x ∈ p1, x.block < W.heap.size := by obtain ⟨m, hm⟩ := k1; exact DataW.trod_lt m _ _ _ hm
  obtain ⟨fuel1, hf1⟩ := h1
  obtain ⟨z1, hz1, wz1⟩ := (opens_44 : XRow.Opens enc Tryd.prog W 44 k44 (fun y_ => ((Lit.int .u8 y_.f0).wf = true ∧ (Lit.int .u16 y_.f1).wf = true ∧ ((y_.f2.length ≤ 9223372036854775807 ∧ y_.f2.length * 32 ≤ 140737488351232) ∧ ∀ y0_ ∈ y_.f2, ((Lit.int .u16 y0_.f0).wf = true ∧ ((y0_.f1.length ≤ 9223372036854775807 ∧ y0_.f1.length * 1 ≤ 140737488351232) ∧ ∀ y1_ ∈ y0_.f1, (Lit.int .u8 y1_).wf = true))) ∧ ((Lit.int .u16 y_.f3.f0).wf = true ∧ (Lit.int .u8 y_.f3.f1).wf = true ∧ (Lit.int .u8 y_.f3.f2).wf = true ∧ ((y_.f3.f3.length ≤ 9223372036854775807 ∧ y_.f3.f3.length * 32 ≤ 140737488351232) ∧ ∀ y0_ ∈ y_.f3.f3, ((Lit.int .u8 y0_.f0).wf = true ∧ ((y0_.f1.length ≤ 9223372036854775807 ∧ y0_.f1.length * 1 ≤ 140737488351232) ∧ ∀ y1_ ∈ y0_.f1, (Lit.int .u8 y1_).wf = true))) ∧ (Lit.int .u16 y_.f3.f4).wf = true ∧ (Lit.int .u32 y_.f3.f5).wf = true ∧ ((y_.f3.f6.length ≤ 9223372036854775807 ∧ y_.f3.f6.length * 1 ≤ 140737488351232) ∧ ∀ y0_ ∈ y_.f3.f6, (Lit.int .u8 y0_).wf = true) ∧ ((y_.f3.f7.length ≤ 9223372036854775807 ∧ y_.f3.f7.length * 1 ≤ 140737488351232) ∧ ∀ y0_ ∈ y_.f3.f7, (Lit.int .u8 y0_).wf = true) ∧ ((y_.f3.f8.length ≤ 9223372036854775807 ∧ y_.f3.f8.length * 1 ≤ 140737488351232) ∧ ∀ y0_ ∈ y_.f3.f8, (Lit.int .u8 y0_).wf = true) ∧ ((y_.f3.f9.length ≤ 9223372036854775807 ∧ y_.f3.f9.length * 4 ≤ 140737488351232) ∧ ∀ y0_ ∈ y_.f3.f9, (Lit.int .u32 y0_).wf = true))))) fuel1 _ _ hf1 (XRow.arg_weights hsz (j := 1) rfl rfl)
  obtain ⟨cs1, rfl, _⟩ := okWide_struct Tryd.underlying44 (hval 1 44 v1 rfl rfl)
  obtain ⟨A1_2, c1_2, A1_6, c1_6, A1_9, c1_9, A1_10, c1_10, A1_11, c1_11, A1_12, c1_12, he1, hc1_2, hr1_2, hc1_6, hr1_6, hc1_9, hr1_9, hc1_10, hr1_10, hc1_11, hr1_11, hc1_12, hr1_12⟩ := k44_open hz1
  obtain rfl : cs1 = #[.int .u8 z1.f0, .int .u16 z1.f1, .slice A1_2 z1.f2.length c1_2, .int .u16 z1.f3.f0, .int .u8 z1.f3.f1, .int .u8 z1.f3.f2, .slice A1_6 z1.f3.f3.length c1_6, .int .u16 z1.f3.f4, .int .u32 z1.f3.f5, .slice A1_9 z1.f3.f6.length c1_9, .slice A1_10 z1.f3.f7.length c1_10, .slice A1_11 z1.f3.f8.length c1_11, .slice A1_12 z1.f3.f9.length c1_12] := Array.ext' he1
  obtain ⟨a2, len2, cap2, rfl⟩ := okWide_slice Tryd.underlying24 (hval 2 24 v2 rfl rfl)
  have k2 := h2
  have lt2 : ∀ x ∈ p2, x.block < W.heap.size := by obtain ⟨m, hm⟩ := k2; exact DataW.trod_lt m _ _ _ hm
  obtain ⟨fuel2, hf2⟩ := h2
  have y2 : len2 * 1 ≤ 140737488351232 := Go.Proofs.YteanncchmenlkaaDoorW.PrintWords.sized_ints hsz (j := 2) (t := 24) rfl rfl Tryd.underlying24 Tryd.underlying5 (by kernel_rfl) (by kernel_rfl) ⟨fuel2, hf2⟩
  obtain ⟨z2, hz2, wz2⟩ := ((XRow.opens_slice (d := (Kd.int .u8)) (wf := fun y_ => (Lit.int .u8 y_).wf = true) Tryd.underlying24 (by kernel_rfl) (B := 1) (by kernel_rfl) (XRow.opens_int Tryd.underlying5)) : XRow.Opens enc Tryd.prog W 24 (Kd.slice 5 (Kd.int .u8)) (fun y_ => ((y_.length ≤ 9223372036854775807 ∧ y_.length * 1 ≤ 140737488351232) ∧ ∀ y0_ ∈ y_, (Lit.int .u8 y0_).wf = true))) fuel2 _ _ hf2 (XRow.arg_weights hsz (j := 2) rfl rfl)
  obtain ⟨A2, c2, he2, hc2, hr2⟩ := hz2
  simp only [Value.cells] at he2
  obtain ⟨rfl, rfl, rfl⟩ : a2 = A2 ∧ len2 = z2.length ∧ cap2 = c2 := by injection he2 with he _; injection he with h1 h2 h3; exact ⟨h1, h2, h3⟩
  obtain ⟨a3, len3, cap3, rfl⟩ := okWide_slice Tryd.underlying24 (hval 3 24 v3 rfl rfl)
  have k3 := h3
  have lt3 : ∀ x ∈ p3, x.block < W.heap.size := by obtain ⟨m, hm⟩ := k3; exact DataW.trod_lt m _ _ _ hm
  obtain ⟨fuel3, hf3⟩ := h3
  have y3 : len3 * 1 ≤ 140737488351232 := Go.Proofs.YteanncchmenlkaaDoorW.PrintWords.sized_ints hsz (j := 3) (t := 24) rfl rfl Tryd.underlying24 Tryd.underlying5 (by kernel_rfl) (by kernel_rfl) ⟨fuel3, hf3⟩
  obtain ⟨z3, hz3, wz3⟩ := ((XRow.opens_slice (d := (Kd.int .u8)) (wf := fun y_ => (Lit.int .u8 y_).wf = true) Tryd.underlying24 (by kernel_rfl) (B := 1) (by kernel_rfl) (XRow.opens_int Tryd.underlying5)) : XRow.Opens enc Tryd.prog W 24 (Kd.slice 5 (Kd.int .u8)) (fun y_ => ((y_.length ≤ 9223372036854775807 ∧ y_.length * 1 ≤ 140737488351232) ∧ ∀ y0_ ∈ y_, (Lit.int .u8 y0_).wf = true))) fuel3 _ _ hf3 (XRow.arg_weights hsz (j := 3) rfl rfl)
  obtain ⟨A3, c3, he3, hc3, hr3⟩ := hz3
  simp only [Value.cells] at he3
  obtain ⟨rfl, rfl, rfl⟩ : a3 = A3 ∧ len3 = z3.length ∧ cap3 = c3 := by injection he3 with he _; injection he with h1 h2 h3; exact ⟨h1, h2, h3⟩
  clear hA0 hval0 hsz0 hsz
  refine (Hw.eans_walk z0.f0 z0.f1 _ _ z0.f2 z0.f3.f0 z0.f3.f1 z0.f3.f2 _ _ z0.f3.f3 z0.f3.f4 z0.f3.f5 _ _ z0.f3.f6 _ _ z0.f3.f7 _ _ z0.f3.f8 _ _ z0.f3.f9 z1.f0 z1.f1 _ _ z1.f2 z1.f3.f0 z1.f3.f1 z1.f3.f2 _ _ z1.f3.f3 z1.f3.f4 z1.f3.f5 _ _ z1.f3.f6 _ _ z1.f3.f7 _ _ z1.f3.f8 _ _ z1.f3.f9 _ _ z2 _ _ z3 W hGL_ wz0.1 wz0.2.1 hr0_2 hc0_2 wz0.2.2.1 wz0.2.2.2.1 wz0.2.2.2.2.1 wz0.2.2.2.2.2.1 hr0_6 hc0_6 wz0.2.2.2.2.2.2.1 wz0.2.2.2.2.2.2.2.1 wz0.2.2.2.2.2.2.2.2.1 hr0_9 hc0_9 wz0.2.2.2.2.2.2.2.2.2.1 hr0_10 hc0_10 wz0.2.2.2.2.2.2.2.2.2.2.1 hr0_11 hc0_11 wz0.2.2.2.2.2.2.2.2.2.2.2.1 hr0_12 hc0_12 wz0.2.2.2.2.2.2.2.2.2.2.2.2 wz1.1 wz1.2.1 hr1_2 hc1_2 wz1.2.2.1 wz1.2.2.2.1 wz1.2.2.2.2.1 wz1.2.2.2.2.2.1 hr1_6 hc1_6 wz1.2.2.2.2.2.2.1 wz1.2.2.2.2.2.2.2.1 wz1.2.2.2.2.2.2.2.2.1 hr1_9 hc1_9 wz1.2.2.2.2.2.2.2.2.2.1 hr1_10 hc1_10 wz1.2.2.2.2.2.2.2.2.2.2.1 hr1_11 hc1_11 wz1.2.2.2.2.2.2.2.2.2.2.2.1 hr1_12 hc1_12 wz1.2.2.2.2.2.2.2.2.2.2.2.2 hr2 hc2 (by simpa [maxLen] using wz2.1.1) (by simpa using wz2.1.2) wz2.2 hr3 hc3 (by simpa [maxLen] using wz3.1.1) (by simpa using wz3.1.2) wz3.2).mono fun e W' ⟨he, bel⟩ => ?_
  subst he
  exact ⟨_, rfl, _, _, _, [], _, [], hW', trodAll_mk1 (shut_bool Tryd.underlying4 _), (trodAll_cons_mk (Below.trod laidOut (by kernel_rfl) (of_decide_eq_true (by kernel_rfl)) k0 bel lt0) (trodAll_cons_mk (Below.trod laidOut (by kernel_rfl) (of_decide_eq_true (by kernel_rfl)) k1 bel lt1) (trodAll_cons_mk (Below.trod laidOut (by kernel_rfl) (of_decide_eq_true (by kernel_rfl)) k2 bel lt2) (trodAll_cons_mk (Below.trod laidOut (by kernel_rfl) (of_decide_eq_true (by kernel_rfl)) k3 bel lt3) trodAll_mk0)))), rfl, bel.frame _, fun h => by cases h⟩
set_option maxRecDepth 100000 in
theorem lifted_time (os : Os) (started : os.Started) (H : Type) (enc : TypeId × Value → H) (Fi : Stop.Interp) :
    ReturnsInHanded { calm := true } Tryd.checked os 4 .any (fun w args => (Rows.etherAnswersSpec.pre enc Tryd.prog Tryd.f4 [] false w args ∧ laidMetH Tryd.prog Gl.laid1 w) ∧ sizedMet enc Tryd.prog Tryd.f4 (OpenSpec.ofChange Rows.etherAnswersSpec) false w args) ((OpenSpec.ofChange Rows.etherAnswersSpec).postWith enc Tryd.prog Tryd.f4 Fi (outsideKept [.timePasses]) false true false) := by
  refine Clock.returns_of_change (C := Tryd.checked) (X := fun w _ => laidMetH Tryd.prog Gl.laid1 w) (fun _ _ _ hh h => h.of_heap hh) own started (by kernel_rfl) Tryd.func4
    (Clock.witness_at (enc := enc) (C := Tryd.checked) (os := os) (apart := false) (X := fun w _ => laidMetH Tryd.prog Gl.laid1 w) (World.doorLaid Tryd.prog 400 os) #[.agg #[.int .u8 0, .int .u16 0, .slice none 0 0, .int .u16 0, .int .u8 0, .int .u8 0, .slice none 0 0, .int .u16 0, .int .u32 0, .slice none 0 0, .slice none 0 0, .slice none 0 0, .slice none 0 0], .agg #[.int .u8 0, .int .u16 0, .slice none 0 0, .int .u16 0, .int .u8 0, .int .u8 0, .slice none 0 0, .int .u16 0, .int .u32 0, .slice none 0 0, .slice none 0 0, .slice none 0 0, .slice none 0 0], .slice none 0 0, .slice none 0 0] 8 rfl (World.shaped_of_RefB (by kernel_rfl) (by kernel_rfl)) (by kernel_rfl) (by kernel_rfl) (by kernel_rfl) (Gl.door_met os _)) ?_
  intro W base args ds gs before hval0 hW hcnd hsz0 hL_ _
  have hGL_ := Gl.of_laid hL_
  have hsz : (DataW.weightsEach Tryd.prog (Tryd.f4.params.toList ++ Rows.etherAnswersSpec.plain.varTypes Tryd.prog) (ds ++ gs)).all (· ≤ reachBytes) = true := hsz0
  have hval : ∀ (j : Nat) t v, Tryd.f4.params[j]? = some t → args[j]? = some v → Value.okWide Tryd.prog W .any base t v := hval0
  have hW' := hW
  obtain ⟨p, q, hA0, hV, rfl, hfz, hnd⟩ := hW
  have hA : DataW.TrodAll enc Tryd.prog W 0 (fun _ => true) true Tryd.f4.params.toList args.toList ds p := hA0
  rw [Tryd.params4] at hA hval hsz
  obtain ⟨v0, vs0, d0, ds0, p0, q0, hargs, rfl, rfl, h0, r0⟩ := trodAll_cons hA
  obtain ⟨v1, vs1, d1, ds1, p1, q1, rfl, rfl, rfl, h1, r1⟩ := trodAll_cons r0
  obtain ⟨v2, vs2, d2, ds2, p2, q2, rfl, rfl, rfl, h2, r2⟩ := trodAll_cons r1
  obtain ⟨v3, vs3, d3, ds3, p3, q3, rfl, rfl, rfl, h3, r3⟩ := trodAll_cons r2
  obtain ⟨rfl, rfl, rfl⟩ := trodAll_nil r3
  obtain rfl : args = #[v0, v1, v2, v3] := by cases args; simp_all
  obtain ⟨rfl, rfl⟩ := trodVars_none hV
  have k0 := h0
  have lt0 : ∀ x ∈ p0, x.block < W.heap.size := by obtain ⟨m, hm⟩ := k0; exact DataW.trod_lt m _ _ _ hm
  obtain ⟨fuel0, hf0⟩ := h0
  obtain ⟨z0, hz0, wz0⟩ := (opens_44 : XRow.Opens enc Tryd.prog W 44 k44 (fun y_ => ((Lit.int .u8 y_.f0).wf = true ∧ (Lit.int .u16 y_.f1).wf = true ∧ ((y_.f2.length ≤ 9223372036854775807 ∧ y_.f2.length * 32 ≤ 140737488351232) ∧ ∀ y0_ ∈ y_.f2, ((Lit.int .u16 y0_.f0).wf = true ∧ ((y0_.f1.length ≤ 9223372036854775807 ∧ y0_.f1.length * 1 ≤ 140737488351232) ∧ ∀ y1_ ∈ y0_.f1, (Lit.int .u8 y1_).wf = true))) ∧ ((Lit.int .u16 y_.f3.f0).wf = true ∧ (Lit.int .u8 y_.f3.f1).wf = true ∧ (Lit.int .u8 y_.f3.f2).wf = true ∧ ((y_.f3.f3.length ≤ 9223372036854775807 ∧ y_.f3.f3.length * 32 ≤ 140737488351232) ∧ ∀ y0_ ∈ y_.f3.f3, ((Lit.int .u8 y0_.f0).wf = true ∧ ((y0_.f1.length ≤ 9223372036854775807 ∧ y0_.f1.length * 1 ≤ 140737488351232) ∧ ∀ y1_ ∈ y0_.f1, (Lit.int .u8 y1_).wf = true))) ∧ (Lit.int .u16 y_.f3.f4).wf = true ∧ (Lit.int .u32 y_.f3.f5).wf = true ∧ ((y_.f3.f6.length ≤ 9223372036854775807 ∧ y_.f3.f6.length * 1 ≤ 140737488351232) ∧ ∀ y0_ ∈ y_.f3.f6, (Lit.int .u8 y0_).wf = true) ∧ ((y_.f3.f7.length ≤ 9223372036854775807 ∧ y_.f3.f7.length * 1 ≤ 140737488351232) ∧ ∀ y0_ ∈ y_.f3.f7, (Lit.int .u8 y0_).wf = true) ∧ ((y_.f3.f8.length ≤ 9223372036854775807 ∧ y_.f3.f8.length * 1 ≤ 140737488351232) ∧ ∀ y0_ ∈ y_.f3.f8, (Lit.int .u8 y0_).wf = true) ∧ ((y_.f3.f9.length ≤ 9223372036854775807 ∧ y_.f3.f9.length * 4 ≤ 140737488351232) ∧ ∀ y0_ ∈ y_.f3.f9, (Lit.int .u32 y0_).wf = true))))) fuel0 _ _ hf0 (XRow.arg_weights hsz (j := 0) rfl rfl)
  obtain ⟨cs0, rfl, _⟩ := okWide_struct Tryd.underlying44 (hval 0 44 v0 rfl rfl)
  obtain ⟨A0_2, c0_2, A0_6, c0_6, A0_9, c0_9, A0_10, c0_10, A0_11, c0_11, A0_12, c0_12, he0, hc0_2, hr0_2, hc0_6, hr0_6, hc0_9, hr0_9, hc0_10, hr0_10, hc0_11, hr0_11, hc0_12, hr0_12⟩ := k44_open hz0
  obtain rfl : cs0 = #[.int .u8 z0.f0, .int .u16 z0.f1, .slice A0_2 z0.f2.length c0_2, .int .u16 z0.f3.f0, .int .u8 z0.f3.f1, .int .u8 z0.f3.f2, .slice A0_6 z0.f3.f3.length c0_6, .int .u16 z0.f3.f4, .int .u32 z0.f3.f5, .slice A0_9 z0.f3.f6.length c0_9, .slice A0_10 z0.f3.f7.length c0_10, .slice A0_11 z0.f3.f8.length c0_11, .slice A0_12 z0.f3.f9.length c0_12] := Array.ext' he0
  have k1 := h1
  have lt1 : ∀ x ∈ p1, x.block < W.heap.size := by obtain ⟨m, hm⟩ := k1; exact DataW.trod_lt m _ _ _ hm
  obtain ⟨fuel1, hf1⟩ := h1
  obtain ⟨z1, hz1, wz1⟩ := (opens_44 : XRow.Opens enc Tryd.prog W 44 k44 (fun y_ => ((Lit.int .u8 y_.f0).wf = true ∧ (Lit.int .u16 y_.f1).wf = true ∧ ((y_.f2.length ≤ 9223372036854775807 ∧ y_.f2.length * 32 ≤ 140737488351232) ∧ ∀ y0_ ∈ y_.f2, ((Lit.int .u16 y0_.f0).wf = true ∧ ((y0_.f1.length ≤ 9223372036854775807 ∧ y0_.f1.length * 1 ≤ 140737488351232) ∧ ∀ y1_ ∈ y0_.f1, (Lit.int .u8 y1_).wf = true))) ∧ ((Lit.int .u16 y_.f3.f0).wf = true ∧ (Lit.int .u8 y_.f3.f1).wf = true ∧ (Lit.int .u8 y_.f3.f2).wf = true ∧ ((y_.f3.f3.length ≤ 9223372036854775807 ∧ y_.f3.f3.length * 32 ≤ 140737488351232) ∧ ∀ y0_ ∈ y_.f3.f3, ((Lit.int .u8 y0_.f0).wf = true ∧ ((y0_.f1.length ≤ 9223372036854775807 ∧ y0_.f1.length * 1 ≤ 140737488351232) ∧ ∀ y1_ ∈ y0_.f1, (Lit.int .u8 y1_).wf = true))) ∧ (Lit.int .u16 y_.f3.f4).wf = true ∧ (Lit.int .u32 y_.f3.f5).wf = true ∧ ((y_.f3.f6.length ≤ 9223372036854775807 ∧ y_.f3.f6.length * 1 ≤ 140737488351232) ∧ ∀ y0_ ∈ y_.f3.f6, (Lit.int .u8 y0_).wf = true) ∧ ((y_.f3.f7.length ≤ 9223372036854775807 ∧ y_.f3.f7.length * 1 ≤ 140737488351232) ∧ ∀ y0_ ∈ y_.f3.f7, (Lit.int .u8 y0_).wf = true) ∧ ((y_.f3.f8.length ≤ 9223372036854775807 ∧ y_.f3.f8.length * 1 ≤ 140737488351232) ∧ ∀ y0_ ∈ y_.f3.f8, (Lit.int .u8 y0_).wf = true) ∧ ((y_.f3.f9.length ≤ 9223372036854775807 ∧ y_.f3.f9.length * 4 ≤ 140737488351232) ∧ ∀ y0_ ∈ y_.f3.f9, (Lit.int .u32 y0_).wf = true))))) fuel1 _ _ hf1 (XRow.arg_weights hsz (j := 1) rfl rfl)
  obtain ⟨cs1, rfl, _⟩ := okWide_struct Tryd.underlying44 (hval 1 44 v1 rfl rfl)
  obtain ⟨A1_2, c1_2, A1_6, c1_6, A1_9, c1_9, A1_10, c1_10, A1_11, c1_11, A1_12, c1_12, he1, hc1_2, hr1_2, hc1_6, hr1_6, hc1_9, hr1_9, hc1_10, hr1_10, hc1_11, hr1_11, hc1_12, hr1_12⟩ := k44_open hz1
  obtain rfl : cs1 = #[.int .u8 z1.f0, .int .u16 z1.f1, .slice A1_2 z1.f2.length c1_2, .int .u16 z1.f3.f0, .int .u8 z1.f3.f1, .int .u8 z1.f3.f2, .slice A1_6 z1.f3.f3.length c1_6, .int .u16 z1.f3.f4, .int .u32 z1.f3.f5, .slice A1_9 z1.f3.f6.length c1_9, .slice A1_10 z1.f3.f7.length c1_10, .slice A1_11 z1.f3.f8.length c1_11, .slice A1_12 z1.f3.f9.length c1_12] := Array.ext' he1
  obtain ⟨a2, len2, cap2, rfl⟩ := okWide_slice Tryd.underlying24 (hval 2 24 v2 rfl rfl)
  have k2 := h2
  have lt2 : ∀ x ∈ p2, x.block < W.heap.size := by obtain ⟨m, hm⟩ := k2; exact DataW.trod_lt m _ _ _ hm
  obtain ⟨fuel2, hf2⟩ := h2
  have y2 : len2 * 1 ≤ 140737488351232 := Go.Proofs.YteanncchmenlkaaDoorW.PrintWords.sized_ints hsz (j := 2) (t := 24) rfl rfl Tryd.underlying24 Tryd.underlying5 (by kernel_rfl) (by kernel_rfl) ⟨fuel2, hf2⟩
  obtain ⟨z2, hz2, wz2⟩ := ((XRow.opens_slice (d := (Kd.int .u8)) (wf := fun y_ => (Lit.int .u8 y_).wf = true) Tryd.underlying24 (by kernel_rfl) (B := 1) (by kernel_rfl) (XRow.opens_int Tryd.underlying5)) : XRow.Opens enc Tryd.prog W 24 (Kd.slice 5 (Kd.int .u8)) (fun y_ => ((y_.length ≤ 9223372036854775807 ∧ y_.length * 1 ≤ 140737488351232) ∧ ∀ y0_ ∈ y_, (Lit.int .u8 y0_).wf = true))) fuel2 _ _ hf2 (XRow.arg_weights hsz (j := 2) rfl rfl)
  obtain ⟨A2, c2, he2, hc2, hr2⟩ := hz2
  simp only [Value.cells] at he2
  obtain ⟨rfl, rfl, rfl⟩ : a2 = A2 ∧ len2 = z2.length ∧ cap2 = c2 := by injection he2 with he _; injection he with h1 h2 h3; exact ⟨h1, h2, h3⟩
  obtain ⟨a3, len3, cap3, rfl⟩ := okWide_slice Tryd.underlying24 (hval 3 24 v3 rfl rfl)
  have k3 := h3
  have lt3 : ∀ x ∈ p3, x.block < W.heap.size := by obtain ⟨m, hm⟩ := k3; exact DataW.trod_lt m _ _ _ hm
  obtain ⟨fuel3, hf3⟩ := h3
  have y3 : len3 * 1 ≤ 140737488351232 := Go.Proofs.YteanncchmenlkaaDoorW.PrintWords.sized_ints hsz (j := 3) (t := 24) rfl rfl Tryd.underlying24 Tryd.underlying5 (by kernel_rfl) (by kernel_rfl) ⟨fuel3, hf3⟩
  obtain ⟨z3, hz3, wz3⟩ := ((XRow.opens_slice (d := (Kd.int .u8)) (wf := fun y_ => (Lit.int .u8 y_).wf = true) Tryd.underlying24 (by kernel_rfl) (B := 1) (by kernel_rfl) (XRow.opens_int Tryd.underlying5)) : XRow.Opens enc Tryd.prog W 24 (Kd.slice 5 (Kd.int .u8)) (fun y_ => ((y_.length ≤ 9223372036854775807 ∧ y_.length * 1 ≤ 140737488351232) ∧ ∀ y0_ ∈ y_, (Lit.int .u8 y0_).wf = true))) fuel3 _ _ hf3 (XRow.arg_weights hsz (j := 3) rfl rfl)
  obtain ⟨A3, c3, he3, hc3, hr3⟩ := hz3
  simp only [Value.cells] at he3
  obtain ⟨rfl, rfl, rfl⟩ : a3 = A3 ∧ len3 = z3.length ∧ cap3 = c3 := by injection he3 with he _; injection he with h1 h2 h3; exact ⟨h1, h2, h3⟩
  clear hA0 hval0 hsz0 hsz
  refine (Hw.eans_walk z0.f0 z0.f1 _ _ z0.f2 z0.f3.f0 z0.f3.f1 z0.f3.f2 _ _ z0.f3.f3 z0.f3.f4 z0.f3.f5 _ _ z0.f3.f6 _ _ z0.f3.f7 _ _ z0.f3.f8 _ _ z0.f3.f9 z1.f0 z1.f1 _ _ z1.f2 z1.f3.f0 z1.f3.f1 z1.f3.f2 _ _ z1.f3.f3 z1.f3.f4 z1.f3.f5 _ _ z1.f3.f6 _ _ z1.f3.f7 _ _ z1.f3.f8 _ _ z1.f3.f9 _ _ z2 _ _ z3 W hGL_ wz0.1 wz0.2.1 hr0_2 hc0_2 wz0.2.2.1 wz0.2.2.2.1 wz0.2.2.2.2.1 wz0.2.2.2.2.2.1 hr0_6 hc0_6 wz0.2.2.2.2.2.2.1 wz0.2.2.2.2.2.2.2.1 wz0.2.2.2.2.2.2.2.2.1 hr0_9 hc0_9 wz0.2.2.2.2.2.2.2.2.2.1 hr0_10 hc0_10 wz0.2.2.2.2.2.2.2.2.2.2.1 hr0_11 hc0_11 wz0.2.2.2.2.2.2.2.2.2.2.2.1 hr0_12 hc0_12 wz0.2.2.2.2.2.2.2.2.2.2.2.2 wz1.1 wz1.2.1 hr1_2 hc1_2 wz1.2.2.1 wz1.2.2.2.1 wz1.2.2.2.2.1 wz1.2.2.2.2.2.1 hr1_6 hc1_6 wz1.2.2.2.2.2.2.1 wz1.2.2.2.2.2.2.2.1 wz1.2.2.2.2.2.2.2.2.1 hr1_9 hc1_9 wz1.2.2.2.2.2.2.2.2.2.1 hr1_10 hc1_10 wz1.2.2.2.2.2.2.2.2.2.2.1 hr1_11 hc1_11 wz1.2.2.2.2.2.2.2.2.2.2.2.1 hr1_12 hc1_12 wz1.2.2.2.2.2.2.2.2.2.2.2.2 hr2 hc2 (by simpa [maxLen] using wz2.1.1) (by simpa using wz2.1.2) wz2.2 hr3 hc3 (by simpa [maxLen] using wz3.1.1) (by simpa using wz3.1.2) wz3.2).mono fun e W' ⟨he, bel⟩ => ?_
  subst he
  have bel2 := (Clock.Since.of_below bel).2
  exact ⟨_, rfl, ⟨_, _, _, [], _, [], hW', trodAll_mk1 (shut_bool Tryd.underlying4 _), (trodAll_cons_mk (Below.trod laidOut (by kernel_rfl) (of_decide_eq_true (by kernel_rfl)) k0 bel2 lt0) (trodAll_cons_mk (Below.trod laidOut (by kernel_rfl) (of_decide_eq_true (by kernel_rfl)) k1 bel2 lt1) (trodAll_cons_mk (Below.trod laidOut (by kernel_rfl) (of_decide_eq_true (by kernel_rfl)) k2 bel2 lt2) (trodAll_cons_mk (Below.trod laidOut (by kernel_rfl) (of_decide_eq_true (by kernel_rfl)) k3 bel2 lt3) trodAll_mk0)))), rfl, bel2.frame _, fun h => by cases h⟩, (Clock.Since.of_below bel).1⟩
theorem over : Rows.etherAnswersRow.holds Tryd.pinned (OpenSpec.ofChange Rows.etherAnswersSpec) := by
  first
    | exact OpenClaim.holds_of_wide 4 Tryd.f4 rfl rfl rfl rfl rfl rfl rfl ⟨rfl, rfl, rfl, rfl, rfl⟩ rfl rfl rfl rfl rfl (by kernel_rfl) Tryd.func4 (by kernel_rfl)
        (of_decide_eq_true (by kernel_rfl)) (by unfold Func.isWrapper; first | (rw [if_pos (by decide +kernel)]; kernel_rfl) | (rw [if_neg (by decide +kernel)]; exact ⟨rfl, rfl⟩))
        (fun os started H enc _ => lifted os started H enc)
    | exact Clock.holds_of_wide_time 4 Tryd.f4 rfl rfl rfl rfl rfl rfl rfl ⟨rfl, rfl, rfl, rfl, rfl⟩ rfl rfl rfl rfl rfl (by kernel_rfl) Tryd.func4 (by kernel_rfl)
        (of_decide_eq_true (by kernel_rfl)) (by unfold Func.isWrapper; first | (rw [if_pos (by decide +kernel)]; kernel_rfl) | (rw [if_neg (by decide +kernel)]; exact ⟨rfl, rfl⟩))
        (fun os started H enc _ Fi => lifted_time os started H enc Fi)
theorem proved : Rows.EtherAnswersSaid := over
set_option maxRecDepth 100000 in
theorem carded : Claim7.holds Tryd.pinned (.plain (OpenSpec.ofChange Rows.etherAnswersSpec)) Rows.etherAnswersCard :=
 Claim7.holds_tied_plain_at .later [] [.data, .mapped, .mapped] true (true, "14916c14080374356588a93fac026ecfb55c4aa4397416de4fabaff4a539f4c6") false
  proved (fun _ h => by cases h) (by kernel_rfl) (fun _ h => by cases h) etherAnswers_row_tie rfl ⟨rfl, rfl⟩ (by kernel_rfl) rfl
  (fun f fn hf hfn => by
   obtain rfl : f = 4 := Option.some.inj ((show Tryd.prog.funcNamed "marline/marlinelaw22.EtherAnswers" = some 4 by kernel_rfl).symm.trans hf) |>.symm
   obtain rfl : fn = Tryd.f4 := (Option.some.inj (Tryd.func4.symm.trans hfn)).symm
   exact ⟨by kernel_rfl, fun j t ht => by
    rw [Tryd.params4] at ht
    have hm : t ∈ [44, 44, 24, 24] := by simpa using Array.mem_of_getElem? ht
    have hall : ([44, 44, 24, 24].all fun u => !Tryd.prog.wantsStandIn u) = true := by kernel_rfl
    exact (show Tryd.prog.wantsStandIn t = false by simpa using List.all_eq_true.1 hall t hm)⟩)
  (by kernel_rfl)
end Go.Proofs.YteanncchmenlkaaDoor.etherAnswers
namespace Go.Proofs.YteanncchmenlkaaDoor
theorem etherAnswers_card_holds : Rows.EtherAnswersCardSaid := etherAnswers.carded
end Go.Proofs.YteanncchmenlkaaDoor
