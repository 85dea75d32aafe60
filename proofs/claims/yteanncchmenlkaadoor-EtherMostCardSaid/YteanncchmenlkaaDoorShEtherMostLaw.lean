/- Proved: marline/marlinelaw22.EtherMost returns true for every input that finds its tables as the program's text lays them, and each argument reads behind the call as it read before; and the card that ties the tables to the text (the given statement EtherMostCardSaid). No condition beyond the card's own. The row is proved in either form: with the premises on the clock or without them; no walk looks at the clock. -/
import Derived.Test.YteanncchmenlkaaDoorRows
import Derived.ChangeSame
import Derived.ProofKit
import Derived.LaidMore
import Derived.OpenShut
import Derived.Stop.Joined
import Derived.Clock
import Derived.Test.YteanncchmenlkaaDoorCards
import Derived.Test.YteanncchmenlkaaDoorTie
import Derived.SevenTiedAt
import Derived.WalkKit
import Derived.ShutString
import Derived.ChangeOld
import Derived.Below
import Derived.SizedLaws
import Derived.Test.YteanncchmenlkaaDoorShEtherMost3
import Derived.Test.YteanncchmenlkaaDoorShEtherMost4
import Derived.Test.YteanncchmenlkaaDoorShEtherMost5
namespace Go.Proofs.YteanncchmenlkaaDoor.Gl
open Go.ChangeShapes Go.WideShapes Go.ChangeAt Go.WideMaps Go.WideElems Go.RowKit Go.Proofs.YteanncchmenlkaaDoor.Print
set_option maxRecDepth 100000
set_option linter.unusedVariables false
abbrev laid1 : List (String × DataW Unit) := [("marline/opts.all", Rows.laid_marline_opts_all), ("marline/ncp.addresses", Rows.laid_marline_ncp_addresses), ("marline/ether.sessions", Rows.laid_marline_ether_sessions)]
theorem gAddr : Tryd.prog.globalNamed "marline/ncp.addresses" = some 1 := by kernel_rfl
theorem tAddr : (Tryd.prog.globals[1]?).map (·.type) = some 132 := by kernel_rfl
theorem door_met (os : Os) (args : Array Value) : laidMetH Tryd.prog laid1 ((World.doorLaid Tryd.prog 400 os).forCall (fun _ _ => 0) ⟨#[], args, []⟩).memory :=
 laidMetH_of_parts3 (fuel := 8) (laidMet_of_run' 8 (by kernel_rfl) (by kernel_rfl)) (by kernel_rfl) (by kernel_rfl)
theorem at33 (zd : DataW Unit) : (Rows.laid_marline_ncp_addresses : DataW Unit).atKey (.int .u16 33) zd = zd := by
 simp [Rows.laid_marline_ncp_addresses, DataW.atKey, List.find?, Lit.sameKey]
theorem addr_of {W : World} {cs : Array Value} {fuel : Nat} {p : List MemPlace} (hv : W.var? Tryd.prog "marline/ncp.addresses" = some cs) (hd : DataW.trod (fun _ => ()) Tryd.prog W 0 (fun _ => true) false fuel 132 cs.toList = some (Rows.laid_marline_ncp_addresses, p)) : Hw.GA W := by
 rcases open_map Tryd.underlying132 hd with ⟨_, hx⟩ | ⟨bm, es, clock, m, rfl, hcs, hb, _, F, hx⟩
 · simp [Rows.laid_marline_ncp_addresses] at hx
 simp only [Prod.mk.injEq] at hx
 have hcell : W.cell? ⟨1, 0, none⟩ = some (.map (some bm)) := by
  have := World.var?_cell gAddr hv 0
  rw [Array.eq_one_of_toList hcs] at this
  simpa using this
 refine ⟨bm, es, clock, hcell, hb, fun W' hb' => ?_⟩
 have zero : (zeroValue 5).run Tryd.prog W' = .ok (.int .u8 0) W' := by kernel_rfl
 have hkey : keyOf Tryd.prog 22 (.int .u16 33) = some (.int .u16 33) := Maps.keyOf_int_mk Tryd.underlying22 (by decide)
 have e1 : ∀ zd : DataW Unit, (Rows.laid_marline_ncp_addresses : DataW Unit).atKey (.int .u16 33) zd = (DataW.map ((es.toList.map (rg Tryd.prog 22 _)).foldr DataW.insert [])).atKey (.int .u16 33) zd := fun zd => by rw [hx.1]
 rcases Maps.fit_look true (Maps.int_keyed Tryd.underlying22) Tryd.underlying132 zero hb' F hkey with ⟨hrun, _, hat⟩ | ⟨e0, y, _, _, hrun, hRv, hat, _⟩
 · exact hrun
 · have h1 := hat .nil
   rw [← e1, at33] at h1
   have h2 := hat (.lit (.bool true))
   rw [← e1, at33] at h2
   rw [← h1] at h2
   cases h2
theorem gSess : Tryd.prog.globalNamed "marline/ether.sessions" = some 0 := by kernel_rfl
theorem tSess : (Tryd.prog.globals[0]?).map (·.type) = some 96 := by kernel_rfl
theorem elem_bools {H : Type} {enc : TypeId × Value → H} {P : Program} {base : Nat} {held : Bool} {e : TypeId} {f0 f1 : Field} (he : P.underlying e = some (.struct #[f0, f1])) (o0 : f0.offset = 0) (o1 : f1.offset = 1) (h0 : P.underlying f0.type = some .bool) (h1 : P.underlying f1.type = some .bool) (c0 : P.cellsOf f0.type = 1) (c1 : P.cellsOf f1.type = 1) (ce : P.cellsOf e = 2)
 {W : World} {sp : Nat → Bool} {n : Nat} {v : Value} {z : DataW H × List MemPlace} (h : elemAt enc P W base sp held n e v = some z) :
 ∃ a b, v = .agg #[.bool a, .bool b] ∧ z = (.agg [.lit (.bool a), .lit (.bool b)], []) := by
 unfold elemAt at h
 split at h
 · rename_i hf
   obtain ⟨y0, y1, m, rfl, hl, g0, g1⟩ := trod_struct2 he h
   obtain ⟨a, e0, rfl⟩ := DataW.trod_bool h0 g0
   obtain ⟨b, e1, rfl⟩ := DataW.trod_bool h1 g1
   cases v <;> simp [Value.formed, he] at hf
   rename_i cs
   obtain ⟨l⟩ := cs
   rw [ce] at hl
   simp [Value.cells] at hl e0 e1
   match l, hl with
   | [x0, x1], _ =>
    simp [c0, c1, o0, o1] at e0 e1
    subst e0 e1
    exact ⟨a, b, rfl, rfl⟩
 · cases h
theorem at0 (zd : DataW Unit) : (Rows.laid_marline_ether_sessions : DataW Unit).atKey (.int .u8 0) zd = .agg [.lit (.bool false), .lit (.bool true)] := by
 simp [Rows.laid_marline_ether_sessions, DataW.atKey, List.find?, Lit.sameKey]
theorem at9 (zd : DataW Unit) : (Rows.laid_marline_ether_sessions : DataW Unit).atKey (.int .u8 9) zd = .agg [.lit (.bool true), .lit (.bool false)] := by
 simp [Rows.laid_marline_ether_sessions, DataW.atKey, List.find?, Lit.sameKey]
theorem sess_of {W : World} {cs : Array Value} {fuel : Nat} {p : List MemPlace} (hv : W.var? Tryd.prog "marline/ether.sessions" = some cs) (hd : DataW.trod (fun _ => ()) Tryd.prog W 0 (fun _ => true) false fuel 96 cs.toList = some (Rows.laid_marline_ether_sessions, p)) : Hw.GS W := by
 rcases open_map Tryd.underlying96 hd with ⟨_, hx⟩ | ⟨bm, es, clock, m, rfl, hcs, hb, _, F, hx⟩
 · simp [Rows.laid_marline_ether_sessions] at hx
 simp only [Prod.mk.injEq] at hx
 have hcell : W.cell? ⟨0, 0, none⟩ = some (.map (some bm)) := by
  have := World.var?_cell gSess hv 0
  rw [Array.eq_one_of_toList hcs] at this
  simpa using this
 have look : ∀ (k : Int) (a b : Bool), keyOf Tryd.prog 5 (.int .u8 k) = some (.int .u8 k) → (∀ zd : DataW Unit, (Rows.laid_marline_ether_sessions : DataW Unit).atKey (.int .u8 k) zd = .agg [.lit (.bool a), .lit (.bool b)]) →
  ∀ W' : World, W'.heap[bm]? = some (.map es clock) → (Instr.lookup 96 (.map (some bm)) (.int .u8 k) true).run Tryd.prog W' = .ok (.tuple #[.agg #[.bool a, .bool b], .bool true]) W' := by
  intro k a b hkey hl W' hb'
  have zero : (zeroValue 94).run Tryd.prog W' = .ok (.agg #[.bool false, .bool false]) W' := by kernel_rfl
  have e1 : ∀ zd : DataW Unit, (Rows.laid_marline_ether_sessions : DataW Unit).atKey (.int .u8 k) zd = (DataW.map ((es.toList.map (rg Tryd.prog 5 _)).foldr DataW.insert [])).atKey (.int .u8 k) zd := fun zd => by rw [hx.1]
  rcases Maps.fit_look true (Maps.int_keyed Tryd.underlying5) Tryd.underlying96 zero hb' F hkey with ⟨_, _, hat⟩ | ⟨e0, y, _, _, hrun, hRv, hat, _⟩
  · have h1 := hat .nil
    rw [← e1, hl] at h1
    cases h1
  · have h1 := hat .nil
    rw [← e1, hl] at h1
    obtain ⟨a', b', hv', hz'⟩ := elem_bools Tryd.underlying94 rfl rfl Tryd.underlying4 Tryd.underlying4 (by kernel_rfl) (by kernel_rfl) (by kernel_rfl) hRv
    rw [hz'] at h1
    simp only [DataW.agg.injEq, List.cons.injEq, DataW.lit.injEq, Lit.bool.injEq, and_true] at h1
    obtain ⟨rfl, rfl⟩ := h1
    rw [hrun, hv']
    rfl
 exact ⟨bm, es, clock, hcell, hb, look 9 true false (Maps.keyOf_int_mk Tryd.underlying5 (by decide)) at9, look 0 false true (Maps.keyOf_int_mk Tryd.underlying5 (by decide)) at0⟩
theorem of_laid {W : World} (h : laidMetH Tryd.prog laid1 W) : Hw.GE W := by
 rw [MakeChecks.laidMetH_plain _ _ _ (by kernel_rfl)] at h
 obtain ⟨ps, ⟨g0, t0, cs0, f0, p0, q0, _, _, _, _, ⟨g1, t1, cs1, f1, p1, q1, hg1, ht1, hv1, hd1, ⟨g2, t2, cs2, f2, p2, q2, hg2, ht2, hv2, hd2, _, _⟩, _⟩, _⟩, _, _⟩ := h
 obtain rfl := Option.some.inj (gAddr.symm.trans hg1)
 obtain rfl := Option.some.inj (tAddr.symm.trans ht1)
 obtain rfl := Option.some.inj (gSess.symm.trans hg2)
 obtain rfl := Option.some.inj (tSess.symm.trans ht2)
 exact ⟨addr_of hv1 hd1, sess_of hv2 hd2⟩
end Go.Proofs.YteanncchmenlkaaDoor.Gl
namespace Go.Proofs.YteanncchmenlkaaDoor.etherMost
open Go.ChangeShapes Go.WideShapes Go.ChangeAt Go.RowKit
open Go.ChangeMaps (open_string shut_string)
set_option linter.unusedVariables false
theorem own : ownKnob Tryd.prog.godebug = none := by kernel_rfl
set_option maxRecDepth 100000 in
theorem lifted (os : Os) (started : os.Started) (H : Type) (enc : TypeId × Value → H) :
 ReturnsInHanded {} Tryd.checked os 3 .any (fun w args => (Rows.etherMostSpec.pre enc Tryd.prog Tryd.f3 [] false w args ∧ laidMetH Tryd.prog Gl.laid1 w) ∧ sizedMet enc Tryd.prog Tryd.f3 (OpenSpec.ofChange Rows.etherMostSpec) false w args) (Rows.etherMostSpec.post enc Tryd.prog Tryd.f3 false true false false) := by
 refine returnsInHanded_of_change_and (C := Tryd.checked) (X := fun w _ => laidMetH Tryd.prog Gl.laid1 w) (fun _ _ _ hh h => h.of_heap hh) own started (by kernel_rfl) Tryd.func3
  (ChangeSpec.witness_shaped (enc := enc) (C := Tryd.checked) (os := os) (X := fun w _ => laidMetH Tryd.prog Gl.laid1 w) false (World.doorLaid Tryd.prog 400 os) #[.int .u16 0, .int .u16 0, .int .u16 0] 8 rfl (World.shaped_of_RefB (by kernel_rfl) (by kernel_rfl)) (by kernel_rfl) (by kernel_rfl) (by kernel_rfl) (Gl.door_met os _)) ?_
 intro W base args ds gs before hval0 hW hcnd hsz0 hL_ _
 have hGL_ := Gl.of_laid hL_
 have hsz : (DataW.weightsEach Tryd.prog (Tryd.f3.params.toList ++ Rows.etherMostSpec.plain.varTypes Tryd.prog) (ds ++ gs)).all (· ≤ reachBytes) = true := hsz0
 have hval : ∀ (j : Nat) t v, Tryd.f3.params[j]? = some t → args[j]? = some v → Value.okWide Tryd.prog W .any base t v := hval0
 have hW' := hW
 obtain ⟨p, q, hA0, hV, rfl, hfz, hnd⟩ := hW
 have hA : DataW.TrodAll enc Tryd.prog W 0 (fun _ => true) true Tryd.f3.params.toList args.toList ds p := hA0
 rw [Tryd.params3] at hA hval hsz
 obtain ⟨v0, vs0, d0, ds0, p0, q0, hargs, rfl, rfl, h0, r0⟩ := trodAll_cons hA
 obtain ⟨v1, vs1, d1, ds1, p1, q1, rfl, rfl, rfl, h1, r1⟩ := trodAll_cons r0
 obtain ⟨v2, vs2, d2, ds2, p2, q2, rfl, rfl, rfl, h2, r2⟩ := trodAll_cons r1
 obtain ⟨rfl, rfl, rfl⟩ := trodAll_nil r2
 obtain rfl : args = #[v0, v1, v2] := by cases args; simp_all
 obtain ⟨rfl, rfl⟩ := trodVars_none hV
 obtain ⟨a0, rfl, rfl, rfl, w0⟩ := open_int Tryd.underlying22 (hval 0 22 v0 rfl rfl) h0
 obtain ⟨a1, rfl, rfl, rfl, w1⟩ := open_int Tryd.underlying22 (hval 1 22 v1 rfl rfl) h1
 obtain ⟨a2, rfl, rfl, rfl, w2⟩ := open_int Tryd.underlying22 (hval 2 22 v2 rfl rfl) h2
 clear hA0 hval0 hsz0 hsz
 refine (Hw.emost_walk a0 a1 a2 W hGL_ w0 w1 w2).mono fun e W' ⟨he, bel⟩ => ?_
 subst he
 exact ⟨_, rfl, _, _, _, [], _, [], hW', trodAll_mk1 (shut_bool Tryd.underlying4 _), (trodAll_cons_mk (shut_int Tryd.underlying22 w0) (trodAll_cons_mk (shut_int Tryd.underlying22 w1) (trodAll_cons_mk (shut_int Tryd.underlying22 w2) trodAll_mk0))), rfl, bel.frame _, fun h => by cases h⟩
set_option maxRecDepth 100000 in
theorem lifted_time (os : Os) (started : os.Started) (H : Type) (enc : TypeId × Value → H) (Fi : Stop.Interp) :
 ReturnsInHanded { calm := true } Tryd.checked os 3 .any (fun w args => (Rows.etherMostSpec.pre enc Tryd.prog Tryd.f3 [] false w args ∧ laidMetH Tryd.prog Gl.laid1 w) ∧ sizedMet enc Tryd.prog Tryd.f3 (OpenSpec.ofChange Rows.etherMostSpec) false w args) ((OpenSpec.ofChange Rows.etherMostSpec).postWith enc Tryd.prog Tryd.f3 Fi (outsideKept [.timePasses]) false true false) := by
 refine Clock.returns_of_change (C := Tryd.checked) (X := fun w _ => laidMetH Tryd.prog Gl.laid1 w) (fun _ _ _ hh h => h.of_heap hh) own started (by kernel_rfl) Tryd.func3
  (Clock.witness_at (enc := enc) (C := Tryd.checked) (os := os) (apart := false) (X := fun w _ => laidMetH Tryd.prog Gl.laid1 w) (World.doorLaid Tryd.prog 400 os) #[.int .u16 0, .int .u16 0, .int .u16 0] 8 rfl (World.shaped_of_RefB (by kernel_rfl) (by kernel_rfl)) (by kernel_rfl) (by kernel_rfl) (by kernel_rfl) (Gl.door_met os _)) ?_
 intro W base args ds gs before hval0 hW hcnd hsz0 hL_ _
 have hGL_ := Gl.of_laid hL_
 have hsz : (DataW.weightsEach Tryd.prog (Tryd.f3.params.toList ++ Rows.etherMostSpec.plain.varTypes Tryd.prog) (ds ++ gs)).all (· ≤ reachBytes) = true := hsz0
 have hval : ∀ (j : Nat) t v, Tryd.f3.params[j]? = some t → args[j]? = some v → Value.okWide Tryd.prog W .any base t v := hval0
 have hW' := hW
 obtain ⟨p, q, hA0, hV, rfl, hfz, hnd⟩ := hW
 have hA : DataW.TrodAll enc Tryd.prog W 0 (fun _ => true) true Tryd.f3.params.toList args.toList ds p := hA0
 rw [Tryd.params3] at hA hval hsz
 obtain ⟨v0, vs0, d0, ds0, p0, q0, hargs, rfl, rfl, h0, r0⟩ := trodAll_cons hA
 obtain ⟨v1, vs1, d1, ds1, p1, q1, rfl, rfl, rfl, h1, r1⟩ := trodAll_cons r0
 obtain ⟨v2, vs2, d2, ds2, p2, q2, rfl, rfl, rfl, h2, r2⟩ := trodAll_cons r1
 obtain ⟨rfl, rfl, rfl⟩ := trodAll_nil r2
 obtain rfl : args = #[v0, v1, v2] := by cases args; simp_all
 obtain ⟨rfl, rfl⟩ := trodVars_none hV
 obtain ⟨a0, rfl, rfl, rfl, w0⟩ := open_int Tryd.underlying22 (hval 0 22 v0 rfl rfl) h0
 obtain ⟨a1, rfl, rfl, rfl, w1⟩ := open_int Tryd.underlying22 (hval 1 22 v1 rfl rfl) h1
 obtain ⟨a2, rfl, rfl, rfl, w2⟩ := open_int Tryd.underlying22 (hval 2 22 v2 rfl rfl) h2
 clear hA0 hval0 hsz0 hsz
 refine (Hw.emost_walk a0 a1 a2 W hGL_ w0 w1 w2).mono fun e W' ⟨he, bel⟩ => ?_
 subst he
 have bel2 := (Clock.Since.of_below bel).2
 exact ⟨_, rfl, ⟨_, _, _, [], _, [], hW', trodAll_mk1 (shut_bool Tryd.underlying4 _), (trodAll_cons_mk (shut_int Tryd.underlying22 w0) (trodAll_cons_mk (shut_int Tryd.underlying22 w1) (trodAll_cons_mk (shut_int Tryd.underlying22 w2) trodAll_mk0))), rfl, bel2.frame _, fun h => by cases h⟩, (Clock.Since.of_below bel).1⟩
theorem over : Rows.etherMostRow.holds Tryd.pinned (OpenSpec.ofChange Rows.etherMostSpec) := by
  first
    | exact OpenClaim.holds_of_wide 3 Tryd.f3 rfl rfl rfl rfl rfl rfl rfl ⟨rfl, rfl, rfl, rfl, rfl⟩ rfl rfl rfl rfl rfl (by kernel_rfl) Tryd.func3 (by kernel_rfl)
        (of_decide_eq_true (by kernel_rfl)) (by unfold Func.isWrapper; first | (rw [if_pos (by decide +kernel)]; kernel_rfl) | (rw [if_neg (by decide +kernel)]; exact ⟨rfl, rfl⟩))
        (fun os started H enc _ => lifted os started H enc)
    | exact Clock.holds_of_wide_time 3 Tryd.f3 rfl rfl rfl rfl rfl rfl rfl ⟨rfl, rfl, rfl, rfl, rfl⟩ rfl rfl rfl rfl rfl (by kernel_rfl) Tryd.func3 (by kernel_rfl)
        (of_decide_eq_true (by kernel_rfl)) (by unfold Func.isWrapper; first | (rw [if_pos (by decide +kernel)]; kernel_rfl) | (rw [if_neg (by decide +kernel)]; exact ⟨rfl, rfl⟩))
        (fun os started H enc _ Fi => lifted_time os started H enc Fi)
theorem proved : Rows.EtherMostSaid := over
set_option maxRecDepth 100000 in
theorem carded : Claim7.holds Tryd.pinned (.plain (OpenSpec.ofChange Rows.etherMostSpec)) Rows.etherMostCard :=
 Claim7.holds_tied_plain_at .later [] [.data, .mapped, .mapped] true (true, "14916c14080374356588a93fac026ecfb55c4aa4397416de4fabaff4a539f4c6") false
  proved (fun _ h => by cases h) (by kernel_rfl) (fun _ h => by cases h) etherMost_row_tie rfl ⟨rfl, rfl⟩ (by kernel_rfl) rfl
  (fun f fn hf hfn => by
   obtain rfl : f = 3 := Option.some.inj ((show Tryd.prog.funcNamed "marline/marlinelaw22.EtherMost" = some 3 by kernel_rfl).symm.trans hf) |>.symm
   obtain rfl : fn = Tryd.f3 := (Option.some.inj (Tryd.func3.symm.trans hfn)).symm
   exact ⟨by kernel_rfl, fun j t ht => by
    rw [Tryd.params3] at ht
    have hm : t ∈ [22, 22, 22] := by simpa using Array.mem_of_getElem? ht
    have hall : ([22, 22, 22].all fun u => !Tryd.prog.wantsStandIn u) = true := by kernel_rfl
    exact (show Tryd.prog.wantsStandIn t = false by simpa using List.all_eq_true.1 hall t hm)⟩)
  (by kernel_rfl)
end Go.Proofs.YteanncchmenlkaaDoor.etherMost
namespace Go.Proofs.YteanncchmenlkaaDoor
theorem etherMost_card_holds : Rows.EtherMostCardSaid := etherMost.carded
end Go.Proofs.YteanncchmenlkaaDoor
