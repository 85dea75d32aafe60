/- What the laid names give the walks: each look-up in them answers as the program's text lays them. -/
import Derived.Test.YthkgaciibfjejaaDoorRows
import Derived.Test.YthkgaciibfjejaaDoorPrintTagsName
import Derived.ProofKit
import Derived.LaidMore
import Derived.OpenShut
import Derived.Stop.Joined
namespace Go.Proofs.YthkgaciibfjejaaDoor.Gl
open Go.ChangeShapes Go.WideShapes Go.ChangeAt Go.WideMaps Go.WideElems Go.RowKit Go.Proofs.YthkgaciibfjejaaDoor.Print
set_option maxRecDepth 100000
abbrev laid1 : List (String × DataW Unit) := [("marline/tags.names", Rows.laid_marline_tags_names)]
theorem gNames : Tryd.prog.globalNamed "marline/tags.names" = some 0 := by kernel_rfl
theorem tNames : (Tryd.prog.globals[0]?).map (·.type) = some 57 := by kernel_rfl
theorem door_met (os : Os) (args : Array Value) : laidMetH Tryd.prog laid1 ((World.doorLaid Tryd.prog 400 os).forCall (fun _ _ => 0) ⟨#[], args, []⟩).memory :=
  laidMetH_of_parts3 (fuel := 8) (laidMet_of_run' 8 (by kernel_rfl) (by kernel_rfl)) (by kernel_rfl) (by kernel_rfl)
theorem at_name (x : Int) : (∀ zd : DataW Unit, (Rows.laid_marline_tags_names : DataW Unit).atKey (.int .u16 x) zd = .lit (.string (nameOf x).data.toList)) ∨ ((∀ zd : DataW Unit, (Rows.laid_marline_tags_names : DataW Unit).atKey (.int .u16 x) zd = zd) ∧ nameOf x = ⟨#[]⟩) := by
  by_cases h1 : x = 257
  · subst h1; exact .inl fun zd => rfl
  by_cases h2 : x = 258
  · subst h2; exact .inl fun zd => rfl
  by_cases h3 : x = 259
  · subst h3; exact .inl fun zd => rfl
  by_cases h4 : x = 260
  · subst h4; exact .inl fun zd => rfl
  by_cases h5 : x = 261
  · subst h5; exact .inl fun zd => rfl
  by_cases h6 : x = 272
  · subst h6; exact .inl fun zd => rfl
  by_cases h7 : x = 513
  · subst h7; exact .inl fun zd => rfl
  by_cases h8 : x = 514
  · subst h8; exact .inl fun zd => rfl
  by_cases h9 : x = 515
  · subst h9; exact .inl fun zd => rfl
  refine .inr ⟨fun zd => ?_, by unfold nameOf; simp only [if_neg h1, if_neg h2, if_neg h3, if_neg h4, if_neg h5, if_neg h6, if_neg h7, if_neg h8, if_neg h9]⟩
  simp [Rows.laid_marline_tags_names, DataW.atKey, List.find?, Lit.sameKey, Ne.symm h1, Ne.symm h2, Ne.symm h3, Ne.symm h4, Ne.symm h5, Ne.symm h6, Ne.symm h7, Ne.symm h8, Ne.symm h9]
theorem elemAt_str {H : Type} {enc : TypeId × Value → H} {P : Program} {base : Nat} {held : Bool} {e : TypeId} (he : P.underlying e = some .string) {W : World} {sp : Nat → Bool} {n : Nat} {v : Value} {z : DataW H × List MemPlace} (h : elemAt enc P W base sp held n e v = some z) : ∃ a : ByteArray, v = .string a ∧ z = (.lit (.string a.data.toList), []) := by
  unfold elemAt at h
  split at h
  · rename_i hf
    obtain ⟨a, hc, hz, hw⟩ := DataW.trod_string he h
    cases v <;> simp [Value.formed, he, Value.cells] at hf hc
    subst hc
    exact ⟨_, rfl, hz⟩
  · cases h
theorem ba_ext : ∀ {a b : ByteArray}, a.data.toList = b.data.toList → a = b
  | ⟨⟨l1⟩⟩, ⟨⟨l2⟩⟩, h => by
    simp only at h
    rw [h]
theorem of_laid {W : World} (h : laidMetH Tryd.prog laid1 W) : GL W := by
  rw [MakeChecks.laidMetH_plain _ _ _ (by kernel_rfl)] at h
  obtain ⟨ps, ⟨g0, t0, cs0, f0, p0, q0, hg0, ht0, hv0, hd0, _, _⟩, _, _⟩ := h
  obtain rfl := Option.some.inj (gNames.symm.trans hg0)
  obtain rfl := Option.some.inj (tNames.symm.trans ht0)
  rcases open_map Tryd.underlying57 hd0 with ⟨_, hx⟩ | ⟨bm, es, clock, m, rfl, hcs, hb, _, F, hx⟩
  · simp [Rows.laid_marline_tags_names] at hx
  simp only [Prod.mk.injEq] at hx
  have hcell : W.cell? ⟨0, 0, none⟩ = some (.map (some bm)) := by
    have := World.var?_cell hg0 hv0 0
    rw [Array.eq_one_of_toList hcs] at this
    simpa using this
  refine ⟨bm, es, clock, hcell, hb, fun W' hb' x hx0 hx1 => ?_⟩
  have zero : (zeroValue 9).run Tryd.prog W' = .ok (.string { data := #[] }) W' := by kernel_rfl
  have hkey : keyOf Tryd.prog 23 (.int .u16 x) = some (.int .u16 x) := Maps.keyOf_int_mk Tryd.underlying23 (by simp [Lit.wf, IntKind.min, IntKind.max, IntKind.bits, IntKind.signed]; omega)
  have e1 : ∀ zd : DataW Unit, (Rows.laid_marline_tags_names : DataW Unit).atKey (.int .u16 x) zd = (DataW.map ((es.toList.map (rg Tryd.prog 23 _)).foldr DataW.insert [])).atKey (.int .u16 x) zd := fun zd => by rw [hx.1]
  rcases Maps.fit_look false (Maps.int_keyed Tryd.underlying23) Tryd.underlying57 zero hb' F hkey with ⟨hrun, _, hat⟩ | ⟨e0, y, _, _, hrun, hRv, hat, _⟩
  · rcases at_name x with h | ⟨_, h⟩
    · have := hat .nil
      rw [← e1, h] at this
      cases this
    · rw [h]
      exact hrun
  · obtain ⟨s, hs, rfl⟩ := elemAt_str Tryd.underlying9 hRv
    rcases at_name x with h | ⟨h, _⟩
    · have := hat .nil
      rw [← e1, h] at this
      simp only [DataW.lit.injEq, Lit.string.injEq] at this
      have e2 : nameOf x = s := ba_ext this
      rw [e2, ← hs]
      exact hrun
    · have := hat .nil
      rw [← e1, h] at this
      cases this
end Go.Proofs.YthkgaciibfjejaaDoor.Gl
