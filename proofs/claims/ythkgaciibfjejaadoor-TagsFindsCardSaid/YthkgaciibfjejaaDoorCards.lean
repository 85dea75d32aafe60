/-
  DERIVED. GIVEN WITH THE SEED: THE CARDS: each row of YthkgaciibfjejaaDoorRows.lean that lists a variable, with what it lists TIED to the program's text (the seventh form; the later family's looks); each row that meets fmt, with fmt's text TOLD by the authors' own Lean function (tested against real Go, not proved from fmt's source: count such statements apart). THE CARD IS WHAT COUNTS. Prove the row's statement (the work); the ties are given (YthkgaciibfjejaaDoorTie.lean); close each card by the builder's one call (the guide's Derived/Test/ToyasCard.lean, 'card_holds'). Laid BY PROGRAM, IN A SANDBOX (cutbox-door.mjs). By AI agents, Wed Nov 11 2026. No macro, syntax, notation, axiom, sorry.
-/
import Derived.Test.YthkgaciibfjejaaDoorRows
import GoSem.ClaimSeven
namespace Go.Proofs.YthkgaciibfjejaaDoor
namespace Rows

/-- THE TIED CARD OF 'marlinelaw21.TagsFinds'. -/
def tagsFindsCard : Claim7 := { stood := { row := tagsFindsRow, standIns := [], harness := (true, "0e28bc2feb53fc65924863198c6bdf7d4a7bc3eb3f45e3dcca1d603985ae5334"), looks := false }, kinds := [], alts := [], laidByText := true, laidKinds := [.mapped], laidTests := true, laidLooks := .later }
def TagsFindsCardSaid : Prop := Claim7.holds Tryd.pinned (.plain (OpenSpec.ofChange tagsFindsSpec)) tagsFindsCard

/-- THE TIED CARD OF 'marlinelaw21.TagsTells'. -/
def tagsTellsCard : Claim7 := { stood := { row := tagsTellsRow, standIns := [], harness := (true, "0e28bc2feb53fc65924863198c6bdf7d4a7bc3eb3f45e3dcca1d603985ae5334"), looks := false }, kinds := [], alts := [], laidByText := true, laidKinds := [.mapped], laidTests := true, laidLooks := .later }
def TagsTellsCardSaid : Prop := Claim7.holds Tryd.pinned (.plain (OpenSpec.ofChange tagsTellsSpec)) tagsTellsCard

/-- THE TIED CARD OF 'marlinelaw21.TagsBack'. -/
def tagsBackCard : Claim7 := { stood := { row := tagsBackRow, standIns := [], harness := (true, "0e28bc2feb53fc65924863198c6bdf7d4a7bc3eb3f45e3dcca1d603985ae5334"), looks := false }, kinds := [], alts := [], laidByText := true, laidKinds := [.mapped], laidTests := true, laidLooks := .later }
def TagsBackCardSaid : Prop := Claim7.holds Tryd.pinned (.plain (OpenSpec.ofChange tagsBackSpec)) tagsBackCard

/-- THE TIED CARD OF 'marlinelaw21.TagsEnds'. -/
def tagsEndsCard : Claim7 := { stood := { row := tagsEndsRow, standIns := [], harness := (true, "0e28bc2feb53fc65924863198c6bdf7d4a7bc3eb3f45e3dcca1d603985ae5334"), looks := false }, kinds := [], alts := [], laidByText := true, laidKinds := [.mapped], laidTests := true, laidLooks := .later }
def TagsEndsCardSaid : Prop := Claim7.holds Tryd.pinned (.plain (OpenSpec.ofChange tagsEndsSpec)) tagsEndsCard

/-- THE SECOND FORM's CARD OF 'marlinelaw21.TagsFinds'. -/
def tagsFindsUptoCard : Claim7 := { stood := { row := tagsFindsUptoRow, standIns := [], harness := (true, "0e28bc2feb53fc65924863198c6bdf7d4a7bc3eb3f45e3dcca1d603985ae5334"), looks := false }, kinds := [], alts := [], laidByText := true, laidKinds := [.mapped], laidTests := true, laidLooks := .later }
def TagsFindsUptoCardSaid : Prop := Claim7.holds Tryd.pinned (.plain (OpenSpec.upto tagsFindsSpec)) tagsFindsUptoCard

/-- THE SECOND FORM's CARD OF 'marlinelaw21.TagsTells'. -/
def tagsTellsUptoCard : Claim7 := { stood := { row := tagsTellsUptoRow, standIns := [], harness := (true, "0e28bc2feb53fc65924863198c6bdf7d4a7bc3eb3f45e3dcca1d603985ae5334"), looks := false }, kinds := [], alts := [], laidByText := true, laidKinds := [.mapped], laidTests := true, laidLooks := .later }
def TagsTellsUptoCardSaid : Prop := Claim7.holds Tryd.pinned (.plain (OpenSpec.upto tagsTellsSpec)) tagsTellsUptoCard

/-- THE SECOND FORM's CARD OF 'marlinelaw21.TagsBack'. -/
def tagsBackUptoCard : Claim7 := { stood := { row := tagsBackUptoRow, standIns := [], harness := (true, "0e28bc2feb53fc65924863198c6bdf7d4a7bc3eb3f45e3dcca1d603985ae5334"), looks := false }, kinds := [], alts := [], laidByText := true, laidKinds := [.mapped], laidTests := true, laidLooks := .later }
def TagsBackUptoCardSaid : Prop := Claim7.holds Tryd.pinned (.plain (OpenSpec.upto tagsBackSpec)) tagsBackUptoCard

/-- THE SECOND FORM's CARD OF 'marlinelaw21.TagsEnds'. -/
def tagsEndsUptoCard : Claim7 := { stood := { row := tagsEndsUptoRow, standIns := [], harness := (true, "0e28bc2feb53fc65924863198c6bdf7d4a7bc3eb3f45e3dcca1d603985ae5334"), looks := false }, kinds := [], alts := [], laidByText := true, laidKinds := [.mapped], laidTests := true, laidLooks := .later }
def TagsEndsUptoCardSaid : Prop := Claim7.holds Tryd.pinned (.plain (OpenSpec.upto tagsEndsSpec)) tagsEndsUptoCard
end Rows
end Go.Proofs.YthkgaciibfjejaaDoor
