/-
  DERIVED. GIVEN WITH THE SEED: THE CARDS: each row of YteanncchmenlkaaDoorRows.lean that lists a variable, with what it lists TIED to the program's text (the seventh form; the later family's looks); each row that meets fmt, with fmt's text TOLD by the authors' own Lean function (tested against real Go, not proved from fmt's source: count such statements apart). THE CARD IS WHAT COUNTS. Prove the row's statement (the work); the ties are given (YteanncchmenlkaaDoorTie.lean); close each card by the builder's one call (the guide's Derived/Test/ToyasCard.lean, 'card_holds'). Laid BY PROGRAM, IN A SANDBOX (cutbox-door.mjs). By AI agents, Wed Nov 11 2026. No macro, syntax, notation, axiom, sorry.
-/
import Derived.Test.YteanncchmenlkaaDoorRows
import GoSem.ClaimSeven
namespace Go.Proofs.YteanncchmenlkaaDoor
namespace Rows

/-- THE TIED CARD OF 'marlinelaw22.EtherMost'. -/
def etherMostCard : Claim7 := { stood := { row := etherMostRow, standIns := [], harness := (true, "14916c14080374356588a93fac026ecfb55c4aa4397416de4fabaff4a539f4c6"), looks := false }, kinds := [], alts := [], laidByText := true, laidKinds := [.data, .mapped, .mapped], laidTests := true, laidLooks := .later }
def EtherMostCardSaid : Prop := Claim7.holds Tryd.pinned (.plain (OpenSpec.ofChange etherMostSpec)) etherMostCard

/-- THE TIED CARD OF 'marlinelaw22.EtherAnswers'. -/
def etherAnswersCard : Claim7 := { stood := { row := etherAnswersRow, standIns := [], harness := (true, "14916c14080374356588a93fac026ecfb55c4aa4397416de4fabaff4a539f4c6"), looks := false }, kinds := [], alts := [], laidByText := true, laidKinds := [.data, .mapped, .mapped], laidTests := true, laidLooks := .later }
def EtherAnswersCardSaid : Prop := Claim7.holds Tryd.pinned (.plain (OpenSpec.ofChange etherAnswersSpec)) etherAnswersCard

/-- THE TIED CARD OF 'marlinelaw20.BodySame'. -/
def bodySameCard : Claim7 := { stood := { row := bodySameRow, standIns := [], harness := (true, "14916c14080374356588a93fac026ecfb55c4aa4397416de4fabaff4a539f4c6"), looks := false }, kinds := [], alts := [], laidByText := true, laidKinds := [.data, .mapped], laidTests := true, laidLooks := .later }
def BodySameCardSaid : Prop := Claim7.holds Tryd.pinned (.plain (OpenSpec.ofChange bodySameSpec)) bodySameCard

/-- THE TIED CARD OF 'marlinelaw20.BodyMost'. -/
def bodyMostCard : Claim7 := { stood := { row := bodyMostRow, standIns := [], harness := (true, "14916c14080374356588a93fac026ecfb55c4aa4397416de4fabaff4a539f4c6"), looks := false }, kinds := [], alts := [], laidByText := true, laidKinds := [.data, .mapped], laidTests := true, laidLooks := .later }
def BodyMostCardSaid : Prop := Claim7.holds Tryd.pinned (.plain (OpenSpec.ofChange bodyMostSpec)) bodyMostCard

/-- THE TIED CARD OF 'marlinelaw20.BodyBack'. -/
def bodyBackCard : Claim7 := { stood := { row := bodyBackRow, standIns := [], harness := (true, "14916c14080374356588a93fac026ecfb55c4aa4397416de4fabaff4a539f4c6"), looks := false }, kinds := [], alts := [], laidByText := true, laidKinds := [.data, .mapped], laidTests := true, laidLooks := .later }
def BodyBackCardSaid : Prop := Claim7.holds Tryd.pinned (.plain (OpenSpec.ofChange bodyBackSpec)) bodyBackCard

/-- THE TIED CARD OF 'marlinelaw22.EtherBack'. -/
def etherBackCard : Claim7 := { stood := { row := etherBackRow, standIns := [], harness := (true, "14916c14080374356588a93fac026ecfb55c4aa4397416de4fabaff4a539f4c6"), looks := false }, kinds := [], alts := [], laidByText := true, laidKinds := [.data, .mapped, .mapped], laidTests := true, laidLooks := .later }
def EtherBackCardSaid : Prop := Claim7.holds Tryd.pinned (.plain (OpenSpec.ofChange etherBackSpec)) etherBackCard

/-- THE SECOND FORM's CARD OF 'marlinelaw22.EtherMost'. -/
def etherMostUptoCard : Claim7 := { stood := { row := etherMostUptoRow, standIns := [], harness := (true, "14916c14080374356588a93fac026ecfb55c4aa4397416de4fabaff4a539f4c6"), looks := false }, kinds := [], alts := [], laidByText := true, laidKinds := [.data, .mapped, .mapped], laidTests := true, laidLooks := .later }
def EtherMostUptoCardSaid : Prop := Claim7.holds Tryd.pinned (.plain (OpenSpec.upto etherMostSpec)) etherMostUptoCard

/-- THE SECOND FORM's CARD OF 'marlinelaw22.EtherAnswers'. -/
def etherAnswersUptoCard : Claim7 := { stood := { row := etherAnswersUptoRow, standIns := [], harness := (true, "14916c14080374356588a93fac026ecfb55c4aa4397416de4fabaff4a539f4c6"), looks := false }, kinds := [], alts := [], laidByText := true, laidKinds := [.data, .mapped, .mapped], laidTests := true, laidLooks := .later }
def EtherAnswersUptoCardSaid : Prop := Claim7.holds Tryd.pinned (.plain (OpenSpec.upto etherAnswersSpec)) etherAnswersUptoCard

/-- THE SECOND FORM's CARD OF 'marlinelaw20.BodySame'. -/
def bodySameUptoCard : Claim7 := { stood := { row := bodySameUptoRow, standIns := [], harness := (true, "14916c14080374356588a93fac026ecfb55c4aa4397416de4fabaff4a539f4c6"), looks := false }, kinds := [], alts := [], laidByText := true, laidKinds := [.data, .mapped], laidTests := true, laidLooks := .later }
def BodySameUptoCardSaid : Prop := Claim7.holds Tryd.pinned (.plain (OpenSpec.upto bodySameSpec)) bodySameUptoCard

/-- THE SECOND FORM's CARD OF 'marlinelaw20.BodyMost'. -/
def bodyMostUptoCard : Claim7 := { stood := { row := bodyMostUptoRow, standIns := [], harness := (true, "14916c14080374356588a93fac026ecfb55c4aa4397416de4fabaff4a539f4c6"), looks := false }, kinds := [], alts := [], laidByText := true, laidKinds := [.data, .mapped], laidTests := true, laidLooks := .later }
def BodyMostUptoCardSaid : Prop := Claim7.holds Tryd.pinned (.plain (OpenSpec.upto bodyMostSpec)) bodyMostUptoCard

/-- THE SECOND FORM's CARD OF 'marlinelaw20.BodyBack'. -/
def bodyBackUptoCard : Claim7 := { stood := { row := bodyBackUptoRow, standIns := [], harness := (true, "14916c14080374356588a93fac026ecfb55c4aa4397416de4fabaff4a539f4c6"), looks := false }, kinds := [], alts := [], laidByText := true, laidKinds := [.data, .mapped], laidTests := true, laidLooks := .later }
def BodyBackUptoCardSaid : Prop := Claim7.holds Tryd.pinned (.plain (OpenSpec.upto bodyBackSpec)) bodyBackUptoCard

/-- THE SECOND FORM's CARD OF 'marlinelaw22.EtherBack'. -/
def etherBackUptoCard : Claim7 := { stood := { row := etherBackUptoRow, standIns := [], harness := (true, "14916c14080374356588a93fac026ecfb55c4aa4397416de4fabaff4a539f4c6"), looks := false }, kinds := [], alts := [], laidByText := true, laidKinds := [.data, .mapped, .mapped], laidTests := true, laidLooks := .later }
def EtherBackUptoCardSaid : Prop := Claim7.holds Tryd.pinned (.plain (OpenSpec.upto etherBackSpec)) etherBackUptoCard
end Rows
end Go.Proofs.YteanncchmenlkaaDoor
