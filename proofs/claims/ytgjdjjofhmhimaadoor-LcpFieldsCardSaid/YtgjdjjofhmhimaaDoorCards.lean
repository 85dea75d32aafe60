/-
  DERIVED. GIVEN WITH THE SEED: THE CARDS: each row of YtgjdjjofhmhimaaDoorRows.lean that lists a variable, with what it lists TIED to the program's text (the seventh form; the later family's looks); each row that meets fmt, with fmt's text TOLD by the authors' own Lean function (tested against real Go, not proved from fmt's source: count such statements apart). THE CARD IS WHAT COUNTS. Prove the row's statement (the work); the ties are given (YtgjdjjofhmhimaaDoorTie.lean); close each card by the builder's one call (the guide's Derived/Test/ToyasCard.lean, 'card_holds'). Laid BY PROGRAM, IN A SANDBOX (cutbox-door.mjs). By AI agents, Wed Nov 11 2026. No macro, syntax, notation, axiom, sorry.
-/
import Derived.Test.YtgjdjjofhmhimaaDoorRows
import GoSem.ClaimSeven
namespace Go.Proofs.YtgjdjjofhmhimaaDoor
namespace Rows

/-- THE TIED CARD OF 'marlinelaw15.LcpFields'. -/
def lcpFieldsCard : Claim7 := { stood := { row := lcpFieldsRow, standIns := [], harness := (true, "3fccb4cd329b22779488dc1af053d9b8cec84eb41fd099cfafdb07cd01fe7182"), looks := false }, kinds := [], alts := [], laidByText := true, laidKinds := [.data], laidTests := true, laidLooks := .later }
def LcpFieldsCardSaid : Prop := Claim7.holds Tryd.pinned (.plain (OpenSpec.ofChange lcpFieldsSpec)) lcpFieldsCard

/-- THE TIED CARD OF 'marlinelaw15.LcpBack'. -/
def lcpBackCard : Claim7 := { stood := { row := lcpBackRow, standIns := [], harness := (true, "3fccb4cd329b22779488dc1af053d9b8cec84eb41fd099cfafdb07cd01fe7182"), looks := false }, kinds := [], alts := [], laidByText := true, laidKinds := [.data], laidTests := true, laidLooks := .later }
def LcpBackCardSaid : Prop := Claim7.holds Tryd.pinned (.plain (OpenSpec.ofChange lcpBackSpec)) lcpBackCard

/-- THE SECOND FORM's CARD OF 'marlinelaw15.LcpFields'. -/
def lcpFieldsUptoCard : Claim7 := { stood := { row := lcpFieldsUptoRow, standIns := [], harness := (true, "3fccb4cd329b22779488dc1af053d9b8cec84eb41fd099cfafdb07cd01fe7182"), looks := false }, kinds := [], alts := [], laidByText := true, laidKinds := [.data], laidTests := true, laidLooks := .later }
def LcpFieldsUptoCardSaid : Prop := Claim7.holds Tryd.pinned (.plain (OpenSpec.upto lcpFieldsSpec)) lcpFieldsUptoCard

/-- THE SECOND FORM's CARD OF 'marlinelaw15.LcpBack'. -/
def lcpBackUptoCard : Claim7 := { stood := { row := lcpBackUptoRow, standIns := [], harness := (true, "3fccb4cd329b22779488dc1af053d9b8cec84eb41fd099cfafdb07cd01fe7182"), looks := false }, kinds := [], alts := [], laidByText := true, laidKinds := [.data], laidTests := true, laidLooks := .later }
def LcpBackUptoCardSaid : Prop := Claim7.holds Tryd.pinned (.plain (OpenSpec.upto lcpBackSpec)) lcpBackUptoCard
end Rows
end Go.Proofs.YtgjdjjofhmhimaaDoor
