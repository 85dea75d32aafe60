/-
  DERIVED. GIVEN WITH THE SEED: THE CARDS: each row of YtofanmciehbabaaDoorRows.lean that lists a variable, with what it lists TIED to the program's text (the seventh form; the later family's looks); each row that meets fmt, with fmt's text TOLD by the authors' own Lean function (tested against real Go, not proved from fmt's source: count such statements apart). THE CARD IS WHAT COUNTS. Prove the row's statement (the work); the ties are given (YtofanmciehbabaaDoorTie.lean); close each card by the builder's one call (the guide's Derived/Test/ToyasCard.lean, 'card_holds'). Laid BY PROGRAM, IN A SANDBOX (cutbox-door.mjs). By AI agents, Wed Nov 11 2026. No macro, syntax, notation, axiom, sorry.
-/
import Derived.Test.YtofanmciehbabaaDoorRows
import GoSem.ClaimSeven
namespace Go.Proofs.YtofanmciehbabaaDoor
namespace Rows

/-- THE TIED CARD OF 'marlinelaw03.AccmTells'. -/
def accmTellsCard : Claim7 := { stood := { row := accmTellsRow, standIns := [], harness := (true, "157d8595a2c53099825f735134894adea961f5c3905fea79b8db5ce7d9e86cab"), looks := false }, kinds := [], alts := [], laidByText := true, laidKinds := [.data], laidTests := true, laidLooks := .later }
def AccmTellsCardSaid : Prop := Claim7.holds Tryd.pinned (.plain (OpenSpec.ofChange accmTellsSpec)) accmTellsCard

/-- THE TIED CARD OF 'marlinelaw03.AccmWithin'. -/
def accmWithinCard : Claim7 := { stood := { row := accmWithinRow, standIns := [], harness := (true, "157d8595a2c53099825f735134894adea961f5c3905fea79b8db5ce7d9e86cab"), looks := false }, kinds := [], alts := [], laidByText := true, laidKinds := [.data], laidTests := true, laidLooks := .later }
def AccmWithinCardSaid : Prop := Claim7.holds Tryd.pinned (.plain (OpenSpec.ofChange accmWithinSpec)) accmWithinCard

/-- THE TIED CARD OF 'marlinelaw03.AccmBack'. -/
def accmBackCard : Claim7 := { stood := { row := accmBackRow, standIns := [], harness := (true, "157d8595a2c53099825f735134894adea961f5c3905fea79b8db5ce7d9e86cab"), looks := false }, kinds := [], alts := [], laidByText := true, laidKinds := [.data], laidTests := true, laidLooks := .later }
def AccmBackCardSaid : Prop := Claim7.holds Tryd.pinned (.plain (OpenSpec.ofChange accmBackSpec)) accmBackCard

/-- THE SECOND FORM's CARD OF 'marlinelaw03.AccmTells'. -/
def accmTellsUptoCard : Claim7 := { stood := { row := accmTellsUptoRow, standIns := [], harness := (true, "157d8595a2c53099825f735134894adea961f5c3905fea79b8db5ce7d9e86cab"), looks := false }, kinds := [], alts := [], laidByText := true, laidKinds := [.data], laidTests := true, laidLooks := .later }
def AccmTellsUptoCardSaid : Prop := Claim7.holds Tryd.pinned (.plain (OpenSpec.upto accmTellsSpec)) accmTellsUptoCard

/-- THE SECOND FORM's CARD OF 'marlinelaw03.AccmWithin'. -/
def accmWithinUptoCard : Claim7 := { stood := { row := accmWithinUptoRow, standIns := [], harness := (true, "157d8595a2c53099825f735134894adea961f5c3905fea79b8db5ce7d9e86cab"), looks := false }, kinds := [], alts := [], laidByText := true, laidKinds := [.data], laidTests := true, laidLooks := .later }
def AccmWithinUptoCardSaid : Prop := Claim7.holds Tryd.pinned (.plain (OpenSpec.upto accmWithinSpec)) accmWithinUptoCard

/-- THE SECOND FORM's CARD OF 'marlinelaw03.AccmBack'. -/
def accmBackUptoCard : Claim7 := { stood := { row := accmBackUptoRow, standIns := [], harness := (true, "157d8595a2c53099825f735134894adea961f5c3905fea79b8db5ce7d9e86cab"), looks := false }, kinds := [], alts := [], laidByText := true, laidKinds := [.data], laidTests := true, laidLooks := .later }
def AccmBackUptoCardSaid : Prop := Claim7.holds Tryd.pinned (.plain (OpenSpec.upto accmBackSpec)) accmBackUptoCard
end Rows
end Go.Proofs.YtofanmciehbabaaDoor
