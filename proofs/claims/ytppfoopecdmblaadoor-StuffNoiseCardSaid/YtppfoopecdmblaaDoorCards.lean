/-
  DERIVED. GIVEN WITH THE SEED: THE CARDS: each row of YtppfoopecdmblaaDoorRows.lean that lists a variable, with what it lists TIED to the program's text (the seventh form; the later family's looks); each row that meets fmt, with fmt's text TOLD by the authors' own Lean function (tested against real Go, not proved from fmt's source: count such statements apart). THE CARD IS WHAT COUNTS. Prove the row's statement (the work); the ties are given (YtppfoopecdmblaaDoorTie.lean); close each card by the builder's one call (the guide's Derived/Test/ToyasCard.lean, 'card_holds'). Laid BY PROGRAM, IN A SANDBOX (cutbox-door.mjs). By AI agents, Wed Nov 11 2026. No macro, syntax, notation, axiom, sorry.
-/
import Derived.Test.YtppfoopecdmblaaDoorRows
import GoSem.ClaimSeven
namespace Go.Proofs.YtppfoopecdmblaaDoor
namespace Rows

/-- THE TIED CARD OF 'marlinelaw04.StuffNoise'. -/
def stuffNoiseCard : Claim7 := { stood := { row := stuffNoiseRow, standIns := [], harness := (true, "a1052eaf5506697fe3af3278c5414f622cd241ffc2ed1cf0f642c7bf3da21e05"), looks := false }, kinds := [], alts := [], laidByText := true, laidKinds := [.data], laidTests := true, laidLooks := .later }
def StuffNoiseCardSaid : Prop := Claim7.holds Tryd.pinned (.plain (OpenSpec.ofChange stuffNoiseSpec)) stuffNoiseCard

/-- THE SECOND FORM's CARD OF 'marlinelaw04.StuffNoise'. -/
def stuffNoiseUptoCard : Claim7 := { stood := { row := stuffNoiseUptoRow, standIns := [], harness := (true, "a1052eaf5506697fe3af3278c5414f622cd241ffc2ed1cf0f642c7bf3da21e05"), looks := false }, kinds := [], alts := [], laidByText := true, laidKinds := [.data], laidTests := true, laidLooks := .later }
def StuffNoiseUptoCardSaid : Prop := Claim7.holds Tryd.pinned (.plain (OpenSpec.upto stuffNoiseSpec)) stuffNoiseUptoCard
end Rows
end Go.Proofs.YtppfoopecdmblaaDoor
