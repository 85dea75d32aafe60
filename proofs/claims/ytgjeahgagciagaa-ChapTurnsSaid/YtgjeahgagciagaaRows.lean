/-
  No cell of these rows narrows 'for every input' (looked for: loops, veiled, ifaces, maps, wideKeys, modest, calm, conditions, laid).
  DERIVED. THE GIVEN ROWS OF THIS SEAT. 10 by the template 'for every input the law returns true; each argument reads behind the call as it read before'; 0 by the template 'total and deterministic' (their statements: YtgjeahgagciagaaTotals.lean).
  GIVEN WITH THE SEED: the statements are not yours to turn. If you find one false, say at which input.
  Laid BY PROGRAM, IN A SANDBOX (cutbox-rows.mjs): the forced cells as the released guide's own fill.sh prints them over the translation 4f3673494e06e5ef… (all of the seat's roots in one cut). By AI agents, Wed Nov 11 2026. No macro, syntax, notation, axiom, sorry.
-/
import Derived.Test.YtgjeahgagciagaaChecked
import GoSem.Claim
import GoSem.ClaimJoined
import GoSem.ClaimMapViews
import Derived.JoinedTies
import Derived.KernelRfl
namespace Go.Proofs.Ytgjeahgagciagaa
/- THE CELL 'sum', in the pinned program and in every row, IS THE sha256 OF THE DUMP (.gsa) THAT YtgjeahgagciagaaProg.lean LOADS. Nothing in Lean hashes anything: it is a label: what it is worth is what the hold of that sum in a sandbox is worth. -/
noncomputable def Try.pinned : Pinned := { name := "ytgjeahgagciagaa", sum := "4f3673494e06e5efc624173733c940e8ad4c16918fb45d47c355884a1005d640", checked := Try.checked }
namespace Rows
def none {H : Type} : Left H := { results := [], args := [] }

/-- 'marlinelaw12.TlvBack': WHATEVER THE INPUT: true; the input reads as it did. -/
def tlvBackSpec : ChangeSpec := { name := "tlvBack", fn := fun _ => fun
  | [d1, d2] => { results := [.lit (.bool true)], args := [d1, d2] }
  | _ => none }
def tlvBackRow : OpenClaim := { program := "ytgjeahgagciagaa", sum := "4f3673494e06e5efc624173733c940e8ad4c16918fb45d47c355884a1005d640", func := "marline/marlinelaw12.TlvBack", spec := "tlvBack", unfollowed := true, recurses := true, apart := false }
def TlvBackSaid : Prop := tlvBackRow.holds Try.pinned (OpenSpec.ofChange tlvBackSpec)

/-- ITS FALSE NEIGHBOUR: 'it returns false'. Refute it at one input. -/
def tlvBackWrong : ChangeSpec := { name := "tlvBack", fn := fun _ => fun
  | [d1, d2] => { results := [.lit (.bool false)], args := [d1, d2] }
  | _ => none }
def TlvBackWrongFalsely : Prop := tlvBackRow.holds Try.pinned (OpenSpec.ofChange tlvBackWrong)

/-- 'marlinelaw12.TlvJoin': WHATEVER THE INPUT: true; the input reads as it did. -/
def tlvJoinSpec : ChangeSpec := { name := "tlvJoin", fn := fun _ => fun
  | [d1, d2, d3, d4] => { results := [.lit (.bool true)], args := [d1, d2, d3, d4] }
  | _ => none }
def tlvJoinRow : OpenClaim := { program := "ytgjeahgagciagaa", sum := "4f3673494e06e5efc624173733c940e8ad4c16918fb45d47c355884a1005d640", func := "marline/marlinelaw12.TlvJoin", spec := "tlvJoin", unfollowed := true, recurses := true, apart := false }
def TlvJoinSaid : Prop := tlvJoinRow.holds Try.pinned (OpenSpec.ofChange tlvJoinSpec)

/-- ITS FALSE NEIGHBOUR: 'it returns false'. Refute it at one input. -/
def tlvJoinWrong : ChangeSpec := { name := "tlvJoin", fn := fun _ => fun
  | [d1, d2, d3, d4] => { results := [.lit (.bool false)], args := [d1, d2, d3, d4] }
  | _ => none }
def TlvJoinWrongFalsely : Prop := tlvJoinRow.holds Try.pinned (OpenSpec.ofChange tlvJoinWrong)

/-- 'marlinelaw18.ChapTurns': WHATEVER THE INPUT: true; the input reads as it did. -/
def chapTurnsSpec : ChangeSpec := { name := "chapTurns", fn := fun _ => fun
  | [d1, d2] => { results := [.lit (.bool true)], args := [d1, d2] }
  | _ => none }
def chapTurnsRow : OpenClaim := { program := "ytgjeahgagciagaa", sum := "4f3673494e06e5efc624173733c940e8ad4c16918fb45d47c355884a1005d640", func := "marline/marlinelaw18.ChapTurns", spec := "chapTurns", apart := false }
def ChapTurnsSaid : Prop := chapTurnsRow.holds Try.pinned (OpenSpec.ofChange chapTurnsSpec)

/-- ITS FALSE NEIGHBOUR: 'it returns false'. Refute it at one input. -/
def chapTurnsWrong : ChangeSpec := { name := "chapTurns", fn := fun _ => fun
  | [d1, d2] => { results := [.lit (.bool false)], args := [d1, d2] }
  | _ => none }
def ChapTurnsWrongFalsely : Prop := chapTurnsRow.holds Try.pinned (OpenSpec.ofChange chapTurnsWrong)

/-- 'marlinelaw12.TlvTells': WHATEVER THE INPUT: true; the input reads as it did. -/
def tlvTellsSpec : ChangeSpec := { name := "tlvTells", fn := fun _ => fun
  | [d1, d2, d3, d4] => { results := [.lit (.bool true)], args := [d1, d2, d3, d4] }
  | _ => none }
def tlvTellsRow : OpenClaim := { program := "ytgjeahgagciagaa", sum := "4f3673494e06e5efc624173733c940e8ad4c16918fb45d47c355884a1005d640", func := "marline/marlinelaw12.TlvTells", spec := "tlvTells", unfollowed := true, recurses := true, apart := false }
def TlvTellsSaid : Prop := tlvTellsRow.holds Try.pinned (OpenSpec.ofChange tlvTellsSpec)

/-- ITS FALSE NEIGHBOUR: 'it returns false'. Refute it at one input. -/
def tlvTellsWrong : ChangeSpec := { name := "tlvTells", fn := fun _ => fun
  | [d1, d2, d3, d4] => { results := [.lit (.bool false)], args := [d1, d2, d3, d4] }
  | _ => none }
def TlvTellsWrongFalsely : Prop := tlvTellsRow.holds Try.pinned (OpenSpec.ofChange tlvTellsWrong)

/-- 'marlinelaw12.TlvKeeps': WHATEVER THE INPUT: true; the input reads as it did. -/
def tlvKeepsSpec : ChangeSpec := { name := "tlvKeeps", fn := fun _ => fun
  | [d1, d2] => { results := [.lit (.bool true)], args := [d1, d2] }
  | _ => none }
def tlvKeepsRow : OpenClaim := { program := "ytgjeahgagciagaa", sum := "4f3673494e06e5efc624173733c940e8ad4c16918fb45d47c355884a1005d640", func := "marline/marlinelaw12.TlvKeeps", spec := "tlvKeeps", unfollowed := true, recurses := true, apart := false }
def TlvKeepsSaid : Prop := tlvKeepsRow.holds Try.pinned (OpenSpec.ofChange tlvKeepsSpec)

/-- ITS FALSE NEIGHBOUR: 'it returns false'. Refute it at one input. -/
def tlvKeepsWrong : ChangeSpec := { name := "tlvKeeps", fn := fun _ => fun
  | [d1, d2] => { results := [.lit (.bool false)], args := [d1, d2] }
  | _ => none }
def TlvKeepsWrongFalsely : Prop := tlvKeepsRow.holds Try.pinned (OpenSpec.ofChange tlvKeepsWrong)

/-- 'marlinelaw17.PapTells': WHATEVER THE INPUT: true; the input reads as it did. -/
def papTellsSpec : ChangeSpec := { name := "papTells", fn := fun _ => fun
  | [d1, d2] => { results := [.lit (.bool true)], args := [d1, d2] }
  | _ => none }
def papTellsRow : OpenClaim := { program := "ytgjeahgagciagaa", sum := "4f3673494e06e5efc624173733c940e8ad4c16918fb45d47c355884a1005d640", func := "marline/marlinelaw17.PapTells", spec := "papTells", apart := false }
def PapTellsSaid : Prop := papTellsRow.holds Try.pinned (OpenSpec.ofChange papTellsSpec)

/-- ITS FALSE NEIGHBOUR: 'it returns false'. Refute it at one input. -/
def papTellsWrong : ChangeSpec := { name := "papTells", fn := fun _ => fun
  | [d1, d2] => { results := [.lit (.bool false)], args := [d1, d2] }
  | _ => none }
def PapTellsWrongFalsely : Prop := papTellsRow.holds Try.pinned (OpenSpec.ofChange papTellsWrong)

/-- 'marlinelaw17.PapBack': WHATEVER THE INPUT: true; the input reads as it did. -/
def papBackSpec : ChangeSpec := { name := "papBack", fn := fun _ => fun
  | [d1, d2, d3] => { results := [.lit (.bool true)], args := [d1, d2, d3] }
  | _ => none }
def papBackRow : OpenClaim := { program := "ytgjeahgagciagaa", sum := "4f3673494e06e5efc624173733c940e8ad4c16918fb45d47c355884a1005d640", func := "marline/marlinelaw17.PapBack", spec := "papBack", apart := false }
def PapBackSaid : Prop := papBackRow.holds Try.pinned (OpenSpec.ofChange papBackSpec)

/-- ITS FALSE NEIGHBOUR: 'it returns false'. Refute it at one input. -/
def papBackWrong : ChangeSpec := { name := "papBack", fn := fun _ => fun
  | [d1, d2, d3] => { results := [.lit (.bool false)], args := [d1, d2, d3] }
  | _ => none }
def PapBackWrongFalsely : Prop := papBackRow.holds Try.pinned (OpenSpec.ofChange papBackWrong)

/-- 'marlinelaw17.PapKeeps': WHATEVER THE INPUT: true; the input reads as it did. -/
def papKeepsSpec : ChangeSpec := { name := "papKeeps", fn := fun _ => fun
  | [d1, d2] => { results := [.lit (.bool true)], args := [d1, d2] }
  | _ => none }
def papKeepsRow : OpenClaim := { program := "ytgjeahgagciagaa", sum := "4f3673494e06e5efc624173733c940e8ad4c16918fb45d47c355884a1005d640", func := "marline/marlinelaw17.PapKeeps", spec := "papKeeps", apart := false }
def PapKeepsSaid : Prop := papKeepsRow.holds Try.pinned (OpenSpec.ofChange papKeepsSpec)

/-- ITS FALSE NEIGHBOUR: 'it returns false'. Refute it at one input. -/
def papKeepsWrong : ChangeSpec := { name := "papKeeps", fn := fun _ => fun
  | [d1, d2] => { results := [.lit (.bool false)], args := [d1, d2] }
  | _ => none }
def PapKeepsWrongFalsely : Prop := papKeepsRow.holds Try.pinned (OpenSpec.ofChange papKeepsWrong)

/-- 'marlinelaw18.ChapBack': WHATEVER THE INPUT: true; the input reads as it did. -/
def chapBackSpec : ChangeSpec := { name := "chapBack", fn := fun _ => fun
  | [d1, d2, d3] => { results := [.lit (.bool true)], args := [d1, d2, d3] }
  | _ => none }
def chapBackRow : OpenClaim := { program := "ytgjeahgagciagaa", sum := "4f3673494e06e5efc624173733c940e8ad4c16918fb45d47c355884a1005d640", func := "marline/marlinelaw18.ChapBack", spec := "chapBack", apart := false }
def ChapBackSaid : Prop := chapBackRow.holds Try.pinned (OpenSpec.ofChange chapBackSpec)

/-- ITS FALSE NEIGHBOUR: 'it returns false'. Refute it at one input. -/
def chapBackWrong : ChangeSpec := { name := "chapBack", fn := fun _ => fun
  | [d1, d2, d3] => { results := [.lit (.bool false)], args := [d1, d2, d3] }
  | _ => none }
def ChapBackWrongFalsely : Prop := chapBackRow.holds Try.pinned (OpenSpec.ofChange chapBackWrong)

/-- 'marlinelaw18.ChapTells': WHATEVER THE INPUT: true; the input reads as it did. -/
def chapTellsSpec : ChangeSpec := { name := "chapTells", fn := fun _ => fun
  | [d1, d2, d3] => { results := [.lit (.bool true)], args := [d1, d2, d3] }
  | _ => none }
def chapTellsRow : OpenClaim := { program := "ytgjeahgagciagaa", sum := "4f3673494e06e5efc624173733c940e8ad4c16918fb45d47c355884a1005d640", func := "marline/marlinelaw18.ChapTells", spec := "chapTells", apart := false }
def ChapTellsSaid : Prop := chapTellsRow.holds Try.pinned (OpenSpec.ofChange chapTellsSpec)

/-- ITS FALSE NEIGHBOUR: 'it returns false'. Refute it at one input. -/
def chapTellsWrong : ChangeSpec := { name := "chapTells", fn := fun _ => fun
  | [d1, d2, d3] => { results := [.lit (.bool false)], args := [d1, d2, d3] }
  | _ => none }
def ChapTellsWrongFalsely : Prop := chapTellsRow.holds Try.pinned (OpenSpec.ofChange chapTellsWrong)

/- THE SECOND FORM. 'bulk': how many values and letters a reading holds, each counted each time it is reached (what is shared counts as often as it is met; a slice's spare places count too). A statement '..UptoSaid' is the law's where the arguments, and the package variables that the reading takes, are together of bulk at most 1048576: NARROWER than '..Said'. Prove '..Said' where nothing that the law and all that it calls make is longer than what came in: it says more and counts as full. Else prove '..UptoSaid'. A law counts once. -/
mutual
def uptoBulk {H : Type} : DataW H → Nat
  | .lit (.string bytes) => bytes.length + 1
  | .lit _ => 1
  | .nil => 1
  | .ptr d => uptoBulk d + 1
  | .slice elems spare => uptoBulkAll elems + uptoBulkAll spare + 1
  | .agg parts => uptoBulkAll parts + 1
  | .iface _ d => uptoBulk d + 1
  | .map entries => uptoBulkEntries entries + 1
  | .held _ => 1
def uptoBulkAll {H : Type} : List (DataW H) → Nat
  | [] => 0
  | d :: r => uptoBulk d + uptoBulkAll r
def uptoBulkEntries {H : Type} : List (Lit × DataW H) → Nat
  | [] => 0
  | x :: r => uptoBulkEntry x + uptoBulkEntries r
def uptoBulkEntry {H : Type} : Lit × DataW H → Nat
  | (.string bytes, d) => bytes.length + uptoBulk d + 1
  | (_, d) => uptoBulk d + 1
 end
def uptoSmall : (H : Type) → List (DataW H) → Bool := fun _ ds => decide (uptoBulkAll ds ≤ 1048576)
def OpenSpec.upto (s : _root_.Go.ChangeSpec) : _root_.Go.OpenSpec := { _root_.Go.OpenSpec.ofChange s with cond := some uptoSmall }

/-- 'marlinelaw12.TlvBack', WHERE WHAT IT READS IS OF BULK AT MOST 1048576: true; the input reads as it did. -/
def tlvBackUptoRow : OpenClaim := { program := "ytgjeahgagciagaa", sum := "4f3673494e06e5efc624173733c940e8ad4c16918fb45d47c355884a1005d640", func := "marline/marlinelaw12.TlvBack", spec := "tlvBack", unfollowed := true, recurses := true, apart := false, narrowed := true }
def TlvBackUptoSaid : Prop := tlvBackUptoRow.holds Try.pinned (OpenSpec.upto tlvBackSpec)

/-- 'marlinelaw12.TlvJoin', WHERE WHAT IT READS IS OF BULK AT MOST 1048576: true; the input reads as it did. -/
def tlvJoinUptoRow : OpenClaim := { program := "ytgjeahgagciagaa", sum := "4f3673494e06e5efc624173733c940e8ad4c16918fb45d47c355884a1005d640", func := "marline/marlinelaw12.TlvJoin", spec := "tlvJoin", unfollowed := true, recurses := true, apart := false, narrowed := true }
def TlvJoinUptoSaid : Prop := tlvJoinUptoRow.holds Try.pinned (OpenSpec.upto tlvJoinSpec)

/-- 'marlinelaw18.ChapTurns', WHERE WHAT IT READS IS OF BULK AT MOST 1048576: true; the input reads as it did. -/
def chapTurnsUptoRow : OpenClaim := { program := "ytgjeahgagciagaa", sum := "4f3673494e06e5efc624173733c940e8ad4c16918fb45d47c355884a1005d640", func := "marline/marlinelaw18.ChapTurns", spec := "chapTurns", apart := false, narrowed := true }
def ChapTurnsUptoSaid : Prop := chapTurnsUptoRow.holds Try.pinned (OpenSpec.upto chapTurnsSpec)

/-- 'marlinelaw12.TlvTells', WHERE WHAT IT READS IS OF BULK AT MOST 1048576: true; the input reads as it did. -/
def tlvTellsUptoRow : OpenClaim := { program := "ytgjeahgagciagaa", sum := "4f3673494e06e5efc624173733c940e8ad4c16918fb45d47c355884a1005d640", func := "marline/marlinelaw12.TlvTells", spec := "tlvTells", unfollowed := true, recurses := true, apart := false, narrowed := true }
def TlvTellsUptoSaid : Prop := tlvTellsUptoRow.holds Try.pinned (OpenSpec.upto tlvTellsSpec)

/-- 'marlinelaw12.TlvKeeps', WHERE WHAT IT READS IS OF BULK AT MOST 1048576: true; the input reads as it did. -/
def tlvKeepsUptoRow : OpenClaim := { program := "ytgjeahgagciagaa", sum := "4f3673494e06e5efc624173733c940e8ad4c16918fb45d47c355884a1005d640", func := "marline/marlinelaw12.TlvKeeps", spec := "tlvKeeps", unfollowed := true, recurses := true, apart := false, narrowed := true }
def TlvKeepsUptoSaid : Prop := tlvKeepsUptoRow.holds Try.pinned (OpenSpec.upto tlvKeepsSpec)

/-- 'marlinelaw17.PapTells', WHERE WHAT IT READS IS OF BULK AT MOST 1048576: true; the input reads as it did. -/
def papTellsUptoRow : OpenClaim := { program := "ytgjeahgagciagaa", sum := "4f3673494e06e5efc624173733c940e8ad4c16918fb45d47c355884a1005d640", func := "marline/marlinelaw17.PapTells", spec := "papTells", apart := false, narrowed := true }
def PapTellsUptoSaid : Prop := papTellsUptoRow.holds Try.pinned (OpenSpec.upto papTellsSpec)

/-- 'marlinelaw17.PapBack', WHERE WHAT IT READS IS OF BULK AT MOST 1048576: true; the input reads as it did. -/
def papBackUptoRow : OpenClaim := { program := "ytgjeahgagciagaa", sum := "4f3673494e06e5efc624173733c940e8ad4c16918fb45d47c355884a1005d640", func := "marline/marlinelaw17.PapBack", spec := "papBack", apart := false, narrowed := true }
def PapBackUptoSaid : Prop := papBackUptoRow.holds Try.pinned (OpenSpec.upto papBackSpec)

/-- 'marlinelaw17.PapKeeps', WHERE WHAT IT READS IS OF BULK AT MOST 1048576: true; the input reads as it did. -/
def papKeepsUptoRow : OpenClaim := { program := "ytgjeahgagciagaa", sum := "4f3673494e06e5efc624173733c940e8ad4c16918fb45d47c355884a1005d640", func := "marline/marlinelaw17.PapKeeps", spec := "papKeeps", apart := false, narrowed := true }
def PapKeepsUptoSaid : Prop := papKeepsUptoRow.holds Try.pinned (OpenSpec.upto papKeepsSpec)

/-- 'marlinelaw18.ChapBack', WHERE WHAT IT READS IS OF BULK AT MOST 1048576: true; the input reads as it did. -/
def chapBackUptoRow : OpenClaim := { program := "ytgjeahgagciagaa", sum := "4f3673494e06e5efc624173733c940e8ad4c16918fb45d47c355884a1005d640", func := "marline/marlinelaw18.ChapBack", spec := "chapBack", apart := false, narrowed := true }
def ChapBackUptoSaid : Prop := chapBackUptoRow.holds Try.pinned (OpenSpec.upto chapBackSpec)

/-- 'marlinelaw18.ChapTells', WHERE WHAT IT READS IS OF BULK AT MOST 1048576: true; the input reads as it did. -/
def chapTellsUptoRow : OpenClaim := { program := "ytgjeahgagciagaa", sum := "4f3673494e06e5efc624173733c940e8ad4c16918fb45d47c355884a1005d640", func := "marline/marlinelaw18.ChapTells", spec := "chapTells", apart := false, narrowed := true }
def ChapTellsUptoSaid : Prop := chapTellsUptoRow.holds Try.pinned (OpenSpec.upto chapTellsSpec)

end Rows
end Go.Proofs.Ytgjeahgagciagaa
