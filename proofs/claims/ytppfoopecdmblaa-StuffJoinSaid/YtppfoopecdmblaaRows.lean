/-
  No cell of these rows narrows 'for every input' (looked for: loops, veiled, ifaces, maps, wideKeys, modest, calm, conditions, laid).
  DERIVED. THE GIVEN ROWS OF THIS SEAT. 8 by the template 'for every input the law returns true; each argument reads behind the call as it read before'; 0 by the template 'total and deterministic' (their statements: YtppfoopecdmblaaTotals.lean).
  GIVEN WITH THE SEED: the statements are not yours to turn. If you find one false, say at which input.
  Laid BY PROGRAM, IN A SANDBOX (cutbox-rows.mjs): the forced cells as the released guide's own fill.sh prints them over the translation ffa54e3b38143ddd… (all of the seat's roots in one cut). By AI agents, Wed Nov 11 2026. No macro, syntax, notation, axiom, sorry.
-/
import Derived.Test.YtppfoopecdmblaaChecked
import GoSem.Claim
import GoSem.ClaimJoined
import GoSem.ClaimMapViews
import Derived.JoinedTies
import Derived.KernelRfl
namespace Go.Proofs.Ytppfoopecdmblaa
/- THE CELL 'sum', in the pinned program and in every row, IS THE sha256 OF THE DUMP (.gsa) THAT YtppfoopecdmblaaProg.lean LOADS. Nothing in Lean hashes anything: it is a label: what it is worth is what the hold of that sum in a sandbox is worth. -/
noncomputable def Try.pinned : Pinned := { name := "ytppfoopecdmblaa", sum := "ffa54e3b38143dddd194e0013151491aaf2341d712dbeaaf333b1b62088e4fc6", checked := Try.checked }
namespace Rows
def none {H : Type} : Left H := { results := [], args := [] }

/-- 'marlinelaw13.CtlMost': WHATEVER THE INPUT: true; the input reads as it did. -/
def ctlMostSpec : ChangeSpec := { name := "ctlMost", fn := fun _ => fun
  | [] => { results := [.lit (.bool true)], args := [] }
  | _ => none }
def ctlMostRow : OpenClaim := { program := "ytppfoopecdmblaa", sum := "ffa54e3b38143dddd194e0013151491aaf2341d712dbeaaf333b1b62088e4fc6", func := "marline/marlinelaw13.CtlMost", spec := "ctlMost", apart := false }
def CtlMostSaid : Prop := ctlMostRow.holds Try.pinned (OpenSpec.ofChange ctlMostSpec)

/-- ITS FALSE NEIGHBOUR: 'it returns false'. Refute it at one input. -/
def ctlMostWrong : ChangeSpec := { name := "ctlMost", fn := fun _ => fun
  | [] => { results := [.lit (.bool false)], args := [] }
  | _ => none }
def CtlMostWrongFalsely : Prop := ctlMostRow.holds Try.pinned (OpenSpec.ofChange ctlMostWrong)

/-- 'marlinelaw13.CtlTells': WHATEVER THE INPUT: true; the input reads as it did. -/
def ctlTellsSpec : ChangeSpec := { name := "ctlTells", fn := fun _ => fun
  | [d1, d2, d3, d4] => { results := [.lit (.bool true)], args := [d1, d2, d3, d4] }
  | _ => none }
def ctlTellsRow : OpenClaim := { program := "ytppfoopecdmblaa", sum := "ffa54e3b38143dddd194e0013151491aaf2341d712dbeaaf333b1b62088e4fc6", func := "marline/marlinelaw13.CtlTells", spec := "ctlTells", apart := false }
def CtlTellsSaid : Prop := ctlTellsRow.holds Try.pinned (OpenSpec.ofChange ctlTellsSpec)

/-- ITS FALSE NEIGHBOUR: 'it returns false'. Refute it at one input. -/
def ctlTellsWrong : ChangeSpec := { name := "ctlTells", fn := fun _ => fun
  | [d1, d2, d3, d4] => { results := [.lit (.bool false)], args := [d1, d2, d3, d4] }
  | _ => none }
def CtlTellsWrongFalsely : Prop := ctlTellsRow.holds Try.pinned (OpenSpec.ofChange ctlTellsWrong)

/-- 'marlinelaw13.CtlBack': WHATEVER THE INPUT: true; the input reads as it did. -/
def ctlBackSpec : ChangeSpec := { name := "ctlBack", fn := fun _ => fun
  | [d1, d2, d3, d4, d5] => { results := [.lit (.bool true)], args := [d1, d2, d3, d4, d5] }
  | _ => none }
def ctlBackRow : OpenClaim := { program := "ytppfoopecdmblaa", sum := "ffa54e3b38143dddd194e0013151491aaf2341d712dbeaaf333b1b62088e4fc6", func := "marline/marlinelaw13.CtlBack", spec := "ctlBack", apart := false }
def CtlBackSaid : Prop := ctlBackRow.holds Try.pinned (OpenSpec.ofChange ctlBackSpec)

/-- ITS FALSE NEIGHBOUR: 'it returns false'. Refute it at one input. -/
def ctlBackWrong : ChangeSpec := { name := "ctlBack", fn := fun _ => fun
  | [d1, d2, d3, d4, d5] => { results := [.lit (.bool false)], args := [d1, d2, d3, d4, d5] }
  | _ => none }
def CtlBackWrongFalsely : Prop := ctlBackRow.holds Try.pinned (OpenSpec.ofChange ctlBackWrong)

/-- 'marlinelaw13.CtlOne': WHATEVER THE INPUT: true; the input reads as it did. -/
def ctlOneSpec : ChangeSpec := { name := "ctlOne", fn := fun _ => fun
  | [d] => { results := [.lit (.bool true)], args := [d] }
  | _ => none }
def ctlOneRow : OpenClaim := { program := "ytppfoopecdmblaa", sum := "ffa54e3b38143dddd194e0013151491aaf2341d712dbeaaf333b1b62088e4fc6", func := "marline/marlinelaw13.CtlOne", spec := "ctlOne", apart := false }
def CtlOneSaid : Prop := ctlOneRow.holds Try.pinned (OpenSpec.ofChange ctlOneSpec)

/-- ITS FALSE NEIGHBOUR: 'it returns false'. Refute it at one input. -/
def ctlOneWrong : ChangeSpec := { name := "ctlOne", fn := fun _ => fun
  | [d] => { results := [.lit (.bool false)], args := [d] }
  | _ => none }
def CtlOneWrongFalsely : Prop := ctlOneRow.holds Try.pinned (OpenSpec.ofChange ctlOneWrong)

/-- 'marlinelaw04.StuffTells': WHATEVER THE INPUT: true; the input reads as it did. -/
def stuffTellsSpec : ChangeSpec := { name := "stuffTells", fn := fun _ => fun
  | [d1, d2] => { results := [.lit (.bool true)], args := [d1, d2] }
  | _ => none }
def stuffTellsRow : OpenClaim := { program := "ytppfoopecdmblaa", sum := "ffa54e3b38143dddd194e0013151491aaf2341d712dbeaaf333b1b62088e4fc6", func := "marline/marlinelaw04.StuffTells", spec := "stuffTells", inPlace := ["internal/bytealg.IndexByte"], unfollowed := true, recurses := true, apart := false }
def StuffTellsSaid : Prop := stuffTellsRow.holds Try.pinned (OpenSpec.ofChange stuffTellsSpec)

/-- ITS FALSE NEIGHBOUR: 'it returns false'. Refute it at one input. -/
def stuffTellsWrong : ChangeSpec := { name := "stuffTells", fn := fun _ => fun
  | [d1, d2] => { results := [.lit (.bool false)], args := [d1, d2] }
  | _ => none }
def StuffTellsWrongFalsely : Prop := stuffTellsRow.holds Try.pinned (OpenSpec.ofChange stuffTellsWrong)

/-- 'marlinelaw04.StuffBack': WHATEVER THE INPUT: true; the input reads as it did. -/
def stuffBackSpec : ChangeSpec := { name := "stuffBack", fn := fun _ => fun
  | [d1, d2, d3] => { results := [.lit (.bool true)], args := [d1, d2, d3] }
  | _ => none }
def stuffBackRow : OpenClaim := { program := "ytppfoopecdmblaa", sum := "ffa54e3b38143dddd194e0013151491aaf2341d712dbeaaf333b1b62088e4fc6", func := "marline/marlinelaw04.StuffBack", spec := "stuffBack", inPlace := ["internal/bytealg.IndexByte"], unfollowed := true, recurses := true, apart := false }
def StuffBackSaid : Prop := stuffBackRow.holds Try.pinned (OpenSpec.ofChange stuffBackSpec)

/-- ITS FALSE NEIGHBOUR: 'it returns false'. Refute it at one input. -/
def stuffBackWrong : ChangeSpec := { name := "stuffBack", fn := fun _ => fun
  | [d1, d2, d3] => { results := [.lit (.bool false)], args := [d1, d2, d3] }
  | _ => none }
def StuffBackWrongFalsely : Prop := stuffBackRow.holds Try.pinned (OpenSpec.ofChange stuffBackWrong)

/-- 'marlinelaw04.StuffLeast': WHATEVER THE INPUT: true; the input reads as it did. -/
def stuffLeastSpec : ChangeSpec := { name := "stuffLeast", fn := fun _ => fun
  | [d1, d2] => { results := [.lit (.bool true)], args := [d1, d2] }
  | _ => none }
def stuffLeastRow : OpenClaim := { program := "ytppfoopecdmblaa", sum := "ffa54e3b38143dddd194e0013151491aaf2341d712dbeaaf333b1b62088e4fc6", func := "marline/marlinelaw04.StuffLeast", spec := "stuffLeast", inPlace := ["internal/bytealg.IndexByte"], unfollowed := true, recurses := true, apart := false }
def StuffLeastSaid : Prop := stuffLeastRow.holds Try.pinned (OpenSpec.ofChange stuffLeastSpec)

/-- ITS FALSE NEIGHBOUR: 'it returns false'. Refute it at one input. -/
def stuffLeastWrong : ChangeSpec := { name := "stuffLeast", fn := fun _ => fun
  | [d1, d2] => { results := [.lit (.bool false)], args := [d1, d2] }
  | _ => none }
def StuffLeastWrongFalsely : Prop := stuffLeastRow.holds Try.pinned (OpenSpec.ofChange stuffLeastWrong)

/-- 'marlinelaw04.StuffJoin': WHATEVER THE INPUT: true; the input reads as it did. -/
def stuffJoinSpec : ChangeSpec := { name := "stuffJoin", fn := fun _ => fun
  | [d1, d2, d3] => { results := [.lit (.bool true)], args := [d1, d2, d3] }
  | _ => none }
def stuffJoinRow : OpenClaim := { program := "ytppfoopecdmblaa", sum := "ffa54e3b38143dddd194e0013151491aaf2341d712dbeaaf333b1b62088e4fc6", func := "marline/marlinelaw04.StuffJoin", spec := "stuffJoin", inPlace := ["internal/bytealg.IndexByte"], unfollowed := true, recurses := true, apart := false }
def StuffJoinSaid : Prop := stuffJoinRow.holds Try.pinned (OpenSpec.ofChange stuffJoinSpec)

/-- ITS FALSE NEIGHBOUR: 'it returns false'. Refute it at one input. -/
def stuffJoinWrong : ChangeSpec := { name := "stuffJoin", fn := fun _ => fun
  | [d1, d2, d3] => { results := [.lit (.bool false)], args := [d1, d2, d3] }
  | _ => none }
def StuffJoinWrongFalsely : Prop := stuffJoinRow.holds Try.pinned (OpenSpec.ofChange stuffJoinWrong)

/- THE SECOND FORM. 'bulk': how many values and letters a reading holds, each counted each time it is reached (what is shared counts as often as it is met; a slice's spare places count too). A statement '..UptoSaid' is the law's where the arguments, and the package variables that the reading takes, are together of bulk at most 1048576: NARROWER than '..Said'. Prove '..Said' where nothing that the law and all that it calls make is longer than what came in: it says more and counts as full. Else prove '..UptoSaid'. A law counts once. -/
mutual
def uptoBulk {H : Type} : DataW H → Nat
  | .lit (.string bytes) => bytes.length + 1
  | .lit _ => 1
  | .nil => 1
  | .ptr d => uptoBulk d + 1
  | .slice elems spare => uptoBulkAll elems + uptoBulkAll spare + 1
  | .agg parts => uptoBulkAll parts + 1
  | .iface _ d => uptoBulk d + 1
  | .map entries => uptoBulkEntries entries + 1
  | .held _ => 1
def uptoBulkAll {H : Type} : List (DataW H) → Nat
  | [] => 0
  | d :: r => uptoBulk d + uptoBulkAll r
def uptoBulkEntries {H : Type} : List (Lit × DataW H) → Nat
  | [] => 0
  | x :: r => uptoBulkEntry x + uptoBulkEntries r
def uptoBulkEntry {H : Type} : Lit × DataW H → Nat
  | (.string bytes, d) => bytes.length + uptoBulk d + 1
  | (_, d) => uptoBulk d + 1
 end
def uptoSmall : (H : Type) → List (DataW H) → Bool := fun _ ds => decide (uptoBulkAll ds ≤ 1048576)
def OpenSpec.upto (s : _root_.Go.ChangeSpec) : _root_.Go.OpenSpec := { _root_.Go.OpenSpec.ofChange s with cond := some uptoSmall }

/-- 'marlinelaw13.CtlMost', WHERE WHAT IT READS IS OF BULK AT MOST 1048576: true; the input reads as it did. -/
def ctlMostUptoRow : OpenClaim := { program := "ytppfoopecdmblaa", sum := "ffa54e3b38143dddd194e0013151491aaf2341d712dbeaaf333b1b62088e4fc6", func := "marline/marlinelaw13.CtlMost", spec := "ctlMost", apart := false, narrowed := true }
def CtlMostUptoSaid : Prop := ctlMostUptoRow.holds Try.pinned (OpenSpec.upto ctlMostSpec)

/-- 'marlinelaw13.CtlTells', WHERE WHAT IT READS IS OF BULK AT MOST 1048576: true; the input reads as it did. -/
def ctlTellsUptoRow : OpenClaim := { program := "ytppfoopecdmblaa", sum := "ffa54e3b38143dddd194e0013151491aaf2341d712dbeaaf333b1b62088e4fc6", func := "marline/marlinelaw13.CtlTells", spec := "ctlTells", apart := false, narrowed := true }
def CtlTellsUptoSaid : Prop := ctlTellsUptoRow.holds Try.pinned (OpenSpec.upto ctlTellsSpec)

/-- 'marlinelaw13.CtlBack', WHERE WHAT IT READS IS OF BULK AT MOST 1048576: true; the input reads as it did. -/
def ctlBackUptoRow : OpenClaim := { program := "ytppfoopecdmblaa", sum := "ffa54e3b38143dddd194e0013151491aaf2341d712dbeaaf333b1b62088e4fc6", func := "marline/marlinelaw13.CtlBack", spec := "ctlBack", apart := false, narrowed := true }
def CtlBackUptoSaid : Prop := ctlBackUptoRow.holds Try.pinned (OpenSpec.upto ctlBackSpec)

/-- 'marlinelaw13.CtlOne', WHERE WHAT IT READS IS OF BULK AT MOST 1048576: true; the input reads as it did. -/
def ctlOneUptoRow : OpenClaim := { program := "ytppfoopecdmblaa", sum := "ffa54e3b38143dddd194e0013151491aaf2341d712dbeaaf333b1b62088e4fc6", func := "marline/marlinelaw13.CtlOne", spec := "ctlOne", apart := false, narrowed := true }
def CtlOneUptoSaid : Prop := ctlOneUptoRow.holds Try.pinned (OpenSpec.upto ctlOneSpec)

/-- 'marlinelaw04.StuffTells', WHERE WHAT IT READS IS OF BULK AT MOST 1048576: true; the input reads as it did. -/
def stuffTellsUptoRow : OpenClaim := { program := "ytppfoopecdmblaa", sum := "ffa54e3b38143dddd194e0013151491aaf2341d712dbeaaf333b1b62088e4fc6", func := "marline/marlinelaw04.StuffTells", spec := "stuffTells", inPlace := ["internal/bytealg.IndexByte"], unfollowed := true, recurses := true, apart := false, narrowed := true }
def StuffTellsUptoSaid : Prop := stuffTellsUptoRow.holds Try.pinned (OpenSpec.upto stuffTellsSpec)

/-- 'marlinelaw04.StuffBack', WHERE WHAT IT READS IS OF BULK AT MOST 1048576: true; the input reads as it did. -/
def stuffBackUptoRow : OpenClaim := { program := "ytppfoopecdmblaa", sum := "ffa54e3b38143dddd194e0013151491aaf2341d712dbeaaf333b1b62088e4fc6", func := "marline/marlinelaw04.StuffBack", spec := "stuffBack", inPlace := ["internal/bytealg.IndexByte"], unfollowed := true, recurses := true, apart := false, narrowed := true }
def StuffBackUptoSaid : Prop := stuffBackUptoRow.holds Try.pinned (OpenSpec.upto stuffBackSpec)

/-- 'marlinelaw04.StuffLeast', WHERE WHAT IT READS IS OF BULK AT MOST 1048576: true; the input reads as it did. -/
def stuffLeastUptoRow : OpenClaim := { program := "ytppfoopecdmblaa", sum := "ffa54e3b38143dddd194e0013151491aaf2341d712dbeaaf333b1b62088e4fc6", func := "marline/marlinelaw04.StuffLeast", spec := "stuffLeast", inPlace := ["internal/bytealg.IndexByte"], unfollowed := true, recurses := true, apart := false, narrowed := true }
def StuffLeastUptoSaid : Prop := stuffLeastUptoRow.holds Try.pinned (OpenSpec.upto stuffLeastSpec)

/-- 'marlinelaw04.StuffJoin', WHERE WHAT IT READS IS OF BULK AT MOST 1048576: true; the input reads as it did. -/
def stuffJoinUptoRow : OpenClaim := { program := "ytppfoopecdmblaa", sum := "ffa54e3b38143dddd194e0013151491aaf2341d712dbeaaf333b1b62088e4fc6", func := "marline/marlinelaw04.StuffJoin", spec := "stuffJoin", inPlace := ["internal/bytealg.IndexByte"], unfollowed := true, recurses := true, apart := false, narrowed := true }
def StuffJoinUptoSaid : Prop := stuffJoinUptoRow.holds Try.pinned (OpenSpec.upto stuffJoinSpec)

end Rows
end Go.Proofs.Ytppfoopecdmblaa
