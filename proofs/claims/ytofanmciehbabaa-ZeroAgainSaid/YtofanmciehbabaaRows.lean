/-
  No cell of these rows narrows 'for every input' (looked for: loops, veiled, ifaces, maps, wideKeys, modest, calm, conditions, laid).
  DERIVED. THE GIVEN ROWS OF THIS SEAT. 7 by the template 'for every input the law returns true; each argument reads behind the call as it read before'; 0 by the template 'total and deterministic' (their statements: YtofanmciehbabaaTotals.lean).
  GIVEN WITH THE SEED: the statements are not yours to turn. If you find one false, say at which input.
  Laid BY PROGRAM, IN A SANDBOX (cutbox-rows.mjs): the forced cells as the released guide's own fill.sh prints them over the translation 370ae341db352c58… (all of the seat's roots in one cut). By AI agents, Wed Nov 11 2026. No macro, syntax, notation, axiom, sorry.
-/
import Derived.Test.YtofanmciehbabaaChecked
import GoSem.Claim
import GoSem.ClaimJoined
import GoSem.ClaimMapViews
import Derived.JoinedTies
import Derived.KernelRfl
namespace Go.Proofs.Ytofanmciehbabaa
/- THE CELL 'sum', in the pinned program and in every row, IS THE sha256 OF THE DUMP (.gsa) THAT YtofanmciehbabaaProg.lean LOADS. Nothing in Lean hashes anything: it is a label: what it is worth is what the hold of that sum in a sandbox is worth. -/
noncomputable def Try.pinned : Pinned := { name := "ytofanmciehbabaa", sum := "370ae341db352c5829c40535d5f56c3aa49e40097fe108e8bc5e5caf91f7d7c4", checked := Try.checked }
namespace Rows
def none {H : Type} : Left H := { results := [], args := [] }

/-- 'marlinelaw01.BitsJoin': WHATEVER THE INPUT: true; the input reads as it did. -/
def bitsJoinSpec : ChangeSpec := { name := "bitsJoin", fn := fun _ => fun
  | [d1, d2] => { results := [.lit (.bool true)], args := [d1, d2] }
  | _ => none }
def bitsJoinRow : OpenClaim := { program := "ytofanmciehbabaa", sum := "370ae341db352c5829c40535d5f56c3aa49e40097fe108e8bc5e5caf91f7d7c4", func := "marline/marlinelaw01.BitsJoin", spec := "bitsJoin", apart := false }
def BitsJoinSaid : Prop := bitsJoinRow.holds Try.pinned (OpenSpec.ofChange bitsJoinSpec)

/-- ITS FALSE NEIGHBOUR: 'it returns false'. Refute it at one input. -/
def bitsJoinWrong : ChangeSpec := { name := "bitsJoin", fn := fun _ => fun
  | [d1, d2] => { results := [.lit (.bool false)], args := [d1, d2] }
  | _ => none }
def BitsJoinWrongFalsely : Prop := bitsJoinRow.holds Try.pinned (OpenSpec.ofChange bitsJoinWrong)

/-- 'marlinelaw06.ZeroJoin': WHATEVER THE INPUT: true; the input reads as it did. -/
def zeroJoinSpec : ChangeSpec := { name := "zeroJoin", fn := fun _ => fun
  | [d1, d2] => { results := [.lit (.bool true)], args := [d1, d2] }
  | _ => none }
def zeroJoinRow : OpenClaim := { program := "ytofanmciehbabaa", sum := "370ae341db352c5829c40535d5f56c3aa49e40097fe108e8bc5e5caf91f7d7c4", func := "marline/marlinelaw06.ZeroJoin", spec := "zeroJoin", apart := false }
def ZeroJoinSaid : Prop := zeroJoinRow.holds Try.pinned (OpenSpec.ofChange zeroJoinSpec)

/-- ITS FALSE NEIGHBOUR: 'it returns false'. Refute it at one input. -/
def zeroJoinWrong : ChangeSpec := { name := "zeroJoin", fn := fun _ => fun
  | [d1, d2] => { results := [.lit (.bool false)], args := [d1, d2] }
  | _ => none }
def ZeroJoinWrongFalsely : Prop := zeroJoinRow.holds Try.pinned (OpenSpec.ofChange zeroJoinWrong)

/-- 'marlinelaw01.BitsTell': WHATEVER THE INPUT: true; the input reads as it did. -/
def bitsTellSpec : ChangeSpec := { name := "bitsTell", fn := fun _ => fun
  | [d] => { results := [.lit (.bool true)], args := [d] }
  | _ => none }
def bitsTellRow : OpenClaim := { program := "ytofanmciehbabaa", sum := "370ae341db352c5829c40535d5f56c3aa49e40097fe108e8bc5e5caf91f7d7c4", func := "marline/marlinelaw01.BitsTell", spec := "bitsTell", apart := false }
def BitsTellSaid : Prop := bitsTellRow.holds Try.pinned (OpenSpec.ofChange bitsTellSpec)

/-- ITS FALSE NEIGHBOUR: 'it returns false'. Refute it at one input. -/
def bitsTellWrong : ChangeSpec := { name := "bitsTell", fn := fun _ => fun
  | [d] => { results := [.lit (.bool false)], args := [d] }
  | _ => none }
def BitsTellWrongFalsely : Prop := bitsTellRow.holds Try.pinned (OpenSpec.ofChange bitsTellWrong)

/-- 'marlinelaw01.BitsBack': WHATEVER THE INPUT: true; the input reads as it did. -/
def bitsBackSpec : ChangeSpec := { name := "bitsBack", fn := fun _ => fun
  | [d] => { results := [.lit (.bool true)], args := [d] }
  | _ => none }
def bitsBackRow : OpenClaim := { program := "ytofanmciehbabaa", sum := "370ae341db352c5829c40535d5f56c3aa49e40097fe108e8bc5e5caf91f7d7c4", func := "marline/marlinelaw01.BitsBack", spec := "bitsBack", apart := false }
def BitsBackSaid : Prop := bitsBackRow.holds Try.pinned (OpenSpec.ofChange bitsBackSpec)

/-- ITS FALSE NEIGHBOUR: 'it returns false'. Refute it at one input. -/
def bitsBackWrong : ChangeSpec := { name := "bitsBack", fn := fun _ => fun
  | [d] => { results := [.lit (.bool false)], args := [d] }
  | _ => none }
def BitsBackWrongFalsely : Prop := bitsBackRow.holds Try.pinned (OpenSpec.ofChange bitsBackWrong)

/-- 'marlinelaw06.ZeroTells': WHATEVER THE INPUT: true; the input reads as it did. -/
def zeroTellsSpec : ChangeSpec := { name := "zeroTells", fn := fun _ => fun
  | [d] => { results := [.lit (.bool true)], args := [d] }
  | _ => none }
def zeroTellsRow : OpenClaim := { program := "ytofanmciehbabaa", sum := "370ae341db352c5829c40535d5f56c3aa49e40097fe108e8bc5e5caf91f7d7c4", func := "marline/marlinelaw06.ZeroTells", spec := "zeroTells", apart := false }
def ZeroTellsSaid : Prop := zeroTellsRow.holds Try.pinned (OpenSpec.ofChange zeroTellsSpec)

/-- ITS FALSE NEIGHBOUR: 'it returns false'. Refute it at one input. -/
def zeroTellsWrong : ChangeSpec := { name := "zeroTells", fn := fun _ => fun
  | [d] => { results := [.lit (.bool false)], args := [d] }
  | _ => none }
def ZeroTellsWrongFalsely : Prop := zeroTellsRow.holds Try.pinned (OpenSpec.ofChange zeroTellsWrong)

/-- 'marlinelaw06.ZeroBack': WHATEVER THE INPUT: true; the input reads as it did. -/
def zeroBackSpec : ChangeSpec := { name := "zeroBack", fn := fun _ => fun
  | [d] => { results := [.lit (.bool true)], args := [d] }
  | _ => none }
def zeroBackRow : OpenClaim := { program := "ytofanmciehbabaa", sum := "370ae341db352c5829c40535d5f56c3aa49e40097fe108e8bc5e5caf91f7d7c4", func := "marline/marlinelaw06.ZeroBack", spec := "zeroBack", apart := false }
def ZeroBackSaid : Prop := zeroBackRow.holds Try.pinned (OpenSpec.ofChange zeroBackSpec)

/-- ITS FALSE NEIGHBOUR: 'it returns false'. Refute it at one input. -/
def zeroBackWrong : ChangeSpec := { name := "zeroBack", fn := fun _ => fun
  | [d] => { results := [.lit (.bool false)], args := [d] }
  | _ => none }
def ZeroBackWrongFalsely : Prop := zeroBackRow.holds Try.pinned (OpenSpec.ofChange zeroBackWrong)

/-- 'marlinelaw06.ZeroAgain': WHATEVER THE INPUT: true; the input reads as it did. -/
def zeroAgainSpec : ChangeSpec := { name := "zeroAgain", fn := fun _ => fun
  | [d] => { results := [.lit (.bool true)], args := [d] }
  | _ => none }
def zeroAgainRow : OpenClaim := { program := "ytofanmciehbabaa", sum := "370ae341db352c5829c40535d5f56c3aa49e40097fe108e8bc5e5caf91f7d7c4", func := "marline/marlinelaw06.ZeroAgain", spec := "zeroAgain", apart := false }
def ZeroAgainSaid : Prop := zeroAgainRow.holds Try.pinned (OpenSpec.ofChange zeroAgainSpec)

/-- ITS FALSE NEIGHBOUR: 'it returns false'. Refute it at one input. -/
def zeroAgainWrong : ChangeSpec := { name := "zeroAgain", fn := fun _ => fun
  | [d] => { results := [.lit (.bool false)], args := [d] }
  | _ => none }
def ZeroAgainWrongFalsely : Prop := zeroAgainRow.holds Try.pinned (OpenSpec.ofChange zeroAgainWrong)

/- THE SECOND FORM. 'bulk': how many values and letters a reading holds, each counted each time it is reached (what is shared counts as often as it is met; a slice's spare places count too). A statement '..UptoSaid' is the law's where the arguments, and the package variables that the reading takes, are together of bulk at most 1048576: NARROWER than '..Said'. Prove '..Said' where nothing that the law and all that it calls make is longer than what came in: it says more and counts as full. Else prove '..UptoSaid'. A law counts once. -/
mutual
def uptoBulk {H : Type} : DataW H → Nat
  | .lit (.string bytes) => bytes.length + 1
  | .lit _ => 1
  | .nil => 1
  | .ptr d => uptoBulk d + 1
  | .slice elems spare => uptoBulkAll elems + uptoBulkAll spare + 1
  | .agg parts => uptoBulkAll parts + 1
  | .iface _ d => uptoBulk d + 1
  | .map entries => uptoBulkEntries entries + 1
  | .held _ => 1
def uptoBulkAll {H : Type} : List (DataW H) → Nat
  | [] => 0
  | d :: r => uptoBulk d + uptoBulkAll r
def uptoBulkEntries {H : Type} : List (Lit × DataW H) → Nat
  | [] => 0
  | x :: r => uptoBulkEntry x + uptoBulkEntries r
def uptoBulkEntry {H : Type} : Lit × DataW H → Nat
  | (.string bytes, d) => bytes.length + uptoBulk d + 1
  | (_, d) => uptoBulk d + 1
 end
def uptoSmall : (H : Type) → List (DataW H) → Bool := fun _ ds => decide (uptoBulkAll ds ≤ 1048576)
def OpenSpec.upto (s : _root_.Go.ChangeSpec) : _root_.Go.OpenSpec := { _root_.Go.OpenSpec.ofChange s with cond := some uptoSmall }

/-- 'marlinelaw01.BitsJoin', WHERE WHAT IT READS IS OF BULK AT MOST 1048576: true; the input reads as it did. -/
def bitsJoinUptoRow : OpenClaim := { program := "ytofanmciehbabaa", sum := "370ae341db352c5829c40535d5f56c3aa49e40097fe108e8bc5e5caf91f7d7c4", func := "marline/marlinelaw01.BitsJoin", spec := "bitsJoin", apart := false, narrowed := true }
def BitsJoinUptoSaid : Prop := bitsJoinUptoRow.holds Try.pinned (OpenSpec.upto bitsJoinSpec)

/-- 'marlinelaw06.ZeroJoin', WHERE WHAT IT READS IS OF BULK AT MOST 1048576: true; the input reads as it did. -/
def zeroJoinUptoRow : OpenClaim := { program := "ytofanmciehbabaa", sum := "370ae341db352c5829c40535d5f56c3aa49e40097fe108e8bc5e5caf91f7d7c4", func := "marline/marlinelaw06.ZeroJoin", spec := "zeroJoin", apart := false, narrowed := true }
def ZeroJoinUptoSaid : Prop := zeroJoinUptoRow.holds Try.pinned (OpenSpec.upto zeroJoinSpec)

/-- 'marlinelaw01.BitsTell', WHERE WHAT IT READS IS OF BULK AT MOST 1048576: true; the input reads as it did. -/
def bitsTellUptoRow : OpenClaim := { program := "ytofanmciehbabaa", sum := "370ae341db352c5829c40535d5f56c3aa49e40097fe108e8bc5e5caf91f7d7c4", func := "marline/marlinelaw01.BitsTell", spec := "bitsTell", apart := false, narrowed := true }
def BitsTellUptoSaid : Prop := bitsTellUptoRow.holds Try.pinned (OpenSpec.upto bitsTellSpec)

/-- 'marlinelaw01.BitsBack', WHERE WHAT IT READS IS OF BULK AT MOST 1048576: true; the input reads as it did. -/
def bitsBackUptoRow : OpenClaim := { program := "ytofanmciehbabaa", sum := "370ae341db352c5829c40535d5f56c3aa49e40097fe108e8bc5e5caf91f7d7c4", func := "marline/marlinelaw01.BitsBack", spec := "bitsBack", apart := false, narrowed := true }
def BitsBackUptoSaid : Prop := bitsBackUptoRow.holds Try.pinned (OpenSpec.upto bitsBackSpec)

/-- 'marlinelaw06.ZeroTells', WHERE WHAT IT READS IS OF BULK AT MOST 1048576: true; the input reads as it did. -/
def zeroTellsUptoRow : OpenClaim := { program := "ytofanmciehbabaa", sum := "370ae341db352c5829c40535d5f56c3aa49e40097fe108e8bc5e5caf91f7d7c4", func := "marline/marlinelaw06.ZeroTells", spec := "zeroTells", apart := false, narrowed := true }
def ZeroTellsUptoSaid : Prop := zeroTellsUptoRow.holds Try.pinned (OpenSpec.upto zeroTellsSpec)

/-- 'marlinelaw06.ZeroBack', WHERE WHAT IT READS IS OF BULK AT MOST 1048576: true; the input reads as it did. -/
def zeroBackUptoRow : OpenClaim := { program := "ytofanmciehbabaa", sum := "370ae341db352c5829c40535d5f56c3aa49e40097fe108e8bc5e5caf91f7d7c4", func := "marline/marlinelaw06.ZeroBack", spec := "zeroBack", apart := false, narrowed := true }
def ZeroBackUptoSaid : Prop := zeroBackUptoRow.holds Try.pinned (OpenSpec.upto zeroBackSpec)

/-- 'marlinelaw06.ZeroAgain', WHERE WHAT IT READS IS OF BULK AT MOST 1048576: true; the input reads as it did. -/
def zeroAgainUptoRow : OpenClaim := { program := "ytofanmciehbabaa", sum := "370ae341db352c5829c40535d5f56c3aa49e40097fe108e8bc5e5caf91f7d7c4", func := "marline/marlinelaw06.ZeroAgain", spec := "zeroAgain", apart := false, narrowed := true }
def ZeroAgainUptoSaid : Prop := zeroAgainUptoRow.holds Try.pinned (OpenSpec.upto zeroAgainSpec)

end Rows
end Go.Proofs.Ytofanmciehbabaa
