/-
  No cell of these rows narrows 'for every input' (looked for: loops, veiled, ifaces, maps, wideKeys, modest, calm, conditions, laid).
  DERIVED. THE GIVEN ROWS OF THIS SEAT. 8 by the template 'for every input the law returns true; each argument reads behind the call as it read before'; 0 by the template 'total and deterministic' (their statements: YtjmclghjhnbafaaTotals.lean).
  GIVEN WITH THE SEED: the statements are not yours to turn. If you find one false, say at which input.
  Laid BY PROGRAM, IN A SANDBOX (cutbox-rows.mjs): the forced cells as the released guide's own fill.sh prints them over the translation cc46dd63e9c73f93… (all of the seat's roots in one cut). By AI agents, Wed Nov 11 2026. No macro, syntax, notation, axiom, sorry.
-/
import Derived.Test.YtjmclghjhnbafaaChecked
import GoSem.Claim
import GoSem.ClaimJoined
import GoSem.ClaimMapViews
import Derived.JoinedTies
import Derived.KernelRfl
namespace Go.Proofs.Ytjmclghjhnbafaa
/- THE CELL 'sum', in the pinned program and in every row, IS THE sha256 OF THE DUMP (.gsa) THAT YtjmclghjhnbafaaProg.lean LOADS. Nothing in Lean hashes anything: it is a label: what it is worth is what the hold of that sum in a sandbox is worth. -/
noncomputable def Try.pinned : Pinned := { name := "ytjmclghjhnbafaa", sum := "cc46dd63e9c73f93f9b3a2acd2a78579383b3ff5509c3a755c1d82b4fd843e62", checked := Try.checked }
namespace Rows
def none {H : Type} : Left H := { results := [], args := [] }

/-- 'marlinelaw05.AsyncCuts': WHATEVER THE INPUT: true; the input reads as it did. -/
def asyncCutsSpec : ChangeSpec := { name := "asyncCuts", fn := fun _ => fun
  | [d1, d2, d3] => { results := [.lit (.bool true)], args := [d1, d2, d3] }
  | _ => none }
def asyncCutsRow : OpenClaim := { program := "ytjmclghjhnbafaa", sum := "cc46dd63e9c73f93f9b3a2acd2a78579383b3ff5509c3a755c1d82b4fd843e62", func := "marline/marlinelaw05.AsyncCuts", spec := "asyncCuts", apart := false }
def AsyncCutsSaid : Prop := asyncCutsRow.holds Try.pinned (OpenSpec.ofChange asyncCutsSpec)

/-- ITS FALSE NEIGHBOUR: 'it returns false'. Refute it at one input. -/
def asyncCutsWrong : ChangeSpec := { name := "asyncCuts", fn := fun _ => fun
  | [d1, d2, d3] => { results := [.lit (.bool false)], args := [d1, d2, d3] }
  | _ => none }
def AsyncCutsWrongFalsely : Prop := asyncCutsRow.holds Try.pinned (OpenSpec.ofChange asyncCutsWrong)

/-- 'marlinelaw05.AsyncBounds': WHATEVER THE INPUT: true; the input reads as it did. -/
def asyncBoundsSpec : ChangeSpec := { name := "asyncBounds", fn := fun _ => fun
  | [d1, d2, d3] => { results := [.lit (.bool true)], args := [d1, d2, d3] }
  | _ => none }
def asyncBoundsRow : OpenClaim := { program := "ytjmclghjhnbafaa", sum := "cc46dd63e9c73f93f9b3a2acd2a78579383b3ff5509c3a755c1d82b4fd843e62", func := "marline/marlinelaw05.AsyncBounds", spec := "asyncBounds", apart := false }
def AsyncBoundsSaid : Prop := asyncBoundsRow.holds Try.pinned (OpenSpec.ofChange asyncBoundsSpec)

/-- ITS FALSE NEIGHBOUR: 'it returns false'. Refute it at one input. -/
def asyncBoundsWrong : ChangeSpec := { name := "asyncBounds", fn := fun _ => fun
  | [d1, d2, d3] => { results := [.lit (.bool false)], args := [d1, d2, d3] }
  | _ => none }
def AsyncBoundsWrongFalsely : Prop := asyncBoundsRow.holds Try.pinned (OpenSpec.ofChange asyncBoundsWrong)

/-- 'marlinelaw05.AsyncKeeps': WHATEVER THE INPUT: true; the input reads as it did. -/
def asyncKeepsSpec : ChangeSpec := { name := "asyncKeeps", fn := fun _ => fun
  | [d1, d2, d3, d4] => { results := [.lit (.bool true)], args := [d1, d2, d3, d4] }
  | _ => none }
def asyncKeepsRow : OpenClaim := { program := "ytjmclghjhnbafaa", sum := "cc46dd63e9c73f93f9b3a2acd2a78579383b3ff5509c3a755c1d82b4fd843e62", func := "marline/marlinelaw05.AsyncKeeps", spec := "asyncKeeps", apart := false }
def AsyncKeepsSaid : Prop := asyncKeepsRow.holds Try.pinned (OpenSpec.ofChange asyncKeepsSpec)

/-- ITS FALSE NEIGHBOUR: 'it returns false'. Refute it at one input. -/
def asyncKeepsWrong : ChangeSpec := { name := "asyncKeeps", fn := fun _ => fun
  | [d1, d2, d3, d4] => { results := [.lit (.bool false)], args := [d1, d2, d3, d4] }
  | _ => none }
def AsyncKeepsWrongFalsely : Prop := asyncKeepsRow.holds Try.pinned (OpenSpec.ofChange asyncKeepsWrong)

/-- 'marlinelaw05.AsyncWraps': WHATEVER THE INPUT: true; the input reads as it did. -/
def asyncWrapsSpec : ChangeSpec := { name := "asyncWraps", fn := fun _ => fun
  | [d1, d2, d3, d4, d5, d6] => { results := [.lit (.bool true)], args := [d1, d2, d3, d4, d5, d6] }
  | _ => none }
def asyncWrapsRow : OpenClaim := { program := "ytjmclghjhnbafaa", sum := "cc46dd63e9c73f93f9b3a2acd2a78579383b3ff5509c3a755c1d82b4fd843e62", func := "marline/marlinelaw05.AsyncWraps", spec := "asyncWraps", apart := false }
def AsyncWrapsSaid : Prop := asyncWrapsRow.holds Try.pinned (OpenSpec.ofChange asyncWrapsSpec)

/-- ITS FALSE NEIGHBOUR: 'it returns false'. Refute it at one input. -/
def asyncWrapsWrong : ChangeSpec := { name := "asyncWraps", fn := fun _ => fun
  | [d1, d2, d3, d4, d5, d6] => { results := [.lit (.bool false)], args := [d1, d2, d3, d4, d5, d6] }
  | _ => none }
def AsyncWrapsWrongFalsely : Prop := asyncWrapsRow.holds Try.pinned (OpenSpec.ofChange asyncWrapsWrong)

/-- 'marlinelaw07.SyncCuts': WHATEVER THE INPUT: true; the input reads as it did. -/
def syncCutsSpec : ChangeSpec := { name := "syncCuts", fn := fun _ => fun
  | [d1, d2] => { results := [.lit (.bool true)], args := [d1, d2] }
  | _ => none }
def syncCutsRow : OpenClaim := { program := "ytjmclghjhnbafaa", sum := "cc46dd63e9c73f93f9b3a2acd2a78579383b3ff5509c3a755c1d82b4fd843e62", func := "marline/marlinelaw07.SyncCuts", spec := "syncCuts", apart := false }
def SyncCutsSaid : Prop := syncCutsRow.holds Try.pinned (OpenSpec.ofChange syncCutsSpec)

/-- ITS FALSE NEIGHBOUR: 'it returns false'. Refute it at one input. -/
def syncCutsWrong : ChangeSpec := { name := "syncCuts", fn := fun _ => fun
  | [d1, d2] => { results := [.lit (.bool false)], args := [d1, d2] }
  | _ => none }
def SyncCutsWrongFalsely : Prop := syncCutsRow.holds Try.pinned (OpenSpec.ofChange syncCutsWrong)

/-- 'marlinelaw07.SyncWraps': WHATEVER THE INPUT: true; the input reads as it did. -/
def syncWrapsSpec : ChangeSpec := { name := "syncWraps", fn := fun _ => fun
  | [d1, d2, d3, d4] => { results := [.lit (.bool true)], args := [d1, d2, d3, d4] }
  | _ => none }
def syncWrapsRow : OpenClaim := { program := "ytjmclghjhnbafaa", sum := "cc46dd63e9c73f93f9b3a2acd2a78579383b3ff5509c3a755c1d82b4fd843e62", func := "marline/marlinelaw07.SyncWraps", spec := "syncWraps", apart := false }
def SyncWrapsSaid : Prop := syncWrapsRow.holds Try.pinned (OpenSpec.ofChange syncWrapsSpec)

/-- ITS FALSE NEIGHBOUR: 'it returns false'. Refute it at one input. -/
def syncWrapsWrong : ChangeSpec := { name := "syncWraps", fn := fun _ => fun
  | [d1, d2, d3, d4] => { results := [.lit (.bool false)], args := [d1, d2, d3, d4] }
  | _ => none }
def SyncWrapsWrongFalsely : Prop := syncWrapsRow.holds Try.pinned (OpenSpec.ofChange syncWrapsWrong)

/-- 'marlinelaw07.SyncBounds': WHATEVER THE INPUT: true; the input reads as it did. -/
def syncBoundsSpec : ChangeSpec := { name := "syncBounds", fn := fun _ => fun
  | [d1, d2, d3] => { results := [.lit (.bool true)], args := [d1, d2, d3] }
  | _ => none }
def syncBoundsRow : OpenClaim := { program := "ytjmclghjhnbafaa", sum := "cc46dd63e9c73f93f9b3a2acd2a78579383b3ff5509c3a755c1d82b4fd843e62", func := "marline/marlinelaw07.SyncBounds", spec := "syncBounds", apart := false }
def SyncBoundsSaid : Prop := syncBoundsRow.holds Try.pinned (OpenSpec.ofChange syncBoundsSpec)

/-- ITS FALSE NEIGHBOUR: 'it returns false'. Refute it at one input. -/
def syncBoundsWrong : ChangeSpec := { name := "syncBounds", fn := fun _ => fun
  | [d1, d2, d3] => { results := [.lit (.bool false)], args := [d1, d2, d3] }
  | _ => none }
def SyncBoundsWrongFalsely : Prop := syncBoundsRow.holds Try.pinned (OpenSpec.ofChange syncBoundsWrong)

/-- 'marlinelaw07.SyncFeeds': WHATEVER THE INPUT: true; the input reads as it did. -/
def syncFeedsSpec : ChangeSpec := { name := "syncFeeds", fn := fun _ => fun
  | [d1, d2] => { results := [.lit (.bool true)], args := [d1, d2] }
  | _ => none }
def syncFeedsRow : OpenClaim := { program := "ytjmclghjhnbafaa", sum := "cc46dd63e9c73f93f9b3a2acd2a78579383b3ff5509c3a755c1d82b4fd843e62", func := "marline/marlinelaw07.SyncFeeds", spec := "syncFeeds", apart := false }
def SyncFeedsSaid : Prop := syncFeedsRow.holds Try.pinned (OpenSpec.ofChange syncFeedsSpec)

/-- ITS FALSE NEIGHBOUR: 'it returns false'. Refute it at one input. -/
def syncFeedsWrong : ChangeSpec := { name := "syncFeeds", fn := fun _ => fun
  | [d1, d2] => { results := [.lit (.bool false)], args := [d1, d2] }
  | _ => none }
def SyncFeedsWrongFalsely : Prop := syncFeedsRow.holds Try.pinned (OpenSpec.ofChange syncFeedsWrong)

/- THE SECOND FORM. 'bulk': how many values and letters a reading holds, each counted each time it is reached (what is shared counts as often as it is met; a slice's spare places count too). A statement '..UptoSaid' is the law's where the arguments, and the package variables that the reading takes, are together of bulk at most 1048576: NARROWER than '..Said'. Prove '..Said' where nothing that the law and all that it calls make is longer than what came in: it says more and counts as full. Else prove '..UptoSaid'. A law counts once. -/
mutual
def uptoBulk {H : Type} : DataW H → Nat
  | .lit (.string bytes) => bytes.length + 1
  | .lit _ => 1
  | .nil => 1
  | .ptr d => uptoBulk d + 1
  | .slice elems spare => uptoBulkAll elems + uptoBulkAll spare + 1
  | .agg parts => uptoBulkAll parts + 1
  | .iface _ d => uptoBulk d + 1
  | .map entries => uptoBulkEntries entries + 1
  | .held _ => 1
def uptoBulkAll {H : Type} : List (DataW H) → Nat
  | [] => 0
  | d :: r => uptoBulk d + uptoBulkAll r
def uptoBulkEntries {H : Type} : List (Lit × DataW H) → Nat
  | [] => 0
  | x :: r => uptoBulkEntry x + uptoBulkEntries r
def uptoBulkEntry {H : Type} : Lit × DataW H → Nat
  | (.string bytes, d) => bytes.length + uptoBulk d + 1
  | (_, d) => uptoBulk d + 1
 end
def uptoSmall : (H : Type) → List (DataW H) → Bool := fun _ ds => decide (uptoBulkAll ds ≤ 1048576)
def OpenSpec.upto (s : _root_.Go.ChangeSpec) : _root_.Go.OpenSpec := { _root_.Go.OpenSpec.ofChange s with cond := some uptoSmall }

/-- 'marlinelaw05.AsyncCuts', WHERE WHAT IT READS IS OF BULK AT MOST 1048576: true; the input reads as it did. -/
def asyncCutsUptoRow : OpenClaim := { program := "ytjmclghjhnbafaa", sum := "cc46dd63e9c73f93f9b3a2acd2a78579383b3ff5509c3a755c1d82b4fd843e62", func := "marline/marlinelaw05.AsyncCuts", spec := "asyncCuts", apart := false, narrowed := true }
def AsyncCutsUptoSaid : Prop := asyncCutsUptoRow.holds Try.pinned (OpenSpec.upto asyncCutsSpec)

/-- 'marlinelaw05.AsyncBounds', WHERE WHAT IT READS IS OF BULK AT MOST 1048576: true; the input reads as it did. -/
def asyncBoundsUptoRow : OpenClaim := { program := "ytjmclghjhnbafaa", sum := "cc46dd63e9c73f93f9b3a2acd2a78579383b3ff5509c3a755c1d82b4fd843e62", func := "marline/marlinelaw05.AsyncBounds", spec := "asyncBounds", apart := false, narrowed := true }
def AsyncBoundsUptoSaid : Prop := asyncBoundsUptoRow.holds Try.pinned (OpenSpec.upto asyncBoundsSpec)

/-- 'marlinelaw05.AsyncKeeps', WHERE WHAT IT READS IS OF BULK AT MOST 1048576: true; the input reads as it did. -/
def asyncKeepsUptoRow : OpenClaim := { program := "ytjmclghjhnbafaa", sum := "cc46dd63e9c73f93f9b3a2acd2a78579383b3ff5509c3a755c1d82b4fd843e62", func := "marline/marlinelaw05.AsyncKeeps", spec := "asyncKeeps", apart := false, narrowed := true }
def AsyncKeepsUptoSaid : Prop := asyncKeepsUptoRow.holds Try.pinned (OpenSpec.upto asyncKeepsSpec)

/-- 'marlinelaw05.AsyncWraps', WHERE WHAT IT READS IS OF BULK AT MOST 1048576: true; the input reads as it did. -/
def asyncWrapsUptoRow : OpenClaim := { program := "ytjmclghjhnbafaa", sum := "cc46dd63e9c73f93f9b3a2acd2a78579383b3ff5509c3a755c1d82b4fd843e62", func := "marline/marlinelaw05.AsyncWraps", spec := "asyncWraps", apart := false, narrowed := true }
def AsyncWrapsUptoSaid : Prop := asyncWrapsUptoRow.holds Try.pinned (OpenSpec.upto asyncWrapsSpec)

/-- 'marlinelaw07.SyncCuts', WHERE WHAT IT READS IS OF BULK AT MOST 1048576: true; the input reads as it did. -/
def syncCutsUptoRow : OpenClaim := { program := "ytjmclghjhnbafaa", sum := "cc46dd63e9c73f93f9b3a2acd2a78579383b3ff5509c3a755c1d82b4fd843e62", func := "marline/marlinelaw07.SyncCuts", spec := "syncCuts", apart := false, narrowed := true }
def SyncCutsUptoSaid : Prop := syncCutsUptoRow.holds Try.pinned (OpenSpec.upto syncCutsSpec)

/-- 'marlinelaw07.SyncWraps', WHERE WHAT IT READS IS OF BULK AT MOST 1048576: true; the input reads as it did. -/
def syncWrapsUptoRow : OpenClaim := { program := "ytjmclghjhnbafaa", sum := "cc46dd63e9c73f93f9b3a2acd2a78579383b3ff5509c3a755c1d82b4fd843e62", func := "marline/marlinelaw07.SyncWraps", spec := "syncWraps", apart := false, narrowed := true }
def SyncWrapsUptoSaid : Prop := syncWrapsUptoRow.holds Try.pinned (OpenSpec.upto syncWrapsSpec)

/-- 'marlinelaw07.SyncBounds', WHERE WHAT IT READS IS OF BULK AT MOST 1048576: true; the input reads as it did. -/
def syncBoundsUptoRow : OpenClaim := { program := "ytjmclghjhnbafaa", sum := "cc46dd63e9c73f93f9b3a2acd2a78579383b3ff5509c3a755c1d82b4fd843e62", func := "marline/marlinelaw07.SyncBounds", spec := "syncBounds", apart := false, narrowed := true }
def SyncBoundsUptoSaid : Prop := syncBoundsUptoRow.holds Try.pinned (OpenSpec.upto syncBoundsSpec)

/-- 'marlinelaw07.SyncFeeds', WHERE WHAT IT READS IS OF BULK AT MOST 1048576: true; the input reads as it did. -/
def syncFeedsUptoRow : OpenClaim := { program := "ytjmclghjhnbafaa", sum := "cc46dd63e9c73f93f9b3a2acd2a78579383b3ff5509c3a755c1d82b4fd843e62", func := "marline/marlinelaw07.SyncFeeds", spec := "syncFeeds", apart := false, narrowed := true }
def SyncFeedsUptoSaid : Prop := syncFeedsUptoRow.holds Try.pinned (OpenSpec.upto syncFeedsSpec)

end Rows
end Go.Proofs.Ytjmclghjhnbafaa
