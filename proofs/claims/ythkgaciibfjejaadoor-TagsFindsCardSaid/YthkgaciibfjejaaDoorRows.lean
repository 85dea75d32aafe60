/-
  NARROWER THAN 'FOR EVERY INPUT', by the rows' own cells (each row's printed sentence says how): TagsFinds: laid · TagsTells: laid · TagsBack: laid · TagsEnds: laid.
  DERIVED. THE GIVEN ROWS OF THIS SEAT. 4 by the template 'for every input the law returns true; each argument reads behind the call as it read before'; 0 by the template 'total and deterministic' (their statements: YthkgaciibfjejaaDoorTotals.lean).
  GIVEN WITH THE SEED: the statements are not yours to turn. If you find one false, say at which input.
  Laid BY PROGRAM, IN A SANDBOX (cutbox-rows.mjs): the forced cells as the released guide's own fill.sh prints them over the translation 4e96a778db41ae5d… (all of the seat's roots in one cut). By AI agents, Wed Nov 11 2026. No macro, syntax, notation, axiom, sorry.
-/
import Derived.Test.YthkgaciibfjejaaDoorChecked
import GoSem.Claim
import GoSem.ClaimJoined
import GoSem.ClaimMapViews
import Derived.JoinedTies
import Derived.KernelRfl
namespace Go.Proofs.YthkgaciibfjejaaDoor
/- THE CELL 'sum', in the pinned program and in every row, IS THE sha256 OF THE DUMP (.gsa) THAT YthkgaciibfjejaaDoorProg.lean LOADS. Nothing in Lean hashes anything: it is a label: what it is worth is what the hold of that sum in a sandbox is worth. -/
noncomputable def Tryd.pinned : Pinned := { name := "ythkgaciibfjejaadoor", sum := "4e96a778db41ae5d1eb10d44ebb6baf73223792fe082d6d022122b3ce98f93dd", checked := Tryd.checked }
namespace Rows
def none {H : Type} : Left H := { results := [], args := [] }

/- WHAT THE LISTED PACKAGE-LEVEL VARIABLES READ AS WHEN THE CALL BEGINS. Each datum BY PROGRAM (the guide's laid-datum.mjs) off the statement by which the dump's own 'gosem.cut.vars' lays the variable. In a bare row this is a premise. The card (YthkgaciibfjejaaDoorCards.lean) ties it to the program's text. -/
def laid_marline_tags_names {H : Type} : DataW H := .map [(.int .u16 257, .lit (.string [115, 101, 114, 118, 105, 99, 101])), (.int .u16 258, .lit (.string [110, 97, 109, 101])), (.int .u16 259, .lit (.string [117, 110, 105, 113, 117, 101])), (.int .u16 260, .lit (.string [99, 111, 111, 107, 105, 101])), (.int .u16 261, .lit (.string [118, 101, 110, 100, 111, 114])), (.int .u16 272, .lit (.string [114, 101, 108, 97, 121])), (.int .u16 513, .lit (.string [110, 111, 45, 115, 101, 114, 118, 105, 99, 101])), (.int .u16 514, .lit (.string [110, 111, 45, 115, 121, 115, 116, 101, 109])), (.int .u16 515, .lit (.string [101, 114, 114, 111, 114]))]

/-- 'marlinelaw21.TagsFinds': WHATEVER THE INPUT: true; the input reads as it did. -/
def tagsFindsSpec : ChangeSpec := { name := "tagsFinds", fn := fun _ => fun
  | [d1, d2] => { results := [.lit (.bool true)], args := [d1, d2] }
  | _ => none }
def tagsFindsRow : OpenClaim := { program := "ythkgaciibfjejaadoor", sum := "4e96a778db41ae5d1eb10d44ebb6baf73223792fe082d6d022122b3ce98f93dd", func := "marline/marlinelaw21.TagsFinds", spec := "tagsFinds", unfollowed := true, recurses := true, named := ["marline/tags.names"], apart := false, laid := [("marline/tags.names", laid_marline_tags_names)] }
def TagsFindsSaid : Prop := tagsFindsRow.holds Tryd.pinned (OpenSpec.ofChange tagsFindsSpec)

/-- ITS FALSE NEIGHBOUR: 'it returns false'. Refute it at one input. -/
def tagsFindsWrong : ChangeSpec := { name := "tagsFinds", fn := fun _ => fun
  | [d1, d2] => { results := [.lit (.bool false)], args := [d1, d2] }
  | _ => none }
def TagsFindsWrongFalsely : Prop := tagsFindsRow.holds Tryd.pinned (OpenSpec.ofChange tagsFindsWrong)

/-- 'marlinelaw21.TagsTells': WHATEVER THE INPUT: true; the input reads as it did. -/
def tagsTellsSpec : ChangeSpec := { name := "tagsTells", fn := fun _ => fun
  | [d1, d2, d3] => { results := [.lit (.bool true)], args := [d1, d2, d3] }
  | _ => none }
def tagsTellsRow : OpenClaim := { program := "ythkgaciibfjejaadoor", sum := "4e96a778db41ae5d1eb10d44ebb6baf73223792fe082d6d022122b3ce98f93dd", func := "marline/marlinelaw21.TagsTells", spec := "tagsTells", recurses := true, named := ["marline/tags.names"], apart := false, laid := [("marline/tags.names", laid_marline_tags_names)] }
def TagsTellsSaid : Prop := tagsTellsRow.holds Tryd.pinned (OpenSpec.ofChange tagsTellsSpec)

/-- ITS FALSE NEIGHBOUR: 'it returns false'. Refute it at one input. -/
def tagsTellsWrong : ChangeSpec := { name := "tagsTells", fn := fun _ => fun
  | [d1, d2, d3] => { results := [.lit (.bool false)], args := [d1, d2, d3] }
  | _ => none }
def TagsTellsWrongFalsely : Prop := tagsTellsRow.holds Tryd.pinned (OpenSpec.ofChange tagsTellsWrong)

/-- 'marlinelaw21.TagsBack': WHATEVER THE INPUT: true; the input reads as it did. -/
def tagsBackSpec : ChangeSpec := { name := "tagsBack", fn := fun _ => fun
  | [d1, d2] => { results := [.lit (.bool true)], args := [d1, d2] }
  | _ => none }
def tagsBackRow : OpenClaim := { program := "ythkgaciibfjejaadoor", sum := "4e96a778db41ae5d1eb10d44ebb6baf73223792fe082d6d022122b3ce98f93dd", func := "marline/marlinelaw21.TagsBack", spec := "tagsBack", named := ["marline/tags.names"], apart := false, laid := [("marline/tags.names", laid_marline_tags_names)] }
def TagsBackSaid : Prop := tagsBackRow.holds Tryd.pinned (OpenSpec.ofChange tagsBackSpec)

/-- ITS FALSE NEIGHBOUR: 'it returns false'. Refute it at one input. -/
def tagsBackWrong : ChangeSpec := { name := "tagsBack", fn := fun _ => fun
  | [d1, d2] => { results := [.lit (.bool false)], args := [d1, d2] }
  | _ => none }
def TagsBackWrongFalsely : Prop := tagsBackRow.holds Tryd.pinned (OpenSpec.ofChange tagsBackWrong)

/-- 'marlinelaw21.TagsEnds': WHATEVER THE INPUT: true; the input reads as it did. -/
def tagsEndsSpec : ChangeSpec := { name := "tagsEnds", fn := fun _ => fun
  | [d1, d2, d3] => { results := [.lit (.bool true)], args := [d1, d2, d3] }
  | _ => none }
def tagsEndsRow : OpenClaim := { program := "ythkgaciibfjejaadoor", sum := "4e96a778db41ae5d1eb10d44ebb6baf73223792fe082d6d022122b3ce98f93dd", func := "marline/marlinelaw21.TagsEnds", spec := "tagsEnds", named := ["marline/tags.names"], apart := false, laid := [("marline/tags.names", laid_marline_tags_names)] }
def TagsEndsSaid : Prop := tagsEndsRow.holds Tryd.pinned (OpenSpec.ofChange tagsEndsSpec)

/-- ITS FALSE NEIGHBOUR: 'it returns false'. Refute it at one input. -/
def tagsEndsWrong : ChangeSpec := { name := "tagsEnds", fn := fun _ => fun
  | [d1, d2, d3] => { results := [.lit (.bool false)], args := [d1, d2, d3] }
  | _ => none }
def TagsEndsWrongFalsely : Prop := tagsEndsRow.holds Tryd.pinned (OpenSpec.ofChange tagsEndsWrong)

/- THE SECOND FORM. 'bulk': how many values and letters a reading holds, each counted each time it is reached (what is shared counts as often as it is met; a slice's spare places count too). A statement '..UptoSaid' is the law's where the arguments, and the package variables that the reading takes, are together of bulk at most 1048576: NARROWER than '..Said'. Prove '..Said' where nothing that the law and all that it calls make is longer than what came in: it says more and counts as full. Else prove '..UptoSaid'. A law counts once. -/
mutual
def uptoBulk {H : Type} : DataW H → Nat
  | .lit (.string bytes) => bytes.length + 1
  | .lit _ => 1
  | .nil => 1
  | .ptr d => uptoBulk d + 1
  | .slice elems spare => uptoBulkAll elems + uptoBulkAll spare + 1
  | .agg parts => uptoBulkAll parts + 1
  | .iface _ d => uptoBulk d + 1
  | .map entries => uptoBulkEntries entries + 1
  | .held _ => 1
def uptoBulkAll {H : Type} : List (DataW H) → Nat
  | [] => 0
  | d :: r => uptoBulk d + uptoBulkAll r
def uptoBulkEntries {H : Type} : List (Lit × DataW H) → Nat
  | [] => 0
  | x :: r => uptoBulkEntry x + uptoBulkEntries r
def uptoBulkEntry {H : Type} : Lit × DataW H → Nat
  | (.string bytes, d) => bytes.length + uptoBulk d + 1
  | (_, d) => uptoBulk d + 1
 end
def uptoSmall : (H : Type) → List (DataW H) → Bool := fun _ ds => decide (uptoBulkAll ds ≤ 1048576)
def OpenSpec.upto (s : _root_.Go.ChangeSpec) : _root_.Go.OpenSpec := { _root_.Go.OpenSpec.ofChange s with cond := some uptoSmall }

/-- 'marlinelaw21.TagsFinds', WHERE WHAT IT READS IS OF BULK AT MOST 1048576: true; the input reads as it did. -/
def tagsFindsUptoRow : OpenClaim := { program := "ythkgaciibfjejaadoor", sum := "4e96a778db41ae5d1eb10d44ebb6baf73223792fe082d6d022122b3ce98f93dd", func := "marline/marlinelaw21.TagsFinds", spec := "tagsFinds", unfollowed := true, recurses := true, named := ["marline/tags.names"], apart := false, laid := [("marline/tags.names", laid_marline_tags_names)], narrowed := true }
def TagsFindsUptoSaid : Prop := tagsFindsUptoRow.holds Tryd.pinned (OpenSpec.upto tagsFindsSpec)

/-- 'marlinelaw21.TagsTells', WHERE WHAT IT READS IS OF BULK AT MOST 1048576: true; the input reads as it did. -/
def tagsTellsUptoRow : OpenClaim := { program := "ythkgaciibfjejaadoor", sum := "4e96a778db41ae5d1eb10d44ebb6baf73223792fe082d6d022122b3ce98f93dd", func := "marline/marlinelaw21.TagsTells", spec := "tagsTells", recurses := true, named := ["marline/tags.names"], apart := false, laid := [("marline/tags.names", laid_marline_tags_names)], narrowed := true }
def TagsTellsUptoSaid : Prop := tagsTellsUptoRow.holds Tryd.pinned (OpenSpec.upto tagsTellsSpec)

/-- 'marlinelaw21.TagsBack', WHERE WHAT IT READS IS OF BULK AT MOST 1048576: true; the input reads as it did. -/
def tagsBackUptoRow : OpenClaim := { program := "ythkgaciibfjejaadoor", sum := "4e96a778db41ae5d1eb10d44ebb6baf73223792fe082d6d022122b3ce98f93dd", func := "marline/marlinelaw21.TagsBack", spec := "tagsBack", named := ["marline/tags.names"], apart := false, laid := [("marline/tags.names", laid_marline_tags_names)], narrowed := true }
def TagsBackUptoSaid : Prop := tagsBackUptoRow.holds Tryd.pinned (OpenSpec.upto tagsBackSpec)

/-- 'marlinelaw21.TagsEnds', WHERE WHAT IT READS IS OF BULK AT MOST 1048576: true; the input reads as it did. -/
def tagsEndsUptoRow : OpenClaim := { program := "ythkgaciibfjejaadoor", sum := "4e96a778db41ae5d1eb10d44ebb6baf73223792fe082d6d022122b3ce98f93dd", func := "marline/marlinelaw21.TagsEnds", spec := "tagsEnds", named := ["marline/tags.names"], apart := false, laid := [("marline/tags.names", laid_marline_tags_names)], narrowed := true }
def TagsEndsUptoSaid : Prop := tagsEndsUptoRow.holds Tryd.pinned (OpenSpec.upto tagsEndsSpec)

end Rows
end Go.Proofs.YthkgaciibfjejaaDoor
