/-
  NARROWER THAN 'FOR EVERY INPUT', by the rows' own cells (each row's printed sentence says how): EtherMost: laid · EtherAnswers: laid · BodySame: laid · BodyMost: laid · BodyBack: laid · EtherBack: laid.
  DERIVED. THE GIVEN ROWS OF THIS SEAT. 6 by the template 'for every input the law returns true; each argument reads behind the call as it read before'; 0 by the template 'total and deterministic' (their statements: YteanncchmenlkaaDoorTotals.lean).
  GIVEN WITH THE SEED: the statements are not yours to turn. If you find one false, say at which input.
  Laid BY PROGRAM, IN A SANDBOX (cutbox-rows.mjs): the forced cells as the released guide's own fill.sh prints them over the translation ab4f12dfa6c6f654… (all of the seat's roots in one cut). By AI agents, Wed Nov 11 2026. No macro, syntax, notation, axiom, sorry.
-/
import Derived.Test.YteanncchmenlkaaDoorChecked
import GoSem.Claim
import GoSem.ClaimJoined
import GoSem.ClaimMapViews
import Derived.JoinedTies
import Derived.KernelRfl
namespace Go.Proofs.YteanncchmenlkaaDoor
/- THE CELL 'sum', in the pinned program and in every row, IS THE sha256 OF THE DUMP (.gsa) THAT YteanncchmenlkaaDoorProg.lean LOADS. Nothing in Lean hashes anything: it is a label: what it is worth is what the hold of that sum in a sandbox is worth. -/
noncomputable def Tryd.pinned : Pinned := { name := "yteanncchmenlkaadoor", sum := "ab4f12dfa6c6f654ca52f8b79b9e51a23a84c42fa74c4a8ab9b1f557beeb9fed", checked := Tryd.checked }
namespace Rows
def none {H : Type} : Left H := { results := [], args := [] }

/- WHAT THE LISTED PACKAGE-LEVEL VARIABLES READ AS WHEN THE CALL BEGINS. Each datum BY PROGRAM (the guide's laid-datum.mjs) off the statement by which the dump's own 'gosem.cut.vars' lays the variable. In a bare row this is a premise. The card (YteanncchmenlkaaDoorCards.lean) ties it to the program's text. -/
def laid_marline_opts_all {H : Type} : DataW H := .agg [.lit (.int .i64 0), .lit (.int .i64 253)]
def laid_marline_ncp_addresses {H : Type} : DataW H := .map [(.int .u16 32801, .lit (.int .u8 3)), (.int .u16 32855, .lit (.int .u8 1))]
def laid_marline_ether_sessions {H : Type} : DataW H := .map [(.int .u8 0, .agg [.lit (.bool false), .lit (.bool true)]), (.int .u8 7, .agg [.lit (.bool true), .lit (.bool false)]), (.int .u8 9, .agg [.lit (.bool true), .lit (.bool false)]), (.int .u8 25, .agg [.lit (.bool true), .lit (.bool false)]), (.int .u8 101, .agg [.lit (.bool true), .lit (.bool true)]), (.int .u8 167, .agg [.lit (.bool false), .lit (.bool true)])]

/-- 'marlinelaw22.EtherMost': WHATEVER THE INPUT: true; the input reads as it did. -/
def etherMostSpec : ChangeSpec := { name := "etherMost", fn := fun _ => fun
  | [d1, d2, d3] => { results := [.lit (.bool true)], args := [d1, d2, d3] }
  | _ => none }
def etherMostRow : OpenClaim := { program := "yteanncchmenlkaadoor", sum := "ab4f12dfa6c6f654ca52f8b79b9e51a23a84c42fa74c4a8ab9b1f557beeb9fed", func := "marline/marlinelaw22.EtherMost", spec := "etherMost", unfollowed := true, recurses := true, named := ["marline/ether.sessions", "marline/opts.known", "marline/opts.all", "marline/ncp.addresses"], plainKeys := false, apart := false, laid := [("marline/opts.all", laid_marline_opts_all), ("marline/ncp.addresses", laid_marline_ncp_addresses), ("marline/ether.sessions", laid_marline_ether_sessions)] }
def EtherMostSaid : Prop := etherMostRow.holds Tryd.pinned (OpenSpec.ofChange etherMostSpec)

/-- ITS FALSE NEIGHBOUR: 'it returns false'. Refute it at one input. -/
def etherMostWrong : ChangeSpec := { name := "etherMost", fn := fun _ => fun
  | [d1, d2, d3] => { results := [.lit (.bool false)], args := [d1, d2, d3] }
  | _ => none }
def EtherMostWrongFalsely : Prop := etherMostRow.holds Tryd.pinned (OpenSpec.ofChange etherMostWrong)

/-- 'marlinelaw22.EtherAnswers': WHATEVER THE INPUT: true; the input reads as it did. -/
def etherAnswersSpec : ChangeSpec := { name := "etherAnswers", fn := fun _ => fun
  | [d1, d2, d3, d4] => { results := [.lit (.bool true)], args := [d1, d2, d3, d4] }
  | _ => none }
def etherAnswersRow : OpenClaim := { program := "yteanncchmenlkaadoor", sum := "ab4f12dfa6c6f654ca52f8b79b9e51a23a84c42fa74c4a8ab9b1f557beeb9fed", func := "marline/marlinelaw22.EtherAnswers", spec := "etherAnswers", unfollowed := true, recurses := true, named := ["marline/ether.sessions", "marline/opts.known", "marline/opts.all", "marline/ncp.addresses"], plainKeys := false, apart := false, laid := [("marline/opts.all", laid_marline_opts_all), ("marline/ncp.addresses", laid_marline_ncp_addresses), ("marline/ether.sessions", laid_marline_ether_sessions)] }
def EtherAnswersSaid : Prop := etherAnswersRow.holds Tryd.pinned (OpenSpec.ofChange etherAnswersSpec)

/-- ITS FALSE NEIGHBOUR: 'it returns false'. Refute it at one input. -/
def etherAnswersWrong : ChangeSpec := { name := "etherAnswers", fn := fun _ => fun
  | [d1, d2, d3, d4] => { results := [.lit (.bool false)], args := [d1, d2, d3, d4] }
  | _ => none }
def EtherAnswersWrongFalsely : Prop := etherAnswersRow.holds Tryd.pinned (OpenSpec.ofChange etherAnswersWrong)

/-- 'marlinelaw20.BodySame': WHATEVER THE INPUT: true; the input reads as it did. -/
def bodySameSpec : ChangeSpec := { name := "bodySame", fn := fun _ => fun
  | [d1, d2] => { results := [.lit (.bool true)], args := [d1, d2] }
  | _ => none }
def bodySameRow : OpenClaim := { program := "yteanncchmenlkaadoor", sum := "ab4f12dfa6c6f654ca52f8b79b9e51a23a84c42fa74c4a8ab9b1f557beeb9fed", func := "marline/marlinelaw20.BodySame", spec := "bodySame", unfollowed := true, recurses := true, named := ["marline/opts.known", "marline/opts.all", "marline/ncp.addresses"], plainKeys := false, apart := false, laid := [("marline/opts.all", laid_marline_opts_all), ("marline/ncp.addresses", laid_marline_ncp_addresses)] }
def BodySameSaid : Prop := bodySameRow.holds Tryd.pinned (OpenSpec.ofChange bodySameSpec)

/-- ITS FALSE NEIGHBOUR: 'it returns false'. Refute it at one input. -/
def bodySameWrong : ChangeSpec := { name := "bodySame", fn := fun _ => fun
  | [d1, d2] => { results := [.lit (.bool false)], args := [d1, d2] }
  | _ => none }
def BodySameWrongFalsely : Prop := bodySameRow.holds Tryd.pinned (OpenSpec.ofChange bodySameWrong)

/-- 'marlinelaw20.BodyMost': WHATEVER THE INPUT: true; the input reads as it did. -/
def bodyMostSpec : ChangeSpec := { name := "bodyMost", fn := fun _ => fun
  | [d1, d2, d3] => { results := [.lit (.bool true)], args := [d1, d2, d3] }
  | _ => none }
def bodyMostRow : OpenClaim := { program := "yteanncchmenlkaadoor", sum := "ab4f12dfa6c6f654ca52f8b79b9e51a23a84c42fa74c4a8ab9b1f557beeb9fed", func := "marline/marlinelaw20.BodyMost", spec := "bodyMost", unfollowed := true, recurses := true, named := ["marline/opts.known", "marline/opts.all", "marline/ncp.addresses"], plainKeys := false, apart := false, laid := [("marline/opts.all", laid_marline_opts_all), ("marline/ncp.addresses", laid_marline_ncp_addresses)] }
def BodyMostSaid : Prop := bodyMostRow.holds Tryd.pinned (OpenSpec.ofChange bodyMostSpec)

/-- ITS FALSE NEIGHBOUR: 'it returns false'. Refute it at one input. -/
def bodyMostWrong : ChangeSpec := { name := "bodyMost", fn := fun _ => fun
  | [d1, d2, d3] => { results := [.lit (.bool false)], args := [d1, d2, d3] }
  | _ => none }
def BodyMostWrongFalsely : Prop := bodyMostRow.holds Tryd.pinned (OpenSpec.ofChange bodyMostWrong)

/-- 'marlinelaw20.BodyBack': WHATEVER THE INPUT: true; the input reads as it did. -/
def bodyBackSpec : ChangeSpec := { name := "bodyBack", fn := fun _ => fun
  | [d1, d2, d3] => { results := [.lit (.bool true)], args := [d1, d2, d3] }
  | _ => none }
def bodyBackRow : OpenClaim := { program := "yteanncchmenlkaadoor", sum := "ab4f12dfa6c6f654ca52f8b79b9e51a23a84c42fa74c4a8ab9b1f557beeb9fed", func := "marline/marlinelaw20.BodyBack", spec := "bodyBack", unfollowed := true, recurses := true, named := ["marline/opts.known", "marline/opts.all", "marline/ncp.addresses"], plainKeys := false, apart := false, laid := [("marline/opts.all", laid_marline_opts_all), ("marline/ncp.addresses", laid_marline_ncp_addresses)] }
def BodyBackSaid : Prop := bodyBackRow.holds Tryd.pinned (OpenSpec.ofChange bodyBackSpec)

/-- ITS FALSE NEIGHBOUR: 'it returns false'. Refute it at one input. -/
def bodyBackWrong : ChangeSpec := { name := "bodyBack", fn := fun _ => fun
  | [d1, d2, d3] => { results := [.lit (.bool false)], args := [d1, d2, d3] }
  | _ => none }
def BodyBackWrongFalsely : Prop := bodyBackRow.holds Tryd.pinned (OpenSpec.ofChange bodyBackWrong)

/-- 'marlinelaw22.EtherBack': WHATEVER THE INPUT: true; the input reads as it did. -/
def etherBackSpec : ChangeSpec := { name := "etherBack", fn := fun _ => fun
  | [d1, d2, d3] => { results := [.lit (.bool true)], args := [d1, d2, d3] }
  | _ => none }
def etherBackRow : OpenClaim := { program := "yteanncchmenlkaadoor", sum := "ab4f12dfa6c6f654ca52f8b79b9e51a23a84c42fa74c4a8ab9b1f557beeb9fed", func := "marline/marlinelaw22.EtherBack", spec := "etherBack", unfollowed := true, recurses := true, named := ["marline/ether.sessions", "marline/opts.known", "marline/opts.all", "marline/ncp.addresses"], plainKeys := false, apart := false, laid := [("marline/opts.all", laid_marline_opts_all), ("marline/ncp.addresses", laid_marline_ncp_addresses), ("marline/ether.sessions", laid_marline_ether_sessions)] }
def EtherBackSaid : Prop := etherBackRow.holds Tryd.pinned (OpenSpec.ofChange etherBackSpec)

/-- ITS FALSE NEIGHBOUR: 'it returns false'. Refute it at one input. -/
def etherBackWrong : ChangeSpec := { name := "etherBack", fn := fun _ => fun
  | [d1, d2, d3] => { results := [.lit (.bool false)], args := [d1, d2, d3] }
  | _ => none }
def EtherBackWrongFalsely : Prop := etherBackRow.holds Tryd.pinned (OpenSpec.ofChange etherBackWrong)

/- THE SECOND FORM. 'bulk': how many values and letters a reading holds, each counted each time it is reached (what is shared counts as often as it is met; a slice's spare places count too). A statement '..UptoSaid' is the law's where the arguments, and the package variables that the reading takes, are together of bulk at most 1048576: NARROWER than '..Said'. Prove '..Said' where nothing that the law and all that it calls make is longer than what came in: it says more and counts as full. Else prove '..UptoSaid'. A law counts once. -/
mutual
def uptoBulk {H : Type} : DataW H → Nat
  | .lit (.string bytes) => bytes.length + 1
  | .lit _ => 1
  | .nil => 1
  | .ptr d => uptoBulk d + 1
  | .slice elems spare => uptoBulkAll elems + uptoBulkAll spare + 1
  | .agg parts => uptoBulkAll parts + 1
  | .iface _ d => uptoBulk d + 1
  | .map entries => uptoBulkEntries entries + 1
  | .held _ => 1
def uptoBulkAll {H : Type} : List (DataW H) → Nat
  | [] => 0
  | d :: r => uptoBulk d + uptoBulkAll r
def uptoBulkEntries {H : Type} : List (Lit × DataW H) → Nat
  | [] => 0
  | x :: r => uptoBulkEntry x + uptoBulkEntries r
def uptoBulkEntry {H : Type} : Lit × DataW H → Nat
  | (.string bytes, d) => bytes.length + uptoBulk d + 1
  | (_, d) => uptoBulk d + 1
 end
def uptoSmall : (H : Type) → List (DataW H) → Bool := fun _ ds => decide (uptoBulkAll ds ≤ 1048576)
def OpenSpec.upto (s : _root_.Go.ChangeSpec) : _root_.Go.OpenSpec := { _root_.Go.OpenSpec.ofChange s with cond := some uptoSmall }

/-- 'marlinelaw22.EtherMost', WHERE WHAT IT READS IS OF BULK AT MOST 1048576: true; the input reads as it did. -/
def etherMostUptoRow : OpenClaim := { program := "yteanncchmenlkaadoor", sum := "ab4f12dfa6c6f654ca52f8b79b9e51a23a84c42fa74c4a8ab9b1f557beeb9fed", func := "marline/marlinelaw22.EtherMost", spec := "etherMost", unfollowed := true, recurses := true, named := ["marline/ether.sessions", "marline/opts.known", "marline/opts.all", "marline/ncp.addresses"], plainKeys := false, apart := false, laid := [("marline/opts.all", laid_marline_opts_all), ("marline/ncp.addresses", laid_marline_ncp_addresses), ("marline/ether.sessions", laid_marline_ether_sessions)], narrowed := true }
def EtherMostUptoSaid : Prop := etherMostUptoRow.holds Tryd.pinned (OpenSpec.upto etherMostSpec)

/-- 'marlinelaw22.EtherAnswers', WHERE WHAT IT READS IS OF BULK AT MOST 1048576: true; the input reads as it did. -/
def etherAnswersUptoRow : OpenClaim := { program := "yteanncchmenlkaadoor", sum := "ab4f12dfa6c6f654ca52f8b79b9e51a23a84c42fa74c4a8ab9b1f557beeb9fed", func := "marline/marlinelaw22.EtherAnswers", spec := "etherAnswers", unfollowed := true, recurses := true, named := ["marline/ether.sessions", "marline/opts.known", "marline/opts.all", "marline/ncp.addresses"], plainKeys := false, apart := false, laid := [("marline/opts.all", laid_marline_opts_all), ("marline/ncp.addresses", laid_marline_ncp_addresses), ("marline/ether.sessions", laid_marline_ether_sessions)], narrowed := true }
def EtherAnswersUptoSaid : Prop := etherAnswersUptoRow.holds Tryd.pinned (OpenSpec.upto etherAnswersSpec)

/-- 'marlinelaw20.BodySame', WHERE WHAT IT READS IS OF BULK AT MOST 1048576: true; the input reads as it did. -/
def bodySameUptoRow : OpenClaim := { program := "yteanncchmenlkaadoor", sum := "ab4f12dfa6c6f654ca52f8b79b9e51a23a84c42fa74c4a8ab9b1f557beeb9fed", func := "marline/marlinelaw20.BodySame", spec := "bodySame", unfollowed := true, recurses := true, named := ["marline/opts.known", "marline/opts.all", "marline/ncp.addresses"], plainKeys := false, apart := false, laid := [("marline/opts.all", laid_marline_opts_all), ("marline/ncp.addresses", laid_marline_ncp_addresses)], narrowed := true }
def BodySameUptoSaid : Prop := bodySameUptoRow.holds Tryd.pinned (OpenSpec.upto bodySameSpec)

/-- 'marlinelaw20.BodyMost', WHERE WHAT IT READS IS OF BULK AT MOST 1048576: true; the input reads as it did. -/
def bodyMostUptoRow : OpenClaim := { program := "yteanncchmenlkaadoor", sum := "ab4f12dfa6c6f654ca52f8b79b9e51a23a84c42fa74c4a8ab9b1f557beeb9fed", func := "marline/marlinelaw20.BodyMost", spec := "bodyMost", unfollowed := true, recurses := true, named := ["marline/opts.known", "marline/opts.all", "marline/ncp.addresses"], plainKeys := false, apart := false, laid := [("marline/opts.all", laid_marline_opts_all), ("marline/ncp.addresses", laid_marline_ncp_addresses)], narrowed := true }
def BodyMostUptoSaid : Prop := bodyMostUptoRow.holds Tryd.pinned (OpenSpec.upto bodyMostSpec)

/-- 'marlinelaw20.BodyBack', WHERE WHAT IT READS IS OF BULK AT MOST 1048576: true; the input reads as it did. -/
def bodyBackUptoRow : OpenClaim := { program := "yteanncchmenlkaadoor", sum := "ab4f12dfa6c6f654ca52f8b79b9e51a23a84c42fa74c4a8ab9b1f557beeb9fed", func := "marline/marlinelaw20.BodyBack", spec := "bodyBack", unfollowed := true, recurses := true, named := ["marline/opts.known", "marline/opts.all", "marline/ncp.addresses"], plainKeys := false, apart := false, laid := [("marline/opts.all", laid_marline_opts_all), ("marline/ncp.addresses", laid_marline_ncp_addresses)], narrowed := true }
def BodyBackUptoSaid : Prop := bodyBackUptoRow.holds Tryd.pinned (OpenSpec.upto bodyBackSpec)

/-- 'marlinelaw22.EtherBack', WHERE WHAT IT READS IS OF BULK AT MOST 1048576: true; the input reads as it did. -/
def etherBackUptoRow : OpenClaim := { program := "yteanncchmenlkaadoor", sum := "ab4f12dfa6c6f654ca52f8b79b9e51a23a84c42fa74c4a8ab9b1f557beeb9fed", func := "marline/marlinelaw22.EtherBack", spec := "etherBack", unfollowed := true, recurses := true, named := ["marline/ether.sessions", "marline/opts.known", "marline/opts.all", "marline/ncp.addresses"], plainKeys := false, apart := false, laid := [("marline/opts.all", laid_marline_opts_all), ("marline/ncp.addresses", laid_marline_ncp_addresses), ("marline/ether.sessions", laid_marline_ether_sessions)], narrowed := true }
def EtherBackUptoSaid : Prop := etherBackUptoRow.holds Tryd.pinned (OpenSpec.upto etherBackSpec)

end Rows
end Go.Proofs.YteanncchmenlkaaDoor
