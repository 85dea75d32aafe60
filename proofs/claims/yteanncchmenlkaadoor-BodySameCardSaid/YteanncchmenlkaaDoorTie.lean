/-
  DERIVED. GIVEN WITH THE SEED: THE PROGRAM's TIES (one call each: nine closed facts by the kernel) AND EACH ROW's TIE, after the 31st guide's Derived/Test/Toyas{Tie, Card}.lean. No idea stands in it: it is a product of the set-up. Laid BY PROGRAM, IN A SANDBOX (cutbox-door.mjs). By AI agents, Wed Nov 11 2026. No macro, syntax, notation, axiom, sorry.
-/
import Derived.Test.YteanncchmenlkaaDoorRows
import Derived.LaidByTextLater
import Derived.SevenTiedAt
import Derived.LaidSub
import Derived.LaidOnce
namespace Go.Proofs.YteanncchmenlkaaDoor
open Go
set_option maxRecDepth 100000
theorem seatTie1 : Tryd.prog.laidByTextLater [("marline/opts.all", Rows.laid_marline_opts_all), ("marline/ncp.addresses", Rows.laid_marline_ncp_addresses), ("marline/ether.sessions", Rows.laid_marline_ether_sessions)] [.data, .mapped, .mapped] true :=
  Program.laidByTextLater_by_one 70 8 3 (by kernel_rfl) (by kernel_rfl) (by kernel_rfl) (by kernel_rfl) (by kernel_rfl) (by kernel_rfl) (fun _ _ => by kernel_rfl)
theorem noOwnUnsafe : Tryd.pinned.checked.prog.headLifts.contains "ownunsafe" = false := by kernel_rfl
theorem tie : Tryd.prog.laidByTextLater [("marline/opts.all", Rows.laid_marline_opts_all), ("marline/ncp.addresses", Rows.laid_marline_ncp_addresses), ("marline/ether.sessions", Rows.laid_marline_ether_sessions)] [.data, .mapped, .mapped] true :=
  Program.laidByTextLater.sub seatTie1 ["marline/opts.all", "marline/ncp.addresses", "marline/ether.sessions"] (by kernel_rfl) (by kernel_rfl)
theorem etherMost_row_tie : Rows.etherMostRow.laidByTextAt .later Tryd.pinned [.data, .mapped, .mapped] true :=
  OpenClaim.laidByTextAt_later rfl rfl tie noOwnUnsafe
theorem etherAnswers_row_tie : Rows.etherAnswersRow.laidByTextAt .later Tryd.pinned [.data, .mapped, .mapped] true :=
  OpenClaim.laidByTextAt_later rfl rfl tie noOwnUnsafe
theorem etherBack_row_tie : Rows.etherBackRow.laidByTextAt .later Tryd.pinned [.data, .mapped, .mapped] true :=
  OpenClaim.laidByTextAt_later rfl rfl tie noOwnUnsafe
theorem tie2 : Tryd.prog.laidByTextLater [("marline/opts.all", Rows.laid_marline_opts_all), ("marline/ncp.addresses", Rows.laid_marline_ncp_addresses)] [.data, .mapped] true :=
  Program.laidByTextLater.sub seatTie1 ["marline/opts.all", "marline/ncp.addresses"] (by kernel_rfl) (by kernel_rfl)
theorem bodySame_row_tie : Rows.bodySameRow.laidByTextAt .later Tryd.pinned [.data, .mapped] true :=
  OpenClaim.laidByTextAt_later rfl rfl tie2 noOwnUnsafe
theorem bodyMost_row_tie : Rows.bodyMostRow.laidByTextAt .later Tryd.pinned [.data, .mapped] true :=
  OpenClaim.laidByTextAt_later rfl rfl tie2 noOwnUnsafe
theorem bodyBack_row_tie : Rows.bodyBackRow.laidByTextAt .later Tryd.pinned [.data, .mapped] true :=
  OpenClaim.laidByTextAt_later rfl rfl tie2 noOwnUnsafe
theorem etherMostUpto_row_tie : Rows.etherMostUptoRow.laidByTextAt .later Tryd.pinned [.data, .mapped, .mapped] true :=
  OpenClaim.laidByTextAt_later rfl rfl tie noOwnUnsafe
theorem etherAnswersUpto_row_tie : Rows.etherAnswersUptoRow.laidByTextAt .later Tryd.pinned [.data, .mapped, .mapped] true :=
  OpenClaim.laidByTextAt_later rfl rfl tie noOwnUnsafe
theorem bodySameUpto_row_tie : Rows.bodySameUptoRow.laidByTextAt .later Tryd.pinned [.data, .mapped] true :=
  OpenClaim.laidByTextAt_later rfl rfl tie2 noOwnUnsafe
theorem bodyMostUpto_row_tie : Rows.bodyMostUptoRow.laidByTextAt .later Tryd.pinned [.data, .mapped] true :=
  OpenClaim.laidByTextAt_later rfl rfl tie2 noOwnUnsafe
theorem bodyBackUpto_row_tie : Rows.bodyBackUptoRow.laidByTextAt .later Tryd.pinned [.data, .mapped] true :=
  OpenClaim.laidByTextAt_later rfl rfl tie2 noOwnUnsafe
theorem etherBackUpto_row_tie : Rows.etherBackUptoRow.laidByTextAt .later Tryd.pinned [.data, .mapped, .mapped] true :=
  OpenClaim.laidByTextAt_later rfl rfl tie noOwnUnsafe
end Go.Proofs.YteanncchmenlkaaDoor
