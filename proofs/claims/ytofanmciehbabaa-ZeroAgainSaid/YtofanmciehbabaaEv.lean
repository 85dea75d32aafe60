/- Small words for the laws' own texts: a test that is decided, from some number of rounds on. -/
import Derived.Test.YtofanmciehbabaaS01
set_option linter.unusedVariables false
namespace Go.Proofs.Ytofanmciehbabaa.Sp
open Go.RowKit Go.Proofs.YtofanmciehbabaaW.PrintWords Go.Proofs.Ytofanmciehbabaa.Pl
theorem Ev.pos {α : Type} {c : Prop} [Decidable c] {g h : Nat → Option α} {r : α} (hc : c) (k : Ev g r) : Ev (fun n => if c then g n else h n) r :=
  Ev.congr (fun n => if_pos hc) k
theorem Ev.neg {α : Type} {c : Prop} [Decidable c] {g h : Nat → Option α} {r : α} (hc : ¬ c) (k : Ev h r) : Ev (fun n => if c then g n else h n) r :=
  Ev.congr (fun n => if_neg hc) k
theorem Ev.end_ {α : Type} {x r : α} (h : x = r) : Ev (fun _ => some x) r := h ▸ Ev.now _
theorem Ev.name {α β : Type} {x : β} {g : Nat → β → Option α} {r : α} (h : Ev (fun n => g n x) r) : Ev (fun n => (some x).bind (g n)) r := Ev.congr (fun n => Option.bind_some _ _) h
end Go.Proofs.Ytofanmciehbabaa.Sp
