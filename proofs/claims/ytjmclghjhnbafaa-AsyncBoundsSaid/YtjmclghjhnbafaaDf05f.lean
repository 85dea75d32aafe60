/- What the asynchronous deframer tells of a chunk: the walk, its variable and its row of octets lying where they may. No condition but the row's length. -/
import Derived.Test.YtjmclghjhnbafaaDf05e
namespace Go.Proofs.Ytjmclghjhnbafaa.Print
open Go.RowKit Go.Proofs.YtjmclghjhnbafaaW.PrintWords Go.Proofs.YtjmclghjhnbafaaW.PrintLast Go.Proofs.YtjmclghjhnbafaaW.PrintMore
attribute [local go_sem] max2_int min2_int max_two min_two max_three min_three max_four min_four
set_option linter.unusedVariables false
set_option linter.unusedSimpArgs false
/-- What a deframer keeps. -/
structure Dst where
  data : List Int
  any : Bool
  esc : Bool
  long : Bool
def hasb (recv c : Int) : Bool := (Go.bits .and .u32 (shr .u32 recv c) 1) == 1
def dstep (recv most : Int) (p : List S34 × Dst) (c : Int) : List S34 × Dst :=
  if c = 126 then (if p.2.any then p.1 ++ [⟨dkind p.2.esc p.2.long, dseg p.2.data p.2.esc p.2.long⟩] else p.1, ⟨[], false, false, false⟩)
  else if hasb recv c then p
  else if p.2.esc then (p.1, ⟨(dput most p.2.data p.2.long (Go.bits .xor .u8 c 32)).1, true, false, (dput most p.2.data p.2.long (Go.bits .xor .u8 c 32)).2⟩)
  else if c = 125 then (p.1, ⟨p.2.data, true, true, p.2.long⟩)
  else (p.1, ⟨(dput most p.2.data p.2.long c).1, true, false, (dput most p.2.data p.2.long c).2⟩)
def dfeed (recv most : Int) (s : Dst) (l : List Int) : List S34 × Dst := l.foldl (dstep recv most) ([], s)
theorem R_sharp {k : IntKind} {e base : Nat} {W : World} {ok ok' : Nat → Prop} {v : Value} {xs : List Int} (h : Kd.R (Kd.int k) e W base ok v xs) (h2 : ∀ j, v.ownBlock = some j → ok' j) : Kd.R (Kd.int k) e W base ok' v xs :=
  ⟨h2, h.2.imp_ (fun _ _ hp => hp)⟩
theorem R_ownlt {α : Type} {d : Kd α} {e base : Nat} {W : World} {ok : Nat → Prop} {v : Value} {xs : List α} (h : d.R e W base ok v xs) : ∀ j, v.ownBlock = some j → j < W.heap.size := fun j hj => (Kd.R_bound h).1 j hj |>.2.2.1
def dcells (recv most : Int) (u : Value) (s : Dst) : Array Value := #[.int .u32 recv, .int .i64 most, u, .bool s.any, .bool s.esc, .bool s.long]
/-- What lives while a chunk is gone through: the deframer's variable, its row, and what is told so far. -/
structure Live (w0 w : World) (P0_ : Nat → Prop) (g : Nat) (recv most : Int) (s : Dst) (u vo : Value) (outs : List S34) (W : World) : Prop where
  cell : W.heap[g]? = some (.cells (dcells recv most u s) 58 (0, 0))
  row : Kd.R (Kd.int .u8) 5 W w0.heap.size (fun k_ => P0_ k_ ∨ w.heap.size ≤ k_) u s.data
  out : Kd.S k34 34 W w0.heap.size (fun k_ => w.heap.size ≤ k_ ∧ some k_ ≠ u.ownBlock) vo outs
  bel : Below w0.heap.size w0 W
  kept : Kept w W (fun k_ => P0_ k_ ∨ k_ = g)
section
variable {w0 w W W' : World} {P0_ : Nat → Prop} {g : Nat} {recv most : Int} {s : Dst} {u vo : Value} {outs : List S34}
theorem Live.below (h : Live w0 w P0_ g recv most s u vo outs W) (hb : Below W.heap.size W W') : Live w0 w P0_ g recv most s u vo outs W' :=
  ⟨blk_below h.cell hb, Kd.R_below h.row hb, Kd.S_below h.out hb, below_step h.bel hb, h.kept.below hb⟩
theorem Live.ownP (h : Live w0 w P0_ g recv most s u vo outs W) : Kd.R (Kd.int .u8) 5 W w0.heap.size (fun k_ => (P0_ k_ ∨ w.heap.size ≤ k_) ∧ some k_ = u.ownBlock) u s.data :=
  R_sharp h.row (fun j hj => ⟨h.row.1 j hj, hj.symm⟩)
/-- A call that writes the variable and the row, and hands back a row that is the old one or new. -/
theorem Live.next {s' : Dst} {u' : Value} (h : Live w0 w P0_ g recv most s u vo outs W) (hg : g < w.heap.size) (hge : w0.heap.size ≤ g)
    (hc : W'.heap[g]? = some (.cells (dcells recv most u' s') 58 (0, 0))) (hr : Kd.R (Kd.int .u8) 5 W' w0.heap.size (fun k_ => ((P0_ k_ ∨ w.heap.size ≤ k_) ∧ some k_ = u.ownBlock) ∨ W.heap.size ≤ k_) u' s'.data)
    (hb : Below w0.heap.size w0 W') (hk : Kept W W' (fun k_ => ((P0_ k_ ∨ w.heap.size ≤ k_) ∧ some k_ = u.ownBlock) ∨ k_ = g)) : Live w0 w P0_ g recv most s' u' vo outs W' := by
  refine ⟨hc, Kd.R_mono hr (fun k hk => hk.elim (fun h1 => h1.1) (fun h1 => .inr (Nat.le_trans h.kept.1 h1))), ?_, hb, h.kept.then_ hk (fun k hk => ?_)⟩
  · have h1 := Kd.S_kept (Kd.S_bound h.out) hk (fun k ho hs => hs.elim (fun h2 => ho.1.2 h2.2) (fun h2 => by have := ho.1.1; omega))
    refine Kd.S_mono h1 (fun k ho => ⟨ho.1.1, fun he => ?_⟩)
    rcases hr.1 k he.symm with h2 | h2
    · exact ho.1.2 h2.2
    · have := ho.2.2.1
      omega
  · rcases hk with h2 | h2
    · exact h2.1.elim (fun h3 => .inl (.inl h3)) .inr
    · exact .inl (.inr h2)
theorem Live.nextOld {xs' : List Int} {u' : Value} (h : Live w0 w P0_ g recv most s u vo outs W) (hg : g < w.heap.size)
    (hr : Kd.R (Kd.int .u8) 5 W' w0.heap.size (fun k_ => ((P0_ k_ ∨ w.heap.size ≤ k_) ∧ some k_ = u.ownBlock) ∨ W.heap.size ≤ k_) u' xs')
    (hk : Kept W W' (fun k_ => ((P0_ k_ ∨ w.heap.size ≤ k_) ∧ some k_ = u.ownBlock) ∨ k_ = g)) : Kd.S k34 34 W' w0.heap.size (fun k_ => (w.heap.size ≤ k_ ∧ some k_ ≠ u'.ownBlock) ∧ k_ < W.heap.size) vo outs := by
  have h1 := Kd.S_kept (Kd.S_bound h.out) hk (fun k ho hs => hs.elim (fun h2 => ho.1.2 h2.2) (fun h2 => by have := ho.1.1; omega))
  refine Kd.S_mono h1 (fun k ho => ⟨⟨ho.1.1, fun he => ?_⟩, ho.2.2.1⟩)
  rcases hr.1 k he.symm with h2 | h2
  · exact ho.1.2 h2.2
  · have := ho.2.2.1
    omega
/-- A store of a truth into the variable. -/
theorem Live.set (h : Live w0 w P0_ g recv most s u vo outs W) (hg : g < w.heap.size) (hge : w0.heap.size ≤ g) (hP : ¬ P0_ g) {s' : Dst} (i : Nat) (b : Bool) (hd : s'.data = s.data) (e : (dcells recv most u s).setIfInBounds i (.bool b) = dcells recv most u s') :
    Live w0 w P0_ g recv most s' u vo outs (W.setCell ⟨g, i, none⟩ (.bool b)) := by
  refine ⟨blk_put h.cell i _ e, ?_, ?_, below_set h.bel hge, h.kept.setCell (.inl (.inr rfl)) _⟩
  · rw [hd]
    exact Kd.R_far h.row (fun k hk he => hk.elim (fun h1 => hP (by rw [← show k = g from he]; exact h1)) (fun h1 => by have : k = g := he; omega)) _
  · exact Kd.S_far h.out (fun k hk he => by have : k = g := he; have := hk.1; omega) _
end
theorem dfold_take (recv most : Int) (s : Dst) (l : List Int) (i : Nat) (h : i < l.length) : dfeed recv most s (l.take (i + 1)) = dstep recv most (dfeed recv most s (l.take i)) l[i] := by
  unfold dfeed
  rw [List.take_succ_eq_append_getElem h, List.foldl_append]
  rfl
theorem dput_len (most : Int) (xs : List Int) (l : Bool) (c : Int) : (dput most xs l c).1.length ≤ xs.length + 1 := by
  unfold dput
  split <;> simp
theorem dstep_len (recv most : Int) (p : List S34 × Dst) (c : Int) : (dstep recv most p c).1.length ≤ p.1.length + 1 ∧ (dstep recv most p c).2.data.length ≤ p.2.data.length + 1 := by
  have h1 := dput_len most p.2.data p.2.long c
  have h2 := dput_len most p.2.data p.2.long (Go.bits .xor .u8 c 32)
  unfold dstep
  repeat' split
  all_goals refine ⟨?_, ?_⟩
  all_goals first | omega | (simp; done) | (simp; omega)
theorem dfeed_len (recv most : Int) : ∀ (l : List Int) (p : List S34 × Dst), (l.foldl (dstep recv most) p).1.length ≤ p.1.length + l.length ∧ (l.foldl (dstep recv most) p).2.data.length ≤ p.2.data.length + l.length
  | [], p => by simp
  | c :: t, p => by
    have h := dstep_len recv most p c
    have ih := dfeed_len recv most t (dstep recv most p c)
    simp only [List.foldl_cons, List.length_cons]
    omega
end Go.Proofs.Ytjmclghjhnbafaa.Print
