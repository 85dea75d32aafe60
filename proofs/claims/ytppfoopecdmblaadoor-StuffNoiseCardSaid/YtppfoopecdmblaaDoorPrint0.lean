/- A text that a program of this claim (wip/x) laid out of the translation: what Go functions come to, and that they come to it. Lean checks it. -/
import Derived.Test.YtppfoopecdmblaaDoorProg
import Derived.WalkSpells
import Derived.Lib.SlBytesConst
import Derived.Below
import Derived.Deep.Draws
import Derived.Deep.AppendLies
import Derived.Maps.AppendAt
import Derived.OwnWalk
import Derived.Laws.BytesArg
import Derived.Laws.MakeOwn
import Derived.Laws.OwnMore
import Derived.Deep.OwnRows
import Derived.Tactics
import Derived.Lib.ConvBytes
import Derived.Laws.Slices
import Derived.WalkKit
import Derived.KernelRfl
import Derived.RowKit3
import Derived.Deep.LoopGhost
import Derived.Deep.QuietTactic
import Derived.BigQuiet
import Derived.WideLaws
import Derived.Deep.DeepCutAuto
import Derived.Deep.CutBlock
import Derived.Deep.RegionHeld3
import Derived.Laws.Rows
import Derived.Lib.AppendStr
import Derived.ArgAppend
import Derived.Laws.IdiomCopy
import Derived.OrdersHeld
import Derived.Laws.BitsLemmas
import Derived.RowKit
import Derived.Shelf.SlicesE.DeleteFunc
import Derived.Shelf.Bytes.SlIndexAt
import Derived.Lib.IndexLaws
import Derived.Test.YtppfoopecdmblaaDoorWWords
import Derived.Test.YtppfoopecdmblaaDoorWLast
import Derived.Test.YtppfoopecdmblaaDoorWTab
import Derived.Test.YtppfoopecdmblaaDoorWFour
import Derived.Test.YtppfoopecdmblaaDoorWQPut
import Derived.Test.YtppfoopecdmblaaDoorWApart
import Derived.Test.YtppfoopecdmblaaDoorWArr
import Derived.Test.YtppfoopecdmblaaDoorWZeros
import Derived.Test.YtppfoopecdmblaaDoorWFoot
import Derived.Test.YtppfoopecdmblaaDoorWKept
import Derived.Test.YtppfoopecdmblaaDoorWShare
import Derived.Test.YtppfoopecdmblaaDoorWN
import Derived.Test.YtppfoopecdmblaaDoorWFootNe
import Derived.Test.YtppfoopecdmblaaDoorWAt
import Derived.Test.YtppfoopecdmblaaDoorWEqStruct
import Derived.Test.YtppfoopecdmblaaDoorWRepsOne
import Derived.Test.YtppfoopecdmblaaDoorWInv
import Derived.Test.YtppfoopecdmblaaDoorWInvWords
import Derived.Test.YtppfoopecdmblaaDoorWGuard
import Derived.Test.YtppfoopecdmblaaDoorWNEv
import Derived.Test.YtppfoopecdmblaaDoorWMore
namespace Go.Proofs.YtppfoopecdmblaaDoor.Print
open Go.RowKit Go.Proofs.YtppfoopecdmblaaDoorW.PrintWords Go.Proofs.YtppfoopecdmblaaDoorW.PrintLast Go.Proofs.YtppfoopecdmblaaDoorW.PrintMore
attribute [local go_sem] max2_int min2_int max_two min_two max_three min_three max_four min_four   -- for this text's walks alone
set_option linter.unusedVariables false
set_option linter.unusedSimpArgs false



def errW : Option Int → Value
  | none => .nilIface
  | some c => .iface 0 (.int .i64 c)
theorem errW_none : errW none = .nilIface := rfl
theorem errW_some (c : Int) : errW (some c) = .iface 0 (.int .i64 c) := rfl

/-! ### words of this claim's own -/
section
variable {P : Program} {ops : Array Oper} {rest : List Oper} {o : Oper} {a : Act} {Q : Exit → Act → World → Prop}
/-- make([]T, 0, n): an empty row of the call's own. -/
theorem R_makecap {α : Type} (d : Kd α) {w0 W : World} (base e : Nat) (hgd : o.guard = none) {N : Tmp} (_hd : o.dst = some N) (t : TypeId) (x y : Operand) (ho : o.op = .makeSlice t x y) (n : Int) (hx : a.eval x = .int .i64 0) (hy : a.eval y = .int .i64 n)
    (ht : P.underlying t = some (.slice e)) (z : Value) (bytes : Nat) (hinfo : (P.info? e).map (fun i => (i.zero, i.size, i.bytes)) = some (some z, d.sz, bytes)) (hz : z.cells.size = d.sz) (_hs0 : 0 < d.sz) (hb0 : 0 < bytes)
    (z0 : α) {ok okp : Nat → Prop} (_hzero : d.M W base okp z0 z.cells.toList) (_hok : ∀ k, okp k → ok k) (hfresh : ok W.heap.size) (h0 : 0 ≤ n) (hl : n.toNat * bytes ≤ 281474976710656) (HB : Below base w0 W) (hbase : base ≤ W.heap.size)
    (h : ∀ v1 w1, d.R e w1 base ok v1 [] → Below base w0 w1 → W.grownBy w1 none → (∃ b, v1.ownBlock = some b ∧ W.heap.size ≤ b) → wpList P ops Q rest (a.put o.dst v1) w1) : wpList P ops Q (o :: rest) a W := by
  obtain ⟨m, rfl⟩ := Int.eq_ofNat_of_zero_le h0
  simp only [Int.toNat_natCast] at hl h
  obtain ⟨i0, hi, hzz⟩ := Option.map_eq_some_iff.1 hinfo
  simp only [Prod.mk.injEq] at hzz
  obtain ⟨hz0, hz1, hz2⟩ := hzz
  have hm : m ≤ 281474976710656 := Nat.le_trans (Nat.le_mul_of_pos_right _ hb0) hl
  have hr := run_make (P := P) W t e i0 z ht hi hz0 .i64 .i64 0 (m : Int) (by omega) (by omega)
    (by
      have h3 : ((i0.bytes * m : Nat) : Int) ≤ 281474976710656 := by rw [hz2, Nat.mul_comm]; omega
      rwa [Int.natCast_mul] at h3) (by omega)
  simp only [Int.toNat_natCast, Int.toNat_zero] at hr
  rw [hz1] at hr
  have hown := World.ownsRow_made (e := e) (size := d.sz) (base := base) W (madeCells z.cells (m * d.sz)) m hbase (by simp only [maxLen]; omega) (size_madeCells _ _)
  refine Kd.event_run hgd (by simp [execOp, ho, hx, hy, hr]) (h _ _ ⟨fun k hk => ?_, [], hown, ⟨by simp, fun j p hj => by simp at hj⟩⟩ (HB.alloc hbase _) (World.grownBy_alloc W _ none) ⟨W.heap.size, by simp [Value.ownBlock], Nat.le_refl _⟩)
  have : W.heap.size = k := by simpa [Value.ownBlock] using hk
  subst this
  exact hfresh
end
section
variable {α : Type} {d : Kd α} {W : World} {ok : Nat → Prop} {ad : Addr} {n : Nat} {xs : List α}
/-- A row that is read, and isn't empty, lies in ok. -/
theorem F_lies (z : α) (h : Kd.F d W ok (some ad) n xs) (hs : 0 < d.sz) (hn : 0 < n) : ok ad.block := by
  apply Classical.byContradiction
  intro hno
  have hC := h { W with heap := W.heap.setIfInBounds ad.block (.cells #[] 0 (0, 0)) } (fun j hj _ => by
    have hne : ad.block ≠ j := fun e => hno (e ▸ hj)
    simp [hne])
  obtain ⟨ad', c, e, hl, hK, hc⟩ := Kd.C_get hC z 0 (by omega) (by omega)
  injection e with e
  subst e
  have h0 := hc 0 (c[0]'(by omega)) (List.getElem?_eq_getElem _)
  have h1 : ∀ a : Addr, a.block = ad.block → (World.cell? { W with heap := W.heap.setIfInBounds ad.block (.cells #[] 0 (0, 0)) } a) = none := by
    intro a ha
    unfold World.cell?
    rw [ha]
    simp only [Array.getElem?_setIfInBounds_self]
    split <;> rename_i h2
    · split at h2
      · cases h2
        split <;> simp
      · cases h2
    · rfl
  rw [h1 _ (by rw [add_block])] at h0
  cases h0
theorem Kd.V_away {e base c g : Nat} (h : Kd.V d e W base ok (.slice (some ad) n c) xs) (hok : ∀ k, ok k → k ≠ g) (hn : 0 < n := by first | omega | (simp only [eq_iff_iff, iff_true, decide_eq_true_eq] at *; omega)) (hs : 0 < d.sz := by first | exact Nat.one_pos | decide) : some g ≠ (Value.slice (some ad) n c).ownBlock := by
  intro he
  simp only [Value.ownBlock, Option.some.injEq] at he
  obtain ⟨hl, _, _⟩ := Kd.V_at h
  exact hok _ (F_lies (xs[0]'(by omega)) (Kd.V_F h) hs hn) he.symm
end

theorem info5 : (Tryd.prog.info? 5).map (fun i => (i.zero, i.size, i.bytes)) = some (some (.int .u8 0), 1, 1) := by kernel_rfl
-- the values' own types

end Go.Proofs.YtppfoopecdmblaaDoor.Print
