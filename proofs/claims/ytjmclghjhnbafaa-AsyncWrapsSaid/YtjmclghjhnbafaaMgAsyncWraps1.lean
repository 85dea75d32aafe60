/- Texts of this claim, several in one: what Go functions come to, and plain words on it; each says itself what it proves. -/
import Derived.Test.YtjmclghjhnbafaaProg
import Derived.WalkSpells
import Derived.Lib.SlBytesConst
import Derived.Below
import Derived.Deep.Draws
import Derived.Deep.AppendLies
import Derived.Maps.AppendAt
import Derived.OwnWalk
import Derived.Laws.BytesArg
import Derived.Laws.MakeOwn
import Derived.Laws.OwnMore
import Derived.Deep.OwnRows
import Derived.Tactics
import Derived.Lib.ConvBytes
import Derived.Laws.Slices
import Derived.WalkKit
import Derived.KernelRfl
import Derived.RowKit3
import Derived.Deep.LoopGhost
import Derived.Deep.QuietTactic
import Derived.BigQuiet
import Derived.WideLaws
import Derived.Deep.DeepCutAuto
import Derived.Deep.CutBlock
import Derived.Deep.RegionHeld3
import Derived.Laws.Rows
import Derived.Lib.AppendStr
import Derived.ArgAppend
import Derived.Laws.IdiomCopy
import Derived.OrdersHeld
import Derived.Laws.BitsLemmas
import Derived.RowKit
import Derived.Test.YtjmclghjhnbafaaWWords
import Derived.Test.YtjmclghjhnbafaaWLast
import Derived.Test.YtjmclghjhnbafaaWTab
import Derived.Test.YtjmclghjhnbafaaWFour
import Derived.Test.YtjmclghjhnbafaaWQPut
import Derived.Test.YtjmclghjhnbafaaWApart
import Derived.Test.YtjmclghjhnbafaaWArr
import Derived.Test.YtjmclghjhnbafaaWZeros
import Derived.Test.YtjmclghjhnbafaaWFoot
import Derived.Test.YtjmclghjhnbafaaWKept
import Derived.Test.YtjmclghjhnbafaaWShare
import Derived.Test.YtjmclghjhnbafaaWN
import Derived.Test.YtjmclghjhnbafaaWFootNe
import Derived.Test.YtjmclghjhnbafaaWAt
import Derived.Test.YtjmclghjhnbafaaWEqStruct
import Derived.Test.YtjmclghjhnbafaaWRepsOne
import Derived.Test.YtjmclghjhnbafaaWInv
import Derived.Test.YtjmclghjhnbafaaWInvWords
import Derived.Test.YtjmclghjhnbafaaWGuard
import Derived.Test.YtjmclghjhnbafaaWNEv
import Derived.Test.YtjmclghjhnbafaaWMore
import Derived.WalkMore
/- A text that a program of this claim (wip/x) laid out of the translation: what Go functions come to, and that they come to it. Lean checks it. -/
namespace Go.Proofs.Ytjmclghjhnbafaa.Print
open Go.RowKit Go.Proofs.YtjmclghjhnbafaaW.PrintWords Go.Proofs.YtjmclghjhnbafaaW.PrintLast Go.Proofs.YtjmclghjhnbafaaW.PrintMore
attribute [local go_sem] max2_int min2_int max_two min_two max_three min_three max_four min_four   -- for this text's walks alone
set_option linter.unusedVariables false
set_option linter.unusedSimpArgs false



def errW : Option Int → Value
  | none => .nilIface
  | some c => .iface 0 (.int .i64 c)
theorem errW_none : errW none = .nilIface := rfl
theorem errW_some (c : Int) : errW (some c) = .iface 0 (.int .i64 c) := rfl

/-! ### words of this claim's own -/
section
variable {P : Program} {ops : Array Oper} {rest : List Oper} {o : Oper} {a : Act} {Q : Exit → Act → World → Prop}
/-- make([]T, 0, n): an empty row of the call's own. -/
theorem R_makecap {α : Type} (d : Kd α) {w0 W : World} (base e : Nat) (hgd : o.guard = none) {N : Tmp} (_hd : o.dst = some N) (t : TypeId) (x y : Operand) (ho : o.op = .makeSlice t x y) (n : Int) (hx : a.eval x = .int .i64 0) (hy : a.eval y = .int .i64 n)
    (ht : P.underlying t = some (.slice e)) (z : Value) (bytes : Nat) (hinfo : (P.info? e).map (fun i => (i.zero, i.size, i.bytes)) = some (some z, d.sz, bytes)) (hz : z.cells.size = d.sz) (_hs0 : 0 < d.sz) (hb0 : 0 < bytes)
    (z0 : α) {ok okp : Nat → Prop} (_hzero : d.M W base okp z0 z.cells.toList) (_hok : ∀ k, okp k → ok k) (hfresh : ok W.heap.size) (h0 : 0 ≤ n) (hl : n.toNat * bytes ≤ 281474976710656) (HB : Below base w0 W) (hbase : base ≤ W.heap.size)
    (h : ∀ v1 w1, d.R e w1 base ok v1 [] → Below base w0 w1 → W.grownBy w1 none → (∃ b, v1.ownBlock = some b ∧ W.heap.size ≤ b) → wpList P ops Q rest (a.put o.dst v1) w1) : wpList P ops Q (o :: rest) a W := by
  obtain ⟨m, rfl⟩ := Int.eq_ofNat_of_zero_le h0
  simp only [Int.toNat_natCast] at hl h
  obtain ⟨i0, hi, hzz⟩ := Option.map_eq_some_iff.1 hinfo
  simp only [Prod.mk.injEq] at hzz
  obtain ⟨hz0, hz1, hz2⟩ := hzz
  have hm : m ≤ 281474976710656 := Nat.le_trans (Nat.le_mul_of_pos_right _ hb0) hl
  have hr := run_make (P := P) W t e i0 z ht hi hz0 .i64 .i64 0 (m : Int) (by omega) (by omega)
    (by
      have h3 : ((i0.bytes * m : Nat) : Int) ≤ 281474976710656 := by rw [hz2, Nat.mul_comm]; omega
      rwa [Int.natCast_mul] at h3) (by omega)
  simp only [Int.toNat_natCast, Int.toNat_zero] at hr
  rw [hz1] at hr
  have hown := World.ownsRow_made (e := e) (size := d.sz) (base := base) W (madeCells z.cells (m * d.sz)) m hbase (by simp only [maxLen]; omega) (size_madeCells _ _)
  refine Kd.event_run hgd (by simp [execOp, ho, hx, hy, hr]) (h _ _ ⟨fun k hk => ?_, [], hown, ⟨by simp, fun j p hj => by simp at hj⟩⟩ (HB.alloc hbase _) (World.grownBy_alloc W _ none) ⟨W.heap.size, by simp [Value.ownBlock], Nat.le_refl _⟩)
  have : W.heap.size = k := by simpa [Value.ownBlock] using hk
  subst this
  exact hfresh
end
section
variable {α : Type} {d : Kd α} {W : World} {ok : Nat → Prop} {ad : Addr} {n : Nat} {xs : List α}
/-- A row that is read, and isn't empty, lies in ok. -/
theorem F_lies (z : α) (h : Kd.F d W ok (some ad) n xs) (hs : 0 < d.sz) (hn : 0 < n) : ok ad.block := by
  apply Classical.byContradiction
  intro hno
  have hC := h { W with heap := W.heap.setIfInBounds ad.block (.cells #[] 0 (0, 0)) } (fun j hj _ => by
    have hne : ad.block ≠ j := fun e => hno (e ▸ hj)
    simp [hne])
  obtain ⟨ad', c, e, hl, hK, hc⟩ := Kd.C_get hC z 0 (by omega) (by omega)
  injection e with e
  subst e
  have h0 := hc 0 (c[0]'(by omega)) (List.getElem?_eq_getElem _)
  have h1 : ∀ a : Addr, a.block = ad.block → (World.cell? { W with heap := W.heap.setIfInBounds ad.block (.cells #[] 0 (0, 0)) } a) = none := by
    intro a ha
    unfold World.cell?
    rw [ha]
    simp only [Array.getElem?_setIfInBounds_self]
    split <;> rename_i h2
    · split at h2
      · cases h2
        split <;> simp
      · cases h2
    · rfl
  rw [h1 _ (by rw [add_block])] at h0
  cases h0
theorem Kd.V_away {e base c g : Nat} (h : Kd.V d e W base ok (.slice (some ad) n c) xs) (hok : ∀ k, ok k → k ≠ g) (hn : 0 < n := by first | omega | (simp only [eq_iff_iff, iff_true, decide_eq_true_eq] at *; omega)) (hs : 0 < d.sz := by first | exact Nat.one_pos | decide) : some g ≠ (Value.slice (some ad) n c).ownBlock := by
  intro he
  simp only [Value.ownBlock, Option.some.injEq] at he
  obtain ⟨hl, _, _⟩ := Kd.V_at h
  exact hok _ (F_lies (xs[0]'(by omega)) (Kd.V_F h) hs hn) he.symm
end

theorem info5 : (Try.prog.info? 5).map (fun i => (i.zero, i.size, i.bytes)) = some (some (.int .u8 0), 1, 1) := by kernel_rfl
theorem info28 : (Try.prog.info? 28).map (fun i => (i.zero, i.size, i.bytes)) = some (some (.slice none 0 0), 1, 24) := by kernel_rfl
theorem info65 : (Try.prog.info? 65).map (fun i => (i.zero, i.size, i.bytes)) = some (some (.agg #[(.int .i64 0), (.slice none 0 0)]), 2, 32) := by kernel_rfl
theorem info74 : (Try.prog.info? 74).map (fun i => (i.zero, i.size, i.bytes)) = some (some (.agg #[(.int .i64 0), (.slice none 0 0)]), 2, 32) := by kernel_rfl
-- the values' own types
def rd_L1 (xs : List (List Int)) (i : Int) : (List Int) := xs.getD i.toNat ([] : List Int)
theorem at_L1 {w : World} {A : Option Addr} {n : Nat} {xs : List (List Int)} (h : Kd.C (Kd.slice 5 (Kd.int .u8)) w A n xs) (i : Int) (h0 : 0 ≤ i) (h1 : i < n) : ∃ ad A0 c0, A = some ad ∧ w.cell? (ad.add i.toNat) = some (.slice A0 (rd_L1 xs i).length c0) ∧ (rd_L1 xs i).length ≤ c0 ∧ (Kd.int .u8).C w A0 (rd_L1 xs i).length (rd_L1 xs i) := by
  obtain ⟨ad, c, e, _, hK, hc0⟩ := Kd.C_get h ([] : List Int) i h0 h1
  have hc : ∀ j u, c[j]? = some u → w.cell? (ad.add (i.toNat * 1 + j)) = some u := hc0
  obtain ⟨A0, c0, rfl, l0, g0⟩ := hK
  exact ⟨ad, A0, c0, e, by have hq := hc 0 _ rfl; rwa [Nat.mul_one, Nat.add_zero] at hq, l0, g0⟩

/-! #### struct type 34 -/
structure S34 where
  f0 : Int
  f1 : (List Int)
def z34 : S34 := ⟨(0 : Int), ([] : List Int)⟩
def k34 : Kd S34 := Kd.iso (Kd.pair (Kd.int .i64) (Kd.slice 5 (Kd.int .u8))) (fun x : S34 => (x.f0, x.f1))
theorem k34_heap : Kd.Heap k34 := Kd.heap_iso _ (Kd.heap_pair (Kd.heap_int .i64) (Kd.heap_slice 5 (Kd.heap_int .u8)))
theorem k34_open {w : World} {x : S34} {cs : List Value} (h : k34.K w x cs) : ∃ A1 c1, cs = [.int .i64 x.f0, .slice A1 x.f1.length c1] ∧ x.f1.length ≤ c1 ∧ (Kd.int .u8).C w A1 x.f1.length x.f1 := by
  obtain ⟨_, _, rfl, rfl, ⟨A1, c1, rfl, l1, g1⟩⟩ := h
  exact ⟨A1, c1, rfl, l1, g1⟩
theorem k34_openM {w : World} {base : Nat} {ok : Nat → Prop} {x : S34} {cs : List Value} (h : k34.M w base ok x cs) : ∃ v1, cs = [.int .i64 x.f0, v1] ∧ (Kd.int .u8).R 5 w base ok v1 x.f1 := by
  obtain ⟨_, _, rfl, rfl, ⟨v1, rfl, g1⟩⟩ := h
  exact ⟨v1, rfl, g1⟩
theorem k34_mk (w : World) (x : S34) {A1 : Option Addr} {c1 : Nat} (l1 : x.f1.length ≤ c1) (g1 : (Kd.int .u8).C w A1 x.f1.length x.f1) : k34.K w x [.int .i64 x.f0, .slice A1 x.f1.length c1] := ⟨[.int .i64 x.f0], [.slice A1 x.f1.length c1], rfl, rfl, ⟨A1, c1, rfl, l1, g1⟩⟩
theorem k34_mkM (w : World) (base : Nat) (ok : Nat → Prop) (x : S34) {v1 : Value} (g1 : (Kd.int .u8).R 5 w base ok v1 x.f1) : k34.M w base ok x [.int .i64 x.f0, v1] := ⟨[.int .i64 x.f0], [v1], rfl, rfl, ⟨v1, rfl, g1⟩⟩
theorem k34_openF {W : World} {ok : Nat → Prop} {x : S34} {cs : List Value} (h : Kd.FK k34 W ok x cs) : ∃ A1 c1, cs = [.int .i64 x.f0, .slice A1 x.f1.length c1] ∧ x.f1.length ≤ c1 ∧ Kd.F (Kd.int .u8) W ok A1 x.f1.length x.f1 := by
  obtain ⟨A1, c1, rfl, l1, _⟩ := k34_open (Kd.FK_now h)
  exact ⟨A1, c1, rfl, l1, (fun W' hW => by obtain ⟨A1_, c1_, he, l1_, g1_⟩ := k34_open (h W' hW); injection (Option.some.inj (show some (Value.slice A1 x.f1.length c1) = some (Value.slice A1_ x.f1.length c1_) from congrArg (fun l => l[1]?) he)) with ha_ _ _; rw [ha_]; exact g1_)⟩
theorem k34_mkF (W : World) (ok : Nat → Prop) (x : S34) {A1 : Option Addr} {c1 : Nat} (l1 : x.f1.length ≤ c1) (g1 : Kd.F (Kd.int .u8) W ok A1 x.f1.length x.f1) : Kd.FK k34 W ok x [.int .i64 x.f0, .slice A1 x.f1.length c1] := fun W2 hW => k34_mk W2 x l1 (g1 W2 hW)
def rd_T34 (xs : List S34) (i : Int) : S34 := xs.getD i.toNat z34
theorem at_T34 {w : World} {A : Option Addr} {n : Nat} {xs : List S34} (h : Kd.C k34 w A n xs) (i : Int) (h0 : 0 ≤ i) (h1 : i < n) : ∃ ad A1 c1, A = some ad ∧ w.cell? (ad.add (i.toNat * 2)) = some (.int .i64 (rd_T34 xs i).f0) ∧ w.cell? ⟨(ad.add (i.toNat * 2)).block, (ad.add (i.toNat * 2)).off + 1, none⟩ = some (.slice A1 (rd_T34 xs i).f1.length c1) ∧ (rd_T34 xs i).f1.length ≤ c1 ∧ (Kd.int .u8).C w A1 (rd_T34 xs i).f1.length (rd_T34 xs i).f1 := by
  obtain ⟨ad, c, e, _, hK, hc0⟩ := Kd.C_get h z34 i h0 h1
  have hc : ∀ j u, c[j]? = some u → w.cell? (ad.add (i.toNat * 2 + j)) = some u := hc0
  obtain ⟨A1, c1, rfl, l1, g1⟩ := k34_open hK
  exact ⟨ad, A1, c1, e, hc 0 _ rfl, by rw [← add_field _ _ 1 (by omega)]; exact hc 1 _ rfl, l1, g1⟩

/-! #### struct type 65 -/
structure S65 where
  f0 : Int
  f1 : (List Int)
def z65 : S65 := ⟨(0 : Int), ([] : List Int)⟩
def k65 : Kd S65 := Kd.iso (Kd.pair (Kd.int .i64) (Kd.slice 5 (Kd.int .u8))) (fun x : S65 => (x.f0, x.f1))
theorem k65_heap : Kd.Heap k65 := Kd.heap_iso _ (Kd.heap_pair (Kd.heap_int .i64) (Kd.heap_slice 5 (Kd.heap_int .u8)))
theorem k65_open {w : World} {x : S65} {cs : List Value} (h : k65.K w x cs) : ∃ A1 c1, cs = [.int .i64 x.f0, .slice A1 x.f1.length c1] ∧ x.f1.length ≤ c1 ∧ (Kd.int .u8).C w A1 x.f1.length x.f1 := by
  obtain ⟨_, _, rfl, rfl, ⟨A1, c1, rfl, l1, g1⟩⟩ := h
  exact ⟨A1, c1, rfl, l1, g1⟩
theorem k65_openM {w : World} {base : Nat} {ok : Nat → Prop} {x : S65} {cs : List Value} (h : k65.M w base ok x cs) : ∃ v1, cs = [.int .i64 x.f0, v1] ∧ (Kd.int .u8).R 5 w base ok v1 x.f1 := by
  obtain ⟨_, _, rfl, rfl, ⟨v1, rfl, g1⟩⟩ := h
  exact ⟨v1, rfl, g1⟩
theorem k65_mk (w : World) (x : S65) {A1 : Option Addr} {c1 : Nat} (l1 : x.f1.length ≤ c1) (g1 : (Kd.int .u8).C w A1 x.f1.length x.f1) : k65.K w x [.int .i64 x.f0, .slice A1 x.f1.length c1] := ⟨[.int .i64 x.f0], [.slice A1 x.f1.length c1], rfl, rfl, ⟨A1, c1, rfl, l1, g1⟩⟩
theorem k65_mkM (w : World) (base : Nat) (ok : Nat → Prop) (x : S65) {v1 : Value} (g1 : (Kd.int .u8).R 5 w base ok v1 x.f1) : k65.M w base ok x [.int .i64 x.f0, v1] := ⟨[.int .i64 x.f0], [v1], rfl, rfl, ⟨v1, rfl, g1⟩⟩
theorem k65_openF {W : World} {ok : Nat → Prop} {x : S65} {cs : List Value} (h : Kd.FK k65 W ok x cs) : ∃ A1 c1, cs = [.int .i64 x.f0, .slice A1 x.f1.length c1] ∧ x.f1.length ≤ c1 ∧ Kd.F (Kd.int .u8) W ok A1 x.f1.length x.f1 := by
  obtain ⟨A1, c1, rfl, l1, _⟩ := k65_open (Kd.FK_now h)
  exact ⟨A1, c1, rfl, l1, (fun W' hW => by obtain ⟨A1_, c1_, he, l1_, g1_⟩ := k65_open (h W' hW); injection (Option.some.inj (show some (Value.slice A1 x.f1.length c1) = some (Value.slice A1_ x.f1.length c1_) from congrArg (fun l => l[1]?) he)) with ha_ _ _; rw [ha_]; exact g1_)⟩
theorem k65_mkF (W : World) (ok : Nat → Prop) (x : S65) {A1 : Option Addr} {c1 : Nat} (l1 : x.f1.length ≤ c1) (g1 : Kd.F (Kd.int .u8) W ok A1 x.f1.length x.f1) : Kd.FK k65 W ok x [.int .i64 x.f0, .slice A1 x.f1.length c1] := fun W2 hW => k65_mk W2 x l1 (g1 W2 hW)
def rd_T65 (xs : List S65) (i : Int) : S65 := xs.getD i.toNat z65
theorem at_T65 {w : World} {A : Option Addr} {n : Nat} {xs : List S65} (h : Kd.C k65 w A n xs) (i : Int) (h0 : 0 ≤ i) (h1 : i < n) : ∃ ad A1 c1, A = some ad ∧ w.cell? (ad.add (i.toNat * 2)) = some (.int .i64 (rd_T65 xs i).f0) ∧ w.cell? ⟨(ad.add (i.toNat * 2)).block, (ad.add (i.toNat * 2)).off + 1, none⟩ = some (.slice A1 (rd_T65 xs i).f1.length c1) ∧ (rd_T65 xs i).f1.length ≤ c1 ∧ (Kd.int .u8).C w A1 (rd_T65 xs i).f1.length (rd_T65 xs i).f1 := by
  obtain ⟨ad, c, e, _, hK, hc0⟩ := Kd.C_get h z65 i h0 h1
  have hc : ∀ j u, c[j]? = some u → w.cell? (ad.add (i.toNat * 2 + j)) = some u := hc0
  obtain ⟨A1, c1, rfl, l1, g1⟩ := k65_open hK
  exact ⟨ad, A1, c1, e, hc 0 _ rfl, by rw [← add_field _ _ 1 (by omega)]; exact hc 1 _ rfl, l1, g1⟩

/-! #### struct type 54 -/
structure S54 where
  f0 : Int
  f1 : (List Int)
def z54 : S54 := ⟨(0 : Int), ([] : List Int)⟩
def k54 : Kd S54 := Kd.iso (Kd.pair (Kd.int .i64) (Kd.slice 5 (Kd.int .u8))) (fun x : S54 => (x.f0, x.f1))
theorem k54_heap : Kd.Heap k54 := Kd.heap_iso _ (Kd.heap_pair (Kd.heap_int .i64) (Kd.heap_slice 5 (Kd.heap_int .u8)))
theorem k54_open {w : World} {x : S54} {cs : List Value} (h : k54.K w x cs) : ∃ A1 c1, cs = [.int .i64 x.f0, .slice A1 x.f1.length c1] ∧ x.f1.length ≤ c1 ∧ (Kd.int .u8).C w A1 x.f1.length x.f1 := by
  obtain ⟨_, _, rfl, rfl, ⟨A1, c1, rfl, l1, g1⟩⟩ := h
  exact ⟨A1, c1, rfl, l1, g1⟩
theorem k54_openM {w : World} {base : Nat} {ok : Nat → Prop} {x : S54} {cs : List Value} (h : k54.M w base ok x cs) : ∃ v1, cs = [.int .i64 x.f0, v1] ∧ (Kd.int .u8).R 5 w base ok v1 x.f1 := by
  obtain ⟨_, _, rfl, rfl, ⟨v1, rfl, g1⟩⟩ := h
  exact ⟨v1, rfl, g1⟩
theorem k54_mk (w : World) (x : S54) {A1 : Option Addr} {c1 : Nat} (l1 : x.f1.length ≤ c1) (g1 : (Kd.int .u8).C w A1 x.f1.length x.f1) : k54.K w x [.int .i64 x.f0, .slice A1 x.f1.length c1] := ⟨[.int .i64 x.f0], [.slice A1 x.f1.length c1], rfl, rfl, ⟨A1, c1, rfl, l1, g1⟩⟩
theorem k54_mkM (w : World) (base : Nat) (ok : Nat → Prop) (x : S54) {v1 : Value} (g1 : (Kd.int .u8).R 5 w base ok v1 x.f1) : k54.M w base ok x [.int .i64 x.f0, v1] := ⟨[.int .i64 x.f0], [v1], rfl, rfl, ⟨v1, rfl, g1⟩⟩
theorem k54_openF {W : World} {ok : Nat → Prop} {x : S54} {cs : List Value} (h : Kd.FK k54 W ok x cs) : ∃ A1 c1, cs = [.int .i64 x.f0, .slice A1 x.f1.length c1] ∧ x.f1.length ≤ c1 ∧ Kd.F (Kd.int .u8) W ok A1 x.f1.length x.f1 := by
  obtain ⟨A1, c1, rfl, l1, _⟩ := k54_open (Kd.FK_now h)
  exact ⟨A1, c1, rfl, l1, (fun W' hW => by obtain ⟨A1_, c1_, he, l1_, g1_⟩ := k54_open (h W' hW); injection (Option.some.inj (show some (Value.slice A1 x.f1.length c1) = some (Value.slice A1_ x.f1.length c1_) from congrArg (fun l => l[1]?) he)) with ha_ _ _; rw [ha_]; exact g1_)⟩
theorem k54_mkF (W : World) (ok : Nat → Prop) (x : S54) {A1 : Option Addr} {c1 : Nat} (l1 : x.f1.length ≤ c1) (g1 : Kd.F (Kd.int .u8) W ok A1 x.f1.length x.f1) : Kd.FK k54 W ok x [.int .i64 x.f0, .slice A1 x.f1.length c1] := fun W2 hW => k54_mk W2 x l1 (g1 W2 hW)
def rd_T54 (xs : List S54) (i : Int) : S54 := xs.getD i.toNat z54
theorem at_T54 {w : World} {A : Option Addr} {n : Nat} {xs : List S54} (h : Kd.C k54 w A n xs) (i : Int) (h0 : 0 ≤ i) (h1 : i < n) : ∃ ad A1 c1, A = some ad ∧ w.cell? (ad.add (i.toNat * 2)) = some (.int .i64 (rd_T54 xs i).f0) ∧ w.cell? ⟨(ad.add (i.toNat * 2)).block, (ad.add (i.toNat * 2)).off + 1, none⟩ = some (.slice A1 (rd_T54 xs i).f1.length c1) ∧ (rd_T54 xs i).f1.length ≤ c1 ∧ (Kd.int .u8).C w A1 (rd_T54 xs i).f1.length (rd_T54 xs i).f1 := by
  obtain ⟨ad, c, e, _, hK, hc0⟩ := Kd.C_get h z54 i h0 h1
  have hc : ∀ j u, c[j]? = some u → w.cell? (ad.add (i.toNat * 2 + j)) = some u := hc0
  obtain ⟨A1, c1, rfl, l1, g1⟩ := k54_open hK
  exact ⟨ad, A1, c1, e, hc 0 _ rfl, by rw [← add_field _ _ 1 (by omega)]; exact hc 1 _ rfl, l1, g1⟩

/-! #### struct type 74 -/
structure S74 where
  f0 : Int
  f1 : (List Int)
def z74 : S74 := ⟨(0 : Int), ([] : List Int)⟩
def k74 : Kd S74 := Kd.iso (Kd.pair (Kd.int .i64) (Kd.slice 5 (Kd.int .u8))) (fun x : S74 => (x.f0, x.f1))
theorem k74_heap : Kd.Heap k74 := Kd.heap_iso _ (Kd.heap_pair (Kd.heap_int .i64) (Kd.heap_slice 5 (Kd.heap_int .u8)))
theorem k74_open {w : World} {x : S74} {cs : List Value} (h : k74.K w x cs) : ∃ A1 c1, cs = [.int .i64 x.f0, .slice A1 x.f1.length c1] ∧ x.f1.length ≤ c1 ∧ (Kd.int .u8).C w A1 x.f1.length x.f1 := by
  obtain ⟨_, _, rfl, rfl, ⟨A1, c1, rfl, l1, g1⟩⟩ := h
  exact ⟨A1, c1, rfl, l1, g1⟩
theorem k74_openM {w : World} {base : Nat} {ok : Nat → Prop} {x : S74} {cs : List Value} (h : k74.M w base ok x cs) : ∃ v1, cs = [.int .i64 x.f0, v1] ∧ (Kd.int .u8).R 5 w base ok v1 x.f1 := by
  obtain ⟨_, _, rfl, rfl, ⟨v1, rfl, g1⟩⟩ := h
  exact ⟨v1, rfl, g1⟩
theorem k74_mk (w : World) (x : S74) {A1 : Option Addr} {c1 : Nat} (l1 : x.f1.length ≤ c1) (g1 : (Kd.int .u8).C w A1 x.f1.length x.f1) : k74.K w x [.int .i64 x.f0, .slice A1 x.f1.length c1] := ⟨[.int .i64 x.f0], [.slice A1 x.f1.length c1], rfl, rfl, ⟨A1, c1, rfl, l1, g1⟩⟩
theorem k74_mkM (w : World) (base : Nat) (ok : Nat → Prop) (x : S74) {v1 : Value} (g1 : (Kd.int .u8).R 5 w base ok v1 x.f1) : k74.M w base ok x [.int .i64 x.f0, v1] := ⟨[.int .i64 x.f0], [v1], rfl, rfl, ⟨v1, rfl, g1⟩⟩
theorem k74_openF {W : World} {ok : Nat → Prop} {x : S74} {cs : List Value} (h : Kd.FK k74 W ok x cs) : ∃ A1 c1, cs = [.int .i64 x.f0, .slice A1 x.f1.length c1] ∧ x.f1.length ≤ c1 ∧ Kd.F (Kd.int .u8) W ok A1 x.f1.length x.f1 := by
  obtain ⟨A1, c1, rfl, l1, _⟩ := k74_open (Kd.FK_now h)
  exact ⟨A1, c1, rfl, l1, (fun W' hW => by obtain ⟨A1_, c1_, he, l1_, g1_⟩ := k74_open (h W' hW); injection (Option.some.inj (show some (Value.slice A1 x.f1.length c1) = some (Value.slice A1_ x.f1.length c1_) from congrArg (fun l => l[1]?) he)) with ha_ _ _; rw [ha_]; exact g1_)⟩
theorem k74_mkF (W : World) (ok : Nat → Prop) (x : S74) {A1 : Option Addr} {c1 : Nat} (l1 : x.f1.length ≤ c1) (g1 : Kd.F (Kd.int .u8) W ok A1 x.f1.length x.f1) : Kd.FK k74 W ok x [.int .i64 x.f0, .slice A1 x.f1.length c1] := fun W2 hW => k74_mk W2 x l1 (g1 W2 hW)
def rd_T74 (xs : List S74) (i : Int) : S74 := xs.getD i.toNat z74
theorem at_T74 {w : World} {A : Option Addr} {n : Nat} {xs : List S74} (h : Kd.C k74 w A n xs) (i : Int) (h0 : 0 ≤ i) (h1 : i < n) : ∃ ad A1 c1, A = some ad ∧ w.cell? (ad.add (i.toNat * 2)) = some (.int .i64 (rd_T74 xs i).f0) ∧ w.cell? ⟨(ad.add (i.toNat * 2)).block, (ad.add (i.toNat * 2)).off + 1, none⟩ = some (.slice A1 (rd_T74 xs i).f1.length c1) ∧ (rd_T74 xs i).f1.length ≤ c1 ∧ (Kd.int .u8).C w A1 (rd_T74 xs i).f1.length (rd_T74 xs i).f1 := by
  obtain ⟨ad, c, e, _, hK, hc0⟩ := Kd.C_get h z74 i h0 h1
  have hc : ∀ j u, c[j]? = some u → w.cell? (ad.add (i.toNat * 2 + j)) = some u := hc0
  obtain ⟨A1, c1, rfl, l1, g1⟩ := k74_open hK
  exact ⟨ad, A1, c1, e, hc 0 _ rfl, by rw [← add_field _ _ 1 (by omega)]; exact hc 1 _ rfl, l1, g1⟩

end Go.Proofs.Ytjmclghjhnbafaa.Print

/- A text that a program of this claim (wip/x) laid out of the translation: what Go functions come to, and that they come to it. Lean checks it. -/
namespace Go.Proofs.Ytjmclghjhnbafaa.Print
open Go.RowKit Go.Proofs.YtjmclghjhnbafaaW.PrintWords Go.Proofs.YtjmclghjhnbafaaW.PrintLast Go.Proofs.YtjmclghjhnbafaaW.PrintMore
attribute [local go_sem] max2_int min2_int max_two min_two max_three min_three max_four min_four   -- for this text's walks alone
set_option linter.unusedVariables false
set_option linter.unusedSimpArgs false

/-! ### accm_Has: function 33 -/
def accm_Has.f (a0 : Int) (a1 : Int) : Option (Bool) := if 0 ≤ a1 then (some ((Go.bits .and .u32 (shr .u32 a0 a1) 1) == 1)) else (none)
set_option maxHeartbeats 8000000 in
set_option maxRecDepth 100000 in
theorem accm_Has.calls (a0 : Int) (a1 : Int) (r : Bool) (w : World) (h : accm_Has.f a0 a1 = some r) :
    Calls Try.prog 33 #[.int .u32 a0, .int .u8 a1] w fun e w' => e = .returned (.bool r) ∧ Drawn0 w w' := by
  have H : (if 0 ≤ a1 then (some ((Go.bits .and .u32 (shr .u32 a0 a1) 1) == 1)) else (none)) = some r := h
  clear h
  by_cases c3 : 0 ≤ a1
  · rw [if_pos c3] at H
    have c3b0 := eq_true c3
    have c3b1 : decide (0 ≤ a1) = true := decide_eq_true c3
    clear c3
    obtain ⟨ji4, hji4⟩ : ∃ j_ : Int, (shr .u32 a0 a1) = j_ := ⟨_, rfl⟩
    replace H : (some ((Go.bits .and .u32 (ji4) 1) == 1)) = some r := by first | (rw [hji4] at H; exact H) | (simp only [hji4] at H ⊢; exact H)
    have hji4_ : (a0 / 2 ^ min a1.toNat 32) = ji4 := hji4
    have hji4z : a1 ≤ 32 → (a0 / 2 ^ a1.toNat) = ji4 := shr_small hji4
    obtain rfl := Option.some.inj H
    go_enter Try.func33, Try.ntmps33
    go_wp2
    go_ret
    exact ⟨by first | rfl | (simp; done) | (simp only [← hji4] <;> (first | rfl | simp)) | (simp [*]; done), by repeat (first | exact Drawn0.refl _ | apply Drawn0.step)⟩
  · rw [if_neg c3] at H
    exact absurd H (by simp)

end Go.Proofs.Ytjmclghjhnbafaa.Print

/- A text that a program of this claim (wip/x) laid out of the translation: what Go functions come to, and that they come to it. Lean checks it. -/
namespace Go.Proofs.Ytjmclghjhnbafaa.Print
open Go.RowKit Go.Proofs.YtjmclghjhnbafaaW.PrintWords Go.Proofs.YtjmclghjhnbafaaW.PrintLast Go.Proofs.YtjmclghjhnbafaaW.PrintMore
attribute [local go_sem] max2_int min2_int max_two min_two max_three min_three max_four min_four   -- for this text's walks alone
set_option linter.unusedVariables false
set_option linter.unusedSimpArgs false

/-! ### slices_Clone_byte_byte: function 46 -/
def slices_Clone_byte_byte.f (l0 : List Int) : Option (List Int) := if l0.length < 140737488355328 then some l0 else none
set_option maxHeartbeats 8000000 in
set_option maxRecDepth 100000 in
theorem slices_Clone_byte_byte.calls (A0 : Option Addr) (c0 : Nat) (l0 : List Int) (r : List Int) (w : World) (hr0 : Kd.C (Kd.int .u8) w A0 l0.length l0) (hc0 : l0.length ≤ c0) (h : slices_Clone_byte_byte.f l0 = some r) :
    Calls Try.prog 46 #[.slice A0 l0.length c0] w fun e w' => ∃ v0_ : Value, e = .returned (v0_) ∧ Kd.R (Kd.int .u8) 5 w' w.heap.size (fun _ => True) v0_ r ∧ Below w.heap.size w w' := by
  unfold slices_Clone_byte_byte.f at h
  by_cases hlim : l0.length < 140737488355328
  · rw [if_pos hlim] at h
    obtain rfl := Option.some.inj h
    have LM := Aside0.mk hlim
    clear h hlim
    have HR0 := Aside0.mk hr0
    have HC0 := Aside0.mk hc0
    have HB := Aside0.mk (Below.refl w.heap.size w)
    rcases A0 with _ | ad
    · have hz : l0.length = 0 := by
        rcases Nat.eq_zero_or_pos l0.length with h0 | h0
        · exact h0
        · obtain ⟨ad, h, _⟩ := hr0.2.2 h0
          cases h
      obtain rfl : l0 = [] := List.eq_nil_of_length_eq_zero hz
      clear hr0 hc0
      have hq : ∀ (w : World) (n c : Nat), (Go.binOp .eql 28 (.slice none n c) (.slice none 0 0)).run Try.prog w = .ok (.bool true) w := fun w n c => Lib.run_eql_slice_nil (P := Try.prog) w 28 5 none n c 0 0 Try.underlying28
      go_enter Try.func46, Try.ntmps46
      go_wp2
      go_ret
      exact ⟨_, rfl, Kd.R_nil _ _ _ _ _, HB.out⟩
    · clear hr0 hc0
      have hq : ∀ (w : World) (n c : Nat), (Go.binOp .eql 28 (.slice (some ad) n c) (.slice none 0 0)).run Try.prog w = .ok (.bool false) w := fun w n c => Lib.run_eql_slice_nil (P := Try.prog) w 28 5 (some ad) n c 0 0 Try.underlying28
      obtain ⟨y1, hy1⟩ : ∃ y_ : List Int, y_ = ([] : List Int) := ⟨_, rfl⟩
      have Ny1 := Aside0.mk hy1
      clear hy1
      go_enter Try.func46, Try.ntmps46
      go_wp2_with (first | ((with_reducible refine gate_dst (N := 5) rfl ?_); refine Kd.R_lit (Kd.int .u8) _ 5 ?hg (N := 5) ?hd (xs := ([] : List Int)) (inner := []) (ok := fun _ => True) (okp := fun _ => True) ?hr ?hp (fun _ hk => hk) trivial (Below.refl _ _) (Nat.le_refl _) (by simp) ?_; (case hd => rfl); (case hg => rfl); (case hr => first | (go_simp; done) | (go_simp; rfl)); (case hp => exact (Reps.none _ _)); intro v1 w1 ho7 hb hg_ hnew_; clear hg_ hnew_; rw [← Ny1.out] at ho7; have n0_ := Aside0.mk (Kd.R_lower ho7 (below_size (by repeat (first | (with_reducible first | exact HB.out | apply below_alloc | apply pw_below_drewN | apply below_drew1) | exact HB.out)))); have n1_ := Aside0.mk (below_step (by repeat (first | (with_reducible first | exact HB.out | apply below_alloc | apply pw_below_drewN | apply below_drew1) | exact HB.out)) hb); clear HB; have HO1 := n0_; have HB := n1_; clear n0_ n1_; clear hb ho7) | ((with_reducible refine gate_builtin (b := .append) (xs := #[.tmp 5, .tmp 6]) rfl ?_); at_builtin; refine Kd.R_append_rows (Kd.int .u8) (w0 := w) w.heap.size rfl (.tmp 5) (.tmp 6) 28 5 (.int .u8 0) 1 rfl Try.underlying28 info5 rfl (by decide) (by omega) v1 y1 l0 _ _ _ (fun _ => True) (fun _ => False) rfl rfl ?aO ?aR (fun _ _ h => h) (fun _ h => h.elim) ?aF ?aB ?aS ?aL ?_; (case aR => repeat (first | exact (Kd.C_below HR0.out HB.out) | (with_reducible refine Kd.C_alloc ?_ _) | (with_reducible refine Kd.C_drewN ?_ _) | (with_reducible refine Kd.C_drew ?_))); (case aB => exact (by repeat (first | (with_reducible first | exact HB.out | apply below_alloc | apply pw_below_drewN | apply below_drew1) | exact HB.out))); (case aF => exact (fun _ _ => trivial)); (case aO => exact (by (with_reducible repeat (first | apply Kd.R_alloc | apply Kd.R_drewN | apply Kd.R_drew)); exact HO1.out)); (case aS => exact (below_size (by repeat (first | (with_reducible first | exact HB.out | apply below_alloc | apply pw_below_drewN | apply below_drew1) | exact HB.out)))); (case aL => have h1_ := LM.out; rw [Ny1.out, List.length_nil]; omega); intro v2 w2 ho hb hg hat; have n0_ := Aside0.mk (hb); have n1_ := Aside0.mk (ho); clear HB HO1 hg hat ho hb; have HB := n0_; have HO2 := n1_; clear n0_ n1_))
      go_ret
      have e1 : y1 ++ l0 = l0 := by rw [Ny1.out]; rfl
      exact ⟨_, by first | rfl | (simp; done) | (simp [*]; done), by rw [e1] at HO2; exact HO2.out, HB.out⟩
  · rw [if_neg hlim] at h
    exact absurd h (by simp)


end Go.Proofs.Ytjmclghjhnbafaa.Print

/- A text that a program of this claim (wip/x) laid out of the translation: what Go functions come to, and that they come to it. Lean checks it. -/
namespace Go.Proofs.Ytjmclghjhnbafaa.Print
open Go.RowKit Go.Proofs.YtjmclghjhnbafaaW.PrintWords Go.Proofs.YtjmclghjhnbafaaW.PrintLast Go.Proofs.YtjmclghjhnbafaaW.PrintMore
attribute [local go_sem] max2_int min2_int max_two min_two max_three min_three max_four min_four   -- for this text's walks alone
set_option linter.unusedVariables false
set_option linter.unusedSimpArgs false

/-- A state of type 58 at block g of W; what its slices lead to came in by w0. -/
def IsS58 (w0 W : World) (g : Nat) (f0 : Int) (f1 : Int) (f2 : List Int) (f3 : Bool) (f4 : Bool) (f5 : Bool) : Prop := ∃ A2 c2, W.heap[g]? = some (.cells #[.int .u32 f0, .int .i64 f1, .slice A2 f2.length c2, .bool f3, .bool f4, .bool f5] 58 (0, 0)) ∧ w0.heap.size ≤ g ∧ Kd.C (Kd.int .u8) w0 A2 f2.length f2
theorem IsS58.grown {w0 W : World} {g : Nat} {f0 : Int} {f1 : Int} {f2 : List Int} {f3 : Bool} {f4 : Bool} {f5 : Bool} {W1 : World} {row : Option Nat} (h : IsS58 w0 W g f0 f1 f2 f3 f4 f5) (hw : W.grownBy W1 row) (hne : some g ≠ row) : IsS58 w0 W1 g f0 f1 f2 f3 f4 f5 := by
  obtain ⟨A2, c2, hb, hg, hr2⟩ := h
  exact ⟨A2, c2, blk_grown hb hw hne, hg, hr2⟩
theorem IsS58.own_neN {w0 W : World} {g : Nat} {f0 : Int} {f1 : Int} {f2 : List Int} {f3 : Bool} {f4 : Bool} {f5 : Bool} {α : Type} {d : Kd α} {e : Nat} {base : Nat} {ok : Nat → Prop} {v : Value} {xs : List α} (h : IsS58 w0 W g f0 f1 f2 f3 f4 f5) (ho : Kd.N d e W base ok v xs) (ht : e ≠ 58) : some g ≠ v.ownBlock := by
  obtain ⟨A2, c2, hb, hg, hr2⟩ := h
  exact Kd.N_ne ho hb ht
theorem IsS58.fresh {w0 W : World} {g : Nat} {f0 : Int} {f1 : Int} {f2 : List Int} {f3 : Bool} {f4 : Bool} {f5 : Bool} (h : IsS58 w0 W g f0 f1 f2 f3 f4 f5) : ∀ k, W.heap.size ≤ k → k ≠ g := by
  obtain ⟨A2, c2, hb, hg, hr2⟩ := h
  exact Kd.freshB hb
theorem IsS58.kept {w0 W : World} {g : Nat} {f0 : Int} {f1 : Int} {f2 : List Int} {f3 : Bool} {f4 : Bool} {f5 : Bool} {W1 : World} {S : Nat → Prop} (h : IsS58 w0 W g f0 f1 f2 f3 f4 f5) (hk : Kept W W1 S) (hne : ¬ S g) : IsS58 w0 W1 g f0 f1 f2 f3 f4 f5 := by
  obtain ⟨A2, c2, hb, hg, hr2⟩ := h
  exact ⟨A2, c2, blk_kept hb hk hne, hg, hr2⟩
theorem IsS58.below {w0 W : World} {g : Nat} {f0 : Int} {f1 : Int} {f2 : List Int} {f3 : Bool} {f4 : Bool} {f5 : Bool} {W1 : World} (h : IsS58 w0 W g f0 f1 f2 f3 f4 f5) (hw : Below W.heap.size W W1) : IsS58 w0 W1 g f0 f1 f2 f3 f4 f5 := h.grown (grown_of_below hw none) (by simp)
theorem IsS58.alloc {w0 W : World} {g : Nat} {f0 : Int} {f1 : Int} {f2 : List Int} {f3 : Bool} {f4 : Bool} {f5 : Bool} (h : IsS58 w0 W g f0 f1 f2 f3 f4 f5) (o : Obj) : IsS58 w0 (W.alloc o) g f0 f1 f2 f3 f4 f5 := h.below (below_alloc (Below.refl _ _) o)
theorem IsS58.drewN {w0 W : World} {g : Nat} {f0 : Int} {f1 : Int} {f2 : List Int} {f3 : Bool} {f4 : Bool} {f5 : Bool} (h : IsS58 w0 W g f0 f1 f2 f3 f4 f5) (m : Nat) : IsS58 w0 (W.drewN m) g f0 f1 f2 f3 f4 f5 := h
theorem IsS58.drew {w0 W : World} {g : Nat} {f0 : Int} {f1 : Int} {f2 : List Int} {f3 : Bool} {f4 : Bool} {f5 : Bool} (h : IsS58 w0 W g f0 f1 f2 f3 f4 f5) : IsS58 w0 W.drew g f0 f1 f2 f3 f4 f5 := h
theorem IsS58.at_ {w0 W : World} {g : Nat} {f0 : Int} {f1 : Int} {f2 : List Int} {f3 : Bool} {f4 : Bool} {f5 : Bool} {w' : World} {m : Nat} (hq : W.drewN m = w') (h : IsS58 w0 W g f0 f1 f2 f3 f4 f5) : IsS58 w0 w' g f0 f1 f2 f3 f4 f5 := by subst hq; exact IsS58.drewN h m
theorem IsS58.apart {w0 W : World} {g : Nat} {f0 : Int} {f1 : Int} {f2 : List Int} {f3 : Bool} {f4 : Bool} {f5 : Bool} {α : Type} {d : Kd α} {e : Nat} {base : Nat} {ok : Nat → Prop} {v : Value} {xs : List α} (h : IsS58 w0 W g f0 f1 f2 f3 f4 f5) (ho : d.R e W base ok v xs) (ht : ∀ q, q ∈ e :: d.E → q ≠ 58) : d.R e W base (fun k => ok k ∧ k ≠ g) v xs := by
  obtain ⟨A2, c2, hb, hg, hr2⟩ := h
  exact Kd.R_types ho hb ht
theorem IsS58.own_ne {w0 W : World} {g : Nat} {f0 : Int} {f1 : Int} {f2 : List Int} {f3 : Bool} {f4 : Bool} {f5 : Bool} {α : Type} {d : Kd α} {e : Nat} {base : Nat} {ok : Nat → Prop} {v : Value} {xs : List α} (h : IsS58 w0 W g f0 f1 f2 f3 f4 f5) (ho : d.R e W base ok v xs) (ht : e ≠ 58) : some g ≠ v.ownBlock := by
  obtain ⟨A2, c2, hb, hg, hr2⟩ := h
  exact Kd.R_ne ho hb ht
theorem IsS58.apartQ {w0 W : World} {g : Nat} {f0 : Int} {f1 : Int} {f2 : List Int} {f3 : Bool} {f4 : Bool} {f5 : Bool} {α : Type} {d : Kd α} {e : Nat} {base : Nat} {ok : Nat → Prop} {v : Value} {xs : List α} (h : IsS58 w0 W g f0 f1 f2 f3 f4 f5) (ho : d.Q e W base ok v xs) (ht : ∀ q, q ∈ e :: d.E → q ≠ 58) : d.Q e W base (fun k => ok k ∧ k ≠ g) v xs := by
  obtain ⟨A2, c2, hb, hg, hr2⟩ := h
  exact Kd.Q_types ho hb ht
theorem IsS58.own_neQ {w0 W : World} {g : Nat} {f0 : Int} {f1 : Int} {f2 : List Int} {f3 : Bool} {f4 : Bool} {f5 : Bool} {α : Type} {d : Kd α} {e : Nat} {base : Nat} {ok : Nat → Prop} {v : Value} {xs : List α} (h : IsS58 w0 W g f0 f1 f2 f3 f4 f5) (ho : d.Q e W base ok v xs) (ht : e ≠ 58) : some g ≠ v.ownBlock := by
  obtain ⟨A2, c2, hb, hg, hr2⟩ := h
  exact Kd.Q_ne ho hb ht
theorem IsS58.apartS {w0 W : World} {g : Nat} {f0 : Int} {f1 : Int} {f2 : List Int} {f3 : Bool} {f4 : Bool} {f5 : Bool} {α : Type} {d : Kd α} {e : Nat} {base : Nat} {ok : Nat → Prop} {v : Value} {xs : List α} (h : IsS58 w0 W g f0 f1 f2 f3 f4 f5) (ho : d.S e W base ok v xs) (ht : ∀ q, q ∈ e :: d.E → q ≠ 58) : d.S e W base (fun k => ok k ∧ k ≠ g) v xs := by
  obtain ⟨A2, c2, hb, hg, hr2⟩ := h
  exact Kd.S_types ho hb ht
theorem IsS58.own_neS {w0 W : World} {g : Nat} {f0 : Int} {f1 : Int} {f2 : List Int} {f3 : Bool} {f4 : Bool} {f5 : Bool} {α : Type} {d : Kd α} {e : Nat} {base : Nat} {ok : Nat → Prop} {v : Value} {xs : List α} (h : IsS58 w0 W g f0 f1 f2 f3 f4 f5) (ho : d.S e W base ok v xs) (ht : e ≠ 58) : some g ≠ v.ownBlock := by
  obtain ⟨A2, c2, hb, hg, hr2⟩ := h
  exact Kd.S_ne ho hb ht
theorem IsS58.lt {w0 W : World} {g : Nat} {f0 : Int} {f1 : Int} {f2 : List Int} {f3 : Bool} {f4 : Bool} {f5 : Bool} (h : IsS58 w0 W g f0 f1 f2 f3 f4 f5) : g < W.heap.size := by
  obtain ⟨A2, c2, hb, hg, hr2⟩ := h
  exact blk_lt hb
theorem IsS58.ge {w0 W : World} {g : Nat} {f0 : Int} {f1 : Int} {f2 : List Int} {f3 : Bool} {f4 : Bool} {f5 : Bool} (h : IsS58 w0 W g f0 f1 f2 f3 f4 f5) : w0.heap.size ≤ g := by
  obtain ⟨A2, c2, hb, hg, hr2⟩ := h
  exact hg
theorem IsS58.ne_blk {w0 W : World} {g : Nat} {f0 : Int} {f1 : Int} {f2 : List Int} {f3 : Bool} {f4 : Bool} {f5 : Bool} {a : Nat} {cs : Array Value} {t : TypeId} {fr : Nat × Nat} (h : IsS58 w0 W g f0 f1 f2 f3 f4 f5) (hb2 : W.heap[a]? = some (.cells cs t fr)) (ht : t ≠ 58) : g ≠ a := by
  obtain ⟨A2, c2, hb, hg, hr2⟩ := h
  rintro rfl
  rw [hb] at hb2
  injection hb2 with hb2
  injection hb2 with _ ht2
  exact ht ht2.symm
theorem IsS58.far {w0 W : World} {g : Nat} {f0 : Int} {f1 : Int} {f2 : List Int} {f3 : Bool} {f4 : Bool} {f5 : Bool} {p : Addr} (h : IsS58 w0 W g f0 f1 f2 f3 f4 f5) (hne : g ≠ p.block) (u : Value) : IsS58 w0 (W.setCell p u) g f0 f1 f2 f3 f4 f5 := by
  obtain ⟨A2, c2, hb, hg, hr2⟩ := h
  exact ⟨A2, c2, blk_far hb hne u, hg, hr2⟩
theorem cellS58_0 {W : World} {g : Nat} {A2 : Option Addr} {c2 : Nat} {f0 : Int} {f1 : Int} {f2 : List Int} {f3 : Bool} {f4 : Bool} {f5 : Bool} (h : W.heap[g]? = some (.cells #[.int .u32 f0, .int .i64 f1, .slice A2 f2.length c2, .bool f3, .bool f4, .bool f5] 58 (0, 0))) : W.cell? ⟨g, 0, none⟩ = some (.int .u32 f0) := (blk_cell h 0).trans rfl
theorem IsS58.set_0 {w0 W : World} {g : Nat} {f0 : Int} {f1 : Int} {f2 : List Int} {f3 : Bool} {f4 : Bool} {f5 : Bool} (h : IsS58 w0 W g f0 f1 f2 f3 f4 f5) (x : Int) : IsS58 w0 (W.setCell ⟨g, 0, none⟩ (.int .u32 x)) g x f1 f2 f3 f4 f5 := by
  obtain ⟨A2, c2, hb, hg, hr2⟩ := h
  exact ⟨A2, c2, by simpa using blk_set hb 0 (.int .u32 x), hg, hr2⟩
theorem cellS58_1 {W : World} {g : Nat} {A2 : Option Addr} {c2 : Nat} {f0 : Int} {f1 : Int} {f2 : List Int} {f3 : Bool} {f4 : Bool} {f5 : Bool} (h : W.heap[g]? = some (.cells #[.int .u32 f0, .int .i64 f1, .slice A2 f2.length c2, .bool f3, .bool f4, .bool f5] 58 (0, 0))) : W.cell? ⟨g, 1, none⟩ = some (.int .i64 f1) := (blk_cell h 1).trans rfl
theorem IsS58.set_1 {w0 W : World} {g : Nat} {f0 : Int} {f1 : Int} {f2 : List Int} {f3 : Bool} {f4 : Bool} {f5 : Bool} (h : IsS58 w0 W g f0 f1 f2 f3 f4 f5) (x : Int) : IsS58 w0 (W.setCell ⟨g, 1, none⟩ (.int .i64 x)) g f0 x f2 f3 f4 f5 := by
  obtain ⟨A2, c2, hb, hg, hr2⟩ := h
  exact ⟨A2, c2, by simpa using blk_set hb 1 (.int .i64 x), hg, hr2⟩
theorem cellS58_2 {W : World} {g : Nat} {A2 : Option Addr} {c2 : Nat} {f0 : Int} {f1 : Int} {f2 : List Int} {f3 : Bool} {f4 : Bool} {f5 : Bool} (h : W.heap[g]? = some (.cells #[.int .u32 f0, .int .i64 f1, .slice A2 f2.length c2, .bool f3, .bool f4, .bool f5] 58 (0, 0))) : W.cell? ⟨g, 2, none⟩ = some (.slice A2 f2.length c2) := (blk_cell h 2).trans rfl
theorem cellS58_3 {W : World} {g : Nat} {A2 : Option Addr} {c2 : Nat} {f0 : Int} {f1 : Int} {f2 : List Int} {f3 : Bool} {f4 : Bool} {f5 : Bool} (h : W.heap[g]? = some (.cells #[.int .u32 f0, .int .i64 f1, .slice A2 f2.length c2, .bool f3, .bool f4, .bool f5] 58 (0, 0))) : W.cell? ⟨g, 3, none⟩ = some (.bool f3) := (blk_cell h 3).trans rfl
theorem IsS58.set_3 {w0 W : World} {g : Nat} {f0 : Int} {f1 : Int} {f2 : List Int} {f3 : Bool} {f4 : Bool} {f5 : Bool} (h : IsS58 w0 W g f0 f1 f2 f3 f4 f5) (x : Bool) : IsS58 w0 (W.setCell ⟨g, 3, none⟩ (.bool x)) g f0 f1 f2 x f4 f5 := by
  obtain ⟨A2, c2, hb, hg, hr2⟩ := h
  exact ⟨A2, c2, by simpa using blk_set hb 3 (.bool x), hg, hr2⟩
theorem cellS58_4 {W : World} {g : Nat} {A2 : Option Addr} {c2 : Nat} {f0 : Int} {f1 : Int} {f2 : List Int} {f3 : Bool} {f4 : Bool} {f5 : Bool} (h : W.heap[g]? = some (.cells #[.int .u32 f0, .int .i64 f1, .slice A2 f2.length c2, .bool f3, .bool f4, .bool f5] 58 (0, 0))) : W.cell? ⟨g, 4, none⟩ = some (.bool f4) := (blk_cell h 4).trans rfl
theorem IsS58.set_4 {w0 W : World} {g : Nat} {f0 : Int} {f1 : Int} {f2 : List Int} {f3 : Bool} {f4 : Bool} {f5 : Bool} (h : IsS58 w0 W g f0 f1 f2 f3 f4 f5) (x : Bool) : IsS58 w0 (W.setCell ⟨g, 4, none⟩ (.bool x)) g f0 f1 f2 f3 x f5 := by
  obtain ⟨A2, c2, hb, hg, hr2⟩ := h
  exact ⟨A2, c2, by simpa using blk_set hb 4 (.bool x), hg, hr2⟩
theorem cellS58_5 {W : World} {g : Nat} {A2 : Option Addr} {c2 : Nat} {f0 : Int} {f1 : Int} {f2 : List Int} {f3 : Bool} {f4 : Bool} {f5 : Bool} (h : W.heap[g]? = some (.cells #[.int .u32 f0, .int .i64 f1, .slice A2 f2.length c2, .bool f3, .bool f4, .bool f5] 58 (0, 0))) : W.cell? ⟨g, 5, none⟩ = some (.bool f5) := (blk_cell h 5).trans rfl
theorem IsS58.set_5 {w0 W : World} {g : Nat} {f0 : Int} {f1 : Int} {f2 : List Int} {f3 : Bool} {f4 : Bool} {f5 : Bool} (h : IsS58 w0 W g f0 f1 f2 f3 f4 f5) (x : Bool) : IsS58 w0 (W.setCell ⟨g, 5, none⟩ (.bool x)) g f0 f1 f2 f3 f4 x := by
  obtain ⟨A2, c2, hb, hg, hr2⟩ := h
  exact ⟨A2, c2, by simpa using blk_set hb 5 (.bool x), hg, hr2⟩
theorem IsS58.new (w0 W : World) (A2 : Option Addr) (c2 : Nat) (f0 : Int) (f1 : Int) (f2 : List Int) (f3 : Bool) (f4 : Bool) (f5 : Bool) (hB : Below w0.heap.size w0 W) (hr2 : Kd.C (Kd.int .u8) w0 A2 f2.length f2) : IsS58 w0 (W.alloc (.cells #[.int .u32 f0, .int .i64 f1, .slice A2 f2.length c2, .bool f3, .bool f4, .bool f5] 58)) W.heap.size f0 f1 f2 f3 f4 f5 := ⟨A2, c2, by simpa using heap_alloc_new W _, hB.size, hr2⟩

/-! ### async_New: function 13 -/
def async_New.f (a0 : Int) (a1 : Int) : Option (Int × Int × List Int × Bool × Bool × Bool) := some (a0, a1, ([] : List Int), false, false, false)
set_option maxHeartbeats 8000000 in
set_option maxRecDepth 100000 in
theorem async_New.calls (a0 : Int) (a1 : Int) (r1 : Int) (r2 : Int) (r3 : List Int) (r4 : Bool) (r5 : Bool) (r6 : Bool) (w0 w : World) (hB : Below w0.heap.size w0 w) (h : async_New.f a0 a1 = some (r1, r2, r3, r4, r5, r6)) :
    Calls Try.prog 13 #[.int .u32 a0, .int .i64 a1] w fun e w' => ∃ g_ : Nat, e = .returned (.pointer (some ⟨g_, 0, none⟩)) ∧ IsS58 w0 w' g_ r1 r2 r3 r4 r5 r6 ∧ Below w0.heap.size w0 w' ∧ Below w.heap.size w w' := by
  have hu58 := Try.underlying58
  have HBW := Aside0.mk (Below.refl w.heap.size w)
  have HW0 := Aside0.mk hB.size
  have HB := Aside0.mk hB
  clear hB
  have H : (some (a0, a1, ([] : List Int), false, false, false)) = some (r1, r2, r3, r4, r5, r6) := h
  clear h
  simp only [Option.some.injEq, Prod.mk.injEq] at H
  obtain ⟨rfl, rfl, rfl, rfl, rfl, rfl⟩ := H
  go_enter Try.func13, Try.ntmps13
  go_wp2_with (first | ((with_reducible refine gate_dst (N := 8) rfl ?_); refine box_event ?hg (N := 8) ?hd (cs := #[.int .u32 a0, .int .i64 a1, .slice none 0 0, .bool false, .bool false, .bool false]) (t := 58) ?hr ?_; (case hd => rfl); (case hg => rfl); (case hr => first | (go_simp; done) | (go_simp; simp only [IntKind.wrap_u8, IntKind.wrap_u16, IntKind.wrap_u32, IntKind.wrap_u64]; done) | (go_simp; simp only [IntKind.wrap_u8, IntKind.wrap_u16, IntKind.wrap_u32, IntKind.wrap_u64, Int.tmod_eq_emod_of_nonneg (Int.natCast_nonneg _), Int.emod_emod]; done) | (go_simp; rfl)); intro gb101 hg w3 hbox hb; have n0_ := Aside0.mk (below_step HBW.out hb); have n1_ := Aside0.mk (below_step (by repeat (first | (with_reducible first | exact HB.out | apply below_alloc | apply pw_below_drewN | apply below_drew1) | exact HB.out)) hb); have n2_ := Aside0.mk (hbox); have n3_ := Aside0.mk ((by rw [hg]; exact (below_size (by repeat (first | (with_reducible first | exact HBW.out | apply below_alloc | apply pw_below_drewN | apply below_drew1) | exact HBW.out))) : w.heap.size ≤ gb101)); have n4_ := Aside0.mk ((Nat.le_trans HW0.out (by rw [hg]; exact (below_size (by repeat (first | (with_reducible first | exact HBW.out | apply below_alloc | apply pw_below_drewN | apply below_drew1) | exact HBW.out))) : w.heap.size ≤ gb101) : w0.heap.size ≤ gb101)); clear HBW; clear HB; have HBW := n0_; have HB := n1_; have BK101 := n2_; have GW101 := n3_; have GE101 := n4_; clear n0_ n1_ n2_ n3_ n4_; clear hb hbox hg))
  go_ret
  exact ⟨_, rfl, (show IsS58 w0 _ gb101 a0 a1 ([] : List Int) false false false from ⟨none, 0, by (with_reducible repeat (first | refine blk_drewN ?_ _ | refine blk_drew ?_ | refine blk_alloc ?_ _)); exact BK101.out, GE101.out, (Kd.C_nil _ _)⟩), by repeat (first | (with_reducible first | exact HB.out | apply below_alloc | apply pw_below_drewN | apply below_drew1 | refine below_set ?_ GE101.out) | exact HB.out), by repeat (first | (with_reducible first | exact HBW.out | apply below_alloc | apply pw_below_drewN | apply below_drew1 | refine below_set ?_ GW101.out) | exact HBW.out)⟩

end Go.Proofs.Ytjmclghjhnbafaa.Print

/- What the asynchronous deframer's small functions come to, its variable and its row of octets lying where they may: put. No condition but the row's length. -/
namespace Go.Proofs.Ytjmclghjhnbafaa.Print
open Go.RowKit Go.Proofs.YtjmclghjhnbafaaW.PrintWords Go.Proofs.YtjmclghjhnbafaaW.PrintLast Go.Proofs.YtjmclghjhnbafaaW.PrintMore
attribute [local go_sem] max2_int min2_int max_two min_two max_three min_three max_four min_four
set_option linter.unusedVariables false
set_option linter.unusedSimpArgs false
/-- What an octet that is read leaves. -/
def dput (most : Int) (xs : List Int) (l : Bool) (c : Int) : List Int × Bool := if (xs.length : Int) = most then (xs, true) else (xs ++ [c], l)
set_option maxHeartbeats 8000000 in
set_option maxRecDepth 100000 in
theorem df_put (P0_ : Nat → Prop) (g : Nat) (u : Value) (recv most c : Int) (xs : List Int) (a e l : Bool) (w0 w : World) (hB : Below w0.heap.size w0 w)
    (hg : w.heap[g]? = some (.cells #[.int .u32 recv, .int .i64 most, u, .bool a, .bool e, .bool l] 58 (0, 0))) (hge : w0.heap.size ≤ g) (hP : ¬ P0_ g) (ho : Kd.R (Kd.int .u8) 5 w w0.heap.size P0_ u xs) (hl : xs.length < 1000000000) :
    Calls Try.prog 34 #[.pointer (some ⟨g, 0, none⟩), .int .u8 c] w fun x w' => x = .returned (.tuple #[]) ∧ ∃ u' : Value, w'.heap[g]? = some (.cells #[.int .u32 recv, .int .i64 most, u', .bool a, .bool e, .bool (dput most xs l c).2] 58 (0, 0)) ∧
      Kd.R (Kd.int .u8) 5 w' w0.heap.size (fun k_ => P0_ k_ ∨ w.heap.size ≤ k_) u' (dput most xs l c).1 ∧ Below w0.heap.size w0 w' ∧ Kept w w' (fun k_ => P0_ k_ ∨ k_ = g) := by
  have hu58 := Try.underlying58
  have HO := Aside0.mk ho
  have HB := Aside0.mk hB
  have HG := Aside0.mk hg
  have HGE := Aside0.mk hge
  have HP := Aside0.mk hP
  have HL := Aside0.mk hl
  obtain ⟨A, c0, rfl⟩ := Kd.R_slice ho
  have hcz0 : w.cell? ⟨g, 0, none⟩ = some (.int .u32 recv) := (blk_cell hg 0).trans rfl
  have hcz1 : w.cell? ⟨g, 1, none⟩ = some (.int .i64 most) := (blk_cell hg 1).trans rfl
  have hcz2 : w.cell? ⟨g, 2, none⟩ = some (.slice A xs.length c0) := (blk_cell hg 2).trans rfl
  have hcz5 : w.cell? ⟨g, 5, none⟩ = some (.bool l) := (blk_cell hg 5).trans rfl
  have hfz5 := blk_frozen hg 5
  clear ho hB hge hP hl
  by_cases hm : (xs.length : Int) = most
  · have hm0 : ((xs.length : Int) == most) = true := beq_iff_eq.mpr hm
    have ed : dput most xs l c = (xs, true) := by unfold dput; rw [if_pos hm]
    rw [ed]
    clear hm ed hg
    go_enter Try.func34, Try.ntmps34
    go_wp2
    repeat (go_quiet (fail); try go_wp2)
    refine bodyPost_ret (results_list (rs := []) (vs := []) rfl (by decide) Vals.nil) rfl ?_
    refine ⟨rfl, _, blk_put HG.out 5 (.bool true) rfl, ?_, below_set (by repeat (first | (with_reducible first | exact HB.out | apply below_alloc | apply pw_below_drewN | apply below_drew1) | exact HB.out)) HGE.out, (show Kept w _ (fun k_ => P0_ k_ ∨ k_ = g) from (by (with_reducible repeat (first | refine Kept.drewN ?_ _ | refine Kept.drew ?_ | refine Kept.alloc ?_ _)); exact Kept.refl w _)).setCell (.inl (.inr rfl)) _⟩
    exact Kd.R_far (p := ⟨g, 5, none⟩) (Kd.R_mono (Kd.R_bound HO.out) (fun k hk => (⟨.inl hk.1, fun h => HP.out (h ▸ hk.1)⟩ : (P0_ k ∨ w.heap.size ≤ k) ∧ k ≠ g))) (fun _ hk => hk.2) _ |> fun h => Kd.R_mono h (fun _ hk => hk.1)
  · have hm0 : ((xs.length : Int) == most) = false := beq_eq_false_iff_ne.mpr hm
    have ed : dput most xs l c = (xs ++ [c], l) := by unfold dput; rw [if_neg hm]
    rw [ed]
    clear hm ed
    go_enter Try.func34, Try.ntmps34
    go_wp2
    go_quiet (fail)
    go_wp2_with (first | ((with_reducible refine gate_dst (N := 23) rfl ?_); refine Kd.R_lit (Kd.int .u8) _ 5 ?hg (N := 23) ?hd (xs := ([c] : List Int)) (inner := [.int .u8 c]) (ok := fun _ => True) (okp := fun _ => True) ?hr ?hp (fun _ hk => hk) trivial (Below.refl _ _) (Nat.le_refl _) (by simp) ?_; (case hd => rfl); (case hg => rfl); (case hr => first | (go_simp; done) | (go_simp; rfl)); (case hp => exact (Reps.one (show Kd.M (Kd.int .u8) _ _ _ c [.int .u8 c] from rfl) (Reps.none _ _))); intro v1 w1 ho7 hb hg_ hnew_; clear hg_ hnew_; have HN := Aside0.mk ho7; have HB1 := Aside0.mk (below_step (by repeat (first | (with_reducible first | exact HB.out | apply below_alloc | apply pw_below_drewN | apply below_drew1) | exact HB.out)) hb); have HO1 := Aside0.mk (show Kd.R (Kd.int .u8) 5 w1 w0.heap.size (fun k_ => P0_ k_ ∨ w.heap.size ≤ k_) (.slice A xs.length c0) xs from Kd.R_below (by (with_reducible repeat (first | apply Kd.R_alloc | apply Kd.R_drewN | apply Kd.R_drew)); exact Kd.R_mono HO.out (fun _ hk => .inl hk)) hb); have HG1 := Aside0.mk (blk_below (g := g) (o := .cells #[.int .u32 recv, .int .i64 most, .slice A xs.length c0, .bool a, .bool e, .bool l] 58 (0, 0)) (by (with_reducible repeat (first | refine blk_drewN ?_ _ | refine blk_drew ?_ | refine blk_alloc ?_ _)); exact HG.out) hb); have HK1 := Aside0.mk (show Kept w w1 (fun k_ => P0_ k_ ∨ k_ = g) from Kept.below (by (with_reducible repeat (first | refine Kept.drewN ?_ _ | refine Kept.drew ?_ | refine Kept.alloc ?_ _)); exact Kept.refl w _) hb); clear ho7 hb; obtain ⟨A1, c1, e1⟩ := Kd.R_slice HN.out; subst e1) | ((with_reducible refine gate_builtin (b := .append) (xs := #[.tmp 21, .tmp 23]) rfl ?_); at_builtin; refine Kd.R_append_rows (Kd.int .u8) (w0 := w0) w0.heap.size rfl (.tmp 21) (.tmp 23) 28 5 (.int .u8 0) 1 rfl Try.underlying28 info5 rfl (by decide) (by omega) (.slice A xs.length c0) xs [c] _ _ _ (fun k_ => P0_ k_ ∨ w.heap.size ≤ k_) (fun _ => False) rfl rfl ?aO ?aR (fun _ _ h => h) (fun _ h => h.elim) ?aF ?aB ?aS ?aL ?_; (case aR => exact (Kd.R_reads' HN.out).2.2); (case aB => exact HB1.out); (case aF => exact (fun k_ hk => .inr (Nat.le_trans HK1.out.1 hk))); (case aO => exact HO1.out); (case aS => exact below_size HB1.out); (case aL => have := HL.out; simp; omega); intro v2 w2 ho hb hg2 hat; have HO2 := Aside0.mk ho; have HB2 := Aside0.mk hb; have HK2 := Aside0.mk hg2; clear ho hb hg2 hat; obtain ⟨A2, c2, e2⟩ := Kd.R_slice HO2.out; subst e2; have HG2 := Aside0.mk (blk_grown HG1.out HK2.out (fun h => HP.out (HO.out.1 g h.symm))); have hcy2 : w2.cell? ⟨g, 2, none⟩ = some (.slice A xs.length c0) := (blk_cell HG2.out 2).trans rfl; have hfy2 := blk_frozen HG2.out 2))
    refine bodyPost_end (results_list (rs := []) (vs := []) rfl (by decide) Vals.nil) rfl ?_
    have HO3 := HO2.out
    rw [show (xs ++ [c]).length = xs.length + 1 by simp] at HO3
    refine ⟨rfl, _, blk_put HG2.out 2 _ rfl, ?_, below_set HB2.out HGE.out, (Kept.of_grown HK2.out HK1.out (fun k hk => .inl (.inl (HO.out.1 k hk)))).setCell (.inl (.inr rfl)) _⟩
    exact Kd.R_mono (Kd.R_far (p := ⟨g, 2, none⟩) (Kd.R_mono HO3 (fun k hk => (⟨hk, fun h => hk.elim (fun h1 => HP.out (h ▸ h1)) (fun h1 => by have := blk_lt HG.out; omega)⟩ : (P0_ k ∨ w.heap.size ≤ k) ∧ k ≠ g))) (fun _ hk => hk.2) _) (fun _ hk => hk.1)
end Go.Proofs.Ytjmclghjhnbafaa.Print

/- What ends a segment of the asynchronous deframer. No condition but the row's length. -/
namespace Go.Proofs.Ytjmclghjhnbafaa.Print
open Go.RowKit Go.Proofs.YtjmclghjhnbafaaW.PrintWords Go.Proofs.YtjmclghjhnbafaaW.PrintLast Go.Proofs.YtjmclghjhnbafaaW.PrintMore
attribute [local go_sem] max2_int min2_int max_two min_two max_three min_three max_four min_four
set_option linter.unusedVariables false
set_option linter.unusedSimpArgs false
/-- What a segment tells, as it ends. -/
def dkind (e l : Bool) : Int := if e then 2 else if l then 4 else 0
def dseg (xs : List Int) (e l : Bool) : List Int := if e then [] else if l then [] else xs
set_option maxHeartbeats 16000000 in
set_option maxRecDepth 100000 in
theorem df_end (P0_ : Nat → Prop) (g : Nat) (u : Value) (recv most : Int) (xs : List Int) (a e l : Bool) (w0 w : World) (hB : Below w0.heap.size w0 w)
    (hg : w.heap[g]? = some (.cells #[.int .u32 recv, .int .i64 most, u, .bool a, .bool e, .bool l] 58 (0, 0))) (hge : w0.heap.size ≤ g) (ho : Kd.R (Kd.int .u8) 5 w w0.heap.size P0_ u xs) (hl : xs.length < 1000000000) :
    Calls Try.prog 32 #[.pointer (some ⟨g, 0, none⟩)] w fun x w' => ∃ v u' : Value, x = .returned (.tuple #[.agg #[.int .i64 (dkind e l), v], .bool a]) ∧ w'.heap[g]? = some (.cells #[.int .u32 recv, .int .i64 most, u', .bool false, .bool false, .bool false] 58 (0, 0)) ∧
      Kd.R (Kd.int .u8) 5 w' w.heap.size (fun _ => True) v (dseg xs e l) ∧ Kd.R (Kd.int .u8) 5 w' w0.heap.size P0_ u' [] ∧ Below w0.heap.size w0 w' ∧ Kept w w' (fun k_ => k_ = g) := by
  have hu58 := Try.underlying58
  have hu34 := Try.underlying34
  have HO := Aside0.mk ho
  have HB0 := Aside0.mk hB
  have HG := Aside0.mk hg
  have HGE := Aside0.mk hge
  have hcl : slices_Clone_byte_byte.f xs = some xs := by unfold slices_Clone_byte_byte.f; rw [if_pos (by omega)]
  have HCL := Aside0.mk hcl
  have GL := Aside0.mk (blk_lt hg)
  obtain ⟨A, c0, rfl⟩ := Kd.R_slice ho
  clear ho hB hge hl hg hcl
  go_enter Try.func32, Try.ntmps32
  go_upto_block 0 with (first | ((with_reducible refine gate_dst (N := 2) rfl ?_); refine box_event ?hg (N := 2) ?hd (cs := #[.int .i64 0, .slice none 0 0]) (t := 34) ?hr ?_; (case hd => rfl); (case hg => rfl); (case hr => first | (go_simp; done) | (go_simp; rfl)); intro gr hgr w1 hbox hb; have BR := Aside0.mk hbox; have GR := Aside0.mk ((by rw [hgr]; exact Nat.le_refl _) : w.heap.size ≤ gr); have HBW := Aside0.mk hb; clear hbox hb hgr; have hcz2 : w1.cell? ⟨g, 2, none⟩ = some (.slice A xs.length c0) := (blk_cell (blk_below HG.out HBW.out) 2).trans rfl) | (go_at_call 46; refine (slices_Clone_byte_byte.calls _ _ xs xs _ ?s1 ?s2 HCL.out).mono ?_; (case s1 => exact (Kd.R_reads' (Kd.R_below HO.out HBW.out)).2.2); (case s2 => exact (Kd.R_reads' HO.out).2.1); rintro x w2 ⟨v, rfl, hv, hb⟩; have HV := Aside0.mk (Kd.R_lower hv HBW.out.size); have n0_ := Aside0.mk (below_step HBW.out hb); have n1_ := Aside0.mk (blk_below BR.out hb); clear HBW BR hv hb hcz2; have HBW := n0_; have BR := n1_; clear n0_ n1_; obtain ⟨Av, cv, ev⟩ := Kd.R_slice HV.out; subst ev) | ((with_reducible refine gate_dst (N := 4) rfl ?_); refine box_event ?hg (N := 4) ?hd (cs := #[.int .i64 0, .slice none 0 0]) (t := 34) ?hr ?_; (case hd => rfl); (case hg => rfl); (case hr => first | (go_simp; done) | (go_simp; rfl)); intro gs hgs w3 hbox hb; have BS := Aside0.mk hbox; have NS := Aside0.mk ((by rw [hgs]; exact Nat.ne_of_lt (blk_lt BR.out)) : gr ≠ gs); have GS := Aside0.mk ((by rw [hgs]; exact HBW.out.size) : w.heap.size ≤ gs); have n0_ := Aside0.mk (below_step HBW.out hb); have n1_ := Aside0.mk (blk_below BR.out hb); have n2_ := Aside0.mk (Kd.R_below HV.out hb); clear HBW BR HV hbox hb hgs; have HBW := n0_; have BR := n1_; have HV := n2_; clear n0_ n1_ n2_; have hs0 : w3.cell? ⟨gs, 0, none⟩ = some (.int .i64 0) := (blk_cell BS.out 0).trans rfl; have hs1 : w3.cell? ⟨gs, 1, none⟩ = some (.slice none 0 0) := (blk_cell BS.out 1).trans rfl; have hfs0 := blk_frozen BS.out 0; have hfs1 := blk_frozen BS.out 1))
  have NG := Aside0.mk (show g ≠ gs from by have := GL.out; have := GS.out; omega)
  have NR := Aside0.mk (show g ≠ gr from by have := GL.out; have := GR.out; omega)
  have hne := NG.out
  have hne' := hne.symm
  have HG3 := Aside0.mk (blk_below HG.out HBW.out)
  have hcz4 : w3.cell? ⟨g, 4, none⟩ = some (.bool e) := (blk_cell HG3.out 4).trans rfl
  have hcz5 : w3.cell? ⟨g, 5, none⟩ = some (.bool l) := (blk_cell HG3.out 5).trans rfl
  have HBS := Aside0.mk (show Below w.heap.size w ((w3.setCell ⟨gs, 0, none⟩ (.int .i64 0)).setCell ⟨gs, 1, none⟩ (.slice Av xs.length cv)) from below_set (below_set HBW.out GS.out) GS.out)
  go_cut [4] (fun v4 wc => ∃ (gs : Nat) (Av : Option Addr) (cv : Nat), v4 = .pointer (some ⟨gs, 0, none⟩) ∧ Aside0 (wc.heap[g]? = some (.cells #[.int .u32 recv, .int .i64 most, .slice A xs.length c0, .bool a, .bool e, .bool l] 58 (0, 0))) ∧ Aside0 (wc.heap[gr]? = some (.cells #[.int .i64 0, .slice none 0 0] 34 (0, 0))) ∧ Aside0 (wc.heap[gs]? = some (.cells #[.int .i64 (dkind e l), .slice Av (dseg xs e l).length cv] 34 (0, 0))) ∧ Aside0 (Kd.R (Kd.int .u8) 5 wc w.heap.size (fun _ => True) (.slice Av (dseg xs e l).length cv) (dseg xs e l)) ∧ Aside0 (Kd.R (Kd.int .u8) 5 wc w0.heap.size P0_ (.slice A xs.length c0) xs) ∧ Aside0 (g ≠ gs) ∧ Aside0 (gr ≠ gs) ∧ Aside0 (w.heap.size ≤ gs) ∧ Aside0 (Below w.heap.size w wc))
  case first =>
    cases e with
    | true =>
      go_wp2
      go_meet
      case rel => exact ⟨gs, none, 0, rfl, ⟨blk_below HG.out (below_set (below_set HBS.out GS.out) GS.out)⟩, ⟨blk_far (blk_far (blk_far (blk_far BR.out NS.out _) NS.out _) NS.out _) NS.out _⟩, ⟨blk_put (blk_put (blk_put (blk_put BS.out 0 _ rfl) 1 _ rfl) 0 _ rfl) 1 _ rfl⟩, ⟨Kd.R_nil _ _ _ _ _⟩, ⟨Kd.R_below HO.out (below_set (below_set HBS.out GS.out) GS.out)⟩, NG, NS, GS, ⟨below_set (below_set HBS.out GS.out) GS.out⟩⟩
    | false =>
      cases l with
      | true =>
        go_wp2
        go_meet
        case rel => exact ⟨gs, none, 0, rfl, ⟨blk_below HG.out (below_set (below_set HBS.out GS.out) GS.out)⟩, ⟨blk_far (blk_far (blk_far (blk_far BR.out NS.out _) NS.out _) NS.out _) NS.out _⟩, ⟨blk_put (blk_put (blk_put (blk_put BS.out 0 _ rfl) 1 _ rfl) 0 _ rfl) 1 _ rfl⟩, ⟨Kd.R_nil _ _ _ _ _⟩, ⟨Kd.R_below HO.out (below_set (below_set HBS.out GS.out) GS.out)⟩, NG, NS, GS, ⟨below_set (below_set HBS.out GS.out) GS.out⟩⟩
      | false =>
        go_wp2
        go_meet
        case rel => exact ⟨gs, Av, cv, rfl, ⟨blk_below HG.out HBS.out⟩, ⟨blk_far (blk_far BR.out NS.out _) NS.out _⟩, ⟨blk_put (blk_put BS.out 0 _ rfl) 1 _ rfl⟩, ⟨Kd.R_set (Kd.R_set HV.out BS.out (by decide) 0 _) (blk_put BS.out 0 _ rfl) (by decide) 1 _⟩, ⟨Kd.R_below HO.out HBS.out⟩, NG, NS, GS, HBS⟩
  case rest =>
    clear hs0 hs1 hfs0 hfs1 hcz4 hcz5 hne hne' HBS HG3 NG NS GS BS BR HV HBW
    obtain ⟨gs, Av, cv, rfl, BG, BR, BS, HV, HO, NG, NS, GS, HB⟩ := hcut
    have hq0 : wc.cell? ⟨g, 0, none⟩ = some (.int .u32 recv) := (blk_cell BG.out 0).trans rfl
    have hq1 : wc.cell? ⟨g, 1, none⟩ = some (.int .i64 most) := (blk_cell BG.out 1).trans rfl
    have hq2 : wc.cell? ⟨g, 2, none⟩ = some (.slice A xs.length c0) := (blk_cell BG.out 2).trans rfl
    have hq3 : wc.cell? ⟨g, 3, none⟩ = some (.bool a) := (blk_cell BG.out 3).trans rfl
    have hroom : (0 : Int) ≤ (c0 : Int) := by omega
    go_wp2
    have n0_ := Aside0.mk (blk_drew BG.out)
    have n1_ := Aside0.mk (blk_drew BR.out)
    have n2_ := Aside0.mk (blk_drew BS.out)
    have n3_ := Aside0.mk (Kd.R_drew HV.out)
    have n4_ := Aside0.mk (Kd.R_drew HO.out)
    have n5_ := Aside0.mk (below_drew1 HB.out)
    have HK := Aside0.mk (Kept.of_below n5_.out (fun k_ => k_ = g))
    clear BG BR BS HV HO HB
    have BG := n0_
    have BR := n1_
    have BS := n2_
    have HV := n3_
    have HO := n4_
    have HB := n5_
    clear n0_ n1_ n2_ n3_ n4_ n5_
    refine start_ (n := 17) (S := fun w' => w'.cell? ⟨g, 0, none⟩ = some (.int .u32 recv) ∧ w'.cell? ⟨g, 1, none⟩ = some (.int .i64 most) ∧ w'.cell? ⟨g, 2, none⟩ = some (.slice A xs.length c0)) (ds := [16]) #[false, false, false, false, false, false, false, false, false, false, false, false, false, false, false, false, false] (by kernel_rfl) rfl rfl ⟨hq0, hq1, hq2⟩ (fun hHeld => ?_)
    generalize wc.drew = w7 at BG BR BS HV HO HB HK hHeld ⊢
    have hz0 : w7.cell? ⟨g, 0, none⟩ = some (.int .u32 recv) := (blk_cell BG.out 0).trans rfl
    have hfz0 := blk_frozen BG.out 0
    have hz1 : w7.cell? ⟨g, 1, none⟩ = some (.int .i64 most) := (blk_cell BG.out 1).trans rfl
    have hfz1 := blk_frozen BG.out 1
    have hz2 : w7.cell? ⟨g, 2, none⟩ = some (.slice A xs.length c0) := (blk_cell BG.out 2).trans rfl
    have hfz2 := blk_frozen BG.out 2
    have hz3 : w7.cell? ⟨g, 3, none⟩ = some (.bool a) := (blk_cell BG.out 3).trans rfl
    have hfz3 := blk_frozen BG.out 3
    have hz4 : w7.cell? ⟨g, 4, none⟩ = some (.bool e) := (blk_cell BG.out 4).trans rfl
    have hfz4 := blk_frozen BG.out 4
    have hz5 : w7.cell? ⟨g, 5, none⟩ = some (.bool l) := (blk_cell BG.out 5).trans rfl
    have hfz5 := blk_frozen BG.out 5
    refine pure_ (i := 0) (N := some 28) (v := ?_) (a' := ?_) #[true, false, false, false, false, false, false, false, false, false, false, false, false, false, false, false, false] rfl rfl (by kernel_rfl) (fun _ _ _ h => h) (Or.inl ⟨by rfl, ?_⟩) ?_ ?_
    rotate_left
    · intro w'
      go_simp
      with_reducible rfl
    rotate_left
    · simp only [Act.put, List.setIfInBounds_toArray, List.set_cons_zero, List.set_cons_succ, i64_w, i32_w]
      rfl
    refine pure_ (i := 1) (N := some 29) (v := ?_) (a' := ?_) #[true, true, false, false, false, false, false, false, false, false, false, false, false, false, false, false, false] rfl rfl (by kernel_rfl) (fun _ _ _ h => h) (Or.inl ⟨by rfl, ?_⟩) ?_ ?_
    rotate_left
    · intro w'
      go_simp
      with_reducible rfl
    rotate_left
    · simp only [Act.put, List.setIfInBounds_toArray, List.set_cons_zero, List.set_cons_succ, i64_w, i32_w]
      rfl
    refine pure_ (i := 2) (N := some 30) (v := ?_) (a' := ?_) #[true, true, true, false, false, false, false, false, false, false, false, false, false, false, false, false, false] rfl rfl (by kernel_rfl) (fun _ _ _ h => h) (Or.inl ⟨by rfl, ?_⟩) ?_ ?_
    rotate_left
    · intro w'
      go_simp
      with_reducible rfl
    rotate_left
    · simp only [Act.put, List.setIfInBounds_toArray, List.set_cons_zero, List.set_cons_succ, i64_w, i32_w]
      rfl
    refine pure_ (i := 3) (N := some 31) (v := ?_) (a' := ?_) #[true, true, true, true, false, false, false, false, false, false, false, false, false, false, false, false, false] rfl rfl (by kernel_rfl) (fun _ _ _ h => h) (Or.inl ⟨by rfl, ?_⟩) ?_ ?_
    rotate_left
    · intro w'
      go_simp
      with_reducible rfl
    rotate_left
    · simp only [Act.put, List.setIfInBounds_toArray, List.set_cons_zero, List.set_cons_succ, i64_w, i32_w]
      rfl
    refine pure_ (i := 5) (N := some 33) (v := ?_) (a' := ?_) #[true, true, true, true, false, true, false, false, false, false, false, false, false, false, false, false, false] rfl rfl (by kernel_rfl) (fun _ _ _ h => h) (Or.inl ⟨by rfl, ?_⟩) ?_ ?_
    rotate_left
    · intro w'
      go_simp
      with_reducible rfl
    rotate_left
    · simp only [Act.put, List.setIfInBounds_toArray, List.set_cons_zero, List.set_cons_succ, i64_w, i32_w]
      rfl
    refine pure_ (i := 6) (N := some 34) (v := ?_) (a' := ?_) #[true, true, true, true, false, true, true, false, false, false, false, false, false, false, false, false, false] rfl rfl (by kernel_rfl) (fun _ _ _ h => h) (Or.inl ⟨by rfl, ?_⟩) ?_ ?_
    rotate_left
    · intro w'
      go_simp
      with_reducible rfl
    rotate_left
    · simp only [Act.put, List.setIfInBounds_toArray, List.set_cons_zero, List.set_cons_succ, i64_w, i32_w]
      rfl
    refine pure_ (i := 7) (N := some 35) (v := ?_) (a' := ?_) #[true, true, true, true, false, true, true, true, false, false, false, false, false, false, false, false, false] rfl rfl (by kernel_rfl) (fun _ _ _ h => h) (Or.inl ⟨by rfl, ?_⟩) ?_ ?_
    rotate_left
    · intro w'
      go_simp
      with_reducible rfl
    rotate_left
    · simp only [Act.put, List.setIfInBounds_toArray, List.set_cons_zero, List.set_cons_succ, i64_w, i32_w]
      rfl
    refine pure_ (i := 9) (N := some 37) (v := ?_) (a' := ?_) #[true, true, true, true, false, true, true, true, false, true, false, false, false, false, false, false, false] rfl rfl (by kernel_rfl) (fun _ _ _ h => h) (Or.inl ⟨by rfl, ?_⟩) ?_ ?_
    rotate_left
    · intro w'
      go_simp
      with_reducible rfl
    rotate_left
    · simp only [Act.put, List.setIfInBounds_toArray, List.set_cons_zero, List.set_cons_succ, i64_w, i32_w]
      rfl
    refine pure_ (i := 10) (N := some 38) (v := ?_) (a' := ?_) #[true, true, true, true, false, true, true, true, false, true, true, false, false, false, false, false, false] rfl rfl (by kernel_rfl) (fun _ _ _ h => h) (Or.inl ⟨by rfl, ?_⟩) ?_ ?_
    rotate_left
    · intro w'
      go_simp
      with_reducible rfl
    rotate_left
    · simp only [Act.put, List.setIfInBounds_toArray, List.set_cons_zero, List.set_cons_succ, i64_w, i32_w]
      rfl
    refine pure_ (i := 11) (N := some 39) (v := ?_) (a' := ?_) #[true, true, true, true, false, true, true, true, false, true, true, true, false, false, false, false, false] rfl rfl (by kernel_rfl) (fun _ _ _ h => h) (Or.inl ⟨by rfl, ?_⟩) ?_ ?_
    rotate_left
    · intro w'
      go_simp
      with_reducible rfl
    rotate_left
    · simp only [Act.put, List.setIfInBounds_toArray, List.set_cons_zero, List.set_cons_succ, i64_w, i32_w]
      rfl
    refine take_ (i := 4) (N := some 32) (v := ?_) (a' := ?_) #[true, true, true, true, true, true, true, true, false, true, true, true, false, false, false, false, false] rfl rfl (by kernel_rfl) (fun _ _ _ h => h) (Or.inl ⟨by rfl, ?_⟩) hHeld ?_ ?_
    rotate_left
    · rintro w' ⟨s0, s1, s2⟩
      go_simp
      with_reducible rfl
    rotate_left
    · simp only [Act.put, List.setIfInBounds_toArray, List.set_cons_zero, List.set_cons_succ, i64_w, i32_w]
      rfl
    refine take_ (i := 8) (N := some 36) (v := ?_) (a' := ?_) #[true, true, true, true, true, true, true, true, true, true, true, true, false, false, false, false, false] rfl rfl (by kernel_rfl) (fun _ _ _ h => h) (Or.inl ⟨by rfl, ?_⟩) hHeld ?_ ?_
    rotate_left
    · rintro w' ⟨s0, s1, s2⟩
      go_simp
      with_reducible rfl
    rotate_left
    · simp only [Act.put, List.setIfInBounds_toArray, List.set_cons_zero, List.set_cons_succ, i64_w, i32_w]
      rfl
    refine take_ (i := 12) (N := some 40) (v := ?_) (a' := ?_) #[true, true, true, true, true, true, true, true, true, true, true, true, true, false, false, false, false] rfl rfl (by kernel_rfl) (fun _ _ _ h => h) (Or.inl ⟨by rfl, ?_⟩) hHeld ?_ ?_
    rotate_left
    · rintro w' ⟨s0, s1, s2⟩
      go_simp
      with_reducible rfl
    rotate_left
    · simp only [Act.put, List.setIfInBounds_toArray, List.set_cons_zero, List.set_cons_succ, i64_w, i32_w]
      rfl
    refine pure_ (i := 13) (N := some 41) (v := ?_) (a' := ?_) #[true, true, true, true, true, true, true, true, true, true, true, true, true, true, false, false, false] rfl rfl (by kernel_rfl) (fun _ _ _ h => h) (Or.inl ⟨by rfl, ?_⟩) ?_ ?_
    rotate_left
    · intro w'
      go_simp
      with_reducible rfl
    rotate_left
    · simp only [Act.put, List.setIfInBounds_toArray, List.set_cons_zero, List.set_cons_succ, i64_w, i32_w]
      rfl
    refine pure_ (i := 14) (N := some 42) (v := ?_) (a' := ?_) #[true, true, true, true, true, true, true, true, true, true, true, true, true, true, true, false, false] rfl rfl (by kernel_rfl) (fun _ _ _ h => h) (Or.inl ⟨by rfl, ?_⟩) ?_ ?_
    rotate_left
    · intro w'
      go_simp
      with_reducible rfl
    rotate_left
    · simp only [Act.put, List.setIfInBounds_toArray, List.set_cons_zero, List.set_cons_succ, i64_w, i32_w]
      rfl
    refine pure_ (i := 15) (N := some 43) (v := ?_) (a' := ?_) #[true, true, true, true, true, true, true, true, true, true, true, true, true, true, true, true, false] rfl rfl (by kernel_rfl) (fun _ _ _ h => h) (Or.inl ⟨by rfl, ?_⟩) ?_ ?_
    rotate_left
    · intro w'
      go_simp
      with_reducible rfl
    rotate_left
    · simp only [Act.put, List.setIfInBounds_toArray, List.set_cons_zero, List.set_cons_succ, i64_w, i32_w]
      rfl
    refine last_ (i := 16) (N := none) #[true, true, true, true, true, true, true, true, true, true, true, true, true, true, true, true, true] rfl rfl (by kernel_rfl) (by decide) (fun K hK => ?_)
    refine skip_ (w1 := ?_) (by rfl) rfl ?_ ?_
    rotate_left
    · go_simp
      rfl
    refine hK.out _ _ ?_
    clear hK K
    refine done_ (by kernel_rfl) ?_
    have hs0 : w7.cell? ⟨gs, 0, none⟩ = some (.int .i64 (dkind e l)) := (blk_cell BS.out 0).trans rfl
    have hs1 : w7.cell? ⟨gs, 1, none⟩ = some (.slice Av (dseg xs e l).length cv) := (blk_cell BS.out 1).trans rfl
    have hr0 : w7.cell? ⟨gr, 0, none⟩ = some (.int .i64 0) := (blk_cell BR.out 0).trans rfl
    have hr1 : w7.cell? ⟨gr, 1, none⟩ = some (.slice none 0 0) := (blk_cell BR.out 1).trans rfl
    have hfr0 := blk_frozen BR.out 0
    have hfr1 := blk_frozen BR.out 1
    have m0 := NG.out
    have m0' := m0.symm
    have m1 := NR.out
    have m1' := m1.symm
    have m2 := NS.out
    have m2' := m2.symm
    go_wp2
    refine bodyPost_ret (results_ct rfl _ _ gr 34 #[.int .i64 (dkind e l), .slice Av (dseg xs e l).length cv] (0, 0) _ rfl (blk_put (blk_put (blk_far (blk_far (blk_far (blk_far (blk_far (blk_far (BR.out) NR.out.symm _) NR.out.symm _) NR.out.symm _) NR.out.symm _) NR.out.symm _) NR.out.symm _) 0 _ rfl) 1 _ rfl) hu34 rfl (by kernel_rfl)) rfl ?_
    refine ⟨_, _, rfl, blk_far (blk_far (blk_put (blk_put (blk_put (blk_put (blk_put (blk_put (BG.out) 0 _ rfl) 1 _ rfl) 2 _ rfl) 3 _ rfl) 4 _ rfl) 5 _ rfl) NR.out _) NR.out _, Kd.R_mono (Kd.R_far (p := ⟨gr, 1, none⟩) (Kd.R_far (p := ⟨gr, 0, none⟩) (Kd.R_far (p := ⟨g, 5, none⟩) (Kd.R_far (p := ⟨g, 4, none⟩) (Kd.R_far (p := ⟨g, 3, none⟩) (Kd.R_far (p := ⟨g, 2, none⟩) (Kd.R_far (p := ⟨g, 1, none⟩) (Kd.R_far (p := ⟨g, 0, none⟩) (Kd.R_types (Kd.R_types (HV.out) BG.out (by decide)) BR.out (by decide)) (fun _ hk => hk.1.2) _) (fun _ hk => hk.1.2) _) (fun _ hk => hk.1.2) _) (fun _ hk => hk.1.2) _) (fun _ hk => hk.1.2) _) (fun _ hk => hk.1.2) _) (fun _ hk => hk.2) _) (fun _ hk => hk.2) _) (fun _ hk => hk.1.1), ?_, below_set (below_set (below_set (below_set (below_set (below_set (below_set (below_set (below_step HB0.out HB.out) HGE.out) HGE.out) HGE.out) HGE.out) HGE.out) HGE.out) (Nat.le_trans HB0.out.size GR.out)) (Nat.le_trans HB0.out.size GR.out), ((((((((HK.out).setCell (.inl rfl) _).setCell (.inl rfl) _).setCell (.inl rfl) _).setCell (.inl rfl) _).setCell (.inl rfl) _).setCell (.inl rfl) _).setCell (.inr GR.out) _).setCell (.inr GR.out) _⟩
    exact Kd.R_mono (Kd.R_far (p := ⟨gr, 1, none⟩) (Kd.R_far (p := ⟨gr, 0, none⟩) (Kd.R_far (p := ⟨g, 5, none⟩) (Kd.R_far (p := ⟨g, 4, none⟩) (Kd.R_far (p := ⟨g, 3, none⟩) (Kd.R_far (p := ⟨g, 2, none⟩) (Kd.R_far (p := ⟨g, 1, none⟩) (Kd.R_far (p := ⟨g, 0, none⟩) (Kd.R_types (Kd.R_types (Kd.R_take HO.out (Nat.zero_le _)) BG.out (by decide)) BR.out (by decide)) (fun _ hk => hk.1.2) _) (fun _ hk => hk.1.2) _) (fun _ hk => hk.1.2) _) (fun _ hk => hk.1.2) _) (fun _ hk => hk.1.2) _) (fun _ hk => hk.1.2) _) (fun _ hk => hk.2) _) (fun _ hk => hk.2) _) (fun _ hk => hk.1.1)
end Go.Proofs.Ytjmclghjhnbafaa.Print

/- What the asynchronous deframer tells of a chunk: the walk, its variable and its row of octets lying where they may. No condition but the row's length. -/
namespace Go.Proofs.Ytjmclghjhnbafaa.Print
open Go.RowKit Go.Proofs.YtjmclghjhnbafaaW.PrintWords Go.Proofs.YtjmclghjhnbafaaW.PrintLast Go.Proofs.YtjmclghjhnbafaaW.PrintMore
attribute [local go_sem] max2_int min2_int max_two min_two max_three min_three max_four min_four
set_option linter.unusedVariables false
set_option linter.unusedSimpArgs false
/-- What a deframer keeps. -/
structure Dst where
  data : List Int
  any : Bool
  esc : Bool
  long : Bool
def hasb (recv c : Int) : Bool := (Go.bits .and .u32 (shr .u32 recv c) 1) == 1
def dstep (recv most : Int) (p : List S34 × Dst) (c : Int) : List S34 × Dst :=
  if c = 126 then (if p.2.any then p.1 ++ [⟨dkind p.2.esc p.2.long, dseg p.2.data p.2.esc p.2.long⟩] else p.1, ⟨[], false, false, false⟩)
  else if hasb recv c then p
  else if p.2.esc then (p.1, ⟨(dput most p.2.data p.2.long (Go.bits .xor .u8 c 32)).1, true, false, (dput most p.2.data p.2.long (Go.bits .xor .u8 c 32)).2⟩)
  else if c = 125 then (p.1, ⟨p.2.data, true, true, p.2.long⟩)
  else (p.1, ⟨(dput most p.2.data p.2.long c).1, true, false, (dput most p.2.data p.2.long c).2⟩)
def dfeed (recv most : Int) (s : Dst) (l : List Int) : List S34 × Dst := l.foldl (dstep recv most) ([], s)
theorem R_sharp {k : IntKind} {e base : Nat} {W : World} {ok ok' : Nat → Prop} {v : Value} {xs : List Int} (h : Kd.R (Kd.int k) e W base ok v xs) (h2 : ∀ j, v.ownBlock = some j → ok' j) : Kd.R (Kd.int k) e W base ok' v xs :=
  ⟨h2, h.2.imp_ (fun _ _ hp => hp)⟩
theorem R_ownlt {α : Type} {d : Kd α} {e base : Nat} {W : World} {ok : Nat → Prop} {v : Value} {xs : List α} (h : d.R e W base ok v xs) : ∀ j, v.ownBlock = some j → j < W.heap.size := fun j hj => (Kd.R_bound h).1 j hj |>.2.2.1
def dcells (recv most : Int) (u : Value) (s : Dst) : Array Value := #[.int .u32 recv, .int .i64 most, u, .bool s.any, .bool s.esc, .bool s.long]
/-- What lives while a chunk is gone through: the deframer's variable, its row, and what is told so far. -/
structure Live (w0 w : World) (P0_ : Nat → Prop) (g : Nat) (recv most : Int) (s : Dst) (u vo : Value) (outs : List S34) (W : World) : Prop where
  cell : W.heap[g]? = some (.cells (dcells recv most u s) 58 (0, 0))
  row : Kd.R (Kd.int .u8) 5 W w0.heap.size (fun k_ => P0_ k_ ∨ w.heap.size ≤ k_) u s.data
  out : Kd.S k34 34 W w0.heap.size (fun k_ => w.heap.size ≤ k_ ∧ some k_ ≠ u.ownBlock) vo outs
  bel : Below w0.heap.size w0 W
  kept : Kept w W (fun k_ => P0_ k_ ∨ k_ = g)
section
variable {w0 w W W' : World} {P0_ : Nat → Prop} {g : Nat} {recv most : Int} {s : Dst} {u vo : Value} {outs : List S34}
theorem Live.below (h : Live w0 w P0_ g recv most s u vo outs W) (hb : Below W.heap.size W W') : Live w0 w P0_ g recv most s u vo outs W' :=
  ⟨blk_below h.cell hb, Kd.R_below h.row hb, Kd.S_below h.out hb, below_step h.bel hb, h.kept.below hb⟩
theorem Live.ownP (h : Live w0 w P0_ g recv most s u vo outs W) : Kd.R (Kd.int .u8) 5 W w0.heap.size (fun k_ => (P0_ k_ ∨ w.heap.size ≤ k_) ∧ some k_ = u.ownBlock) u s.data :=
  R_sharp h.row (fun j hj => ⟨h.row.1 j hj, hj.symm⟩)
/-- A call that writes the variable and the row, and hands back a row that is the old one or new. -/
theorem Live.next {s' : Dst} {u' : Value} (h : Live w0 w P0_ g recv most s u vo outs W) (hg : g < w.heap.size) (hge : w0.heap.size ≤ g)
    (hc : W'.heap[g]? = some (.cells (dcells recv most u' s') 58 (0, 0))) (hr : Kd.R (Kd.int .u8) 5 W' w0.heap.size (fun k_ => ((P0_ k_ ∨ w.heap.size ≤ k_) ∧ some k_ = u.ownBlock) ∨ W.heap.size ≤ k_) u' s'.data)
    (hb : Below w0.heap.size w0 W') (hk : Kept W W' (fun k_ => ((P0_ k_ ∨ w.heap.size ≤ k_) ∧ some k_ = u.ownBlock) ∨ k_ = g)) : Live w0 w P0_ g recv most s' u' vo outs W' := by
  refine ⟨hc, Kd.R_mono hr (fun k hk => hk.elim (fun h1 => h1.1) (fun h1 => .inr (Nat.le_trans h.kept.1 h1))), ?_, hb, h.kept.then_ hk (fun k hk => ?_)⟩
  · have h1 := Kd.S_kept (Kd.S_bound h.out) hk (fun k ho hs => hs.elim (fun h2 => ho.1.2 h2.2) (fun h2 => by have := ho.1.1; omega))
    refine Kd.S_mono h1 (fun k ho => ⟨ho.1.1, fun he => ?_⟩)
    rcases hr.1 k he.symm with h2 | h2
    · exact ho.1.2 h2.2
    · have := ho.2.2.1
      omega
  · rcases hk with h2 | h2
    · exact h2.1.elim (fun h3 => .inl (.inl h3)) .inr
    · exact .inl (.inr h2)
theorem Live.nextOld {xs' : List Int} {u' : Value} (h : Live w0 w P0_ g recv most s u vo outs W) (hg : g < w.heap.size)
    (hr : Kd.R (Kd.int .u8) 5 W' w0.heap.size (fun k_ => ((P0_ k_ ∨ w.heap.size ≤ k_) ∧ some k_ = u.ownBlock) ∨ W.heap.size ≤ k_) u' xs')
    (hk : Kept W W' (fun k_ => ((P0_ k_ ∨ w.heap.size ≤ k_) ∧ some k_ = u.ownBlock) ∨ k_ = g)) : Kd.S k34 34 W' w0.heap.size (fun k_ => (w.heap.size ≤ k_ ∧ some k_ ≠ u'.ownBlock) ∧ k_ < W.heap.size) vo outs := by
  have h1 := Kd.S_kept (Kd.S_bound h.out) hk (fun k ho hs => hs.elim (fun h2 => ho.1.2 h2.2) (fun h2 => by have := ho.1.1; omega))
  refine Kd.S_mono h1 (fun k ho => ⟨⟨ho.1.1, fun he => ?_⟩, ho.2.2.1⟩)
  rcases hr.1 k he.symm with h2 | h2
  · exact ho.1.2 h2.2
  · have := ho.2.2.1
    omega
/-- A store of a truth into the variable. -/
theorem Live.set (h : Live w0 w P0_ g recv most s u vo outs W) (hg : g < w.heap.size) (hge : w0.heap.size ≤ g) (hP : ¬ P0_ g) {s' : Dst} (i : Nat) (b : Bool) (hd : s'.data = s.data) (e : (dcells recv most u s).setIfInBounds i (.bool b) = dcells recv most u s') :
    Live w0 w P0_ g recv most s' u vo outs (W.setCell ⟨g, i, none⟩ (.bool b)) := by
  refine ⟨blk_put h.cell i _ e, ?_, ?_, below_set h.bel hge, h.kept.setCell (.inl (.inr rfl)) _⟩
  · rw [hd]
    exact Kd.R_far h.row (fun k hk he => hk.elim (fun h1 => hP (by rw [← show k = g from he]; exact h1)) (fun h1 => by have : k = g := he; omega)) _
  · exact Kd.S_far h.out (fun k hk he => by have : k = g := he; have := hk.1; omega) _
end
theorem dfold_take (recv most : Int) (s : Dst) (l : List Int) (i : Nat) (h : i < l.length) : dfeed recv most s (l.take (i + 1)) = dstep recv most (dfeed recv most s (l.take i)) l[i] := by
  unfold dfeed
  rw [List.take_succ_eq_append_getElem h, List.foldl_append]
  rfl
theorem dput_len (most : Int) (xs : List Int) (l : Bool) (c : Int) : (dput most xs l c).1.length ≤ xs.length + 1 := by
  unfold dput
  split <;> simp
theorem dstep_len (recv most : Int) (p : List S34 × Dst) (c : Int) : (dstep recv most p c).1.length ≤ p.1.length + 1 ∧ (dstep recv most p c).2.data.length ≤ p.2.data.length + 1 := by
  have h1 := dput_len most p.2.data p.2.long c
  have h2 := dput_len most p.2.data p.2.long (Go.bits .xor .u8 c 32)
  unfold dstep
  repeat' split
  all_goals refine ⟨?_, ?_⟩
  all_goals first | omega | (simp; done) | (simp; omega)
theorem dfeed_len (recv most : Int) : ∀ (l : List Int) (p : List S34 × Dst), (l.foldl (dstep recv most) p).1.length ≤ p.1.length + l.length ∧ (l.foldl (dstep recv most) p).2.data.length ≤ p.2.data.length + l.length
  | [], p => by simp
  | c :: t, p => by
    have h := dstep_len recv most p c
    have ih := dfeed_len recv most t (dstep recv most p c)
    simp only [List.foldl_cons, List.length_cons]
    omega
end Go.Proofs.Ytjmclghjhnbafaa.Print

/- The walk of the asynchronous deframer's Feed: what it tells and keeps is what the plain words say. No condition but the rows' lengths. -/
namespace Go.Proofs.Ytjmclghjhnbafaa.Print
open Go.RowKit Go.Proofs.YtjmclghjhnbafaaW.PrintWords Go.Proofs.YtjmclghjhnbafaaW.PrintLast Go.Proofs.YtjmclghjhnbafaaW.PrintMore
attribute [local go_sem] max2_int min2_int max_two min_two max_three min_three max_four min_four
set_option linter.unusedVariables false
set_option linter.unusedSimpArgs false
theorem info34 : (Try.prog.info? 34).map (fun i => (i.zero, i.size, i.bytes)) = some (some (.agg #[.int .i64 0, .slice none 0 0]), 2, 32) := by kernel_rfl
theorem Live.grow {w0 w W W' : World} {P0_ : Nat → Prop} {g : Nat} {recv most : Int} {s : Dst} {u vo vo' : Value} {outs outs' : List S34} (h : Live w0 w P0_ g recv most s u vo outs W) (hg : g < w.heap.size)
    (ho : Kd.S k34 34 W' w0.heap.size (fun k_ => w.heap.size ≤ k_ ∧ some k_ ≠ u.ownBlock) vo' outs') (hb : Below w0.heap.size w0 W') (hgr : W.grownBy W' vo.ownBlock) : Live w0 w P0_ g recv most s u vo' outs' W' := by
  refine ⟨blk_grown h.cell hgr (fun he => ?_), ?_, ho, hb, Kept.of_grown hgr h.kept (fun k hk => .inr ((Kd.S_R h.out).1 k hk).1)⟩
  · have := ((Kd.S_R h.out).1 g he.symm).1
    omega
  · have h1 := Kd.R_grown (ok := fun k => (P0_ k ∨ w.heap.size ≤ k) ∧ some k = u.ownBlock) h.ownP hgr (fun k hk he => ((Kd.S_R h.out).1 k he.symm).2 hk.2)
    exact Kd.R_mono h1 (fun k hk => hk.1)
set_option maxHeartbeats 16000000 in
set_option maxRecDepth 100000 in
theorem df_feed (P0_ : Nat → Prop) (g : Nat) (u : Value) (recv most : Int) (s : Dst) (A : Option Addr) (c0 : Nat) (l : List Int) (w0 w : World) (hB : Below w0.heap.size w0 w)
    (hg : w.heap[g]? = some (.cells (dcells recv most u s) 58 (0, 0))) (hge : w0.heap.size ≤ g) (hP : ¬ P0_ g) (ho : Kd.R (Kd.int .u8) 5 w w0.heap.size P0_ u s.data)
    (hC : ∀ W', Kept w W' (fun k_ => P0_ k_ ∨ k_ = g) → Kd.C (Kd.int .u8) W' A l.length l) (hl : l.length ≤ 100000) (hd : s.data.length ≤ 100000000) (hb : ∀ c ∈ l, 0 ≤ c) :
    Calls Try.prog 14 #[.pointer (some ⟨g, 0, none⟩), .slice A l.length c0] w fun x_ w' => ∃ vo u' : Value, x_ = .returned vo ∧ Live w0 w P0_ g recv most (dfeed recv most s l).2 u' vo (dfeed recv most s l).1 w' := by
  have hu58 := Try.underlying58
  have hu34 := Try.underlying34
  have HGL := Aside0.mk (blk_lt hg)
  have HGE := Aside0.mk hge
  have HP := Aside0.mk hP
  have HC := Aside0.mk hC
  have HLL := Aside0.mk hl
  have HD := Aside0.mk hd
  have HBY := Aside0.mk hb
  have L0 := Aside0.mk (show Live w0 w P0_ g recv most s u (.slice none 0 0) [] w from ⟨hg, Kd.R_mono ho (fun _ hk => .inl hk), Kd.S_nil _ _ _ _ _, hB, Kept.refl _ _⟩)
  clear hB hg hge hP ho hC hl hd hb
  go_enter Try.func14, Try.ntmps14
  go_wp2
  go_step3
  go_wp2
  go_step3
  go_wp2
  go_loopg [5, 12] (l.length + 1) (fun kq v5 v12 w' => ∃ (x : Int) (u' : Value), v12 = .int .i64 x ∧ Aside0 (0 ≤ x ∧ x.toNat + kq = l.length + 1) ∧ Aside0 (Live w0 w P0_ g recv most (dfeed recv most s (l.take x.toNat)).2 u' v5 (dfeed recv most s (l.take x.toNat)).1 w'))
  case atStart => exact ⟨0, u, rfl, ⟨Int.le_refl _, by simp⟩, L0⟩
  case round =>
    obtain ⟨x, u', rfl, hk, HL⟩ := hrel
    by_cases hi : x < (l.length : Int)
    · have hi0 : decide (x < (l.length : Int)) = true := decide_eq_true hi
      have p0 : 0 ≤ x := hk.out.1
      obtain ⟨ad, eA, hx0⟩ := Kd.at_int (HC.out wr HL.out.kept) x p0 hi
      subst eA
      have hcx : rd l x = l[x.toNat]'(by omega) := by
        unfold rd
        rw [List.getD_eq_getElem?_getD, List.getElem?_eq_getElem (by omega)]
        rfl
      have hstep := dfold_take recv most s l x.toNat (by omega)
      rw [← hcx] at hstep
      have hc0 : 0 ≤ rd l x := by rw [hcx]; exact HBY.out _ (List.getElem_mem _)
      have hlen := dfeed_len recv most (l.take x.toNat) ([], s)
      have hlen' : (l.take x.toNat).length ≤ l.length := by rw [List.length_take]; omega
      replace hlen : (dfeed recv most s (l.take x.toNat)).1.length ≤ 0 + (l.take x.toNat).length ∧ (dfeed recv most s (l.take x.toNat)).2.data.length ≤ s.data.length + (l.take x.toNat).length := hlen
      generalize rd l x = c at hx0 hstep hc0
      generalize dfeed recv most s (l.take x.toNat) = F at HL hstep hlen
      obtain ⟨outs, data, a, e, lg⟩ := F
      simp only at hlen
      have LEN := Aside0.mk (show outs.length ≤ 100000 ∧ data.length < 1000000000 from by have := HLL.out; have := HD.out; omega)
      have HS := Aside0.mk hstep
      have HI := Aside0.mk hi
      have PX := Aside0.mk p0
      have hx1 : wrap64 (x + 1) = x + 1 := by have := HLL.out; unfold wrap64; omega
      have hx2 : (x + 1).toNat = x.toNat + 1 := by omega
      have HX2 := Aside0.mk hx2
      have HH := Aside0.mk (show accm_Has.f recv c = some (hasb recv c) from by unfold accm_Has.f; rw [if_pos hc0]; rfl)
      clear hcx hstep hlen hlen' hc0 hx2
      replace p0 := eq_true p0
      replace hi := eq_true hi
      have hz0 : wr.cell? ⟨g, 0, none⟩ = some (.int .u32 recv) := (blk_cell HL.out.cell 0).trans rfl
      have hz3 : wr.cell? ⟨g, 3, none⟩ = some (.bool a) := (blk_cell HL.out.cell 3).trans rfl
      have hz4 : wr.cell? ⟨g, 4, none⟩ = some (.bool e) := (blk_cell HL.out.cell 4).trans rfl
      have hf3 := blk_frozen HL.out.cell 3
      have hf4 := blk_frozen HL.out.cell 4
      cases gk with
      | zero =>
        have := hk.out.2
        have := HI.out
        omega
      | succ k1 =>
        have done_ : ∀ (u2 vo2 : Value) (W2 : World) (p : List S34 × Dst), dstep recv most (outs, ⟨data, a, e, lg⟩) c = p → Live w0 w P0_ g recv most p.2 u2 vo2 p.1 W2 → Live w0 w P0_ g recv most (dfeed recv most s (l.take (x + 1).toNat)).2 u2 vo2 (dfeed recv most s (l.take (x + 1).toNat)).1 W2 := by
          intro u2 vo2 W2 p hp h
          rw [HX2.out, HS.out, hp]
          exact h
        have DN := Aside0.mk done_
        clear done_
        by_cases c126 : c = 126
        · subst c126
          cases a with
          | true => 
            go_wp2_with (first | (go_at_call 32; refine (df_end (fun k_ => (P0_ k_ ∨ w.heap.size ≤ k_) ∧ some k_ = u'.ownBlock) g u' recv most data true e lg w0 wr HL.out.bel HL.out.cell HGE.out HL.out.ownP LEN.out.2).mono ?_; rintro x_ w2 ⟨v, u2, rfl, hc2, hv, hu2, hb2, hk2⟩; have HL2 := Aside0.mk (HL.out.next (s' := ⟨[], false, false, false⟩) HGL.out HGE.out hc2 (Kd.R_mono hu2 (fun _ h => .inl h)) hb2 (hk2.mono (fun _ h => .inr h))); have HSO := Aside0.mk (HL.out.nextOld HGL.out (Kd.R_mono hu2 (fun _ h => .inl h)) (hk2.mono (fun _ h => .inr h))); have HV2 := Aside0.mk hv; have HU2 := Aside0.mk hu2; have HSZ := Aside0.mk hk2.1; clear hc2 hv hu2 hb2 hk2; obtain ⟨Av, cv, ev⟩ := Kd.R_slice HV2.out; subst ev) | ((with_reducible refine gate_dst (N := 8) rfl ?_); refine box_event ?hg (N := 8) ?hd (cs := #[.int .i64 0, .slice none 0 0]) (t := 34) ?hr ?_; (case hd => rfl); (case hg => rfl); (case hr => first | (go_simp; done) | (go_simp; rfl)); intro gs hgs w3 hbox hb; have BS := Aside0.mk hbox; have GS := Aside0.mk ((by rw [hgs]; exact Nat.le_refl _) : w2.heap.size ≤ gs); have HBX := Aside0.mk hb; clear hbox hb hgs; have hs0 : w3.cell? ⟨gs, 0, none⟩ = some (.int .i64 0) := (blk_cell BS.out 0).trans rfl; have hs1 : w3.cell? ⟨gs, 1, none⟩ = some (.slice none 0 0) := (blk_cell BS.out 1).trans rfl; have hfs0 := blk_frozen BS.out 0; have hfs1 := blk_frozen BS.out 1) | ((with_reducible refine gate_builtin (b := .append) (xs := #[.tmp 25, .tmp 27]) rfl ?_); at_builtin; have HW := Aside0.mk (show Below w2.heap.size w2 ((w3.setCell ⟨gs, 0, none⟩ (.int .i64 (dkind e lg))).setCell ⟨gs, 1, none⟩ (.slice Av (dseg data e lg).length cv)) from below_set (below_set HBX.out GS.out) GS.out); refine Kd.S_append k34 (w0 := w0) w0.heap.size rfl (.tmp 25) (.tmp 27) 29 34 (.agg #[.int .i64 0, .slice none 0 0]) 32 rfl Try.underlying29 info34 rfl (by decide) (by omega) _ outs (⟨dkind e lg, dseg data e lg⟩ : S34) [.int .i64 (dkind e lg), .slice Av (dseg data e lg).length cv] (fun k_ => w.heap.size ≤ k_ ∧ some k_ ≠ u2.ownBlock) (fun k_ => wr.heap.size ≤ k_) rfl (by first | rfl | (simp; done) | (simp; rfl) | (go_simp; done)) ?aP ?aK ?aF ?aO ?aB ?aS ?aL ?_; (case aP => exact k34_mkM _ _ _ (⟨dkind e lg, dseg data e lg⟩ : S34) (Kd.R_mono (Kd.R_lower (Kd.R_bound (Kd.R_below HV2.out HW.out)) HL.out.bel.size) (fun _ hk => hk.2.1))); (case aK => exact (fun k hk => ⟨⟨Nat.le_trans HL.out.kept.1 hk, fun he => by have := R_ownlt HL.out.row k (HU2.out.1 k he.symm).2.symm; omega⟩, fun he => by have := Kd.S_lt HL.out.out k he.symm; omega⟩)); (case aF => exact (fun k hk => ⟨Nat.le_trans HL.out.kept.1 (Nat.le_trans HSZ.out (Nat.le_trans HW.out.size hk)), fun he => by have := R_ownlt HL2.out.row k he.symm; have := HW.out.size; omega⟩)); (case aO => exact Kd.S_mono (Kd.S_below HSO.out HW.out) (fun k hk => ⟨hk.1, by have := hk.2; omega⟩)); (case aB => exact (HL2.out.below HW.out).bel); (case aS => exact (HL2.out.below HW.out).bel.size); (case aL => have := LEN.out.1; omega); intro vo2 w4 ho4 hb4 hg4 hat4; have HL5 := Aside0.mk ((HL2.out.below HW.out).grow HGL.out ho4 hb4 hg4); clear ho4 hb4 hg4 hat4))
            go_roundg k1
            case measure => have := hk.out.2; have := HI.out; omega
            case rel => exact ⟨x + 1, u2, (by first | rfl | (rw [hx1]; done) | (simp [hx1]; done)), ⟨by have := PX.out; have := hk.out; omega⟩, ⟨DN.out u2 _ _ (outs ++ [⟨dkind e lg, dseg data e lg⟩], ⟨[], false, false, false⟩) (by simp [dstep]) (HL5.out)⟩⟩
          | false =>
            go_wp2_with (first | (go_at_call 32; refine (df_end (fun k_ => (P0_ k_ ∨ w.heap.size ≤ k_) ∧ some k_ = u'.ownBlock) g u' recv most data false e lg w0 wr HL.out.bel HL.out.cell HGE.out HL.out.ownP LEN.out.2).mono ?_; rintro x_ w2 ⟨v, u2, rfl, hc2, hv, hu2, hb2, hk2⟩; have HL2 := Aside0.mk (HL.out.next (s' := ⟨[], false, false, false⟩) HGL.out HGE.out hc2 (Kd.R_mono hu2 (fun _ h => .inl h)) hb2 (hk2.mono (fun _ h => .inr h))); have HSO := Aside0.mk (HL.out.nextOld HGL.out (Kd.R_mono hu2 (fun _ h => .inl h)) (hk2.mono (fun _ h => .inr h))); have HV2 := Aside0.mk hv; have HU2 := Aside0.mk hu2; have HSZ := Aside0.mk hk2.1; clear hc2 hv hu2 hb2 hk2; obtain ⟨Av, cv, ev⟩ := Kd.R_slice HV2.out; subst ev) | ((with_reducible refine gate_dst (N := 8) rfl ?_); refine box_event ?hg (N := 8) ?hd (cs := #[.int .i64 0, .slice none 0 0]) (t := 34) ?hr ?_; (case hd => rfl); (case hg => rfl); (case hr => first | (go_simp; done) | (go_simp; rfl)); intro gs hgs w3 hbox hb; have BS := Aside0.mk hbox; have GS := Aside0.mk ((by rw [hgs]; exact Nat.le_refl _) : w2.heap.size ≤ gs); have HBX := Aside0.mk hb; clear hbox hb hgs; have hs0 : w3.cell? ⟨gs, 0, none⟩ = some (.int .i64 0) := (blk_cell BS.out 0).trans rfl; have hs1 : w3.cell? ⟨gs, 1, none⟩ = some (.slice none 0 0) := (blk_cell BS.out 1).trans rfl; have hfs0 := blk_frozen BS.out 0; have hfs1 := blk_frozen BS.out 1))
            have HW := Aside0.mk (show Below w2.heap.size w2 ((w3.setCell ⟨gs, 0, none⟩ (.int .i64 (dkind e lg))).setCell ⟨gs, 1, none⟩ (.slice Av (dseg data e lg).length cv)) from below_set (below_set HBX.out GS.out) GS.out)
            go_roundg k1
            case measure => have := hk.out.2; have := HI.out; omega
            case rel => exact ⟨x + 1, u2, (by first | rfl | (rw [hx1]; done) | (simp [hx1]; done)), ⟨by have := PX.out; have := hk.out; omega⟩, ⟨DN.out u2 _ _ (outs, ⟨[], false, false, false⟩) (by simp [dstep]) (HL2.out.below HW.out)⟩⟩
        · have cb : (c == 126) = false := beq_eq_false_iff_ne.mpr c126
          have C126 := Aside0.mk c126
          clear c126
          cases hh : hasb recv c with
          | true =>
            have HH2 := HH
            rw [hh] at HH2
            go_wp2_with (first | (go_at_call 33; refine (accm_Has.calls recv c true _ HH2.out).mono ?_; rintro x_ w2 ⟨rfl, ⟨nd, rfl⟩⟩))
            go_roundg k1
            case measure => have := hk.out.2; have := HI.out; omega
            case rel => exact ⟨x + 1, u', (by first | rfl | (rw [hx1]; done) | (simp [hx1]; done)), ⟨by have := PX.out; have := hk.out; omega⟩, ⟨DN.out u' _ _ (outs, ⟨data, a, e, lg⟩) (by simp [dstep, C126.out, hh]) (HL.out.below (by repeat (first | exact Below.refl _ _ | apply pw_below_drewN)))⟩⟩
          | false =>
            have HH2 := HH
            rw [hh] at HH2
            cases e with
            | true =>
              go_wp2_with (first | (go_at_call 33; refine (accm_Has.calls recv c false _ HH2.out).mono ?_; rintro x_ w2 ⟨rfl, ⟨nd, rfl⟩⟩) | (go_at_call 34; have HLW := Aside0.mk (((HL.out.below (show Below wr.heap.size wr (wr.drewN nd) from (by repeat (first | exact Below.refl _ _ | apply pw_below_drewN)))).set HGL.out HGE.out HP.out (s' := ⟨data, true, true, lg⟩) 3 true rfl rfl).set HGL.out HGE.out HP.out (s' := ⟨data, true, false, lg⟩) 4 false rfl rfl); refine (df_put (fun k_ => (P0_ k_ ∨ w.heap.size ≤ k_) ∧ some k_ = u'.ownBlock) g u' recv most (Go.bits .xor .u8 c 32) data true false lg w0 _ HLW.out.bel HLW.out.cell HGE.out (fun h => h.1.elim HP.out (fun h1 => by have := HGL.out; omega)) HLW.out.ownP LEN.out.2).mono ?_; rintro x_ w4 ⟨rfl, u2, hc4, hu4, hb4, hk4⟩; have HL4 := Aside0.mk (HLW.out.next (s' := ⟨(dput most data lg (Go.bits .xor .u8 c 32)).1, true, false, (dput most data lg (Go.bits .xor .u8 c 32)).2⟩) HGL.out HGE.out hc4 hu4 hb4 hk4); clear hc4 hu4 hb4 hk4))
              go_roundg k1
              case measure => have := hk.out.2; have := HI.out; omega
              case rel => exact ⟨x + 1, u2, (by first | rfl | (rw [hx1]; done) | (simp [hx1]; done)), ⟨by have := PX.out; have := hk.out; omega⟩, ⟨DN.out u2 _ _ (outs, ⟨(dput most data lg (Go.bits .xor .u8 c 32)).1, true, false, (dput most data lg (Go.bits .xor .u8 c 32)).2⟩) (by simp [dstep, C126.out, hh]) (HL4.out)⟩⟩
            | false =>
              by_cases c125 : c = 125
              · have cb2 : (c == 125) = true := beq_iff_eq.mpr c125
                have C125 := Aside0.mk c125
                clear c125
                go_wp2_with (first | (go_at_call 33; refine (accm_Has.calls recv c false _ HH2.out).mono ?_; rintro x_ w2 ⟨rfl, ⟨nd, rfl⟩⟩))
                go_roundg k1
                case measure => have := hk.out.2; have := HI.out; omega
                case rel => exact ⟨x + 1, u', (by first | rfl | (rw [hx1]; done) | (simp [hx1]; done)), ⟨by have := PX.out; have := hk.out; omega⟩, ⟨DN.out u' _ _ (outs, ⟨data, true, true, lg⟩) (by rw [C125.out] at hh ⊢; simp [dstep, hh]) (((HL.out.below (show Below wr.heap.size wr (wr.drewN nd) from (by repeat (first | exact Below.refl _ _ | apply pw_below_drewN)))).set HGL.out HGE.out HP.out (s' := ⟨data, true, false, lg⟩) 3 true rfl rfl).set HGL.out HGE.out HP.out (s' := ⟨data, true, true, lg⟩) 4 true rfl rfl)⟩⟩
              · have cb2 : (c == 125) = false := beq_eq_false_iff_ne.mpr c125
                have C125 := Aside0.mk c125
                clear c125
                go_wp2_with (first | (go_at_call 33; refine (accm_Has.calls recv c false _ HH2.out).mono ?_; rintro x_ w2 ⟨rfl, ⟨nd, rfl⟩⟩) | (go_at_call 34; have HLW := Aside0.mk (((HL.out.below (show Below wr.heap.size wr (wr.drewN nd) from (by repeat (first | exact Below.refl _ _ | apply pw_below_drewN)))).set HGL.out HGE.out HP.out (s' := ⟨data, true, false, lg⟩) 3 true rfl rfl)); refine (df_put (fun k_ => (P0_ k_ ∨ w.heap.size ≤ k_) ∧ some k_ = u'.ownBlock) g u' recv most (c) data true false lg w0 _ HLW.out.bel HLW.out.cell HGE.out (fun h => h.1.elim HP.out (fun h1 => by have := HGL.out; omega)) HLW.out.ownP LEN.out.2).mono ?_; rintro x_ w4 ⟨rfl, u2, hc4, hu4, hb4, hk4⟩; have HL4 := Aside0.mk (HLW.out.next (s' := ⟨(dput most data lg (c)).1, true, false, (dput most data lg (c)).2⟩) HGL.out HGE.out hc4 hu4 hb4 hk4); clear hc4 hu4 hb4 hk4))
                go_roundg k1
                case measure => have := hk.out.2; have := HI.out; omega
                case rel => exact ⟨x + 1, u2, (by first | rfl | (rw [hx1]; done) | (simp [hx1]; done)), ⟨by have := PX.out; have := hk.out; omega⟩, ⟨DN.out u2 _ _ (outs, ⟨(dput most data lg c).1, true, false, (dput most data lg c).2⟩) (by simp [dstep, C126.out, hh, C125.out]) (HL4.out)⟩⟩
    · have hi0 : decide (x < (l.length : Int)) = false := decide_eq_false hi
      have e1 : l.take x.toNat = l := List.take_of_length_le (by have := hk.out.1; omega)
      have HLF := HL
      rw [e1] at HLF
      go_wp2
      go_ret
      exact ⟨_, u', rfl, HLF.out⟩
end Go.Proofs.Ytjmclghjhnbafaa.Print

/- What the asynchronous deframer's Feed comes to, told as callers use it: the stores into its variable last. No condition but the rows' lengths. -/
namespace Go.Proofs.Ytjmclghjhnbafaa.Print
open Go.RowKit Go.Proofs.YtjmclghjhnbafaaW.PrintWords Go.Proofs.YtjmclghjhnbafaaW.PrintLast Go.Proofs.YtjmclghjhnbafaaW.PrintMore
set_option linter.unusedVariables false
set_option linter.unusedSimpArgs false
/-- What a chunk tells, and what is kept behind it. -/
def async_Deframer_Feed.f (a0 a1 : Int) (l2 : List Int) (b3 b4 b5 : Bool) (l6 : List Int) : Option (List S34 × List Int × Bool × Bool × Bool) :=
  if l6.length ≤ 100000 ∧ l2.length ≤ 100000000 ∧ (l6.all fun c => decide (0 ≤ c)) = true then some ((dfeed a0 a1 ⟨l2, b3, b4, b5⟩ l6).1, (dfeed a0 a1 ⟨l2, b3, b4, b5⟩ l6).2.data, (dfeed a0 a1 ⟨l2, b3, b4, b5⟩ l6).2.any, (dfeed a0 a1 ⟨l2, b3, b4, b5⟩ l6).2.esc, (dfeed a0 a1 ⟨l2, b3, b4, b5⟩ l6).2.long) else none
theorem async_New.box (a0 a1 : Int) (w : World) : Calls Try.prog 13 #[.int .u32 a0, .int .i64 a1] w fun e w' => ∃ g : Nat, e = .returned (.pointer (some ⟨g, 0, none⟩)) ∧ g = w.heap.size ∧ w'.heap[g]? = some (.cells #[.int .u32 a0, .int .i64 a1, .slice none 0 0, .bool false, .bool false, .bool false] 58 (0, 0)) ∧ Below w.heap.size w w' := by
  have hu58 := Try.underlying58
  have HBW := Aside0.mk (Below.refl w.heap.size w)
  go_enter Try.func13, Try.ntmps13
  go_wp2_with (first | ((with_reducible refine gate_dst (N := 8) rfl ?_); refine box_event ?hg (N := 8) ?hd (cs := #[.int .u32 a0, .int .i64 a1, .slice none 0 0, .bool false, .bool false, .bool false]) (t := 58) ?hr ?_; (case hd => rfl); (case hg => rfl); (case hr => first | (go_simp; done) | (go_simp; rfl)); intro gb101 hg w3 hbox hb; have HG := Aside0.mk hg; have BK := Aside0.mk hbox; have HB := Aside0.mk hb; clear hg hbox hb))
  go_ret
  exact ⟨_, rfl, HG.out, BK.out, HB.out⟩
/-- A row of octets isn't the variable. -/
theorem C_swap {W W' : World} {g : Nat} {f0 f1 : Int} {u : Value} {b3 b4 b5 : Bool} {A : Option Addr} {n : Nat} {xs : List Int} (hC : Kd.C (Kd.int .u8) W A n xs) (hk : ∀ k, k ≠ g → W'.heap[k]? = W.heap[k]?)
    (hg : W.heap[g]? = some (.cells #[.int .u32 f0, .int .i64 f1, u, .bool b3, .bool b4, .bool b5] 58 (0, 0))) (hu : ∀ x, u ≠ .int .u8 x) : Kd.C (Kd.int .u8) W' A n xs := by
  refine ⟨hC.1, hC.2.1, fun hn => ?_⟩
  obtain ⟨ad, hA, h⟩ := hC.2.2 hn
  refine ⟨ad, hA, fun j p hj => ?_⟩
  obtain ⟨cs, h1, h2, h3⟩ := h j p hj
  refine ⟨cs, h1, h2, fun i v hv => ?_⟩
  have h4 := h3 i v hv
  have hcs : cs = [Value.int .u8 p] := h2
  have hvv : v = .int .u8 p := by
    rw [hcs] at hv
    cases i with
    | zero => simpa using hv.symm
    | succ i => simp at hv
  by_cases hb : (ad.add (j * (Kd.int .u8).sz + i)).block = g
  · exfalso
    generalize ad.add (j * (Kd.int .u8).sz + i) = a at h4 hb
    unfold World.cell? at h4
    rw [hb, hg] at h4
    simp only at h4
    split at h4
    · cases h4
    · rw [hvv] at h4
      match hoff : a.off, h4 with
      | 0, h4 => simp at h4
      | 1, h4 => simp at h4
      | 2, h4 => simp at h4; exact hu _ h4
      | 3, h4 => simp at h4
      | 4, h4 => simp at h4
      | 5, h4 => simp at h4
      | k + 6, h4 => simp at h4
  · unfold World.cell? at h4 ⊢
    rw [hk _ hb]
    exact h4
theorem world_eq : ∀ {W W' : World}, W'.tape = W.tape → W'.drawn = W.drawn → W'.os = W.os → W'.output = W.output → (∀ k : Nat, W'.heap[k]? = W.heap[k]?) → W' = W
  | ⟨h, t, d, o, p⟩, ⟨h', t', d', o', p'⟩, h1, h2, h3, h4, hk => by
    have e : h' = h := Array.ext_getElem? hk
    simp only at h1 h2 h3 h4
    subst h1 h2 h3 h4 e
    rfl
theorem set_tape (W : World) (p : Addr) (v : Value) : (W.setCell p v).tape = W.tape := rfl
theorem set_drawn (W : World) (p : Addr) (v : Value) : (W.setCell p v).drawn = W.drawn := rfl
theorem set_os (W : World) (p : Addr) (v : Value) : (W.setCell p v).os = W.os := rfl
theorem set_output (W : World) (p : Addr) (v : Value) : (W.setCell p v).output = W.output := rfl
set_option maxHeartbeats 8000000 in
/-- The variable's four cells set back, and set again: the world as it was. -/
theorem back_again {W : World} {g : Nat} {f0 f1 : Int} {u : Value} {b3 b4 b5 : Bool} (hg : W.heap[g]? = some (.cells #[.int .u32 f0, .int .i64 f1, u, .bool b3, .bool b4, .bool b5] 58 (0, 0))) (z2 z3 z4 z5 : Value) :
    W = ((((((((W.setCell ⟨g, 2, none⟩ z2).setCell ⟨g, 3, none⟩ z3).setCell ⟨g, 4, none⟩ z4).setCell ⟨g, 5, none⟩ z5).setCell ⟨g, 2, none⟩ u).setCell ⟨g, 3, none⟩ (.bool b3)).setCell ⟨g, 4, none⟩ (.bool b4)).setCell ⟨g, 5, none⟩ (.bool b5)) := by
  symm
  refine world_eq (by simp only [set_tape]) (by simp only [set_drawn]) (by simp only [set_os]) (by simp only [set_output]) (fun k => ?_)
  by_cases hk : k = g
  · subst hk
    rw [hg]
    exact blk_put (blk_put (blk_put (blk_put (blk_put (blk_put (blk_put (blk_put hg 2 z2 rfl) 3 z3 rfl) 4 z4 rfl) 5 z5 rfl) 2 u rfl) 3 (.bool b3) rfl) 4 (.bool b4) rfl) 5 (.bool b5) rfl
  · have f : ∀ (W : World) (i : Nat) (v : Value), (W.setCell ⟨g, i, none⟩ v).heap[k]? = W.heap[k]? := fun W i v => Below.heap_setCell W ⟨g, i, none⟩ v k hk
    rw [f, f, f, f, f, f, f, f]
set_option maxHeartbeats 8000000 in
theorem dfx (g : Nat) (a0 a1 : Int) (P0_ : Nat → Prop) (u : Value) (l2 : List Int) (b3 b4 b5 : Bool) (A6 : Option Addr) (c6 : Nat) (l6 : List Int) (r1 : List S34) (r2 : List Int) (r3 r4 r5 : Bool) (w0 w : World) (hB : Below w0.heap.size w0 w)
    (ho : Kd.R (Kd.int .u8) 5 w w0.heap.size P0_ u l2) (hC : ∀ W', Kept w W' (fun k_ => P0_ k_) → Kd.C (Kd.int .u8) W' A6 l6.length l6) (hc : l6.length ≤ c6) (h : async_Deframer_Feed.f a0 a1 l2 b3 b4 b5 l6 = some (r1, r2, r3, r4, r5))
    (hG : w.heap[g]? = some (.cells #[.int .u32 a0, .int .i64 a1, u, .bool b3, .bool b4, .bool b5] 58 (0, 0))) (hge : w0.heap.size ≤ g) (hP : ¬ P0_ g) :
    Calls Try.prog 14 #[.pointer (some ⟨g, 0, none⟩), .slice A6 l6.length c6] w fun e w' => ∃ (W : World) (v u' : Value), e = .returned v ∧ w' = ((((W.setCell ⟨g, 2, none⟩ u').setCell ⟨g, 3, none⟩ (.bool r3)).setCell ⟨g, 4, none⟩ (.bool r4)).setCell ⟨g, 5, none⟩ (.bool r5)) ∧
      Kd.S k34 34 W w0.heap.size (fun k_ => (P0_ k_ ∨ w.heap.size ≤ k_) ∧ some k_ ≠ (u' : Value).ownBlock) v r1 ∧ Kd.R (Kd.int .u8) 5 W w0.heap.size (fun k_ => (P0_ k_ ∨ w.heap.size ≤ k_)) u' r2 ∧ Below w0.heap.size w0 W ∧ Kept w W (fun k_ => P0_ k_) := by
  unfold async_Deframer_Feed.f at h
  split at h
  · rename_i hb
    simp only [Option.some.injEq, Prod.mk.injEq] at h
    obtain ⟨rfl, rfl, rfl, rfl, rfl⟩ := h
    have hgl := blk_lt hG
    obtain ⟨Au, cu, hu⟩ := Kd.R_slice ho
    have hC' : ∀ W', Kept w W' (fun k_ => P0_ k_ ∨ k_ = g) → Kd.C (Kd.int .u8) W' A6 l6.length l6 := by
      intro W' hk
      have hK : Kept w { W' with heap := W'.heap.setIfInBounds g (.cells #[.int .u32 a0, .int .i64 a1, u, .bool b3, .bool b4, .bool b5] 58 (0, 0)) } (fun k_ => P0_ k_) := by
        refine ⟨by simpa using hk.1, fun i hi hn => ?_⟩
        by_cases hig : i = g
        · subst hig
          rw [hG]
          show (W'.heap.setIfInBounds i _)[i]? = _
          rw [Array.getElem?_setIfInBounds_self, if_pos (Nat.lt_of_lt_of_le hgl hk.1)]
        · show (W'.heap.setIfInBounds g _)[i]? = _
          rw [Array.getElem?_setIfInBounds_ne (fun e => hig e.symm)]
          exact hk.2 i hi (fun h => h.elim hn hig)
      refine C_swap (g := g) (hC _ hK) (fun k hkg => ?_) (f0 := a0) (f1 := a1) (u := u) (b3 := b3) (b4 := b4) (b5 := b5) ?_ (fun x e => by rw [hu] at e; cases e)
      · show _ = (W'.heap.setIfInBounds g _)[k]?
        rw [Array.getElem?_setIfInBounds_ne (fun e => hkg e.symm)]
      · show (W'.heap.setIfInBounds g _)[g]? = _
        rw [Array.getElem?_setIfInBounds_self, if_pos (Nat.lt_of_lt_of_le hgl hk.1)]
    refine (df_feed P0_ g u a0 a1 ⟨l2, b3, b4, b5⟩ A6 c6 l6 w0 w hB hG hge hP ho hC' hb.1 hb.2.1 (fun c hc => by simpa using List.all_eq_true.1 hb.2.2 c hc)).mono ?_
    rintro e w' ⟨vo, u', rfl, HL⟩
    have hgo : ∀ k, (P0_ k ∨ w.heap.size ≤ k) → k ≠ g := fun k hk e => hk.elim (fun h => hP (e ▸ h)) (fun h => by omega)
    refine ⟨_, vo, u', rfl, back_again HL.cell u (.bool b3) (.bool b4) (.bool b5), ?_, ?_, ?_, ?_⟩
    · refine Kd.S_mono (Kd.S_far (p := ⟨g, 5, none⟩) (Kd.S_far (p := ⟨g, 4, none⟩) (Kd.S_far (p := ⟨g, 3, none⟩) (Kd.S_far (p := ⟨g, 2, none⟩) HL.out ?_ _) ?_ _) ?_ _) ?_ _) (fun k hk => ⟨.inr hk.1, hk.2⟩)
      all_goals exact fun k hk => hgo k (.inr hk.1)
    · refine Kd.R_far (p := ⟨g, 5, none⟩) (Kd.R_far (p := ⟨g, 4, none⟩) (Kd.R_far (p := ⟨g, 3, none⟩) (Kd.R_far (p := ⟨g, 2, none⟩) HL.row ?_ _) ?_ _) ?_ _) ?_ _
      all_goals exact hgo
    · exact below_set (below_set (below_set (below_set HL.bel hge) hge) hge) hge
    · have hk := ((((HL.kept.setCell (p := ⟨g, 2, none⟩) (.inl (.inr rfl)) u).setCell (p := ⟨g, 3, none⟩) (.inl (.inr rfl)) (.bool b3)).setCell (p := ⟨g, 4, none⟩) (.inl (.inr rfl)) (.bool b4)).setCell (p := ⟨g, 5, none⟩) (.inl (.inr rfl)) (.bool b5))
      refine ⟨hk.1, fun i hi hn => ?_⟩
      by_cases hig : i = g
      · subst hig
        rw [hG]
        exact blk_put (blk_put (blk_put (blk_put HL.cell 2 u rfl) 3 (.bool b3) rfl) 4 (.bool b4) rfl) 5 (.bool b5) rfl
      · exact hk.2 i hi (fun h => h.elim hn hig)
  · cases h
end Go.Proofs.Ytjmclghjhnbafaa.Print

/- What the asynchronous deframer's Held comes to, its variable lying where it may. -/
namespace Go.Proofs.Ytjmclghjhnbafaa.Print
open Go.RowKit Go.Proofs.YtjmclghjhnbafaaW.PrintWords Go.Proofs.YtjmclghjhnbafaaW.PrintLast Go.Proofs.YtjmclghjhnbafaaW.PrintMore
set_option linter.unusedVariables false
set_option maxHeartbeats 8000000 in
set_option maxRecDepth 100000 in
theorem df_held (g : Nat) (v0 v1 v3 v4 v5 : Value) (A : Option Addr) (n c : Nat) (w : World) (h : w.heap[g]? = some (.cells #[v0, v1, .slice A n c, v3, v4, v5] 58 (0, 0))) :
    Calls Try.prog 21 #[.pointer (some ⟨g, 0, none⟩)] w fun x w' => x = .returned (.int .i64 n) ∧ w' = w := by
  have hcz2 : w.cell? ⟨g, 2, none⟩ = some (.slice A n c) := (blk_cell h 2).trans rfl
  go_enter Try.func21, Try.ntmps21
  go_wp2
  go_ret
  exact ⟨rfl, rfl⟩
end Go.Proofs.Ytjmclghjhnbafaa.Print

/- A text that a program of this claim (wip/x) laid out of the translation: what Go functions come to, and that they come to it. Lean checks it. -/
namespace Go.Proofs.Ytjmclghjhnbafaa.Print
open Go.RowKit Go.Proofs.YtjmclghjhnbafaaW.PrintWords Go.Proofs.YtjmclghjhnbafaaW.PrintLast Go.Proofs.YtjmclghjhnbafaaW.PrintMore
attribute [local go_sem] max2_int min2_int max_two min_two max_three min_three max_four min_four   -- for this text's walks alone
set_option linter.unusedVariables false
set_option linter.unusedSimpArgs false

/-! ### slices_Grow_byte_byte: function 48 -/
def slices_Grow_byte_byte.f (l0 : List Int) (a1 : Int) : Option (List Int) := if 0 ≤ a1 then (if a1 < 140737488355328 then some [] else none) else none
set_option maxHeartbeats 8000000 in
set_option maxRecDepth 100000 in
theorem slices_Grow_byte_byte.calls (A0 : Option Addr) (c0 : Nat) (l0 : List Int) (a1 : Int) (r : List Int) (w : World) (hr0 : Kd.C (Kd.int .u8) w A0 l0.length l0) (hc0 : l0.length ≤ c0) (h : slices_Grow_byte_byte.f l0 a1 = some r) (hA : A0 = none := by rfl) (hc : c0 = 0 := by rfl) :
    Calls Try.prog 48 #[.slice A0 l0.length c0, .int .i64 a1] w fun e w' => ∃ v0_ : Value, e = .returned (v0_) ∧ Kd.R (Kd.int .u8) 5 w' w.heap.size (fun _ => True) v0_ r ∧ Below w.heap.size w w' := by
  subst hA
  subst hc
  obtain rfl : l0 = [] := List.eq_nil_of_length_eq_zero (by omega)
  clear hr0 hc0
  unfold slices_Grow_byte_byte.f at h
  by_cases h0 : 0 ≤ a1
  · rw [if_pos h0] at h
    by_cases h1 : a1 < 140737488355328
    · rw [if_pos h1] at h
      obtain rfl := Option.some.inj h
      clear h
      have L1 := Aside0.mk h0
      have L2 := Aside0.mk h1
      have HB := Aside0.mk (Below.refl w.heap.size w)
      have d0 : decide (a1 < 0) = false := decide_eq_false (by omega)
      have e1 : wrap64 a1 = a1 := by unfold wrap64; omega
      clear h0 h1
      by_cases h2 : 0 < a1
      · have d1 : decide (0 < a1) = true := decide_eq_true h2
        clear h2
        go_enter Try.func48, Try.ntmps48
        go_wp2_with (first | ((with_reducible refine gate_builtin (b := .append) (xs := #[.tmp 20, .tmp 21]) rfl ?_); at_builtin; refine Kd.R_append_zeros (Kd.int .u8) (w0 := w) w.heap.size rfl (.tmp 20) (.tmp 21) 28 3 5 (.int .u8 0) 1 rfl Try.underlying28 Try.underlying3 info5 rfl (by decide) (by omega) (.slice none 0 0) [] (0 : Int) (wrap64 a1) (fun _ => True) rfl rfl rfl (fun _ _ => trivial) (Kd.R_nil _ _ _ _ _) (by rw [e1]; exact L1.out) ?aB ?aS ?aL ?_; (case aB => exact (by repeat (first | (with_reducible first | exact HB.out | apply below_alloc | apply pw_below_drewN | apply below_drew1) | exact HB.out))); (case aS => exact (below_size (by repeat (first | (with_reducible first | exact HB.out | apply below_alloc | apply pw_below_drewN | apply below_drew1) | exact HB.out)))); (case aL => have h1_ := L1.out; have h2_ := L2.out; rw [e1]; simp only [List.length_nil]; omega); intro v2 w2 ho hb hg hat; have n0_ := Aside0.mk hb; have n1_ := Aside0.mk ho; clear HB hg hat ho hb; have HB := n0_; have HO := n1_; clear n0_ n1_; obtain ⟨A2, c2, eo2⟩ := Kd.R_slice HO.out; subst eo2))
        go_ret
        exact ⟨_, rfl, by have h3 := Kd.R_take HO.out (m := 0) (Nat.zero_le _); exact h3, HB.out⟩
      · have d1 : decide (0 < a1) = false := decide_eq_false h2
        clear h2
        go_enter Try.func48, Try.ntmps48
        go_wp2
        go_ret
        exact ⟨_, rfl, Kd.R_nil _ _ _ _ _, HB.out⟩
    · rw [if_neg h1] at h
      cases h
  · rw [if_neg h0] at h
    cases h


end Go.Proofs.Ytjmclghjhnbafaa.Print

/- A text that a program of this claim (wip/x) laid out of the translation: what Go functions come to, and that they come to it. Lean checks it. -/
namespace Go.Proofs.Ytjmclghjhnbafaa.Print
open Go.RowKit Go.Proofs.YtjmclghjhnbafaaW.PrintWords Go.Proofs.YtjmclghjhnbafaaW.PrintLast Go.Proofs.YtjmclghjhnbafaaW.PrintMore
attribute [local go_sem] max2_int min2_int max_two min_two max_three min_three max_four min_four   -- for this text's walks alone
set_option linter.unusedVariables false
set_option linter.unusedSimpArgs false

/-! ### slices_Concat_byte_byte: function 38 -/
mutual
def slices_Concat_byte_byte.l0 : Nat → List (List Int) → Int → List (List Int) → Int → Int → Option (List Int)
  | 0, _, _, _, _, _ => none
  | k + 1, x0, x3, x9, x10, x11 => if x11 < x10 then (if 0 ≤ x11 then (if x11 < (x9.length : Int) then (if (wrap64 (x3 + ((rd_L1 x9 x11).length : Int))) < 0 then (none) else (slices_Concat_byte_byte.l0 k x0 (wrap64 (x3 + ((rd_L1 x9 x11).length : Int))) x9 x10 (wrap64 (x11 + 1)))) else (none)) else (none)) else ((slices_Grow_byte_byte.f ([] : List Int) x3).bind fun t110 => (slices_Concat_byte_byte.l1 k t110 x0 (x0.length : Int) 0))
def slices_Concat_byte_byte.l1 : Nat → List Int → List (List Int) → Int → Int → Option (List Int)
  | 0, _, _, _, _ => none
  | k + 1, x6, x25, x26, x27 => if x27 < x26 then (if 0 ≤ x27 then (if x27 < (x25.length : Int) then (if x6.length + (rd_L1 x25 x27).length < 140737488355328 then (slices_Concat_byte_byte.l1 k (x6 ++ (rd_L1 x25 x27)) x25 x26 (wrap64 (x27 + 1))) else (none)) else (none)) else (none)) else (some x6)
end
def slices_Concat_byte_byte.f (k : Nat) (l0 : List (List Int)) : Option (List Int) := slices_Concat_byte_byte.l0 k l0 0 l0 (l0.length : Int) 0
theorem slices_Concat_byte_byte.mono_l : ∀ k, (∀ y0 y1 y2 y3 y4, LeO (slices_Concat_byte_byte.l0 k y0 y1 y2 y3 y4) (slices_Concat_byte_byte.l0 (k + 1) y0 y1 y2 y3 y4)) ∧ (∀ y0 y1 y2 y3, LeO (slices_Concat_byte_byte.l1 k y0 y1 y2 y3) (slices_Concat_byte_byte.l1 (k + 1) y0 y1 y2 y3))
  | 0 => ⟨fun _ _ _ _ _ r h => by simp [slices_Concat_byte_byte.l0] at h, fun _ _ _ _ r h => by simp [slices_Concat_byte_byte.l1] at h⟩
  | k + 1 => by
    obtain ⟨ih0, ih1⟩ := slices_Concat_byte_byte.mono_l k
    refine ⟨?_, ?_⟩
    · intro y0 y1 y2 y3 y4
      unfold slices_Concat_byte_byte.l0
      repeat' first
      | (with_reducible exact ih0 _ _ _ _ _)
      | (with_reducible exact ih1 _ _ _ _)
      | (with_reducible exact LeO.refl _)
      | (with_reducible exact LeO.none _)
      | (with_reducible refine LeO.ite ?_ ?_)
      | (with_reducible refine LeO.bind ?_ (fun _ => ?_))
      | exact ih0 _ _ _ _ _
      | exact ih1 _ _ _ _
      | exact LeO.none _
      | refine LeO.ite ?_ ?_
      | refine LeO.bind ?_ (fun _ => ?_)
    · intro y0 y1 y2 y3
      unfold slices_Concat_byte_byte.l1
      repeat' first
      | (with_reducible exact ih0 _ _ _ _ _)
      | (with_reducible exact ih1 _ _ _ _)
      | (with_reducible exact LeO.refl _)
      | (with_reducible exact LeO.none _)
      | (with_reducible refine LeO.ite ?_ ?_)
      | (with_reducible refine LeO.bind ?_ (fun _ => ?_))
      | exact ih0 _ _ _ _ _
      | exact ih1 _ _ _ _
      | exact LeO.none _
      | refine LeO.ite ?_ ?_
      | refine LeO.bind ?_ (fun _ => ?_)
theorem slices_Concat_byte_byte.mono : ∀ a0 k, LeO (slices_Concat_byte_byte.f k a0) (slices_Concat_byte_byte.f (k + 1) a0) := by
  intro a0 k
  obtain ⟨ih0, ih1⟩ := slices_Concat_byte_byte.mono_l k
  unfold slices_Concat_byte_byte.f
  repeat' first
      | (with_reducible exact ih0 _ _ _ _ _)
      | (with_reducible exact ih1 _ _ _ _)
      | (with_reducible exact LeO.refl _)
      | (with_reducible exact LeO.none _)
      | (with_reducible refine LeO.ite ?_ ?_)
      | (with_reducible refine LeO.bind ?_ (fun _ => ?_))
      | exact ih0 _ _ _ _ _
      | exact ih1 _ _ _ _
      | exact LeO.none _
      | refine LeO.ite ?_ ?_
      | refine LeO.bind ?_ (fun _ => ?_)
set_option maxHeartbeats 8000000 in
set_option maxRecDepth 100000 in
theorem slices_Concat_byte_byte.calls (k : Nat) (A0 : Option Addr) (c0 : Nat) (l0 : List (List Int)) (r : List Int) (w : World) (hr0 : Kd.C (Kd.slice 5 (Kd.int .u8)) w A0 l0.length l0) (hc0 : l0.length ≤ c0) (h : slices_Concat_byte_byte.f k l0 = some r) :
    Calls Try.prog 38 #[.slice A0 l0.length c0] w fun e w' => ∃ v0_ : Value, e = .returned (v0_) ∧ Kd.R (Kd.int .u8) 5 w' w.heap.size (fun _ => True) v0_ r ∧ Below w.heap.size w w' := by
  have HR0 := Aside0.mk hr0
  have HC0 := Aside0.mk hc0
  clear hr0 hc0
  have HB := Aside0.mk (Below.refl w.heap.size w)
  have H : (slices_Concat_byte_byte.l0 k l0 0 l0 (l0.length : Int) 0) = some r := h
  clear h
  have H' := Aside0.mk H
  clear H
  go_enter Try.func38, Try.ntmps38
  go_wp2
  go_loopg [3, 11] k (fun kq v3 v11 w' => ∃ (x3_1 : Int) (x11_1 : Int), v3 = .int .i64 x3_1 ∧ v11 = .int .i64 x11_1 ∧ Aside0 (slices_Concat_byte_byte.l0 kq l0 x3_1 l0 (l0.length : Int) x11_1 = some r) ∧ Aside0 (kq ≤ k) ∧ Aside0 (Below w.heap.size w w'))
  case atStart => exact ⟨(0), (0), (by first | rfl | (simp; done) | (simp [*]; done)), (by first | rfl | (simp; done) | (simp [*]; done)), H', ⟨Nat.le_refl _⟩, ⟨by repeat (first | (with_reducible first | exact HB.out | apply below_alloc | apply pw_below_drewN | apply below_drew1) | exact HB.out)⟩⟩
  case round =>
    clear H'
    obtain ⟨x3_1, x11_1, rfl, rfl, HA, HK1, HB⟩ := hrel
    cases gk with
    | zero => exact absurd HA.out (by simp [slices_Concat_byte_byte.l0])
    | succ k1 =>
      have H := HA.out
      clear HA
      simp only [slices_Concat_byte_byte.l0] at H
      by_cases c2 : x11_1 < (l0.length : Int)
      · rw [if_pos c2] at H
        have c2b0 : decide (x11_1 < (l0.length : Int)) = true := decide_eq_true c2
        clear c2
        by_cases c3 : 0 ≤ x11_1
        · rw [if_pos c3] at H
          have c3b0 : decide (0 ≤ x11_1) = true := decide_eq_true c3
          clear c3
          by_cases c4 : x11_1 < (l0.length : Int)
          · rw [if_pos c4] at H
            have c4b0 : decide (x11_1 < (l0.length : Int)) = true := decide_eq_true c4
            clear c4
            by_cases c5 : (wrap64 (x3_1 + ((rd_L1 l0 x11_1).length : Int))) < 0
            · rw [if_pos c5] at H
              exact absurd H (by simp)
            · rw [if_neg c5] at H
              have c5b0 : decide ((wrap64 (x3_1 + ((rd_L1 l0 x11_1).length : Int))) < 0) = false := decide_eq_false c5
              clear c5
              have H' := Aside0.mk H
              clear H
              have p109 : 0 ≤ (x11_1 : Int) := of_decide_eq_true (by first | (with_reducible assumption) | assumption)
              have q109 : x11_1 < (l0.length : Int) := of_decide_eq_true (by first | (with_reducible assumption) | assumption)
              (try clear hHeld)
              obtain ⟨ad109, A109_0, c109_0, e109, hx109_0, hl109_0, hi109_0⟩ := at_L1 HR0.out x11_1 p109 q109
              cases e109
              replace hx109_0 := (HB.out.cell (World.block_lt_of_cell? w _ hx109_0)).trans hx109_0
              have HR109_0 := Aside0.mk hi109_0
              have HC109_0 := Aside0.mk hl109_0
              clear hi109_0 hl109_0
              replace p109 := eq_true p109
              replace q109 := eq_true q109
              go_wp2
              go_roundg k1
              case measure => have := HK1.out; omega
              case rel => exact ⟨(wrap64 (x3_1 + ((rd_L1 l0 x11_1).length : Int))), (wrap64 (x11_1 + 1)), (by first | rfl | (simp; done) | (simp [*]; done)), (by first | rfl | (simp; done) | (simp [*]; done)), H', ⟨by have := HK1.out; omega⟩, ⟨by repeat (first | (with_reducible first | exact HB.out | apply below_alloc | apply pw_below_drewN | apply below_drew1) | exact HB.out)⟩⟩
          · rw [if_neg c4] at H
            exact absurd H (by simp)
        · rw [if_neg c3] at H
          exact absurd H (by simp)
      · rw [if_neg c2] at H
        have c2b0 : decide (x11_1 < (l0.length : Int)) = false := decide_eq_false c2
        clear c2
        replace H := Option.bind_eq_some_iff.mp H
        obtain ⟨t110, A60, H⟩ := H
        replace H : (slices_Concat_byte_byte.l1 k1 t110 l0 (l0.length : Int) 0) = some r := H
        have A6 := Aside0.mk A60
        clear A60
        have H' := Aside0.mk H
        clear H
        go_wp2_with (first | ((with_reducible refine gate_callee (f := 48) rfl ?_); refine goesL_ (some 24) rfl rfl Try.func48 (by kernel_rfl) rfl #[.slice none 0 0, .int .i64 x3_1] rfl (by (try simp only [List.map_toArray, List.map_cons, List.map_nil]); first | done | rfl | (simp only [List.length_drop, List.length_take]; rfl)) ?_; (refine (slices_Grow_byte_byte.calls _ _ ([] : List Int) x3_1 t110 _ ?side1 ?side2 A6.out).mono ?_); (case side1 => exact Kd.C_nil _ _); (case side2 => exact Nat.le_refl _); rintro e w7 ⟨v111, rfl, ho0, hb⟩; refine ⟨_, rfl, ?_⟩; have n0_ := Aside0.mk (Kd.R_lower ho0 (below_size (by repeat (first | (with_reducible first | exact HB.out | apply below_alloc | apply pw_below_drewN | apply below_drew1) | exact HB.out)))); have n1_ := Aside0.mk (below_step (by repeat (first | (with_reducible first | exact HB.out | apply below_alloc | apply pw_below_drewN | apply below_drew1) | exact HB.out)) hb); clear HB; have HO112 := n0_; have HB := n1_; clear n0_ n1_; (try clear hb); (try clear hb2); (try clear hk); (try clear hi); (try clear ho0)))
        go_loopg [6, 27] k1 (fun kq v6 v27 w' => ∃ (x6_2 : List Int) (x27_2 : Int), v27 = .int .i64 x27_2 ∧ Aside0 (slices_Concat_byte_byte.l1 kq x6_2 l0 (l0.length : Int) x27_2 = some r) ∧ Aside0 (kq ≤ k1) ∧ Aside0 (Kd.R (Kd.int .u8) 5 w' w.heap.size (fun _ => True) v6 x6_2) ∧ Aside0 (Below w.heap.size w w'))
        case atStart => exact ⟨(t110), (0), (by first | rfl | (simp; done) | (simp [*]; done)), H', ⟨Nat.le_refl _⟩, ⟨by (with_reducible repeat (first | apply Kd.R_alloc | apply Kd.R_drewN | apply Kd.R_drew)); exact HO112.out⟩, ⟨by repeat (first | (with_reducible first | exact HB.out | apply below_alloc | apply pw_below_drewN | apply below_drew1) | exact HB.out)⟩⟩
        case round =>
          clear H'
          try clear c1
          try clear p1
          try clear q1
          try clear hx1
          try clear c2
          try clear c2b0
          try clear p2
          try clear c3
          try clear c3b0
          try clear c4
          try clear c4b0
          try clear c5
          try clear c5b0
          try clear p6
          try clear hx109_0
          try clear p109
          try clear q109
          obtain ⟨x6_2, x27_2, rfl, HA, HK2, HO_6, HB⟩ := hrel
          cases gk with
          | zero => exact absurd HA.out (by simp [slices_Concat_byte_byte.l1])
          | succ k2 =>
            have H := HA.out
            clear HA
            simp only [slices_Concat_byte_byte.l1] at H
            by_cases c8 : x27_2 < (l0.length : Int)
            · rw [if_pos c8] at H
              have c8b0 : decide (x27_2 < (l0.length : Int)) = true := decide_eq_true c8
              clear c8
              by_cases c9 : 0 ≤ x27_2
              · rw [if_pos c9] at H
                have c9b0 : decide (0 ≤ x27_2) = true := decide_eq_true c9
                clear c9
                by_cases c10 : x27_2 < (l0.length : Int)
                · rw [if_pos c10] at H
                  have c10b0 : decide (x27_2 < (l0.length : Int)) = true := decide_eq_true c10
                  clear c10
                  by_cases c11 : x6_2.length + (rd_L1 l0 x27_2).length < 140737488355328
                  · rw [if_pos c11] at H
                    have LMc11 := Aside0.mk c11
                    clear c11
                    obtain ⟨y114, hy114⟩ : ∃ y_ : List Int, y_ = (x6_2 ++ (rd_L1 l0 x27_2)) := ⟨_, rfl⟩
                    replace H : (slices_Concat_byte_byte.l1 k2 y114 l0 (l0.length : Int) (wrap64 (x27_2 + 1))) = some r := by first | (rw [hy114]; with_reducible exact H) | (have H2_ := (Option.bind_some _ _).symm.trans H; rw [hy114]; with_reducible exact H2_) | (have H2_ := (Option.bind_some _ _).symm.trans H; with_reducible exact H2_) | with_reducible exact H | (rw [hy114]; exact H) | exact H
                    have Ny114 := Aside0.mk hy114
                    clear hy114
                    have H' := Aside0.mk H
                    clear H
                    have p113 : 0 ≤ (x27_2 : Int) := of_decide_eq_true (by first | (with_reducible assumption) | assumption)
                    have q113 : x27_2 < (l0.length : Int) := of_decide_eq_true (by first | (with_reducible assumption) | assumption)
                    (try clear hHeld)
                    obtain ⟨ad113, A113_0, c113_0, e113, hx113_0, hl113_0, hi113_0⟩ := at_L1 HR0.out x27_2 p113 q113
                    cases e113
                    replace hx113_0 := (HB.out.cell (World.block_lt_of_cell? w _ hx113_0)).trans hx113_0
                    have HR113_0 := Aside0.mk hi113_0
                    have HC113_0 := Aside0.mk hl113_0
                    clear hi113_0 hl113_0
                    replace p113 := eq_true p113
                    replace q113 := eq_true q113
                    go_wp2_with (first | ((with_reducible refine gate_builtin (b := .append) (xs := #[.tmp 31, .tmp 32]) rfl ?_); at_builtin; refine Kd.R_append_rows (Kd.int .u8) (w0 := w) w.heap.size rfl (.tmp 31) (.tmp 32) 28 5 (.int .u8 0) 1 rfl Try.underlying28 info5 rfl (by decide) (by omega) u6 x6_2 (rd_L1 l0 x27_2) _ _ _ (fun _ => True) (fun _ => False) rfl rfl ?aO ?aR (fun _ _ h => h) (fun _ h => h.elim) ?aF ?aB ?aS ?aL ?_; (case aR => repeat (first | exact (Kd.C_below HR113_0.out HB.out) | (with_reducible refine Kd.C_alloc ?_ _) | (with_reducible refine Kd.C_drewN ?_ _) | (with_reducible refine Kd.C_drew ?_))); (case aB => exact (by repeat (first | (with_reducible first | exact HB.out | apply below_alloc | apply pw_below_drewN | apply below_drew1) | exact HB.out))); (case aF => exact (fun _ _ => trivial)); (case aO => exact (by (with_reducible repeat (first | apply Kd.R_alloc | apply Kd.R_drewN | apply Kd.R_drew)); exact HO_6.out)); (case aS => exact (below_size (by repeat (first | (with_reducible first | exact HB.out | apply below_alloc | apply pw_below_drewN | apply below_drew1) | exact HB.out)))); (case aL => have := LMc11.out; omega); intro v115 w12 ho hb hg hat; rw [← Ny114.out] at ho; have n0_ := Aside0.mk (hb); have n1_ := Aside0.mk (ho); clear HB; clear HO_6; have HB := n0_; have HO116 := n1_; clear n0_ n1_; clear ho hb hg hat))
                    go_roundg k2
                    case measure => have := HK1.out; have := HK2.out; omega
                    case rel => exact ⟨(y114), (wrap64 (x27_2 + 1)), (by first | rfl | (simp; done) | (simp [*]; done)), H', ⟨by have := HK1.out; have := HK2.out; omega⟩, ⟨by (with_reducible repeat (first | apply Kd.R_alloc | apply Kd.R_drewN | apply Kd.R_drew)); exact HO116.out⟩, ⟨by repeat (first | (with_reducible first | exact HB.out | apply below_alloc | apply pw_below_drewN | apply below_drew1) | exact HB.out)⟩⟩
                  · rw [if_neg c11] at H
                    exact absurd H (by simp)
                · rw [if_neg c10] at H
                  exact absurd H (by simp)
              · rw [if_neg c9] at H
                exact absurd H (by simp)
            · rw [if_neg c8] at H
              have c8b0 : decide (x27_2 < (l0.length : Int)) = false := decide_eq_false c8
              clear c8
              obtain rfl := Option.some.inj H
              go_wp2
              go_ret
              exact ⟨_, by first | rfl | (simp [errW_none, errW_some] <;> rfl) | (simp [*, errW_none, errW_some] <;> rfl), by (with_reducible repeat (first | apply Kd.R_alloc | apply Kd.R_drewN | apply Kd.R_drew)); exact HO_6.out, by repeat (first | (with_reducible first | exact HB.out | apply below_alloc | apply pw_below_drewN | apply below_drew1) | exact HB.out)⟩

end Go.Proofs.Ytjmclghjhnbafaa.Print

/- A text that a program of this claim (wip/x) laid out of the translation: what Go functions come to, and that they come to it. Lean checks it. -/
namespace Go.Proofs.Ytjmclghjhnbafaa.Print
open Go.RowKit Go.Proofs.YtjmclghjhnbafaaW.PrintWords Go.Proofs.YtjmclghjhnbafaaW.PrintLast Go.Proofs.YtjmclghjhnbafaaW.PrintMore
attribute [local go_sem] max2_int min2_int max_two min_two max_three min_three max_four min_four   -- for this text's walks alone
set_option linter.unusedVariables false
set_option linter.unusedSimpArgs false

/-! ### accm_Must: function 50 -/
def accm_Must.j0 : Nat → Int → Int → Bool → Option (Bool)
  | 0, _, _, _ => none
  | k + 1, x0, x1, x6 => if x6 = true then (some true) else ((accm_Has.f x0 x1).bind fun t117 => (some t117))
def accm_Must.f (k : Nat) (a0 : Int) (a1 : Int) : Option (Bool) := if a1 = 126 then (accm_Must.j0 k a0 a1 (a1 == 126)) else (accm_Must.j0 k a0 a1 (a1 == 125))
theorem accm_Must.mono_l : ∀ k, (∀ y0 y1 y2, LeO (accm_Must.j0 k y0 y1 y2) (accm_Must.j0 (k + 1) y0 y1 y2))
  | 0 => fun _ _ _ r h => by simp [accm_Must.j0] at h
  | k + 1 => by
    have ih0 := accm_Must.mono_l k
    · intro y0 y1 y2
      unfold accm_Must.j0
      repeat' first
      | (with_reducible exact ih0 _ _ _)
      | (with_reducible exact LeO.refl _)
      | (with_reducible exact LeO.none _)
      | (with_reducible refine LeO.ite ?_ ?_)
      | (with_reducible refine LeO.bind ?_ (fun _ => ?_))
      | exact ih0 _ _ _
      | exact LeO.none _
      | refine LeO.ite ?_ ?_
      | refine LeO.bind ?_ (fun _ => ?_)
theorem accm_Must.mono : ∀ a0 a1 k, LeO (accm_Must.f k a0 a1) (accm_Must.f (k + 1) a0 a1) := by
  intro a0 a1 k
  have ih0 := accm_Must.mono_l k
  unfold accm_Must.f
  repeat' first
      | (with_reducible exact ih0 _ _ _)
      | (with_reducible exact LeO.refl _)
      | (with_reducible exact LeO.none _)
      | (with_reducible refine LeO.ite ?_ ?_)
      | (with_reducible refine LeO.bind ?_ (fun _ => ?_))
      | exact ih0 _ _ _
      | exact LeO.none _
      | refine LeO.ite ?_ ?_
      | refine LeO.bind ?_ (fun _ => ?_)
set_option maxHeartbeats 8000000 in
set_option maxRecDepth 100000 in
theorem accm_Must.calls (k : Nat) (a0 : Int) (a1 : Int) (r : Bool) (w : World) (h : accm_Must.f k a0 a1 = some r) :
    Calls Try.prog 50 #[.int .u32 a0, .int .u8 a1] w fun e w' => e = .returned (.bool r) ∧ Drawn0 w w' := by
  have H : (if a1 = 126 then (accm_Must.j0 k a0 a1 (a1 == 126)) else (accm_Must.j0 k a0 a1 (a1 == 125))) = some r := h
  clear h
  have HC3 := Aside0.mk H
  clear H
  go_enter Try.func50, Try.ntmps50
  go_upto_if 6 with (fail)
  go_cut [6] (fun v6 wc => ∃ (kq : Nat) (x6_2 : Bool), v6 = .bool x6_2 ∧ Aside0 (accm_Must.j0 kq a0 a1 x6_2 = some r) ∧ Aside0 (kq ≤ k) ∧ Drawn0 w wc)
  case first =>
    have H := HC3.out
    clear HC3
    by_cases c4 : a1 = 126
    · rw [if_pos c4] at H
      have c4b0 : (a1 == 126) = true := beq_iff_eq.mpr c4
      have c4b1 : (a1 != 126) = false := bne_eq_false_iff_eq.mpr c4
      clear c4
      (first | rw [c4b0] | (simp only [i64_w, i32_w]; rw [c4b0]) | skip)
      have H' := Aside0.mk H
      clear H
      go_wp2
      go_meet
      case rel => exact ⟨_, ((a1 == 126)), (by first | rfl | (simp; done) | (simp [*]; done)), H', ⟨by first | omega | exact Nat.le_refl _⟩, by repeat (first | exact Drawn0.refl _ | apply Drawn0.step)⟩
    · rw [if_neg c4] at H
      have c4b0 : (a1 == 126) = false := beq_eq_false_iff_ne.mpr c4
      have c4b1 : (a1 != 126) = true := bne_iff_ne.mpr c4
      (first | rw [c4b0] | (simp only [i64_w, i32_w]; rw [c4b0]) | skip)
      have H' := Aside0.mk H
      clear H
      go_wp2
      go_meet
      case rel => exact ⟨_, ((a1 == 125)), (by first | rfl | (simp; done) | (simp [*]; done)), H', ⟨by first | omega | exact Nat.le_refl _⟩, by repeat (first | exact Drawn0.refl _ | apply Drawn0.step)⟩
  case rest =>
    clear HC3
    try clear p2
    try clear c4
    try clear c4b0
    try clear c4b1
    obtain ⟨kq, x6_2, rfl, HA, HJ2, ⟨mc2, rfl⟩⟩ := hcut
    cases kq with
    | zero => exact absurd HA.out (by simp [accm_Must.j0])
    | succ kj2 =>
      have H := HA.out
      clear HA
      simp only [accm_Must.j0] at H
      by_cases c5 : x6_2 = true
      · subst c5
        have H1 : (some true) = some r := by rw [if_pos rfl] at H; exact H
        clear H
        have H := H1
        clear H1
        obtain rfl := Option.some.inj H
        go_wp2
        go_ret
        exact ⟨by first | rfl | (simp; done) | (simp [*]; done), by repeat (first | exact Drawn0.refl _ | apply Drawn0.step)⟩
      · replace c5 := Bool.eq_false_iff.mpr c5
        subst c5
        have H1 : ((accm_Has.f a0 a1).bind fun t117 => (some t117)) = some r := by rw [if_neg (show ¬ (false = true) by decide)] at H; exact H
        clear H
        have H := H1
        clear H1
        replace H := Option.bind_eq_some_iff.mp H
        obtain ⟨t117, A60, H⟩ := H
        replace H : (some t117) = some r := H
        have A6 := Aside0.mk A60
        clear A60
        obtain rfl := Option.some.inj H
        go_wp2_with (first | ((with_reducible refine gate_callee (f := 33) rfl ?_); refine goesL_ (some 11) rfl rfl Try.func33 (by kernel_rfl) rfl #[.int .u32 a0, .int .u8 a1] rfl (by (try simp only [List.map_toArray, List.map_cons, List.map_nil]); first | done | rfl | (simp only [List.length_drop, List.length_take]; rfl)) ?_; (with_reducible refine (accm_Has.calls a0 a1 t117 _ A6.out).mono ?_); rintro e w' ⟨rfl, ⟨nd, rfl⟩⟩; refine ⟨_, rfl, ?_⟩))
        go_ret
        exact ⟨by first | rfl | (simp; done) | (simp [*]; done), by repeat (first | exact Drawn0.refl _ | apply Drawn0.step)⟩

end Go.Proofs.Ytjmclghjhnbafaa.Print

/- A text that a program of this claim (wip/x) laid out of the translation: what Go functions come to, and that they come to it. Lean checks it. -/
namespace Go.Proofs.Ytjmclghjhnbafaa.Print
open Go.RowKit Go.Proofs.YtjmclghjhnbafaaW.PrintWords Go.Proofs.YtjmclghjhnbafaaW.PrintLast Go.Proofs.YtjmclghjhnbafaaW.PrintMore
attribute [local go_sem] max2_int min2_int max_two min_two max_three min_three max_four min_four   -- for this text's walks alone
set_option linter.unusedVariables false
set_option linter.unusedSimpArgs false

/-! ### stuff_Size: function 49 -/
def stuff_Size.l0 : Nat → Int → Int → List Int → Int → Int → Option (Int)
  | 0, _, _, _, _, _ => none
  | k + 1, x0, x5, x10, x11, x12 => if x12 < x11 then (if 0 ≤ x12 then (if x12 < (x10.length : Int) then ((accm_Must.f k x0 (rd x10 x12)).bind fun t119 => (if t119 = true then (stuff_Size.l0 k x0 (wrap64 (x5 + 1)) x10 x11 (wrap64 (x12 + 1))) else (stuff_Size.l0 k x0 x5 x10 x11 (wrap64 (x12 + 1))))) else (none)) else (none)) else (some x5)
def stuff_Size.f (k : Nat) (a0 : Int) (l1 : List Int) : Option (Int) := stuff_Size.l0 k a0 (l1.length : Int) l1 (l1.length : Int) 0
theorem stuff_Size.mono_l : ∀ k, (∀ y0 y1 y2 y3 y4, LeO (stuff_Size.l0 k y0 y1 y2 y3 y4) (stuff_Size.l0 (k + 1) y0 y1 y2 y3 y4))
  | 0 => fun _ _ _ _ _ r h => by simp [stuff_Size.l0] at h
  | k + 1 => by
    have ih0 := stuff_Size.mono_l k
    · intro y0 y1 y2 y3 y4
      unfold stuff_Size.l0
      repeat' first
      | (with_reducible exact ih0 _ _ _ _ _)
      | (with_reducible exact accm_Must.mono _ _ _)
      | (with_reducible exact LeO.refl _)
      | (with_reducible exact LeO.none _)
      | (with_reducible refine LeO.ite ?_ ?_)
      | (with_reducible refine LeO.bind ?_ (fun _ => ?_))
      | exact ih0 _ _ _ _ _
      | exact accm_Must.mono _ _ _
      | exact LeO.none _
      | refine LeO.ite ?_ ?_
      | refine LeO.bind ?_ (fun _ => ?_)
theorem stuff_Size.mono : ∀ a0 a1 k, LeO (stuff_Size.f k a0 a1) (stuff_Size.f (k + 1) a0 a1) := by
  intro a0 a1 k
  have ih0 := stuff_Size.mono_l k
  unfold stuff_Size.f
  repeat' first
      | (with_reducible exact ih0 _ _ _ _ _)
      | (with_reducible exact accm_Must.mono _ _ _)
      | (with_reducible exact LeO.refl _)
      | (with_reducible exact LeO.none _)
      | (with_reducible refine LeO.ite ?_ ?_)
      | (with_reducible refine LeO.bind ?_ (fun _ => ?_))
      | exact ih0 _ _ _ _ _
      | exact accm_Must.mono _ _ _
      | exact LeO.none _
      | refine LeO.ite ?_ ?_
      | refine LeO.bind ?_ (fun _ => ?_)
set_option maxHeartbeats 8000000 in
set_option maxRecDepth 100000 in
theorem stuff_Size.calls (k : Nat) (a0 : Int) (A1 : Option Addr) (c1 : Nat) (l1 : List Int) (r : Int) (w : World) (hr1 : Kd.C (Kd.int .u8) w A1 l1.length l1) (hc1 : l1.length ≤ c1) (h : stuff_Size.f k a0 l1 = some r) :
    Calls Try.prog 49 #[.int .u32 a0, .slice A1 l1.length c1] w fun e w' => e = .returned (.int .i64 r) ∧ Drawn0 w w' := by
  have HR1 := Aside0.mk hr1
  have HC1 := Aside0.mk hc1
  clear hr1 hc1
  have H : (stuff_Size.l0 k a0 (l1.length : Int) l1 (l1.length : Int) 0) = some r := h
  clear h
  have H' := Aside0.mk H
  clear H
  go_enter Try.func49, Try.ntmps49
  go_wp2
  go_loopg [5, 12] k (fun kq v5 v12 w' => ∃ (x5_1 : Int) (x12_1 : Int), v5 = .int .i64 x5_1 ∧ v12 = .int .i64 x12_1 ∧ Aside0 (stuff_Size.l0 kq a0 x5_1 l1 (l1.length : Int) x12_1 = some r) ∧ Aside0 (kq ≤ k) ∧ Drawn0 w w')
  case atStart => exact ⟨((l1.length : Int)), (0), (by first | rfl | (simp; done) | (simp [*]; done)), (by first | rfl | (simp; done) | (simp [*]; done)), H', ⟨Nat.le_refl _⟩, by repeat (first | exact Drawn0.refl _ | apply Drawn0.step)⟩
  case round =>
    clear H'
    try clear c1
    try clear p2
    obtain ⟨x5_1, x12_1, rfl, rfl, HA, HK1, ⟨m1, rfl⟩⟩ := hrel
    cases gk with
    | zero => exact absurd HA.out (by simp [stuff_Size.l0])
    | succ k1 =>
      have H := HA.out
      clear HA
      simp only [stuff_Size.l0] at H
      by_cases c3 : x12_1 < (l1.length : Int)
      · rw [if_pos c3] at H
        have c3b0 : decide (x12_1 < (l1.length : Int)) = true := decide_eq_true c3
        clear c3
        by_cases c4 : 0 ≤ x12_1
        · rw [if_pos c4] at H
          have c4b0 : decide (0 ≤ x12_1) = true := decide_eq_true c4
          clear c4
          by_cases c5 : x12_1 < (l1.length : Int)
          · rw [if_pos c5] at H
            have c5b0 : decide (x12_1 < (l1.length : Int)) = true := decide_eq_true c5
            clear c5
            replace H := Option.bind_eq_some_iff.mp H
            obtain ⟨t119, A60, H⟩ := H
            replace H : (if t119 = true then (stuff_Size.l0 k1 a0 (wrap64 (x5_1 + 1)) l1 (l1.length : Int) (wrap64 (x12_1 + 1))) else (stuff_Size.l0 k1 a0 x5_1 l1 (l1.length : Int) (wrap64 (x12_1 + 1)))) = some r := H
            have A6 := Aside0.mk A60
            clear A60
            by_cases c7 : t119 = true
            · subst c7
              have H1 : (stuff_Size.l0 k1 a0 (wrap64 (x5_1 + 1)) l1 (l1.length : Int) (wrap64 (x12_1 + 1))) = some r := by rw [if_pos rfl] at H; exact H
              clear H
              have H := H1
              clear H1
              have H' := Aside0.mk H
              clear H
              have p118 : 0 ≤ (x12_1 : Int) := of_decide_eq_true (by first | (with_reducible assumption) | assumption)
              have q118 : x12_1 < (l1.length : Int) := of_decide_eq_true (by first | (with_reducible assumption) | assumption)
              obtain ⟨ad118, e118, hx118_0⟩ := Kd.at_int HR1.out x12_1 p118 q118
              cases e118
              replace p118 := eq_true p118
              replace q118 := eq_true q118
              go_wp2_with (first | ((with_reducible refine gate_callee (f := 50) rfl ?_); refine goesL_ (some 18) rfl rfl Try.func50 (by kernel_rfl) rfl #[.int .u32 a0, .int .u8 (rd l1 x12_1)] rfl (by (try simp only [List.map_toArray, List.map_cons, List.map_nil]); first | done | rfl | (simp only [List.length_drop, List.length_take]; rfl)) ?_; (with_reducible refine (accm_Must.calls k1 a0 (rd l1 x12_1) true _ A6.out).mono ?_); rintro e w' ⟨rfl, ⟨nd, rfl⟩⟩; refine ⟨_, rfl, ?_⟩))
              go_roundg k1
              case measure => have := HK1.out; omega
              case rel => exact ⟨(wrap64 (x5_1 + 1)), (wrap64 (x12_1 + 1)), (by first | rfl | (simp; done) | (simp [*]; done)), (by first | rfl | (simp; done) | (simp [*]; done)), H', ⟨by have := HK1.out; omega⟩, by repeat (first | exact Drawn0.refl _ | apply Drawn0.step)⟩
            · replace c7 := Bool.eq_false_iff.mpr c7
              subst c7
              have H1 : (stuff_Size.l0 k1 a0 x5_1 l1 (l1.length : Int) (wrap64 (x12_1 + 1))) = some r := by rw [if_neg (show ¬ (false = true) by decide)] at H; exact H
              clear H
              have H := H1
              clear H1
              have H' := Aside0.mk H
              clear H
              have p118 : 0 ≤ (x12_1 : Int) := of_decide_eq_true (by first | (with_reducible assumption) | assumption)
              have q118 : x12_1 < (l1.length : Int) := of_decide_eq_true (by first | (with_reducible assumption) | assumption)
              obtain ⟨ad118, e118, hx118_0⟩ := Kd.at_int HR1.out x12_1 p118 q118
              cases e118
              replace p118 := eq_true p118
              replace q118 := eq_true q118
              go_wp2_with (first | ((with_reducible refine gate_callee (f := 50) rfl ?_); refine goesL_ (some 18) rfl rfl Try.func50 (by kernel_rfl) rfl #[.int .u32 a0, .int .u8 (rd l1 x12_1)] rfl (by (try simp only [List.map_toArray, List.map_cons, List.map_nil]); first | done | rfl | (simp only [List.length_drop, List.length_take]; rfl)) ?_; (with_reducible refine (accm_Must.calls k1 a0 (rd l1 x12_1) false _ A6.out).mono ?_); rintro e w' ⟨rfl, ⟨nd, rfl⟩⟩; refine ⟨_, rfl, ?_⟩))
              go_roundg k1
              case measure => have := HK1.out; omega
              case rel => exact ⟨(x5_1), (wrap64 (x12_1 + 1)), (by first | rfl | (simp; done) | (simp [*]; done)), (by first | rfl | (simp; done) | (simp [*]; done)), H', ⟨by have := HK1.out; omega⟩, by repeat (first | exact Drawn0.refl _ | apply Drawn0.step)⟩
          · rw [if_neg c5] at H
            exact absurd H (by simp)
        · rw [if_neg c4] at H
          exact absurd H (by simp)
      · rw [if_neg c3] at H
        have c3b0 : decide (x12_1 < (l1.length : Int)) = false := decide_eq_false c3
        clear c3
        obtain rfl := Option.some.inj H
        go_wp2
        go_ret
        exact ⟨by first | rfl | (simp; done) | (simp [*]; done), by repeat (first | exact Drawn0.refl _ | apply Drawn0.step)⟩

end Go.Proofs.Ytjmclghjhnbafaa.Print

/- A text that a program of this claim (wip/x) laid out of the translation: what Go functions come to, and that they come to it. Lean checks it. -/
namespace Go.Proofs.Ytjmclghjhnbafaa.Print
open Go.RowKit Go.Proofs.YtjmclghjhnbafaaW.PrintWords Go.Proofs.YtjmclghjhnbafaaW.PrintLast Go.Proofs.YtjmclghjhnbafaaW.PrintMore
attribute [local go_sem] max2_int min2_int max_two min_two max_three min_three max_four min_four   -- for this text's walks alone
set_option linter.unusedVariables false
set_option linter.unusedSimpArgs false

/-! ### stuff_Stuff: function 39 -/
def stuff_Stuff.l0 : Nat → Int → List Int → List Int → Int → Int → Option (List Int)
  | 0, _, _, _, _, _ => none
  | k + 1, x0, x5, x12, x13, x14 => if x14 < x13 then (if 0 ≤ x14 then (if x14 < (x12.length : Int) then ((accm_Must.f k x0 (rd x12 x14)).bind fun t125 => (if t125 = true then (if x5.length < 140737488355328 then ((some (x5 ++ [125] : List Int)).bind fun y126 => (if y126.length < 140737488355328 then (stuff_Stuff.l0 k x0 (y126 ++ [Go.bits .xor .u8 (rd x12 x14) 32]) x12 x13 (wrap64 (x14 + 1))) else (none))) else (none)) else (if x5.length < 140737488355328 then (stuff_Stuff.l0 k x0 (x5 ++ [rd x12 x14]) x12 x13 (wrap64 (x14 + 1))) else (none)))) else (none)) else (none)) else (some x5)
def stuff_Stuff.f (k : Nat) (a0 : Int) (l1 : List Int) : Option (List Int) := (stuff_Size.f k a0 l1).bind fun t120 => (if 0 ≤ t120 then (if (t120 : Int).toNat ≤ 281474976710656 then (stuff_Stuff.l0 k a0 (([] : List Int)) l1 (l1.length : Int) 0) else (none)) else (none))
theorem stuff_Stuff.mono_l : ∀ k, (∀ y0 y1 y2 y3 y4, LeO (stuff_Stuff.l0 k y0 y1 y2 y3 y4) (stuff_Stuff.l0 (k + 1) y0 y1 y2 y3 y4))
  | 0 => fun _ _ _ _ _ r h => by simp [stuff_Stuff.l0] at h
  | k + 1 => by
    have ih0 := stuff_Stuff.mono_l k
    · intro y0 y1 y2 y3 y4
      unfold stuff_Stuff.l0
      repeat' first
      | (with_reducible exact ih0 _ _ _ _ _)
      | (with_reducible exact accm_Must.mono _ _ _)
      | (with_reducible exact stuff_Size.mono _ _ _)
      | (with_reducible exact LeO.refl _)
      | (with_reducible exact LeO.none _)
      | (with_reducible refine LeO.ite ?_ ?_)
      | (with_reducible refine LeO.bind ?_ (fun _ => ?_))
      | exact ih0 _ _ _ _ _
      | exact accm_Must.mono _ _ _
      | exact stuff_Size.mono _ _ _
      | exact LeO.none _
      | refine LeO.ite ?_ ?_
      | refine LeO.bind ?_ (fun _ => ?_)
theorem stuff_Stuff.mono : ∀ a0 a1 k, LeO (stuff_Stuff.f k a0 a1) (stuff_Stuff.f (k + 1) a0 a1) := by
  intro a0 a1 k
  have ih0 := stuff_Stuff.mono_l k
  unfold stuff_Stuff.f
  repeat' first
      | (with_reducible exact ih0 _ _ _ _ _)
      | (with_reducible exact accm_Must.mono _ _ _)
      | (with_reducible exact stuff_Size.mono _ _ _)
      | (with_reducible exact LeO.refl _)
      | (with_reducible exact LeO.none _)
      | (with_reducible refine LeO.ite ?_ ?_)
      | (with_reducible refine LeO.bind ?_ (fun _ => ?_))
      | exact ih0 _ _ _ _ _
      | exact accm_Must.mono _ _ _
      | exact stuff_Size.mono _ _ _
      | exact LeO.none _
      | refine LeO.ite ?_ ?_
      | refine LeO.bind ?_ (fun _ => ?_)
set_option maxHeartbeats 8000000 in
set_option maxRecDepth 100000 in
theorem stuff_Stuff.calls (k : Nat) (a0 : Int) (A1 : Option Addr) (c1 : Nat) (l1 : List Int) (r : List Int) (w : World) (hr1 : Kd.C (Kd.int .u8) w A1 l1.length l1) (hc1 : l1.length ≤ c1) (h : stuff_Stuff.f k a0 l1 = some r) :
    Calls Try.prog 39 #[.int .u32 a0, .slice A1 l1.length c1] w fun e w' => ∃ v0_ : Value, e = .returned (v0_) ∧ Kd.R (Kd.int .u8) 5 w' w.heap.size (fun _ => True) v0_ r ∧ Below w.heap.size w w' := by
  have HR1 := Aside0.mk hr1
  have HC1 := Aside0.mk hc1
  clear hr1 hc1
  have HB := Aside0.mk (Below.refl w.heap.size w)
  have H : ((stuff_Size.f k a0 l1).bind fun t120 => (if 0 ≤ t120 then (if (t120 : Int).toNat ≤ 281474976710656 then (stuff_Stuff.l0 k a0 (([] : List Int)) l1 (l1.length : Int) 0) else (none)) else (none))) = some r := h
  clear h
  replace H := Option.bind_eq_some_iff.mp H
  obtain ⟨t120, A30, H⟩ := H
  replace H : (if 0 ≤ t120 then (if (t120 : Int).toNat ≤ 281474976710656 then (stuff_Stuff.l0 k a0 (([] : List Int)) l1 (l1.length : Int) 0) else (none)) else (none)) = some r := H
  have A3 := Aside0.mk A30
  clear A30
  by_cases c4 : 0 ≤ t120
  · rw [if_pos c4] at H
    have c4b0 := eq_true c4
    have c4b1 : decide (0 ≤ t120) = true := decide_eq_true c4
    clear c4
    by_cases c5 : (t120 : Int).toNat ≤ 281474976710656
    · rw [if_pos c5] at H
      have c5b0 := eq_true c5
      have c5b1 : decide ((t120 : Int).toNat ≤ 281474976710656) = true := decide_eq_true c5
      clear c5
      obtain ⟨y121, hy121⟩ : ∃ y_ : List Int, y_ = (([] : List Int)) := ⟨_, rfl⟩
      replace H : (stuff_Stuff.l0 k a0 y121 l1 (l1.length : Int) 0) = some r := by first | (rw [hy121]; with_reducible exact H) | (have H2_ := (Option.bind_some _ _).symm.trans H; rw [hy121]; with_reducible exact H2_) | (have H2_ := (Option.bind_some _ _).symm.trans H; with_reducible exact H2_) | with_reducible exact H | (rw [hy121]; exact H) | exact H
      have Ny121 := Aside0.mk hy121
      clear hy121
      have H' := Aside0.mk H
      clear H
      go_enter Try.func39, Try.ntmps39
      go_wp2_with (first | ((with_reducible refine gate_callee (f := 49) rfl ?_); refine goesL_ (some 10) rfl rfl Try.func49 (by kernel_rfl) rfl #[.int .u32 a0, .slice A1 l1.length c1] rfl (by (try simp only [List.map_toArray, List.map_cons, List.map_nil]); first | done | rfl | (simp only [List.length_drop, List.length_take]; rfl)) ?_; (with_reducible refine (stuff_Size.calls k a0 _ _ l1 t120 _ ?side1 ?side2 A3.out).mono ?_); (case side1 => repeat (first | exact HR1.out | (with_reducible refine Kd.C_alloc ?_ _) | (with_reducible refine Kd.C_drewN ?_ _) | (with_reducible refine Kd.C_drew ?_))); (case side2 => exact HC1.out); rintro e w' ⟨rfl, ⟨nd, rfl⟩⟩; refine ⟨_, rfl, ?_⟩) | ((with_reducible refine gate_dst (N := 11) rfl ?_); refine R_makecap (Kd.int .u8) _ 5 rfl (N := 11) rfl 28 _ _ rfl t120 rfl rfl Try.underlying28 (.int .u8 0) 1 info5 rfl (by decide) (by omega) 0 (ok := fun _ => True) (okp := fun _ => True) rfl (fun _ hk => hk) trivial (of_decide_eq_true (by first | (with_reducible assumption) | assumption)) (Nat.le_trans (Nat.mul_le_mul_right _ (of_decide_eq_true (by first | (with_reducible assumption) | assumption) : t120.toNat ≤ 281474976710656)) (by omega)) (Below.refl _ _) (Nat.le_refl _) ?_; intro v122 w6 ho7 hb hg_ hnew_; clear hg_ hnew_; (first | rw [← Ny121.out] at ho7 | (simp only [Int.reduceToNat] at ho7; rw [← Ny121.out] at ho7)); have n0_ := Aside0.mk (Kd.R_lower ho7 (below_size (by repeat (first | (with_reducible first | exact HB.out | apply below_alloc | apply pw_below_drewN | apply below_drew1) | exact HB.out)))); have n1_ := Aside0.mk (below_step (by repeat (first | (with_reducible first | exact HB.out | apply below_alloc | apply pw_below_drewN | apply below_drew1) | exact HB.out)) hb); clear HB; have HO123 := n0_; have HB := n1_; clear n0_ n1_; clear hb ho7))
      go_loopg [5, 14] k (fun kq v5 v14 w' => ∃ (x5_1 : List Int) (x14_1 : Int), v14 = .int .i64 x14_1 ∧ Aside0 (stuff_Stuff.l0 kq a0 x5_1 l1 (l1.length : Int) x14_1 = some r) ∧ Aside0 (kq ≤ k) ∧ Aside0 (Kd.R (Kd.int .u8) 5 w' w.heap.size (fun _ => True) v5 x5_1) ∧ Aside0 (Below w.heap.size w w'))
      case atStart => exact ⟨(y121), (0), (by first | rfl | (simp; done) | (simp [*]; done)), H', ⟨Nat.le_refl _⟩, ⟨by (with_reducible repeat (first | apply Kd.R_alloc | apply Kd.R_drewN | apply Kd.R_drew)); exact HO123.out⟩, ⟨by repeat (first | (with_reducible first | exact HB.out | apply below_alloc | apply pw_below_drewN | apply below_drew1) | exact HB.out)⟩⟩
      case round =>
        clear H'
        try clear c1
        try clear p2
        try clear c3
        try clear c4
        try clear c4b0
        try clear c4b1
        try clear c5
        try clear c5b0
        try clear c5b1
        obtain ⟨x5_1, x14_1, rfl, HA, HK1, HO_5, HB⟩ := hrel
        cases gk with
        | zero => exact absurd HA.out (by simp [stuff_Stuff.l0])
        | succ k1 =>
          have H := HA.out
          clear HA
          simp only [stuff_Stuff.l0] at H
          by_cases c8 : x14_1 < (l1.length : Int)
          · rw [if_pos c8] at H
            have c8b0 : decide (x14_1 < (l1.length : Int)) = true := decide_eq_true c8
            clear c8
            by_cases c9 : 0 ≤ x14_1
            · rw [if_pos c9] at H
              have c9b0 : decide (0 ≤ x14_1) = true := decide_eq_true c9
              clear c9
              by_cases c10 : x14_1 < (l1.length : Int)
              · rw [if_pos c10] at H
                have c10b0 : decide (x14_1 < (l1.length : Int)) = true := decide_eq_true c10
                clear c10
                replace H := Option.bind_eq_some_iff.mp H
                obtain ⟨t125, A110, H⟩ := H
                replace H : (if t125 = true then (if x5_1.length < 140737488355328 then ((some (x5_1 ++ [125] : List Int)).bind fun y126 => (if y126.length < 140737488355328 then (stuff_Stuff.l0 k1 a0 (y126 ++ [Go.bits .xor .u8 (rd l1 x14_1) 32]) l1 (l1.length : Int) (wrap64 (x14_1 + 1))) else (none))) else (none)) else (if x5_1.length < 140737488355328 then (stuff_Stuff.l0 k1 a0 (x5_1 ++ [rd l1 x14_1]) l1 (l1.length : Int) (wrap64 (x14_1 + 1))) else (none))) = some r := H
                have A11 := Aside0.mk A110
                clear A110
                by_cases c12 : t125 = true
                · subst c12
                  have H1 : (if x5_1.length < 140737488355328 then ((some (x5_1 ++ [125] : List Int)).bind fun y126 => (if y126.length < 140737488355328 then (stuff_Stuff.l0 k1 a0 (y126 ++ [Go.bits .xor .u8 (rd l1 x14_1) 32]) l1 (l1.length : Int) (wrap64 (x14_1 + 1))) else (none))) else (none)) = some r := by rw [if_pos rfl] at H; exact H
                  clear H
                  have H := H1
                  clear H1
                  by_cases c13 : x5_1.length < 140737488355328
                  · rw [if_pos c13] at H
                    have LMc13 := Aside0.mk c13
                    clear c13
                    obtain ⟨y126, hy126⟩ : ∃ y_ : List Int, y_ = (x5_1 ++ [125]) := ⟨_, rfl⟩
                    replace H : (if y126.length < 140737488355328 then (stuff_Stuff.l0 k1 a0 (y126 ++ [Go.bits .xor .u8 (rd l1 x14_1) 32]) l1 (l1.length : Int) (wrap64 (x14_1 + 1))) else (none)) = some r := by first | (rw [hy126]; with_reducible exact H) | (have H2_ := (Option.bind_some _ _).symm.trans H; rw [hy126]; with_reducible exact H2_) | (have H2_ := (Option.bind_some _ _).symm.trans H; with_reducible exact H2_) | with_reducible exact H | (rw [hy126]; exact H) | exact H
                    have Ny126 := Aside0.mk hy126
                    clear hy126
                    by_cases c14 : y126.length < 140737488355328
                    · rw [if_pos c14] at H
                      have LMc14 := Aside0.mk c14
                      clear c14
                      obtain ⟨y129, hy129⟩ : ∃ y_ : List Int, y_ = (y126 ++ [Go.bits .xor .u8 (rd l1 x14_1) 32]) := ⟨_, rfl⟩
                      replace H : (stuff_Stuff.l0 k1 a0 y129 l1 (l1.length : Int) (wrap64 (x14_1 + 1))) = some r := by first | (rw [hy129]; with_reducible exact H) | (have H2_ := (Option.bind_some _ _).symm.trans H; rw [hy129]; with_reducible exact H2_) | (have H2_ := (Option.bind_some _ _).symm.trans H; with_reducible exact H2_) | with_reducible exact H | (rw [hy129]; exact H) | exact H
                      have Ny129 := Aside0.mk hy129
                      clear hy129
                      have H' := Aside0.mk H
                      clear H
                      have p124 : 0 ≤ (x14_1 : Int) := of_decide_eq_true (by first | (with_reducible assumption) | assumption)
                      have q124 : x14_1 < (l1.length : Int) := of_decide_eq_true (by first | (with_reducible assumption) | assumption)
                      obtain ⟨ad124, e124, hx124_0⟩ := Kd.at_int HR1.out x14_1 p124 q124
                      cases e124
                      replace hx124_0 := (HB.out.cell (World.block_lt_of_cell? w _ hx124_0)).trans hx124_0
                      replace p124 := eq_true p124
                      replace q124 := eq_true q124
                      go_wp2_with (first | ((with_reducible refine gate_callee (f := 50) rfl ?_); refine goesL_ (some 20) rfl rfl Try.func50 (by kernel_rfl) rfl #[.int .u32 a0, .int .u8 (rd l1 x14_1)] rfl (by (try simp only [List.map_toArray, List.map_cons, List.map_nil]); first | done | rfl | (simp only [List.length_drop, List.length_take]; rfl)) ?_; (with_reducible refine (accm_Must.calls k1 a0 (rd l1 x14_1) true _ A11.out).mono ?_); rintro e w' ⟨rfl, ⟨nd, rfl⟩⟩; refine ⟨_, rfl, ?_⟩) | ((with_reducible refine gate_builtin (b := .append) (xs := #[.tmp 21, .tmp 22]) rfl ?_); at_builtin; refine Kd.R_append (Kd.int .u8) (w0 := w) w.heap.size rfl (.tmp 21) (.tmp 22) 28 5 (.int .u8 0) 1 rfl Try.underlying28 info5 rfl (by decide) (by omega) u5 x5_1 125 [.int .u8 125] (fun _ => True) (fun _ => False) rfl rfl ?aP (fun _ hk => hk.elim) ?aF ?aO ?aB ?aS ?aL ?_; (case aP => exact rfl); (case aB => exact (by repeat (first | (with_reducible first | exact HB.out | apply below_alloc | apply pw_below_drewN | apply below_drew1) | exact HB.out))); (case aF => exact (fun _ _ => trivial)); (case aO => exact (by (with_reducible repeat (first | apply Kd.R_alloc | apply Kd.R_drewN | apply Kd.R_drew)); exact HO_5.out)); (case aS => exact (below_size (by repeat (first | (with_reducible first | exact HB.out | apply below_alloc | apply pw_below_drewN | apply below_drew1) | exact HB.out)))); (case aL => have := LMc13.out; omega); intro v127 w15 ho hb hg hat; rw [← Ny126.out] at ho; have n0_ := Aside0.mk (hb); have n1_ := Aside0.mk (ho); clear HB; clear HO_5; have HB := n0_; have HO128 := n1_; clear n0_ n1_; clear ho hb hg hat) | ((with_reducible refine gate_builtin (b := .append) (xs := #[.tmp 26, .tmp 28]) rfl ?_); at_builtin; refine Kd.R_append (Kd.int .u8) (w0 := w) w.heap.size rfl (.tmp 26) (.tmp 28) 28 5 (.int .u8 0) 1 rfl Try.underlying28 info5 rfl (by decide) (by omega) v127 y126 (Go.bits .xor .u8 (rd l1 x14_1) 32) [.int .u8 (Go.bits .xor .u8 (rd l1 x14_1) 32)] (fun _ => True) (fun _ => False) rfl rfl ?aP (fun _ hk => hk.elim) ?aF ?aO ?aB ?aS ?aL ?_; (case aP => exact rfl); (case aB => exact (by repeat (first | (with_reducible first | exact HB.out | apply below_alloc | apply pw_below_drewN | apply below_drew1) | exact HB.out))); (case aF => exact (fun _ _ => trivial)); (case aO => exact (by (with_reducible repeat (first | apply Kd.R_alloc | apply Kd.R_drewN | apply Kd.R_drew)); exact HO128.out)); (case aS => exact (below_size (by repeat (first | (with_reducible first | exact HB.out | apply below_alloc | apply pw_below_drewN | apply below_drew1) | exact HB.out)))); (case aL => have := LMc14.out; omega); intro v130 w16 ho hb hg hat; rw [← Ny129.out] at ho; have n0_ := Aside0.mk (hb); have n1_ := Aside0.mk (ho); clear HB; clear HO128; have HB := n0_; have HO131 := n1_; clear n0_ n1_; clear ho hb hg hat))
                      go_roundg k1
                      case measure => have := HK1.out; omega
                      case rel => exact ⟨(y129), (wrap64 (x14_1 + 1)), (by first | rfl | (simp; done) | (simp [*]; done)), H', ⟨by have := HK1.out; omega⟩, ⟨by (with_reducible repeat (first | apply Kd.R_alloc | apply Kd.R_drewN | apply Kd.R_drew)); exact HO131.out⟩, ⟨by repeat (first | (with_reducible first | exact HB.out | apply below_alloc | apply pw_below_drewN | apply below_drew1) | exact HB.out)⟩⟩
                    · rw [if_neg c14] at H
                      exact absurd H (by simp)
                  · rw [if_neg c13] at H
                    exact absurd H (by simp)
                · replace c12 := Bool.eq_false_iff.mpr c12
                  subst c12
                  have H1 : (if x5_1.length < 140737488355328 then (stuff_Stuff.l0 k1 a0 (x5_1 ++ [rd l1 x14_1]) l1 (l1.length : Int) (wrap64 (x14_1 + 1))) else (none)) = some r := by rw [if_neg (show ¬ (false = true) by decide)] at H; exact H
                  clear H
                  have H := H1
                  clear H1
                  by_cases c17 : x5_1.length < 140737488355328
                  · rw [if_pos c17] at H
                    have LMc17 := Aside0.mk c17
                    clear c17
                    obtain ⟨y132, hy132⟩ : ∃ y_ : List Int, y_ = (x5_1 ++ [rd l1 x14_1]) := ⟨_, rfl⟩
                    replace H : (stuff_Stuff.l0 k1 a0 y132 l1 (l1.length : Int) (wrap64 (x14_1 + 1))) = some r := by first | (rw [hy132]; with_reducible exact H) | (have H2_ := (Option.bind_some _ _).symm.trans H; rw [hy132]; with_reducible exact H2_) | (have H2_ := (Option.bind_some _ _).symm.trans H; with_reducible exact H2_) | with_reducible exact H | (rw [hy132]; exact H) | exact H
                    have Ny132 := Aside0.mk hy132
                    clear hy132
                    have H' := Aside0.mk H
                    clear H
                    have p124 : 0 ≤ (x14_1 : Int) := of_decide_eq_true (by first | (with_reducible assumption) | assumption)
                    have q124 : x14_1 < (l1.length : Int) := of_decide_eq_true (by first | (with_reducible assumption) | assumption)
                    obtain ⟨ad124, e124, hx124_0⟩ := Kd.at_int HR1.out x14_1 p124 q124
                    cases e124
                    replace hx124_0 := (HB.out.cell (World.block_lt_of_cell? w _ hx124_0)).trans hx124_0
                    replace p124 := eq_true p124
                    replace q124 := eq_true q124
                    go_wp2_with (first | ((with_reducible refine gate_callee (f := 50) rfl ?_); refine goesL_ (some 20) rfl rfl Try.func50 (by kernel_rfl) rfl #[.int .u32 a0, .int .u8 (rd l1 x14_1)] rfl (by (try simp only [List.map_toArray, List.map_cons, List.map_nil]); first | done | rfl | (simp only [List.length_drop, List.length_take]; rfl)) ?_; (with_reducible refine (accm_Must.calls k1 a0 (rd l1 x14_1) false _ A11.out).mono ?_); rintro e w' ⟨rfl, ⟨nd, rfl⟩⟩; refine ⟨_, rfl, ?_⟩) | ((with_reducible refine gate_builtin (b := .append) (xs := #[.tmp 26, .tmp 28]) rfl ?_); at_builtin; refine Kd.R_append (Kd.int .u8) (w0 := w) w.heap.size rfl (.tmp 26) (.tmp 28) 28 5 (.int .u8 0) 1 rfl Try.underlying28 info5 rfl (by decide) (by omega) u5 x5_1 (rd l1 x14_1) [.int .u8 (rd l1 x14_1)] (fun _ => True) (fun _ => False) rfl rfl ?aP (fun _ hk => hk.elim) ?aF ?aO ?aB ?aS ?aL ?_; (case aP => exact rfl); (case aB => exact (by repeat (first | (with_reducible first | exact HB.out | apply below_alloc | apply pw_below_drewN | apply below_drew1) | exact HB.out))); (case aF => exact (fun _ _ => trivial)); (case aO => exact (by (with_reducible repeat (first | apply Kd.R_alloc | apply Kd.R_drewN | apply Kd.R_drew)); exact HO_5.out)); (case aS => exact (below_size (by repeat (first | (with_reducible first | exact HB.out | apply below_alloc | apply pw_below_drewN | apply below_drew1) | exact HB.out)))); (case aL => have := LMc17.out; omega); intro v133 w18 ho hb hg hat; rw [← Ny132.out] at ho; have n0_ := Aside0.mk (hb); have n1_ := Aside0.mk (ho); clear HB; clear HO_5; have HB := n0_; have HO134 := n1_; clear n0_ n1_; clear ho hb hg hat))
                    go_roundg k1
                    case measure => have := HK1.out; omega
                    case rel => exact ⟨(y132), (wrap64 (x14_1 + 1)), (by first | rfl | (simp; done) | (simp [*]; done)), H', ⟨by have := HK1.out; omega⟩, ⟨by (with_reducible repeat (first | apply Kd.R_alloc | apply Kd.R_drewN | apply Kd.R_drew)); exact HO134.out⟩, ⟨by repeat (first | (with_reducible first | exact HB.out | apply below_alloc | apply pw_below_drewN | apply below_drew1) | exact HB.out)⟩⟩
                  · rw [if_neg c17] at H
                    exact absurd H (by simp)
              · rw [if_neg c10] at H
                exact absurd H (by simp)
            · rw [if_neg c9] at H
              exact absurd H (by simp)
          · rw [if_neg c8] at H
            have c8b0 : decide (x14_1 < (l1.length : Int)) = false := decide_eq_false c8
            clear c8
            obtain rfl := Option.some.inj H
            go_wp2
            go_ret
            exact ⟨_, by first | rfl | (simp [errW_none, errW_some] <;> rfl) | (simp [*, errW_none, errW_some] <;> rfl), by (with_reducible repeat (first | apply Kd.R_alloc | apply Kd.R_drewN | apply Kd.R_drew)); exact HO_5.out, by repeat (first | (with_reducible first | exact HB.out | apply below_alloc | apply pw_below_drewN | apply below_drew1) | exact HB.out)⟩
    · rw [if_neg c5] at H
      exact absurd H (by simp)
  · rw [if_neg c4] at H
    exact absurd H (by simp)

end Go.Proofs.Ytjmclghjhnbafaa.Print

/- A text that a program of this claim (wip/x) laid out of the translation: what Go functions come to, and that they come to it. Lean checks it. -/
namespace Go.Proofs.Ytjmclghjhnbafaa.Print
open Go.RowKit Go.Proofs.YtjmclghjhnbafaaW.PrintWords Go.Proofs.YtjmclghjhnbafaaW.PrintLast Go.Proofs.YtjmclghjhnbafaaW.PrintMore
attribute [local go_sem] max2_int min2_int max_two min_two max_three min_three max_four min_four   -- for this text's walks alone
set_option linter.unusedVariables false
set_option linter.unusedSimpArgs false

/-! ### async_Wrap: function 19 -/
def async_Wrap.f (k : Nat) (a0 : Int) (l1 : List Int) : Option (List Int) := (stuff_Stuff.f k a0 l1).bind fun t138 => ((slices_Concat_byte_byte.f k (([(([126] : List Int)), t138, (([126] : List Int))] : List (List Int)))).bind fun t147 => (some t147))
theorem async_Wrap.mono : ∀ a0 a1 k, LeO (async_Wrap.f k a0 a1) (async_Wrap.f (k + 1) a0 a1) := by
  intro a0 a1 k
  unfold async_Wrap.f
  repeat' first
      | (with_reducible exact slices_Concat_byte_byte.mono _ _)
      | (with_reducible exact stuff_Stuff.mono _ _ _)
      | (with_reducible exact LeO.refl _)
      | (with_reducible exact LeO.none _)
      | (with_reducible refine LeO.ite ?_ ?_)
      | (with_reducible refine LeO.bind ?_ (fun _ => ?_))
      | exact slices_Concat_byte_byte.mono _ _
      | exact stuff_Stuff.mono _ _ _
      | exact LeO.none _
      | refine LeO.ite ?_ ?_
      | refine LeO.bind ?_ (fun _ => ?_)
set_option maxHeartbeats 8000000 in
set_option maxRecDepth 100000 in
theorem async_Wrap.calls (k : Nat) (a0 : Int) (A1 : Option Addr) (c1 : Nat) (l1 : List Int) (r : List Int) (w : World) (hr1 : Kd.C (Kd.int .u8) w A1 l1.length l1) (hc1 : l1.length ≤ c1) (h : async_Wrap.f k a0 l1 = some r) :
    Calls Try.prog 19 #[.int .u32 a0, .slice A1 l1.length c1] w fun e w' => ∃ v0_ : Value, e = .returned (v0_) ∧ Kd.R (Kd.int .u8) 5 w' w.heap.size (fun _ => True) v0_ r ∧ Below w.heap.size w w' := by
  have HR1 := Aside0.mk hr1
  have HC1 := Aside0.mk hc1
  clear hr1 hc1
  have HB := Aside0.mk (Below.refl w.heap.size w)
  have H : ((stuff_Stuff.f k a0 l1).bind fun t138 => ((slices_Concat_byte_byte.f k (([(([126] : List Int)), t138, (([126] : List Int))] : List (List Int)))).bind fun t147 => (some t147))) = some r := h
  clear h
  obtain ⟨y135, hy135⟩ : ∃ y_ : List Int, y_ = (([126] : List Int)) := ⟨_, rfl⟩
  replace H : ((stuff_Stuff.f k a0 l1).bind fun t138 => ((slices_Concat_byte_byte.f k (([y135, t138, (([126] : List Int))] : List (List Int)))).bind fun t147 => (some t147))) = some r := by first | (rw [hy135]; with_reducible exact H) | (have H2_ := (Option.bind_some _ _).symm.trans H; rw [hy135]; with_reducible exact H2_) | (have H2_ := (Option.bind_some _ _).symm.trans H; with_reducible exact H2_) | with_reducible exact H | (rw [hy135]; exact H) | exact H
  have Ny135 := Aside0.mk hy135
  clear hy135
  replace H := Option.bind_eq_some_iff.mp H
  obtain ⟨t138, A30, H⟩ := H
  replace H : ((slices_Concat_byte_byte.f k (([y135, t138, (([126] : List Int))] : List (List Int)))).bind fun t147 => (some t147)) = some r := H
  have A3 := Aside0.mk A30
  clear A30
  obtain ⟨y141, hy141⟩ : ∃ y_ : List Int, y_ = (([126] : List Int)) := ⟨_, rfl⟩
  replace H : ((slices_Concat_byte_byte.f k (([y135, t138, y141] : List (List Int)))).bind fun t147 => (some t147)) = some r := by first | (rw [hy141]; with_reducible exact H) | (have H2_ := (Option.bind_some _ _).symm.trans H; rw [hy141]; with_reducible exact H2_) | (have H2_ := (Option.bind_some _ _).symm.trans H; with_reducible exact H2_) | with_reducible exact H | (rw [hy141]; exact H) | exact H
  have Ny141 := Aside0.mk hy141
  clear hy141
  obtain ⟨y144, hy144⟩ : ∃ y_ : List (List Int), y_ = (([y135, t138, y141] : List (List Int))) := ⟨_, rfl⟩
  replace H : ((slices_Concat_byte_byte.f k y144).bind fun t147 => (some t147)) = some r := by first | (rw [hy144]; with_reducible exact H) | (have H2_ := (Option.bind_some _ _).symm.trans H; rw [hy144]; with_reducible exact H2_) | (have H2_ := (Option.bind_some _ _).symm.trans H; with_reducible exact H2_) | with_reducible exact H | (rw [hy144]; exact H) | exact H
  have Ny144 := Aside0.mk hy144
  clear hy144
  replace H := Option.bind_eq_some_iff.mp H
  obtain ⟨t147, A40, H⟩ := H
  replace H : (some t147) = some r := H
  have A4 := Aside0.mk A40
  clear A40
  obtain rfl := Option.some.inj H
  go_enter Try.func19, Try.ntmps19
  go_wp2_with (first | ((with_reducible refine gate_dst (N := 5) rfl ?_); refine Kd.R_lit (Kd.int .u8) _ 5 ?hg (N := 5) ?hd (xs := ([126] : List Int)) (inner := [.int .u8 126]) (ok := fun _ => True) (okp := fun _ => True) ?hr ?hp (fun _ hk => hk) trivial (Below.refl _ _) (Nat.le_refl _) (by simp) ?_; (case hd => rfl); (case hg => rfl); (case hr => first | (go_simp; done) | (go_simp; simp only [IntKind.wrap_u8, IntKind.wrap_u16, IntKind.wrap_u32, IntKind.wrap_u64]; done) | (go_simp; simp only [IntKind.wrap_u8, IntKind.wrap_u16, IntKind.wrap_u32, IntKind.wrap_u64, Int.tmod_eq_emod_of_nonneg (Int.natCast_nonneg _), Int.emod_emod]; done) | (go_simp; rfl)); (case hp => exact (Reps.one (show Kd.M (Kd.int .u8) _ _ _ 126 [.int .u8 126] from rfl) (Reps.none _ _))); intro v136 w5 ho6 hb hg_ hnew_; clear hg_ hnew_; (first | rw [← Ny135.out] at ho6 | (simp only [Int.reduceToNat] at ho6; rw [← Ny135.out] at ho6)); have n0_ := Aside0.mk (Kd.R_lower ho6 (below_size (by repeat (first | (with_reducible first | exact HB.out | apply below_alloc | apply pw_below_drewN | apply below_drew1) | exact HB.out)))); have n1_ := Aside0.mk (below_step (by repeat (first | (with_reducible first | exact HB.out | apply below_alloc | apply pw_below_drewN | apply below_drew1) | exact HB.out)) hb); clear HB; have HO137 := n0_; have HB := n1_; clear n0_ n1_; clear hb ho6) | ((with_reducible refine gate_callee (f := 39) rfl ?_); refine goesL_ (some 8) rfl rfl Try.func39 (by kernel_rfl) rfl #[.int .u32 a0, .slice A1 l1.length c1] rfl (by (try simp only [List.map_toArray, List.map_cons, List.map_nil]); first | done | rfl | (simp only [List.length_drop, List.length_take]; rfl)) ?_; (with_reducible refine (stuff_Stuff.calls k a0 _ _ l1 t138 _ ?side1 ?side2 A3.out).mono ?_); (case side1 => repeat (first | exact (Kd.C_below HR1.out HB.out) | (with_reducible refine Kd.C_alloc ?_ _) | (with_reducible refine Kd.C_drewN ?_ _) | (with_reducible refine Kd.C_drew ?_))); (case side2 => exact HC1.out); rintro e w7 ⟨v139, rfl, ho0, hb⟩; refine ⟨_, rfl, ?_⟩; have n0_ := Aside0.mk (Kd.R_elder' (by (with_reducible repeat (first | apply Kd.R_alloc | apply Kd.R_drewN | apply Kd.R_drew)); exact HO137.out) (Kd.R_base ho0) hb); have n1_ := Aside0.mk (Kd.R_lower (Kd.R_new' ho0 (Kd.R_lt (by (with_reducible repeat (first | apply Kd.R_alloc | apply Kd.R_drewN | apply Kd.R_drew)); exact HO137.out))) (below_size (by repeat (first | (with_reducible first | exact HB.out | apply below_alloc | apply pw_below_drewN | apply below_drew1) | exact HB.out)))); have n2_ := Aside0.mk (below_step (by repeat (first | (with_reducible first | exact HB.out | apply below_alloc | apply pw_below_drewN | apply below_drew1) | exact HB.out)) hb); clear HO137; clear HB; have HO137 := n0_; have HO140 := n1_; have HB := n2_; clear n0_ n1_ n2_; (try clear hb); (try clear hb2); (try clear hk); (try clear hi); (try clear ho0)) | ((with_reducible refine gate_dst (N := 9) rfl ?_); refine Kd.R_lit (Kd.int .u8) _ 5 ?hg (N := 9) ?hd (xs := ([126] : List Int)) (inner := [.int .u8 126]) (ok := fun _ => True) (okp := fun _ => True) ?hr ?hp (fun _ hk => hk) trivial (Below.refl _ _) (Nat.le_refl _) (by simp) ?_; (case hd => rfl); (case hg => rfl); (case hr => first | (go_simp; done) | (go_simp; simp only [IntKind.wrap_u8, IntKind.wrap_u16, IntKind.wrap_u32, IntKind.wrap_u64]; done) | (go_simp; simp only [IntKind.wrap_u8, IntKind.wrap_u16, IntKind.wrap_u32, IntKind.wrap_u64, Int.tmod_eq_emod_of_nonneg (Int.natCast_nonneg _), Int.emod_emod]; done) | (go_simp; rfl)); (case hp => exact (Reps.one (show Kd.M (Kd.int .u8) _ _ _ 126 [.int .u8 126] from rfl) (Reps.none _ _))); intro v142 w8 ho9 hb hg_ hnew_; clear hg_ hnew_; (first | rw [← Ny141.out] at ho9 | (simp only [Int.reduceToNat] at ho9; rw [← Ny141.out] at ho9)); have n0_ := Aside0.mk (Kd.R_elder' (by (with_reducible repeat (first | apply Kd.R_alloc | apply Kd.R_drewN | apply Kd.R_drew)); exact HO137.out) (Kd.R_base ho9) hb); have n1_ := Aside0.mk (Kd.R_elder' (by (with_reducible repeat (first | apply Kd.R_alloc | apply Kd.R_drewN | apply Kd.R_drew)); exact HO140.out) (Kd.R_base ho9) hb); have n2_ := Aside0.mk (Kd.R_lower (Kd.R_new' (Kd.R_new' ho9 (Kd.R_lt (by (with_reducible repeat (first | apply Kd.R_alloc | apply Kd.R_drewN | apply Kd.R_drew)); exact HO137.out))) (Kd.R_lt (by (with_reducible repeat (first | apply Kd.R_alloc | apply Kd.R_drewN | apply Kd.R_drew)); exact HO140.out))) (below_size (by repeat (first | (with_reducible first | exact HB.out | apply below_alloc | apply pw_below_drewN | apply below_drew1) | exact HB.out)))); have n3_ := Aside0.mk (below_step (by repeat (first | (with_reducible first | exact HB.out | apply below_alloc | apply pw_below_drewN | apply below_drew1) | exact HB.out)) hb); clear HO137; clear HO140; clear HB; have HO137 := n0_; have HO140 := n1_; have HO143 := n2_; have HB := n3_; clear n0_ n1_ n2_ n3_; clear hb ho9; obtain ⟨Ao10, co10, eo10⟩ := Kd.R_slice HO137.out; subst eo10; obtain ⟨Ao11, co11, eo11⟩ := Kd.R_slice HO140.out; subst eo11; obtain ⟨Ao12, co12, eo12⟩ := Kd.R_slice HO143.out; subst eo12) | ((with_reducible refine gate_dst (N := 10) rfl ?_); refine Kd.N_lit (Kd.slice 5 (Kd.int .u8)) _ 28 ?hg (N' := 10) ?hd (xs := ([y135, t138, y141] : List (List Int))) (inner := [.slice Ao10 y135.length co10, .slice Ao11 t138.length co11, .slice Ao12 y141.length co12]) (ok := (fun _ => True)) (okp := (fun _ => True)) ?hr ?hp (fun _ hk => hk) ((show ∀ k_, w8.heap.size ≤ k_ → (fun _ => True) k_ from fun k_ hk => trivial) _ (Nat.le_refl _)) (Below.refl _ _) (Nat.le_refl _) (by simp) ?_; (case hd => rfl); (case hg => rfl); (case hr => first | (go_simp; done) | (go_simp; simp only [IntKind.wrap_u8, IntKind.wrap_u16, IntKind.wrap_u32, IntKind.wrap_u64]; done) | (go_simp; simp only [IntKind.wrap_u8, IntKind.wrap_u16, IntKind.wrap_u32, IntKind.wrap_u64, Int.tmod_eq_emod_of_nonneg (Int.natCast_nonneg _), Int.emod_emod]; done) | (go_simp; rfl)); (case hp => exact (Reps.one (show Kd.FK (Kd.slice 5 (Kd.int .u8)) _ _ y135 [.slice Ao10 y135.length co10] from (Kd.FK_slice_mk (Kd.R_reads' (Kd.R_mono (ok' := (fun _ => True)) (HO137.out) (fun k_ hk => trivial))).2.1 (Kd.R_F (Kd.R_mono (ok' := (fun _ => True)) (HO137.out) (fun k_ hk => trivial))))) (Reps.one (show Kd.FK (Kd.slice 5 (Kd.int .u8)) _ _ t138 [.slice Ao11 t138.length co11] from (Kd.FK_slice_mk (Kd.R_reads' (Kd.R_mono (ok' := (fun _ => True)) (HO140.out) (fun k_ hk => trivial))).2.1 (Kd.R_F (Kd.R_mono (ok' := (fun _ => True)) (HO140.out) (fun k_ hk => trivial))))) (Reps.one (show Kd.FK (Kd.slice 5 (Kd.int .u8)) _ _ y141 [.slice Ao12 y141.length co12] from (Kd.FK_slice_mk (Kd.R_reads' (Kd.R_mono (ok' := (fun _ => True)) (HO143.out) (fun k_ hk => trivial))).2.1 (Kd.R_F (Kd.R_mono (ok' := (fun _ => True)) (HO143.out) (fun k_ hk => trivial))))) (Reps.none _ _))))); intro v145 w13 ho14 hb hg_ hnew_; clear hg_ hnew_; (first | rw [← Ny144.out] at ho14 | (simp only [Int.reduceToNat] at ho14; rw [← Ny144.out] at ho14)); have n0_ := Aside0.mk (Kd.N_lower ho14 (below_size (by repeat (first | (with_reducible first | exact HB.out | apply below_alloc | apply pw_below_drewN | apply below_drew1) | exact HB.out)))); have n1_ := Aside0.mk (below_step (by repeat (first | (with_reducible first | exact HB.out | apply below_alloc | apply pw_below_drewN | apply below_drew1) | exact HB.out)) hb); clear HB; clear HO137; clear HO140; clear HO143; have HO146 := n0_; have HB := n1_; clear n0_ n1_; clear hb ho14; obtain ⟨Ao15, co15, eo15⟩ := Kd.N_slice HO146.out; subst eo15) | ((with_reducible refine gate_callee (f := 38) rfl ?_); refine goesL_ (some 11) rfl rfl Try.func38 (by kernel_rfl) rfl #[.slice Ao15 y144.length co15] rfl (by (try simp only [List.map_toArray, List.map_cons, List.map_nil]); first | done | rfl | (simp only [List.length_drop, List.length_take]; rfl)) ?_; (with_reducible refine (slices_Concat_byte_byte.calls k _ _ y144 t147 _ ?side1 ?side2 A4.out).mono ?_); (case side1 => repeat (first | exact (Kd.N_reads' HO146.out).2.2 | (with_reducible refine Kd.C_alloc ?_ _) | (with_reducible refine Kd.C_drewN ?_ _) | (with_reducible refine Kd.C_drew ?_))); (case side2 => exact (Kd.N_reads' HO146.out).2.1); rintro e w16 ⟨v148, rfl, ho0, hb⟩; refine ⟨_, rfl, ?_⟩; have n0_ := Aside0.mk (Kd.N_elder' (by (with_reducible repeat (first | apply Kd.N_alloc | apply Kd.N_drewN | apply Kd.N_drew)); exact HO146.out) (Kd.R_base ho0) hb); have n1_ := Aside0.mk (Kd.R_lower ho0 (below_size (by repeat (first | (with_reducible first | exact HB.out | apply below_alloc | apply pw_below_drewN | apply below_drew1) | exact HB.out)))); have n2_ := Aside0.mk (below_step (by repeat (first | (with_reducible first | exact HB.out | apply below_alloc | apply pw_below_drewN | apply below_drew1) | exact HB.out)) hb); clear HO146; clear HB; have HO146 := n0_; have HO149 := n1_; have HB := n2_; clear n0_ n1_ n2_; (try clear hb); (try clear hb2); (try clear hk); (try clear hi); (try clear ho0)))
  go_ret
  exact ⟨_, by first | rfl | (simp [errW_none, errW_some] <;> rfl) | (simp [*, errW_none, errW_some] <;> rfl), by (with_reducible repeat (first | apply Kd.R_alloc | apply Kd.R_drewN | apply Kd.R_drew)); exact HO149.out, by repeat (first | (with_reducible first | exact HB.out | apply below_alloc | apply pw_below_drewN | apply below_drew1) | exact HB.out)⟩

end Go.Proofs.Ytjmclghjhnbafaa.Print

/- A text that a program of this claim (wip/x) laid out of the translation: what Go functions come to, and that they come to it. Lean checks it. -/
namespace Go.Proofs.Ytjmclghjhnbafaa.Print
open Go.RowKit Go.Proofs.YtjmclghjhnbafaaW.PrintWords Go.Proofs.YtjmclghjhnbafaaW.PrintLast Go.Proofs.YtjmclghjhnbafaaW.PrintMore
attribute [local go_sem] max2_int min2_int max_two min_two max_three min_three max_four min_four   -- for this text's walks alone
set_option linter.unusedVariables false
set_option linter.unusedSimpArgs false

/-! ### marlineref01_Equal: function 17 -/
def marlineref01_Equal.l0 : Nat → List Int → List Int → Int → Option (Bool)
  | 0, _, _, _ => none
  | k + 1, x0, x1, x5 => if x5 < (x0.length : Int) then (if 0 ≤ x5 then (if x5 < (x1.length : Int) then (if (rd x0 x5) = (rd x1 x5) then (marlineref01_Equal.l0 k x0 x1 (wrap64 (x5 + 1))) else (some false)) else (none)) else (none)) else (some true)
def marlineref01_Equal.f (k : Nat) (l0 : List Int) (l1 : List Int) : Option (Bool) := if (l0.length : Int) = (l1.length : Int) then (marlineref01_Equal.l0 k l0 l1 0) else (some false)
theorem marlineref01_Equal.mono_l : ∀ k, (∀ y0 y1 y2, LeO (marlineref01_Equal.l0 k y0 y1 y2) (marlineref01_Equal.l0 (k + 1) y0 y1 y2))
  | 0 => fun _ _ _ r h => by simp [marlineref01_Equal.l0] at h
  | k + 1 => by
    have ih0 := marlineref01_Equal.mono_l k
    · intro y0 y1 y2
      unfold marlineref01_Equal.l0
      repeat' first
      | (with_reducible exact ih0 _ _ _)
      | (with_reducible exact LeO.refl _)
      | (with_reducible exact LeO.none _)
      | (with_reducible refine LeO.ite ?_ ?_)
      | (with_reducible refine LeO.bind ?_ (fun _ => ?_))
      | exact ih0 _ _ _
      | exact LeO.none _
      | refine LeO.ite ?_ ?_
      | refine LeO.bind ?_ (fun _ => ?_)
theorem marlineref01_Equal.mono : ∀ a0 a1 k, LeO (marlineref01_Equal.f k a0 a1) (marlineref01_Equal.f (k + 1) a0 a1) := by
  intro a0 a1 k
  have ih0 := marlineref01_Equal.mono_l k
  unfold marlineref01_Equal.f
  repeat' first
      | (with_reducible exact ih0 _ _ _)
      | (with_reducible exact LeO.refl _)
      | (with_reducible exact LeO.none _)
      | (with_reducible refine LeO.ite ?_ ?_)
      | (with_reducible refine LeO.bind ?_ (fun _ => ?_))
      | exact ih0 _ _ _
      | exact LeO.none _
      | refine LeO.ite ?_ ?_
      | refine LeO.bind ?_ (fun _ => ?_)
set_option maxHeartbeats 8000000 in
set_option maxRecDepth 100000 in
theorem marlineref01_Equal.calls (k : Nat) (A0 : Option Addr) (c0 : Nat) (l0 : List Int) (A1 : Option Addr) (c1 : Nat) (l1 : List Int) (r : Bool) (w : World) (hr0 : Kd.C (Kd.int .u8) w A0 l0.length l0) (hc0 : l0.length ≤ c0) (hr1 : Kd.C (Kd.int .u8) w A1 l1.length l1) (hc1 : l1.length ≤ c1) (h : marlineref01_Equal.f k l0 l1 = some r) :
    Calls Try.prog 17 #[.slice A0 l0.length c0, .slice A1 l1.length c1] w fun e w' => e = .returned (.bool r) ∧ Drawn0 w w' := by
  have HR0 := Aside0.mk hr0
  have HC0 := Aside0.mk hc0
  clear hr0 hc0
  have HR1 := Aside0.mk hr1
  have HC1 := Aside0.mk hc1
  clear hr1 hc1
  have H : (if (l0.length : Int) = (l1.length : Int) then (marlineref01_Equal.l0 k l0 l1 0) else (some false)) = some r := h
  clear h
  by_cases c3 : (l0.length : Int) = (l1.length : Int)
  · rw [if_pos c3] at H
    have c3b0 : ((l0.length : Int) == (l1.length : Int)) = true := beq_iff_eq.mpr c3
    have c3b1 : ((l0.length : Int) != (l1.length : Int)) = false := bne_eq_false_iff_eq.mpr c3
    have c3b2 : (l0.length == l1.length) = true := by first | simpa using c3 | (simp at c3 ⊢; omega)
    clear c3
    have H' := Aside0.mk H
    clear H
    go_enter Try.func17, Try.ntmps17
    go_wp2
    repeat (go_quiet (fail); try go_wp2)
    go_loopg [5] k (fun kq v5 w' => ∃ (x5_1 : Int), v5 = .int .i64 x5_1 ∧ Aside0 (marlineref01_Equal.l0 kq l0 l1 x5_1 = some r) ∧ Aside0 (kq ≤ k) ∧ Drawn0 w w')
    case atStart => exact ⟨(0), (by first | rfl | (simp; done) | (simp [*]; done)), H', ⟨Nat.le_refl _⟩, by repeat (first | exact Drawn0.refl _ | apply Drawn0.step)⟩
    case round =>
      clear H'
      try clear c1
      try clear p2
      try clear c3
      try clear c3b0
      try clear c3b1
      try clear c3b2
      obtain ⟨x5_1, rfl, HA, HK1, ⟨m1, rfl⟩⟩ := hrel
      cases gk with
      | zero => exact absurd HA.out (by simp [marlineref01_Equal.l0])
      | succ k1 =>
        have H := HA.out
        clear HA
        simp only [marlineref01_Equal.l0] at H
        by_cases c4 : x5_1 < (l0.length : Int)
        · rw [if_pos c4] at H
          have c4b0 : decide (x5_1 < (l0.length : Int)) = true := decide_eq_true c4
          clear c4
          by_cases c5 : 0 ≤ x5_1
          · rw [if_pos c5] at H
            have c5b0 : decide (0 ≤ x5_1) = true := decide_eq_true c5
            clear c5
            by_cases c6 : x5_1 < (l1.length : Int)
            · rw [if_pos c6] at H
              have c6b0 : decide (x5_1 < (l1.length : Int)) = true := decide_eq_true c6
              clear c6
              by_cases c7 : (rd l0 x5_1) = (rd l1 x5_1)
              · rw [if_pos c7] at H
                have c7b0 : ((rd l0 x5_1) == (rd l1 x5_1)) = true := beq_iff_eq.mpr c7
                have c7b1 : ((rd l0 x5_1) != (rd l1 x5_1)) = false := bne_eq_false_iff_eq.mpr c7
                clear c7
                have H' := Aside0.mk H
                clear H
                have p107 : 0 ≤ (x5_1 : Int) := of_decide_eq_true (by first | (with_reducible assumption) | assumption)
                have q107 : x5_1 < (l0.length : Int) := of_decide_eq_true (by first | (with_reducible assumption) | assumption)
                obtain ⟨ad107, e107, hx107_0⟩ := Kd.at_int HR0.out x5_1 p107 q107
                cases e107
                replace p107 := eq_true p107
                replace q107 := eq_true q107
                have p108 : 0 ≤ (x5_1 : Int) := of_decide_eq_true (by first | (with_reducible assumption) | assumption)
                have q108 : x5_1 < (l1.length : Int) := of_decide_eq_true (by first | (with_reducible assumption) | assumption)
                obtain ⟨ad108, e108, hx108_0⟩ := Kd.at_int HR1.out x5_1 p108 q108
                cases e108
                replace p108 := eq_true p108
                replace q108 := eq_true q108
                go_wp2
                repeat (go_quiet (fail); try go_wp2)
                go_roundg k1
                case measure => have := HK1.out; omega
                case rel => exact ⟨(wrap64 (x5_1 + 1)), (by first | rfl | (simp; done) | (simp [*]; done)), H', ⟨by have := HK1.out; omega⟩, by repeat (first | exact Drawn0.refl _ | apply Drawn0.step)⟩
              · rw [if_neg c7] at H
                have c7b0 : ((rd l0 x5_1) == (rd l1 x5_1)) = false := beq_eq_false_iff_ne.mpr c7
                have c7b1 : ((rd l0 x5_1) != (rd l1 x5_1)) = true := bne_iff_ne.mpr c7
                obtain rfl := Option.some.inj H
                have p107 : 0 ≤ (x5_1 : Int) := of_decide_eq_true (by first | (with_reducible assumption) | assumption)
                have q107 : x5_1 < (l0.length : Int) := of_decide_eq_true (by first | (with_reducible assumption) | assumption)
                obtain ⟨ad107, e107, hx107_0⟩ := Kd.at_int HR0.out x5_1 p107 q107
                cases e107
                replace p107 := eq_true p107
                replace q107 := eq_true q107
                have p108 : 0 ≤ (x5_1 : Int) := of_decide_eq_true (by first | (with_reducible assumption) | assumption)
                have q108 : x5_1 < (l1.length : Int) := of_decide_eq_true (by first | (with_reducible assumption) | assumption)
                obtain ⟨ad108, e108, hx108_0⟩ := Kd.at_int HR1.out x5_1 p108 q108
                cases e108
                replace p108 := eq_true p108
                replace q108 := eq_true q108
                go_wp2
                repeat (go_quiet (fail); try go_wp2)
                go_ret
                exact ⟨by first | rfl | (simp; done) | (simp [*]; done), by repeat (first | exact Drawn0.refl _ | apply Drawn0.step)⟩
            · rw [if_neg c6] at H
              exact absurd H (by simp)
          · rw [if_neg c5] at H
            exact absurd H (by simp)
        · rw [if_neg c4] at H
          have c4b0 : decide (x5_1 < (l0.length : Int)) = false := decide_eq_false c4
          clear c4
          obtain rfl := Option.some.inj H
          go_wp2
          repeat (go_quiet (fail); try go_wp2)
          go_ret
          exact ⟨by first | rfl | (simp; done) | (simp [*]; done), by repeat (first | exact Drawn0.refl _ | apply Drawn0.step)⟩
  · rw [if_neg c3] at H
    have c3b0 : ((l0.length : Int) == (l1.length : Int)) = false := beq_eq_false_iff_ne.mpr c3
    have c3b1 : ((l0.length : Int) != (l1.length : Int)) = true := bne_iff_ne.mpr c3
    have c3b2 : (l0.length == l1.length) = false := by first | simpa using c3 | (simp at c3 ⊢; omega)
    obtain rfl := Option.some.inj H
    go_enter Try.func17, Try.ntmps17
    go_wp2
    repeat (go_quiet (fail); try go_wp2)
    go_ret
    exact ⟨by first | rfl | (simp; done) | (simp [*]; done), by repeat (first | exact Drawn0.refl _ | apply Drawn0.step)⟩

end Go.Proofs.Ytjmclghjhnbafaa.Print

/- A text that a program of this claim (wip/x) laid out of the translation: what Go functions come to, and that they come to it. Lean checks it. -/
namespace Go.Proofs.Ytjmclghjhnbafaa.Print
open Go.RowKit Go.Proofs.YtjmclghjhnbafaaW.PrintWords Go.Proofs.YtjmclghjhnbafaaW.PrintLast Go.Proofs.YtjmclghjhnbafaaW.PrintMore
attribute [local go_sem] max2_int min2_int max_two min_two max_three min_three max_four min_four   -- for this text's walks alone
set_option linter.unusedVariables false
set_option linter.unusedSimpArgs false

/-! ### marlinelaw05_Same: function 20 -/
def marlinelaw05_Same.l0 : Nat → List (S34) → List (S65) → Int → Int → Option (Bool)
  | 0, _, _, _, _ => none
  | k + 1, x0, x1, x12, x13 => if x13 < x12 then (if 0 ≤ x13 then (if x13 < (x0.length : Int) then (if x13 < (x1.length : Int) then (if ((rd_T34 x0 x13).f0) = ((rd_T65 x1 x13).f0) then ((marlineref01_Equal.f k ((rd_T34 x0 x13).f1) ((rd_T65 x1 x13).f1)).bind fun t233 => (if t233 = true then (marlinelaw05_Same.l0 k x0 x1 x12 (wrap64 (x13 + 1))) else (some false))) else (some false)) else (none)) else (none)) else (none)) else (some true)
def marlinelaw05_Same.f (k : Nat) (l0 : List (S34)) (l1 : List (S65)) : Option (Bool) := if (l0.length : Int) = (l1.length : Int) then (marlinelaw05_Same.l0 k l0 l1 (l0.length : Int) 0) else (some false)
theorem marlinelaw05_Same.mono_l : ∀ k, (∀ y0 y1 y2 y3, LeO (marlinelaw05_Same.l0 k y0 y1 y2 y3) (marlinelaw05_Same.l0 (k + 1) y0 y1 y2 y3))
  | 0 => fun _ _ _ _ r h => by simp [marlinelaw05_Same.l0] at h
  | k + 1 => by
    have ih0 := marlinelaw05_Same.mono_l k
    · intro y0 y1 y2 y3
      unfold marlinelaw05_Same.l0
      repeat' first
      | (with_reducible exact ih0 _ _ _ _)
      | (with_reducible exact marlineref01_Equal.mono _ _ _)
      | (with_reducible exact LeO.refl _)
      | (with_reducible exact LeO.none _)
      | (with_reducible refine LeO.ite ?_ ?_)
      | (with_reducible refine LeO.bind ?_ (fun _ => ?_))
      | exact ih0 _ _ _ _
      | exact marlineref01_Equal.mono _ _ _
      | exact LeO.none _
      | refine LeO.ite ?_ ?_
      | refine LeO.bind ?_ (fun _ => ?_)
theorem marlinelaw05_Same.mono : ∀ a0 a1 k, LeO (marlinelaw05_Same.f k a0 a1) (marlinelaw05_Same.f (k + 1) a0 a1) := by
  intro a0 a1 k
  have ih0 := marlinelaw05_Same.mono_l k
  unfold marlinelaw05_Same.f
  repeat' first
      | (with_reducible exact ih0 _ _ _ _)
      | (with_reducible exact marlineref01_Equal.mono _ _ _)
      | (with_reducible exact LeO.refl _)
      | (with_reducible exact LeO.none _)
      | (with_reducible refine LeO.ite ?_ ?_)
      | (with_reducible refine LeO.bind ?_ (fun _ => ?_))
      | exact ih0 _ _ _ _
      | exact marlineref01_Equal.mono _ _ _
      | exact LeO.none _
      | refine LeO.ite ?_ ?_
      | refine LeO.bind ?_ (fun _ => ?_)
set_option maxHeartbeats 8000000 in
set_option maxRecDepth 100000 in
theorem marlinelaw05_Same.calls (k : Nat) (A0 : Option Addr) (c0 : Nat) (l0 : List (S34)) (A1 : Option Addr) (c1 : Nat) (l1 : List (S65)) (r : Bool) (w : World) (hr0 : Kd.C k34 w A0 l0.length l0) (hc0 : l0.length ≤ c0) (hr1 : Kd.C k65 w A1 l1.length l1) (hc1 : l1.length ≤ c1) (h : marlinelaw05_Same.f k l0 l1 = some r) :
    Calls Try.prog 20 #[.slice A0 l0.length c0, .slice A1 l1.length c1] w fun e w' => e = .returned (.bool r) ∧ Drawn0 w w' := by
  have HR0 := Aside0.mk hr0
  have HC0 := Aside0.mk hc0
  clear hr0 hc0
  have HR1 := Aside0.mk hr1
  have HC1 := Aside0.mk hc1
  clear hr1 hc1
  have H : (if (l0.length : Int) = (l1.length : Int) then (marlinelaw05_Same.l0 k l0 l1 (l0.length : Int) 0) else (some false)) = some r := h
  clear h
  by_cases c3 : (l0.length : Int) = (l1.length : Int)
  · rw [if_pos c3] at H
    have c3b0 : ((l0.length : Int) == (l1.length : Int)) = true := beq_iff_eq.mpr c3
    have c3b1 : ((l0.length : Int) != (l1.length : Int)) = false := bne_eq_false_iff_eq.mpr c3
    have c3b2 : (l0.length == l1.length) = true := by first | simpa using c3 | (simp at c3 ⊢; omega)
    clear c3
    have H' := Aside0.mk H
    clear H
    go_enter Try.func20, Try.ntmps20
    go_wp2
    repeat (go_quiet (fail); try go_wp2)
    go_loopg [13] k (fun kq v13 w' => ∃ (x13_1 : Int), v13 = .int .i64 x13_1 ∧ Aside0 (marlinelaw05_Same.l0 kq l0 l1 (l0.length : Int) x13_1 = some r) ∧ Aside0 (kq ≤ k) ∧ Drawn0 w w')
    case atStart => exact ⟨(0), (by first | rfl | (simp; done) | (simp [*]; done)), H', ⟨Nat.le_refl _⟩, by repeat (first | exact Drawn0.refl _ | apply Drawn0.step)⟩
    case round =>
      clear H'
      try clear c1
      try clear c2
      try clear p2
      try clear c3
      try clear c3b0
      try clear c3b1
      try clear c3b2
      obtain ⟨x13_1, rfl, HA, HK1, ⟨m1, rfl⟩⟩ := hrel
      cases gk with
      | zero => exact absurd HA.out (by simp [marlinelaw05_Same.l0])
      | succ k1 =>
        have H := HA.out
        clear HA
        simp only [marlinelaw05_Same.l0] at H
        by_cases c4 : x13_1 < (l0.length : Int)
        · rw [if_pos c4] at H
          have c4b0 : decide (x13_1 < (l0.length : Int)) = true := decide_eq_true c4
          clear c4
          by_cases c5 : 0 ≤ x13_1
          · rw [if_pos c5] at H
            have c5b0 : decide (0 ≤ x13_1) = true := decide_eq_true c5
            clear c5
            by_cases c6 : x13_1 < (l0.length : Int)
            · rw [if_pos c6] at H
              have c6b0 : decide (x13_1 < (l0.length : Int)) = true := decide_eq_true c6
              clear c6
              by_cases c7 : x13_1 < (l1.length : Int)
              · rw [if_pos c7] at H
                have c7b0 : decide (x13_1 < (l1.length : Int)) = true := decide_eq_true c7
                clear c7
                by_cases c8 : ((rd_T34 l0 x13_1).f0) = ((rd_T65 l1 x13_1).f0)
                · rw [if_pos c8] at H
                  have c8b0 : (((rd_T34 l0 x13_1).f0) == ((rd_T65 l1 x13_1).f0)) = true := beq_iff_eq.mpr c8
                  have c8b1 : (((rd_T34 l0 x13_1).f0) != ((rd_T65 l1 x13_1).f0)) = false := bne_eq_false_iff_eq.mpr c8
                  clear c8
                  replace H := Option.bind_eq_some_iff.mp H
                  obtain ⟨t233, A90, H⟩ := H
                  replace H : (if t233 = true then (marlinelaw05_Same.l0 k1 l0 l1 (l0.length : Int) (wrap64 (x13_1 + 1))) else (some false)) = some r := H
                  have A9 := Aside0.mk A90
                  clear A90
                  by_cases c10 : t233 = true
                  · subst c10
                    have H1 : (marlinelaw05_Same.l0 k1 l0 l1 (l0.length : Int) (wrap64 (x13_1 + 1))) = some r := by rw [if_pos rfl] at H; exact H
                    clear H
                    have H := H1
                    clear H1
                    have H' := Aside0.mk H
                    clear H
                    have p229 : 0 ≤ (x13_1 : Int) := of_decide_eq_true (by first | (with_reducible assumption) | assumption)
                    have q229 : x13_1 < (l0.length : Int) := of_decide_eq_true (by first | (with_reducible assumption) | assumption)
                    (try clear hHeld)
                    obtain ⟨ad229, A229_1, c229_1, e229, hx229_0, hx229_1, hl229_1, hi229_1⟩ := at_T34 HR0.out x13_1 p229 q229
                    cases e229
                    have HR229_1 := Aside0.mk hi229_1
                    have HC229_1 := Aside0.mk hl229_1
                    clear hi229_1 hl229_1
                    replace p229 := eq_true p229
                    replace q229 := eq_true q229
                    have p230 : 0 ≤ (x13_1 : Int) := of_decide_eq_true (by first | (with_reducible assumption) | assumption)
                    have q230 : x13_1 < (l1.length : Int) := of_decide_eq_true (by first | (with_reducible assumption) | assumption)
                    (try clear hHeld)
                    obtain ⟨ad230, A230_1, c230_1, e230, hx230_0, hx230_1, hl230_1, hi230_1⟩ := at_T65 HR1.out x13_1 p230 q230
                    cases e230
                    have HR230_1 := Aside0.mk hi230_1
                    have HC230_1 := Aside0.mk hl230_1
                    clear hi230_1 hl230_1
                    replace p230 := eq_true p230
                    replace q230 := eq_true q230
                    have p231 : 0 ≤ (x13_1 : Int) := of_decide_eq_true (by first | (with_reducible assumption) | assumption)
                    have q231 : x13_1 < (l0.length : Int) := of_decide_eq_true (by first | (with_reducible assumption) | assumption)
                    (try clear hHeld)
                    obtain ⟨ad231, A231_1, c231_1, e231, hx231_0, hx231_1, hl231_1, hi231_1⟩ := at_T34 HR0.out x13_1 p231 q231
                    obtain rfl : ad229 = ad231 := (by injection e231)
                    have HR231_1 := Aside0.mk hi231_1
                    have HC231_1 := Aside0.mk hl231_1
                    clear hi231_1 hl231_1
                    replace p231 := eq_true p231
                    replace q231 := eq_true q231
                    have ea_ := Option.some.inj (hx229_1.symm.trans hx231_1)
                    injection ea_ with ea_ en_ ec_
                    subst ea_
                    subst ec_
                    clear en_
                    have p232 : 0 ≤ (x13_1 : Int) := of_decide_eq_true (by first | (with_reducible assumption) | assumption)
                    have q232 : x13_1 < (l1.length : Int) := of_decide_eq_true (by first | (with_reducible assumption) | assumption)
                    (try clear hHeld)
                    obtain ⟨ad232, A232_1, c232_1, e232, hx232_0, hx232_1, hl232_1, hi232_1⟩ := at_T65 HR1.out x13_1 p232 q232
                    obtain rfl : ad230 = ad232 := (by injection e232)
                    have HR232_1 := Aside0.mk hi232_1
                    have HC232_1 := Aside0.mk hl232_1
                    clear hi232_1 hl232_1
                    replace p232 := eq_true p232
                    replace q232 := eq_true q232
                    have ea_ := Option.some.inj (hx230_1.symm.trans hx232_1)
                    injection ea_ with ea_ en_ ec_
                    subst ea_
                    subst ec_
                    clear en_
                    go_wp2_with (first | (go_at_call 17; (with_reducible refine (marlineref01_Equal.calls k1 _ _ ((rd_T34 l0 x13_1).f1) _ _ ((rd_T65 l1 x13_1).f1) true _ ?side1 ?side2 ?side3 ?side4 A9.out).mono ?_); (case side1 => repeat (first | exact HR231_1.out | (with_reducible refine Kd.C_alloc ?_ _) | (with_reducible refine Kd.C_drewN ?_ _) | (with_reducible refine Kd.C_drew ?_))); (case side2 => exact HC231_1.out); (case side3 => repeat (first | exact HR232_1.out | (with_reducible refine Kd.C_alloc ?_ _) | (with_reducible refine Kd.C_drewN ?_ _) | (with_reducible refine Kd.C_drew ?_))); (case side4 => exact HC232_1.out); rintro e w' ⟨rfl, ⟨nd, rfl⟩⟩; (try first | exact ⟨rfl, _, World.drewN_drewN _ _ _⟩ | exact ⟨rfl, _, Eq.trans (World.drewN_drewN _ _ _) (congrArg (World.drewN _) (Nat.add_assoc _ _ _))⟩)))
                    repeat (go_quiet (first | (go_at_call 17; (with_reducible refine (marlineref01_Equal.calls k1 _ _ ((rd_T34 l0 x13_1).f1) _ _ ((rd_T65 l1 x13_1).f1) true _ ?side1 ?side2 ?side3 ?side4 A9.out).mono ?_); (case side1 => repeat (first | exact HR231_1.out | (with_reducible refine Kd.C_alloc ?_ _) | (with_reducible refine Kd.C_drewN ?_ _) | (with_reducible refine Kd.C_drew ?_))); (case side2 => exact HC231_1.out); (case side3 => repeat (first | exact HR232_1.out | (with_reducible refine Kd.C_alloc ?_ _) | (with_reducible refine Kd.C_drewN ?_ _) | (with_reducible refine Kd.C_drew ?_))); (case side4 => exact HC232_1.out); rintro e w' ⟨rfl, ⟨nd, rfl⟩⟩; (try first | exact ⟨rfl, _, World.drewN_drewN _ _ _⟩ | exact ⟨rfl, _, Eq.trans (World.drewN_drewN _ _ _) (congrArg (World.drewN _) (Nat.add_assoc _ _ _))⟩))); try go_wp2_with (first | (go_at_call 17; (with_reducible refine (marlineref01_Equal.calls k1 _ _ ((rd_T34 l0 x13_1).f1) _ _ ((rd_T65 l1 x13_1).f1) true _ ?side1 ?side2 ?side3 ?side4 A9.out).mono ?_); (case side1 => repeat (first | exact HR231_1.out | (with_reducible refine Kd.C_alloc ?_ _) | (with_reducible refine Kd.C_drewN ?_ _) | (with_reducible refine Kd.C_drew ?_))); (case side2 => exact HC231_1.out); (case side3 => repeat (first | exact HR232_1.out | (with_reducible refine Kd.C_alloc ?_ _) | (with_reducible refine Kd.C_drewN ?_ _) | (with_reducible refine Kd.C_drew ?_))); (case side4 => exact HC232_1.out); rintro e w' ⟨rfl, ⟨nd, rfl⟩⟩; (try first | exact ⟨rfl, _, World.drewN_drewN _ _ _⟩ | exact ⟨rfl, _, Eq.trans (World.drewN_drewN _ _ _) (congrArg (World.drewN _) (Nat.add_assoc _ _ _))⟩))))
                    go_roundg k1
                    case measure => have := HK1.out; omega
                    case rel => exact ⟨(wrap64 (x13_1 + 1)), (by first | rfl | (simp; done) | (simp [*]; done)), H', ⟨by have := HK1.out; omega⟩, by repeat (first | exact Drawn0.refl _ | apply Drawn0.step)⟩
                  · replace c10 := Bool.eq_false_iff.mpr c10
                    subst c10
                    have H1 : (some false) = some r := by rw [if_neg (show ¬ (false = true) by decide)] at H; exact H
                    clear H
                    have H := H1
                    clear H1
                    obtain rfl := Option.some.inj H
                    have p229 : 0 ≤ (x13_1 : Int) := of_decide_eq_true (by first | (with_reducible assumption) | assumption)
                    have q229 : x13_1 < (l0.length : Int) := of_decide_eq_true (by first | (with_reducible assumption) | assumption)
                    (try clear hHeld)
                    obtain ⟨ad229, A229_1, c229_1, e229, hx229_0, hx229_1, hl229_1, hi229_1⟩ := at_T34 HR0.out x13_1 p229 q229
                    cases e229
                    have HR229_1 := Aside0.mk hi229_1
                    have HC229_1 := Aside0.mk hl229_1
                    clear hi229_1 hl229_1
                    replace p229 := eq_true p229
                    replace q229 := eq_true q229
                    have p230 : 0 ≤ (x13_1 : Int) := of_decide_eq_true (by first | (with_reducible assumption) | assumption)
                    have q230 : x13_1 < (l1.length : Int) := of_decide_eq_true (by first | (with_reducible assumption) | assumption)
                    (try clear hHeld)
                    obtain ⟨ad230, A230_1, c230_1, e230, hx230_0, hx230_1, hl230_1, hi230_1⟩ := at_T65 HR1.out x13_1 p230 q230
                    cases e230
                    have HR230_1 := Aside0.mk hi230_1
                    have HC230_1 := Aside0.mk hl230_1
                    clear hi230_1 hl230_1
                    replace p230 := eq_true p230
                    replace q230 := eq_true q230
                    have p231 : 0 ≤ (x13_1 : Int) := of_decide_eq_true (by first | (with_reducible assumption) | assumption)
                    have q231 : x13_1 < (l0.length : Int) := of_decide_eq_true (by first | (with_reducible assumption) | assumption)
                    (try clear hHeld)
                    obtain ⟨ad231, A231_1, c231_1, e231, hx231_0, hx231_1, hl231_1, hi231_1⟩ := at_T34 HR0.out x13_1 p231 q231
                    obtain rfl : ad229 = ad231 := (by injection e231)
                    have HR231_1 := Aside0.mk hi231_1
                    have HC231_1 := Aside0.mk hl231_1
                    clear hi231_1 hl231_1
                    replace p231 := eq_true p231
                    replace q231 := eq_true q231
                    have ea_ := Option.some.inj (hx229_1.symm.trans hx231_1)
                    injection ea_ with ea_ en_ ec_
                    subst ea_
                    subst ec_
                    clear en_
                    have p232 : 0 ≤ (x13_1 : Int) := of_decide_eq_true (by first | (with_reducible assumption) | assumption)
                    have q232 : x13_1 < (l1.length : Int) := of_decide_eq_true (by first | (with_reducible assumption) | assumption)
                    (try clear hHeld)
                    obtain ⟨ad232, A232_1, c232_1, e232, hx232_0, hx232_1, hl232_1, hi232_1⟩ := at_T65 HR1.out x13_1 p232 q232
                    obtain rfl : ad230 = ad232 := (by injection e232)
                    have HR232_1 := Aside0.mk hi232_1
                    have HC232_1 := Aside0.mk hl232_1
                    clear hi232_1 hl232_1
                    replace p232 := eq_true p232
                    replace q232 := eq_true q232
                    have ea_ := Option.some.inj (hx230_1.symm.trans hx232_1)
                    injection ea_ with ea_ en_ ec_
                    subst ea_
                    subst ec_
                    clear en_
                    go_wp2_with (first | (go_at_call 17; (with_reducible refine (marlineref01_Equal.calls k1 _ _ ((rd_T34 l0 x13_1).f1) _ _ ((rd_T65 l1 x13_1).f1) false _ ?side1 ?side2 ?side3 ?side4 A9.out).mono ?_); (case side1 => repeat (first | exact HR231_1.out | (with_reducible refine Kd.C_alloc ?_ _) | (with_reducible refine Kd.C_drewN ?_ _) | (with_reducible refine Kd.C_drew ?_))); (case side2 => exact HC231_1.out); (case side3 => repeat (first | exact HR232_1.out | (with_reducible refine Kd.C_alloc ?_ _) | (with_reducible refine Kd.C_drewN ?_ _) | (with_reducible refine Kd.C_drew ?_))); (case side4 => exact HC232_1.out); rintro e w' ⟨rfl, ⟨nd, rfl⟩⟩; (try first | exact ⟨rfl, _, World.drewN_drewN _ _ _⟩ | exact ⟨rfl, _, Eq.trans (World.drewN_drewN _ _ _) (congrArg (World.drewN _) (Nat.add_assoc _ _ _))⟩)))
                    repeat (go_quiet (first | (go_at_call 17; (with_reducible refine (marlineref01_Equal.calls k1 _ _ ((rd_T34 l0 x13_1).f1) _ _ ((rd_T65 l1 x13_1).f1) false _ ?side1 ?side2 ?side3 ?side4 A9.out).mono ?_); (case side1 => repeat (first | exact HR231_1.out | (with_reducible refine Kd.C_alloc ?_ _) | (with_reducible refine Kd.C_drewN ?_ _) | (with_reducible refine Kd.C_drew ?_))); (case side2 => exact HC231_1.out); (case side3 => repeat (first | exact HR232_1.out | (with_reducible refine Kd.C_alloc ?_ _) | (with_reducible refine Kd.C_drewN ?_ _) | (with_reducible refine Kd.C_drew ?_))); (case side4 => exact HC232_1.out); rintro e w' ⟨rfl, ⟨nd, rfl⟩⟩; (try first | exact ⟨rfl, _, World.drewN_drewN _ _ _⟩ | exact ⟨rfl, _, Eq.trans (World.drewN_drewN _ _ _) (congrArg (World.drewN _) (Nat.add_assoc _ _ _))⟩))); try go_wp2_with (first | (go_at_call 17; (with_reducible refine (marlineref01_Equal.calls k1 _ _ ((rd_T34 l0 x13_1).f1) _ _ ((rd_T65 l1 x13_1).f1) false _ ?side1 ?side2 ?side3 ?side4 A9.out).mono ?_); (case side1 => repeat (first | exact HR231_1.out | (with_reducible refine Kd.C_alloc ?_ _) | (with_reducible refine Kd.C_drewN ?_ _) | (with_reducible refine Kd.C_drew ?_))); (case side2 => exact HC231_1.out); (case side3 => repeat (first | exact HR232_1.out | (with_reducible refine Kd.C_alloc ?_ _) | (with_reducible refine Kd.C_drewN ?_ _) | (with_reducible refine Kd.C_drew ?_))); (case side4 => exact HC232_1.out); rintro e w' ⟨rfl, ⟨nd, rfl⟩⟩; (try first | exact ⟨rfl, _, World.drewN_drewN _ _ _⟩ | exact ⟨rfl, _, Eq.trans (World.drewN_drewN _ _ _) (congrArg (World.drewN _) (Nat.add_assoc _ _ _))⟩))))
                    go_ret
                    exact ⟨by first | rfl | (simp; done) | (simp [*]; done), by repeat (first | exact Drawn0.refl _ | apply Drawn0.step)⟩
                · rw [if_neg c8] at H
                  have c8b0 : (((rd_T34 l0 x13_1).f0) == ((rd_T65 l1 x13_1).f0)) = false := beq_eq_false_iff_ne.mpr c8
                  have c8b1 : (((rd_T34 l0 x13_1).f0) != ((rd_T65 l1 x13_1).f0)) = true := bne_iff_ne.mpr c8
                  obtain rfl := Option.some.inj H
                  have p229 : 0 ≤ (x13_1 : Int) := of_decide_eq_true (by first | (with_reducible assumption) | assumption)
                  have q229 : x13_1 < (l0.length : Int) := of_decide_eq_true (by first | (with_reducible assumption) | assumption)
                  (try clear hHeld)
                  obtain ⟨ad229, A229_1, c229_1, e229, hx229_0, hx229_1, hl229_1, hi229_1⟩ := at_T34 HR0.out x13_1 p229 q229
                  cases e229
                  have HR229_1 := Aside0.mk hi229_1
                  have HC229_1 := Aside0.mk hl229_1
                  clear hi229_1 hl229_1
                  replace p229 := eq_true p229
                  replace q229 := eq_true q229
                  have p230 : 0 ≤ (x13_1 : Int) := of_decide_eq_true (by first | (with_reducible assumption) | assumption)
                  have q230 : x13_1 < (l1.length : Int) := of_decide_eq_true (by first | (with_reducible assumption) | assumption)
                  (try clear hHeld)
                  obtain ⟨ad230, A230_1, c230_1, e230, hx230_0, hx230_1, hl230_1, hi230_1⟩ := at_T65 HR1.out x13_1 p230 q230
                  cases e230
                  have HR230_1 := Aside0.mk hi230_1
                  have HC230_1 := Aside0.mk hl230_1
                  clear hi230_1 hl230_1
                  replace p230 := eq_true p230
                  replace q230 := eq_true q230
                  go_wp2
                  repeat (go_quiet (fail); try go_wp2)
                  go_ret
                  exact ⟨by first | rfl | (simp; done) | (simp [*]; done), by repeat (first | exact Drawn0.refl _ | apply Drawn0.step)⟩
              · rw [if_neg c7] at H
                exact absurd H (by simp)
            · rw [if_neg c6] at H
              exact absurd H (by simp)
          · rw [if_neg c5] at H
            exact absurd H (by simp)
        · rw [if_neg c4] at H
          have c4b0 : decide (x13_1 < (l0.length : Int)) = false := decide_eq_false c4
          clear c4
          obtain rfl := Option.some.inj H
          go_wp2
          repeat (go_quiet (fail); try go_wp2)
          go_ret
          exact ⟨by first | rfl | (simp; done) | (simp [*]; done), by repeat (first | exact Drawn0.refl _ | apply Drawn0.step)⟩
  · rw [if_neg c3] at H
    have c3b0 : ((l0.length : Int) == (l1.length : Int)) = false := beq_eq_false_iff_ne.mpr c3
    have c3b1 : ((l0.length : Int) != (l1.length : Int)) = true := bne_iff_ne.mpr c3
    have c3b2 : (l0.length == l1.length) = false := by first | simpa using c3 | (simp at c3 ⊢; omega)
    obtain rfl := Option.some.inj H
    go_enter Try.func20, Try.ntmps20
    go_wp2
    repeat (go_quiet (fail); try go_wp2)
    go_ret
    exact ⟨by first | rfl | (simp; done) | (simp [*]; done), by repeat (first | exact Drawn0.refl _ | apply Drawn0.step)⟩

end Go.Proofs.Ytjmclghjhnbafaa.Print
