/- Texts of this claim, several in one: what Go functions come to, and plain words on it; each says itself what it proves. -/
import Derived.Test.YtjmclghjhnbafaaProg
import Derived.WalkSpells
import Derived.Lib.SlBytesConst
import Derived.Below
import Derived.Deep.Draws
import Derived.Deep.AppendLies
import Derived.Maps.AppendAt
import Derived.OwnWalk
import Derived.Laws.BytesArg
import Derived.Laws.MakeOwn
import Derived.Laws.OwnMore
import Derived.Deep.OwnRows
import Derived.Tactics
import Derived.Lib.ConvBytes
import Derived.Laws.Slices
import Derived.WalkKit
import Derived.KernelRfl
import Derived.RowKit3
import Derived.Deep.LoopGhost
import Derived.Deep.QuietTactic
import Derived.BigQuiet
import Derived.WideLaws
import Derived.Deep.DeepCutAuto
import Derived.Deep.CutBlock
import Derived.Deep.RegionHeld3
import Derived.Laws.Rows
import Derived.Lib.AppendStr
import Derived.ArgAppend
import Derived.Laws.IdiomCopy
import Derived.OrdersHeld
import Derived.Laws.BitsLemmas
import Derived.RowKit
import Derived.Test.YtjmclghjhnbafaaWWords
import Derived.Test.YtjmclghjhnbafaaWLast
import Derived.Test.YtjmclghjhnbafaaWTab
import Derived.Test.YtjmclghjhnbafaaWFour
import Derived.Test.YtjmclghjhnbafaaWQPut
import Derived.Test.YtjmclghjhnbafaaWApart
import Derived.Test.YtjmclghjhnbafaaWArr
import Derived.Test.YtjmclghjhnbafaaWZeros
import Derived.Test.YtjmclghjhnbafaaWFoot
import Derived.Test.YtjmclghjhnbafaaWKept
import Derived.Test.YtjmclghjhnbafaaWShare
import Derived.Test.YtjmclghjhnbafaaWN
import Derived.Test.YtjmclghjhnbafaaWFootNe
import Derived.Test.YtjmclghjhnbafaaWAt
import Derived.Test.YtjmclghjhnbafaaWEqStruct
import Derived.Test.YtjmclghjhnbafaaWRepsOne
import Derived.Test.YtjmclghjhnbafaaWInv
import Derived.Test.YtjmclghjhnbafaaWInvWords
import Derived.Test.YtjmclghjhnbafaaWGuard
import Derived.Test.YtjmclghjhnbafaaWNEv
import Derived.Test.YtjmclghjhnbafaaWMore
import Derived.WalkMore
import Derived.Laws.BitsAllLaws
/- A text that a program of this claim (wip/x) laid out of the translation: what Go functions come to, and that they come to it. Lean checks it. -/
namespace Go.Proofs.Ytjmclghjhnbafaa.Print
open Go.RowKit Go.Proofs.YtjmclghjhnbafaaW.PrintWords Go.Proofs.YtjmclghjhnbafaaW.PrintLast Go.Proofs.YtjmclghjhnbafaaW.PrintMore
attribute [local go_sem] max2_int min2_int max_two min_two max_three min_three max_four min_four   -- for this text's walks alone
set_option linter.unusedVariables false
set_option linter.unusedSimpArgs false



def errW : Option Int → Value
  | none => .nilIface
  | some c => .iface 0 (.int .i64 c)
theorem errW_none : errW none = .nilIface := rfl
theorem errW_some (c : Int) : errW (some c) = .iface 0 (.int .i64 c) := rfl

/-! ### words of this claim's own -/
section
variable {P : Program} {ops : Array Oper} {rest : List Oper} {o : Oper} {a : Act} {Q : Exit → Act → World → Prop}
/-- make([]T, 0, n): an empty row of the call's own. -/
theorem R_makecap {α : Type} (d : Kd α) {w0 W : World} (base e : Nat) (hgd : o.guard = none) {N : Tmp} (_hd : o.dst = some N) (t : TypeId) (x y : Operand) (ho : o.op = .makeSlice t x y) (n : Int) (hx : a.eval x = .int .i64 0) (hy : a.eval y = .int .i64 n)
    (ht : P.underlying t = some (.slice e)) (z : Value) (bytes : Nat) (hinfo : (P.info? e).map (fun i => (i.zero, i.size, i.bytes)) = some (some z, d.sz, bytes)) (hz : z.cells.size = d.sz) (_hs0 : 0 < d.sz) (hb0 : 0 < bytes)
    (z0 : α) {ok okp : Nat → Prop} (_hzero : d.M W base okp z0 z.cells.toList) (_hok : ∀ k, okp k → ok k) (hfresh : ok W.heap.size) (h0 : 0 ≤ n) (hl : n.toNat * bytes ≤ 281474976710656) (HB : Below base w0 W) (hbase : base ≤ W.heap.size)
    (h : ∀ v1 w1, d.R e w1 base ok v1 [] → Below base w0 w1 → W.grownBy w1 none → (∃ b, v1.ownBlock = some b ∧ W.heap.size ≤ b) → wpList P ops Q rest (a.put o.dst v1) w1) : wpList P ops Q (o :: rest) a W := by
  obtain ⟨m, rfl⟩ := Int.eq_ofNat_of_zero_le h0
  simp only [Int.toNat_natCast] at hl h
  obtain ⟨i0, hi, hzz⟩ := Option.map_eq_some_iff.1 hinfo
  simp only [Prod.mk.injEq] at hzz
  obtain ⟨hz0, hz1, hz2⟩ := hzz
  have hm : m ≤ 281474976710656 := Nat.le_trans (Nat.le_mul_of_pos_right _ hb0) hl
  have hr := run_make (P := P) W t e i0 z ht hi hz0 .i64 .i64 0 (m : Int) (by omega) (by omega)
    (by
      have h3 : ((i0.bytes * m : Nat) : Int) ≤ 281474976710656 := by rw [hz2, Nat.mul_comm]; omega
      rwa [Int.natCast_mul] at h3) (by omega)
  simp only [Int.toNat_natCast, Int.toNat_zero] at hr
  rw [hz1] at hr
  have hown := World.ownsRow_made (e := e) (size := d.sz) (base := base) W (madeCells z.cells (m * d.sz)) m hbase (by simp only [maxLen]; omega) (size_madeCells _ _)
  refine Kd.event_run hgd (by simp [execOp, ho, hx, hy, hr]) (h _ _ ⟨fun k hk => ?_, [], hown, ⟨by simp, fun j p hj => by simp at hj⟩⟩ (HB.alloc hbase _) (World.grownBy_alloc W _ none) ⟨W.heap.size, by simp [Value.ownBlock], Nat.le_refl _⟩)
  have : W.heap.size = k := by simpa [Value.ownBlock] using hk
  subst this
  exact hfresh
end
section
variable {α : Type} {d : Kd α} {W : World} {ok : Nat → Prop} {ad : Addr} {n : Nat} {xs : List α}
/-- A row that is read, and isn't empty, lies in ok. -/
theorem F_lies (z : α) (h : Kd.F d W ok (some ad) n xs) (hs : 0 < d.sz) (hn : 0 < n) : ok ad.block := by
  apply Classical.byContradiction
  intro hno
  have hC := h { W with heap := W.heap.setIfInBounds ad.block (.cells #[] 0 (0, 0)) } (fun j hj _ => by
    have hne : ad.block ≠ j := fun e => hno (e ▸ hj)
    simp [hne])
  obtain ⟨ad', c, e, hl, hK, hc⟩ := Kd.C_get hC z 0 (by omega) (by omega)
  injection e with e
  subst e
  have h0 := hc 0 (c[0]'(by omega)) (List.getElem?_eq_getElem _)
  have h1 : ∀ a : Addr, a.block = ad.block → (World.cell? { W with heap := W.heap.setIfInBounds ad.block (.cells #[] 0 (0, 0)) } a) = none := by
    intro a ha
    unfold World.cell?
    rw [ha]
    simp only [Array.getElem?_setIfInBounds_self]
    split <;> rename_i h2
    · split at h2
      · cases h2
        split <;> simp
      · cases h2
    · rfl
  rw [h1 _ (by rw [add_block])] at h0
  cases h0
theorem Kd.V_away {e base c g : Nat} (h : Kd.V d e W base ok (.slice (some ad) n c) xs) (hok : ∀ k, ok k → k ≠ g) (hn : 0 < n := by first | omega | (simp only [eq_iff_iff, iff_true, decide_eq_true_eq] at *; omega)) (hs : 0 < d.sz := by first | exact Nat.one_pos | decide) : some g ≠ (Value.slice (some ad) n c).ownBlock := by
  intro he
  simp only [Value.ownBlock, Option.some.injEq] at he
  obtain ⟨hl, _, _⟩ := Kd.V_at h
  exact hok _ (F_lies (xs[0]'(by omega)) (Kd.V_F h) hs hn) he.symm
end

theorem info5 : (Try.prog.info? 5).map (fun i => (i.zero, i.size, i.bytes)) = some (some (.int .u8 0), 1, 1) := by kernel_rfl
theorem info28 : (Try.prog.info? 28).map (fun i => (i.zero, i.size, i.bytes)) = some (some (.slice none 0 0), 1, 24) := by kernel_rfl
theorem info65 : (Try.prog.info? 65).map (fun i => (i.zero, i.size, i.bytes)) = some (some (.agg #[(.int .i64 0), (.slice none 0 0)]), 2, 32) := by kernel_rfl
theorem info74 : (Try.prog.info? 74).map (fun i => (i.zero, i.size, i.bytes)) = some (some (.agg #[(.int .i64 0), (.slice none 0 0)]), 2, 32) := by kernel_rfl
-- the values' own types
def rd_L1 (xs : List (List Int)) (i : Int) : (List Int) := xs.getD i.toNat ([] : List Int)
theorem at_L1 {w : World} {A : Option Addr} {n : Nat} {xs : List (List Int)} (h : Kd.C (Kd.slice 5 (Kd.int .u8)) w A n xs) (i : Int) (h0 : 0 ≤ i) (h1 : i < n) : ∃ ad A0 c0, A = some ad ∧ w.cell? (ad.add i.toNat) = some (.slice A0 (rd_L1 xs i).length c0) ∧ (rd_L1 xs i).length ≤ c0 ∧ (Kd.int .u8).C w A0 (rd_L1 xs i).length (rd_L1 xs i) := by
  obtain ⟨ad, c, e, _, hK, hc0⟩ := Kd.C_get h ([] : List Int) i h0 h1
  have hc : ∀ j u, c[j]? = some u → w.cell? (ad.add (i.toNat * 1 + j)) = some u := hc0
  obtain ⟨A0, c0, rfl, l0, g0⟩ := hK
  exact ⟨ad, A0, c0, e, by have hq := hc 0 _ rfl; rwa [Nat.mul_one, Nat.add_zero] at hq, l0, g0⟩

/-! #### struct type 34 -/
structure S34 where
  f0 : Int
  f1 : (List Int)
def z34 : S34 := ⟨(0 : Int), ([] : List Int)⟩
def k34 : Kd S34 := Kd.iso (Kd.pair (Kd.int .i64) (Kd.slice 5 (Kd.int .u8))) (fun x : S34 => (x.f0, x.f1))
theorem k34_heap : Kd.Heap k34 := Kd.heap_iso _ (Kd.heap_pair (Kd.heap_int .i64) (Kd.heap_slice 5 (Kd.heap_int .u8)))
theorem k34_open {w : World} {x : S34} {cs : List Value} (h : k34.K w x cs) : ∃ A1 c1, cs = [.int .i64 x.f0, .slice A1 x.f1.length c1] ∧ x.f1.length ≤ c1 ∧ (Kd.int .u8).C w A1 x.f1.length x.f1 := by
  obtain ⟨_, _, rfl, rfl, ⟨A1, c1, rfl, l1, g1⟩⟩ := h
  exact ⟨A1, c1, rfl, l1, g1⟩
theorem k34_openM {w : World} {base : Nat} {ok : Nat → Prop} {x : S34} {cs : List Value} (h : k34.M w base ok x cs) : ∃ v1, cs = [.int .i64 x.f0, v1] ∧ (Kd.int .u8).R 5 w base ok v1 x.f1 := by
  obtain ⟨_, _, rfl, rfl, ⟨v1, rfl, g1⟩⟩ := h
  exact ⟨v1, rfl, g1⟩
theorem k34_mk (w : World) (x : S34) {A1 : Option Addr} {c1 : Nat} (l1 : x.f1.length ≤ c1) (g1 : (Kd.int .u8).C w A1 x.f1.length x.f1) : k34.K w x [.int .i64 x.f0, .slice A1 x.f1.length c1] := ⟨[.int .i64 x.f0], [.slice A1 x.f1.length c1], rfl, rfl, ⟨A1, c1, rfl, l1, g1⟩⟩
theorem k34_mkM (w : World) (base : Nat) (ok : Nat → Prop) (x : S34) {v1 : Value} (g1 : (Kd.int .u8).R 5 w base ok v1 x.f1) : k34.M w base ok x [.int .i64 x.f0, v1] := ⟨[.int .i64 x.f0], [v1], rfl, rfl, ⟨v1, rfl, g1⟩⟩
theorem k34_openF {W : World} {ok : Nat → Prop} {x : S34} {cs : List Value} (h : Kd.FK k34 W ok x cs) : ∃ A1 c1, cs = [.int .i64 x.f0, .slice A1 x.f1.length c1] ∧ x.f1.length ≤ c1 ∧ Kd.F (Kd.int .u8) W ok A1 x.f1.length x.f1 := by
  obtain ⟨A1, c1, rfl, l1, _⟩ := k34_open (Kd.FK_now h)
  exact ⟨A1, c1, rfl, l1, (fun W' hW => by obtain ⟨A1_, c1_, he, l1_, g1_⟩ := k34_open (h W' hW); injection (Option.some.inj (show some (Value.slice A1 x.f1.length c1) = some (Value.slice A1_ x.f1.length c1_) from congrArg (fun l => l[1]?) he)) with ha_ _ _; rw [ha_]; exact g1_)⟩
theorem k34_mkF (W : World) (ok : Nat → Prop) (x : S34) {A1 : Option Addr} {c1 : Nat} (l1 : x.f1.length ≤ c1) (g1 : Kd.F (Kd.int .u8) W ok A1 x.f1.length x.f1) : Kd.FK k34 W ok x [.int .i64 x.f0, .slice A1 x.f1.length c1] := fun W2 hW => k34_mk W2 x l1 (g1 W2 hW)
def rd_T34 (xs : List S34) (i : Int) : S34 := xs.getD i.toNat z34
theorem at_T34 {w : World} {A : Option Addr} {n : Nat} {xs : List S34} (h : Kd.C k34 w A n xs) (i : Int) (h0 : 0 ≤ i) (h1 : i < n) : ∃ ad A1 c1, A = some ad ∧ w.cell? (ad.add (i.toNat * 2)) = some (.int .i64 (rd_T34 xs i).f0) ∧ w.cell? ⟨(ad.add (i.toNat * 2)).block, (ad.add (i.toNat * 2)).off + 1, none⟩ = some (.slice A1 (rd_T34 xs i).f1.length c1) ∧ (rd_T34 xs i).f1.length ≤ c1 ∧ (Kd.int .u8).C w A1 (rd_T34 xs i).f1.length (rd_T34 xs i).f1 := by
  obtain ⟨ad, c, e, _, hK, hc0⟩ := Kd.C_get h z34 i h0 h1
  have hc : ∀ j u, c[j]? = some u → w.cell? (ad.add (i.toNat * 2 + j)) = some u := hc0
  obtain ⟨A1, c1, rfl, l1, g1⟩ := k34_open hK
  exact ⟨ad, A1, c1, e, hc 0 _ rfl, by rw [← add_field _ _ 1 (by omega)]; exact hc 1 _ rfl, l1, g1⟩

/-! #### struct type 65 -/
structure S65 where
  f0 : Int
  f1 : (List Int)
def z65 : S65 := ⟨(0 : Int), ([] : List Int)⟩
def k65 : Kd S65 := Kd.iso (Kd.pair (Kd.int .i64) (Kd.slice 5 (Kd.int .u8))) (fun x : S65 => (x.f0, x.f1))
theorem k65_heap : Kd.Heap k65 := Kd.heap_iso _ (Kd.heap_pair (Kd.heap_int .i64) (Kd.heap_slice 5 (Kd.heap_int .u8)))
theorem k65_open {w : World} {x : S65} {cs : List Value} (h : k65.K w x cs) : ∃ A1 c1, cs = [.int .i64 x.f0, .slice A1 x.f1.length c1] ∧ x.f1.length ≤ c1 ∧ (Kd.int .u8).C w A1 x.f1.length x.f1 := by
  obtain ⟨_, _, rfl, rfl, ⟨A1, c1, rfl, l1, g1⟩⟩ := h
  exact ⟨A1, c1, rfl, l1, g1⟩
theorem k65_openM {w : World} {base : Nat} {ok : Nat → Prop} {x : S65} {cs : List Value} (h : k65.M w base ok x cs) : ∃ v1, cs = [.int .i64 x.f0, v1] ∧ (Kd.int .u8).R 5 w base ok v1 x.f1 := by
  obtain ⟨_, _, rfl, rfl, ⟨v1, rfl, g1⟩⟩ := h
  exact ⟨v1, rfl, g1⟩
theorem k65_mk (w : World) (x : S65) {A1 : Option Addr} {c1 : Nat} (l1 : x.f1.length ≤ c1) (g1 : (Kd.int .u8).C w A1 x.f1.length x.f1) : k65.K w x [.int .i64 x.f0, .slice A1 x.f1.length c1] := ⟨[.int .i64 x.f0], [.slice A1 x.f1.length c1], rfl, rfl, ⟨A1, c1, rfl, l1, g1⟩⟩
theorem k65_mkM (w : World) (base : Nat) (ok : Nat → Prop) (x : S65) {v1 : Value} (g1 : (Kd.int .u8).R 5 w base ok v1 x.f1) : k65.M w base ok x [.int .i64 x.f0, v1] := ⟨[.int .i64 x.f0], [v1], rfl, rfl, ⟨v1, rfl, g1⟩⟩
theorem k65_openF {W : World} {ok : Nat → Prop} {x : S65} {cs : List Value} (h : Kd.FK k65 W ok x cs) : ∃ A1 c1, cs = [.int .i64 x.f0, .slice A1 x.f1.length c1] ∧ x.f1.length ≤ c1 ∧ Kd.F (Kd.int .u8) W ok A1 x.f1.length x.f1 := by
  obtain ⟨A1, c1, rfl, l1, _⟩ := k65_open (Kd.FK_now h)
  exact ⟨A1, c1, rfl, l1, (fun W' hW => by obtain ⟨A1_, c1_, he, l1_, g1_⟩ := k65_open (h W' hW); injection (Option.some.inj (show some (Value.slice A1 x.f1.length c1) = some (Value.slice A1_ x.f1.length c1_) from congrArg (fun l => l[1]?) he)) with ha_ _ _; rw [ha_]; exact g1_)⟩
theorem k65_mkF (W : World) (ok : Nat → Prop) (x : S65) {A1 : Option Addr} {c1 : Nat} (l1 : x.f1.length ≤ c1) (g1 : Kd.F (Kd.int .u8) W ok A1 x.f1.length x.f1) : Kd.FK k65 W ok x [.int .i64 x.f0, .slice A1 x.f1.length c1] := fun W2 hW => k65_mk W2 x l1 (g1 W2 hW)
def rd_T65 (xs : List S65) (i : Int) : S65 := xs.getD i.toNat z65
theorem at_T65 {w : World} {A : Option Addr} {n : Nat} {xs : List S65} (h : Kd.C k65 w A n xs) (i : Int) (h0 : 0 ≤ i) (h1 : i < n) : ∃ ad A1 c1, A = some ad ∧ w.cell? (ad.add (i.toNat * 2)) = some (.int .i64 (rd_T65 xs i).f0) ∧ w.cell? ⟨(ad.add (i.toNat * 2)).block, (ad.add (i.toNat * 2)).off + 1, none⟩ = some (.slice A1 (rd_T65 xs i).f1.length c1) ∧ (rd_T65 xs i).f1.length ≤ c1 ∧ (Kd.int .u8).C w A1 (rd_T65 xs i).f1.length (rd_T65 xs i).f1 := by
  obtain ⟨ad, c, e, _, hK, hc0⟩ := Kd.C_get h z65 i h0 h1
  have hc : ∀ j u, c[j]? = some u → w.cell? (ad.add (i.toNat * 2 + j)) = some u := hc0
  obtain ⟨A1, c1, rfl, l1, g1⟩ := k65_open hK
  exact ⟨ad, A1, c1, e, hc 0 _ rfl, by rw [← add_field _ _ 1 (by omega)]; exact hc 1 _ rfl, l1, g1⟩

/-! #### struct type 54 -/
structure S54 where
  f0 : Int
  f1 : (List Int)
def z54 : S54 := ⟨(0 : Int), ([] : List Int)⟩
def k54 : Kd S54 := Kd.iso (Kd.pair (Kd.int .i64) (Kd.slice 5 (Kd.int .u8))) (fun x : S54 => (x.f0, x.f1))
theorem k54_heap : Kd.Heap k54 := Kd.heap_iso _ (Kd.heap_pair (Kd.heap_int .i64) (Kd.heap_slice 5 (Kd.heap_int .u8)))
theorem k54_open {w : World} {x : S54} {cs : List Value} (h : k54.K w x cs) : ∃ A1 c1, cs = [.int .i64 x.f0, .slice A1 x.f1.length c1] ∧ x.f1.length ≤ c1 ∧ (Kd.int .u8).C w A1 x.f1.length x.f1 := by
  obtain ⟨_, _, rfl, rfl, ⟨A1, c1, rfl, l1, g1⟩⟩ := h
  exact ⟨A1, c1, rfl, l1, g1⟩
theorem k54_openM {w : World} {base : Nat} {ok : Nat → Prop} {x : S54} {cs : List Value} (h : k54.M w base ok x cs) : ∃ v1, cs = [.int .i64 x.f0, v1] ∧ (Kd.int .u8).R 5 w base ok v1 x.f1 := by
  obtain ⟨_, _, rfl, rfl, ⟨v1, rfl, g1⟩⟩ := h
  exact ⟨v1, rfl, g1⟩
theorem k54_mk (w : World) (x : S54) {A1 : Option Addr} {c1 : Nat} (l1 : x.f1.length ≤ c1) (g1 : (Kd.int .u8).C w A1 x.f1.length x.f1) : k54.K w x [.int .i64 x.f0, .slice A1 x.f1.length c1] := ⟨[.int .i64 x.f0], [.slice A1 x.f1.length c1], rfl, rfl, ⟨A1, c1, rfl, l1, g1⟩⟩
theorem k54_mkM (w : World) (base : Nat) (ok : Nat → Prop) (x : S54) {v1 : Value} (g1 : (Kd.int .u8).R 5 w base ok v1 x.f1) : k54.M w base ok x [.int .i64 x.f0, v1] := ⟨[.int .i64 x.f0], [v1], rfl, rfl, ⟨v1, rfl, g1⟩⟩
theorem k54_openF {W : World} {ok : Nat → Prop} {x : S54} {cs : List Value} (h : Kd.FK k54 W ok x cs) : ∃ A1 c1, cs = [.int .i64 x.f0, .slice A1 x.f1.length c1] ∧ x.f1.length ≤ c1 ∧ Kd.F (Kd.int .u8) W ok A1 x.f1.length x.f1 := by
  obtain ⟨A1, c1, rfl, l1, _⟩ := k54_open (Kd.FK_now h)
  exact ⟨A1, c1, rfl, l1, (fun W' hW => by obtain ⟨A1_, c1_, he, l1_, g1_⟩ := k54_open (h W' hW); injection (Option.some.inj (show some (Value.slice A1 x.f1.length c1) = some (Value.slice A1_ x.f1.length c1_) from congrArg (fun l => l[1]?) he)) with ha_ _ _; rw [ha_]; exact g1_)⟩
theorem k54_mkF (W : World) (ok : Nat → Prop) (x : S54) {A1 : Option Addr} {c1 : Nat} (l1 : x.f1.length ≤ c1) (g1 : Kd.F (Kd.int .u8) W ok A1 x.f1.length x.f1) : Kd.FK k54 W ok x [.int .i64 x.f0, .slice A1 x.f1.length c1] := fun W2 hW => k54_mk W2 x l1 (g1 W2 hW)
def rd_T54 (xs : List S54) (i : Int) : S54 := xs.getD i.toNat z54
theorem at_T54 {w : World} {A : Option Addr} {n : Nat} {xs : List S54} (h : Kd.C k54 w A n xs) (i : Int) (h0 : 0 ≤ i) (h1 : i < n) : ∃ ad A1 c1, A = some ad ∧ w.cell? (ad.add (i.toNat * 2)) = some (.int .i64 (rd_T54 xs i).f0) ∧ w.cell? ⟨(ad.add (i.toNat * 2)).block, (ad.add (i.toNat * 2)).off + 1, none⟩ = some (.slice A1 (rd_T54 xs i).f1.length c1) ∧ (rd_T54 xs i).f1.length ≤ c1 ∧ (Kd.int .u8).C w A1 (rd_T54 xs i).f1.length (rd_T54 xs i).f1 := by
  obtain ⟨ad, c, e, _, hK, hc0⟩ := Kd.C_get h z54 i h0 h1
  have hc : ∀ j u, c[j]? = some u → w.cell? (ad.add (i.toNat * 2 + j)) = some u := hc0
  obtain ⟨A1, c1, rfl, l1, g1⟩ := k54_open hK
  exact ⟨ad, A1, c1, e, hc 0 _ rfl, by rw [← add_field _ _ 1 (by omega)]; exact hc 1 _ rfl, l1, g1⟩

/-! #### struct type 74 -/
structure S74 where
  f0 : Int
  f1 : (List Int)
def z74 : S74 := ⟨(0 : Int), ([] : List Int)⟩
def k74 : Kd S74 := Kd.iso (Kd.pair (Kd.int .i64) (Kd.slice 5 (Kd.int .u8))) (fun x : S74 => (x.f0, x.f1))
theorem k74_heap : Kd.Heap k74 := Kd.heap_iso _ (Kd.heap_pair (Kd.heap_int .i64) (Kd.heap_slice 5 (Kd.heap_int .u8)))
theorem k74_open {w : World} {x : S74} {cs : List Value} (h : k74.K w x cs) : ∃ A1 c1, cs = [.int .i64 x.f0, .slice A1 x.f1.length c1] ∧ x.f1.length ≤ c1 ∧ (Kd.int .u8).C w A1 x.f1.length x.f1 := by
  obtain ⟨_, _, rfl, rfl, ⟨A1, c1, rfl, l1, g1⟩⟩ := h
  exact ⟨A1, c1, rfl, l1, g1⟩
theorem k74_openM {w : World} {base : Nat} {ok : Nat → Prop} {x : S74} {cs : List Value} (h : k74.M w base ok x cs) : ∃ v1, cs = [.int .i64 x.f0, v1] ∧ (Kd.int .u8).R 5 w base ok v1 x.f1 := by
  obtain ⟨_, _, rfl, rfl, ⟨v1, rfl, g1⟩⟩ := h
  exact ⟨v1, rfl, g1⟩
theorem k74_mk (w : World) (x : S74) {A1 : Option Addr} {c1 : Nat} (l1 : x.f1.length ≤ c1) (g1 : (Kd.int .u8).C w A1 x.f1.length x.f1) : k74.K w x [.int .i64 x.f0, .slice A1 x.f1.length c1] := ⟨[.int .i64 x.f0], [.slice A1 x.f1.length c1], rfl, rfl, ⟨A1, c1, rfl, l1, g1⟩⟩
theorem k74_mkM (w : World) (base : Nat) (ok : Nat → Prop) (x : S74) {v1 : Value} (g1 : (Kd.int .u8).R 5 w base ok v1 x.f1) : k74.M w base ok x [.int .i64 x.f0, v1] := ⟨[.int .i64 x.f0], [v1], rfl, rfl, ⟨v1, rfl, g1⟩⟩
theorem k74_openF {W : World} {ok : Nat → Prop} {x : S74} {cs : List Value} (h : Kd.FK k74 W ok x cs) : ∃ A1 c1, cs = [.int .i64 x.f0, .slice A1 x.f1.length c1] ∧ x.f1.length ≤ c1 ∧ Kd.F (Kd.int .u8) W ok A1 x.f1.length x.f1 := by
  obtain ⟨A1, c1, rfl, l1, _⟩ := k74_open (Kd.FK_now h)
  exact ⟨A1, c1, rfl, l1, (fun W' hW => by obtain ⟨A1_, c1_, he, l1_, g1_⟩ := k74_open (h W' hW); injection (Option.some.inj (show some (Value.slice A1 x.f1.length c1) = some (Value.slice A1_ x.f1.length c1_) from congrArg (fun l => l[1]?) he)) with ha_ _ _; rw [ha_]; exact g1_)⟩
theorem k74_mkF (W : World) (ok : Nat → Prop) (x : S74) {A1 : Option Addr} {c1 : Nat} (l1 : x.f1.length ≤ c1) (g1 : Kd.F (Kd.int .u8) W ok A1 x.f1.length x.f1) : Kd.FK k74 W ok x [.int .i64 x.f0, .slice A1 x.f1.length c1] := fun W2 hW => k74_mk W2 x l1 (g1 W2 hW)
def rd_T74 (xs : List S74) (i : Int) : S74 := xs.getD i.toNat z74
theorem at_T74 {w : World} {A : Option Addr} {n : Nat} {xs : List S74} (h : Kd.C k74 w A n xs) (i : Int) (h0 : 0 ≤ i) (h1 : i < n) : ∃ ad A1 c1, A = some ad ∧ w.cell? (ad.add (i.toNat * 2)) = some (.int .i64 (rd_T74 xs i).f0) ∧ w.cell? ⟨(ad.add (i.toNat * 2)).block, (ad.add (i.toNat * 2)).off + 1, none⟩ = some (.slice A1 (rd_T74 xs i).f1.length c1) ∧ (rd_T74 xs i).f1.length ≤ c1 ∧ (Kd.int .u8).C w A1 (rd_T74 xs i).f1.length (rd_T74 xs i).f1 := by
  obtain ⟨ad, c, e, _, hK, hc0⟩ := Kd.C_get h z74 i h0 h1
  have hc : ∀ j u, c[j]? = some u → w.cell? (ad.add (i.toNat * 2 + j)) = some u := hc0
  obtain ⟨A1, c1, rfl, l1, g1⟩ := k74_open hK
  exact ⟨ad, A1, c1, e, hc 0 _ rfl, by rw [← add_field _ _ 1 (by omega)]; exact hc 1 _ rfl, l1, g1⟩

end Go.Proofs.Ytjmclghjhnbafaa.Print

/- A text that a program of this claim (wip/x) laid out of the translation: what Go functions come to, and that they come to it. Lean checks it. -/
namespace Go.Proofs.Ytjmclghjhnbafaa.Print
open Go.RowKit Go.Proofs.YtjmclghjhnbafaaW.PrintWords Go.Proofs.YtjmclghjhnbafaaW.PrintLast Go.Proofs.YtjmclghjhnbafaaW.PrintMore
attribute [local go_sem] max2_int min2_int max_two min_two max_three min_three max_four min_four   -- for this text's walks alone
set_option linter.unusedVariables false
set_option linter.unusedSimpArgs false

/-! ### marlineref01_Equal: function 17 -/
def marlineref01_Equal.l0 : Nat → List Int → List Int → Int → Option (Bool)
  | 0, _, _, _ => none
  | k + 1, x0, x1, x5 => if x5 < (x0.length : Int) then (if 0 ≤ x5 then (if x5 < (x1.length : Int) then (if (rd x0 x5) = (rd x1 x5) then (marlineref01_Equal.l0 k x0 x1 (wrap64 (x5 + 1))) else (some false)) else (none)) else (none)) else (some true)
def marlineref01_Equal.f (k : Nat) (l0 : List Int) (l1 : List Int) : Option (Bool) := if (l0.length : Int) = (l1.length : Int) then (marlineref01_Equal.l0 k l0 l1 0) else (some false)
theorem marlineref01_Equal.mono_l : ∀ k, (∀ y0 y1 y2, LeO (marlineref01_Equal.l0 k y0 y1 y2) (marlineref01_Equal.l0 (k + 1) y0 y1 y2))
  | 0 => fun _ _ _ r h => by simp [marlineref01_Equal.l0] at h
  | k + 1 => by
    have ih0 := marlineref01_Equal.mono_l k
    · intro y0 y1 y2
      unfold marlineref01_Equal.l0
      repeat' first
      | (with_reducible exact ih0 _ _ _)
      | (with_reducible exact LeO.refl _)
      | (with_reducible exact LeO.none _)
      | (with_reducible refine LeO.ite ?_ ?_)
      | (with_reducible refine LeO.bind ?_ (fun _ => ?_))
      | exact ih0 _ _ _
      | exact LeO.none _
      | refine LeO.ite ?_ ?_
      | refine LeO.bind ?_ (fun _ => ?_)
theorem marlineref01_Equal.mono : ∀ a0 a1 k, LeO (marlineref01_Equal.f k a0 a1) (marlineref01_Equal.f (k + 1) a0 a1) := by
  intro a0 a1 k
  have ih0 := marlineref01_Equal.mono_l k
  unfold marlineref01_Equal.f
  repeat' first
      | (with_reducible exact ih0 _ _ _)
      | (with_reducible exact LeO.refl _)
      | (with_reducible exact LeO.none _)
      | (with_reducible refine LeO.ite ?_ ?_)
      | (with_reducible refine LeO.bind ?_ (fun _ => ?_))
      | exact ih0 _ _ _
      | exact LeO.none _
      | refine LeO.ite ?_ ?_
      | refine LeO.bind ?_ (fun _ => ?_)
set_option maxHeartbeats 8000000 in
set_option maxRecDepth 100000 in
theorem marlineref01_Equal.calls (k : Nat) (A0 : Option Addr) (c0 : Nat) (l0 : List Int) (A1 : Option Addr) (c1 : Nat) (l1 : List Int) (r : Bool) (w : World) (hr0 : Kd.C (Kd.int .u8) w A0 l0.length l0) (hc0 : l0.length ≤ c0) (hr1 : Kd.C (Kd.int .u8) w A1 l1.length l1) (hc1 : l1.length ≤ c1) (h : marlineref01_Equal.f k l0 l1 = some r) :
    Calls Try.prog 17 #[.slice A0 l0.length c0, .slice A1 l1.length c1] w fun e w' => e = .returned (.bool r) ∧ Drawn0 w w' := by
  have HR0 := Aside0.mk hr0
  have HC0 := Aside0.mk hc0
  clear hr0 hc0
  have HR1 := Aside0.mk hr1
  have HC1 := Aside0.mk hc1
  clear hr1 hc1
  have H : (if (l0.length : Int) = (l1.length : Int) then (marlineref01_Equal.l0 k l0 l1 0) else (some false)) = some r := h
  clear h
  by_cases c3 : (l0.length : Int) = (l1.length : Int)
  · rw [if_pos c3] at H
    have c3b0 : ((l0.length : Int) == (l1.length : Int)) = true := beq_iff_eq.mpr c3
    have c3b1 : ((l0.length : Int) != (l1.length : Int)) = false := bne_eq_false_iff_eq.mpr c3
    have c3b2 : (l0.length == l1.length) = true := by first | simpa using c3 | (simp at c3 ⊢; omega)
    clear c3
    have H' := Aside0.mk H
    clear H
    go_enter Try.func17, Try.ntmps17
    go_wp2
    repeat (go_quiet (fail); try go_wp2)
    go_loopg [5] k (fun kq v5 w' => ∃ (x5_1 : Int), v5 = .int .i64 x5_1 ∧ Aside0 (marlineref01_Equal.l0 kq l0 l1 x5_1 = some r) ∧ Aside0 (kq ≤ k) ∧ Drawn0 w w')
    case atStart => exact ⟨(0), (by first | rfl | (simp; done) | (simp [*]; done)), H', ⟨Nat.le_refl _⟩, by repeat (first | exact Drawn0.refl _ | apply Drawn0.step)⟩
    case round =>
      clear H'
      try clear c1
      try clear p2
      try clear c3
      try clear c3b0
      try clear c3b1
      try clear c3b2
      obtain ⟨x5_1, rfl, HA, HK1, ⟨m1, rfl⟩⟩ := hrel
      cases gk with
      | zero => exact absurd HA.out (by simp [marlineref01_Equal.l0])
      | succ k1 =>
        have H := HA.out
        clear HA
        simp only [marlineref01_Equal.l0] at H
        by_cases c4 : x5_1 < (l0.length : Int)
        · rw [if_pos c4] at H
          have c4b0 : decide (x5_1 < (l0.length : Int)) = true := decide_eq_true c4
          clear c4
          by_cases c5 : 0 ≤ x5_1
          · rw [if_pos c5] at H
            have c5b0 : decide (0 ≤ x5_1) = true := decide_eq_true c5
            clear c5
            by_cases c6 : x5_1 < (l1.length : Int)
            · rw [if_pos c6] at H
              have c6b0 : decide (x5_1 < (l1.length : Int)) = true := decide_eq_true c6
              clear c6
              by_cases c7 : (rd l0 x5_1) = (rd l1 x5_1)
              · rw [if_pos c7] at H
                have c7b0 : ((rd l0 x5_1) == (rd l1 x5_1)) = true := beq_iff_eq.mpr c7
                have c7b1 : ((rd l0 x5_1) != (rd l1 x5_1)) = false := bne_eq_false_iff_eq.mpr c7
                clear c7
                have H' := Aside0.mk H
                clear H
                have p107 : 0 ≤ (x5_1 : Int) := of_decide_eq_true (by first | (with_reducible assumption) | assumption)
                have q107 : x5_1 < (l0.length : Int) := of_decide_eq_true (by first | (with_reducible assumption) | assumption)
                obtain ⟨ad107, e107, hx107_0⟩ := Kd.at_int HR0.out x5_1 p107 q107
                cases e107
                replace p107 := eq_true p107
                replace q107 := eq_true q107
                have p108 : 0 ≤ (x5_1 : Int) := of_decide_eq_true (by first | (with_reducible assumption) | assumption)
                have q108 : x5_1 < (l1.length : Int) := of_decide_eq_true (by first | (with_reducible assumption) | assumption)
                obtain ⟨ad108, e108, hx108_0⟩ := Kd.at_int HR1.out x5_1 p108 q108
                cases e108
                replace p108 := eq_true p108
                replace q108 := eq_true q108
                go_wp2
                repeat (go_quiet (fail); try go_wp2)
                go_roundg k1
                case measure => have := HK1.out; omega
                case rel => exact ⟨(wrap64 (x5_1 + 1)), (by first | rfl | (simp; done) | (simp [*]; done)), H', ⟨by have := HK1.out; omega⟩, by repeat (first | exact Drawn0.refl _ | apply Drawn0.step)⟩
              · rw [if_neg c7] at H
                have c7b0 : ((rd l0 x5_1) == (rd l1 x5_1)) = false := beq_eq_false_iff_ne.mpr c7
                have c7b1 : ((rd l0 x5_1) != (rd l1 x5_1)) = true := bne_iff_ne.mpr c7
                obtain rfl := Option.some.inj H
                have p107 : 0 ≤ (x5_1 : Int) := of_decide_eq_true (by first | (with_reducible assumption) | assumption)
                have q107 : x5_1 < (l0.length : Int) := of_decide_eq_true (by first | (with_reducible assumption) | assumption)
                obtain ⟨ad107, e107, hx107_0⟩ := Kd.at_int HR0.out x5_1 p107 q107
                cases e107
                replace p107 := eq_true p107
                replace q107 := eq_true q107
                have p108 : 0 ≤ (x5_1 : Int) := of_decide_eq_true (by first | (with_reducible assumption) | assumption)
                have q108 : x5_1 < (l1.length : Int) := of_decide_eq_true (by first | (with_reducible assumption) | assumption)
                obtain ⟨ad108, e108, hx108_0⟩ := Kd.at_int HR1.out x5_1 p108 q108
                cases e108
                replace p108 := eq_true p108
                replace q108 := eq_true q108
                go_wp2
                repeat (go_quiet (fail); try go_wp2)
                go_ret
                exact ⟨by first | rfl | (simp; done) | (simp [*]; done), by repeat (first | exact Drawn0.refl _ | apply Drawn0.step)⟩
            · rw [if_neg c6] at H
              exact absurd H (by simp)
          · rw [if_neg c5] at H
            exact absurd H (by simp)
        · rw [if_neg c4] at H
          have c4b0 : decide (x5_1 < (l0.length : Int)) = false := decide_eq_false c4
          clear c4
          obtain rfl := Option.some.inj H
          go_wp2
          repeat (go_quiet (fail); try go_wp2)
          go_ret
          exact ⟨by first | rfl | (simp; done) | (simp [*]; done), by repeat (first | exact Drawn0.refl _ | apply Drawn0.step)⟩
  · rw [if_neg c3] at H
    have c3b0 : ((l0.length : Int) == (l1.length : Int)) = false := beq_eq_false_iff_ne.mpr c3
    have c3b1 : ((l0.length : Int) != (l1.length : Int)) = true := bne_iff_ne.mpr c3
    have c3b2 : (l0.length == l1.length) = false := by first | simpa using c3 | (simp at c3 ⊢; omega)
    obtain rfl := Option.some.inj H
    go_enter Try.func17, Try.ntmps17
    go_wp2
    repeat (go_quiet (fail); try go_wp2)
    go_ret
    exact ⟨by first | rfl | (simp; done) | (simp [*]; done), by repeat (first | exact Drawn0.refl _ | apply Drawn0.step)⟩

end Go.Proofs.Ytjmclghjhnbafaa.Print

/- A text that a program of this claim (wip/x) laid out of the translation: what Go functions come to, and that they come to it. Lean checks it. -/
namespace Go.Proofs.Ytjmclghjhnbafaa.Print
open Go.RowKit Go.Proofs.YtjmclghjhnbafaaW.PrintWords Go.Proofs.YtjmclghjhnbafaaW.PrintLast Go.Proofs.YtjmclghjhnbafaaW.PrintMore
attribute [local go_sem] max2_int min2_int max_two min_two max_three min_three max_four min_four   -- for this text's walks alone
set_option linter.unusedVariables false
set_option linter.unusedSimpArgs false

/-! ### marlinelaw07_Same: function 30 -/
def marlinelaw07_Same.l0 : Nat → List (S54) → List (S74) → Int → Int → Option (Bool)
  | 0, _, _, _, _ => none
  | k + 1, x0, x1, x12, x13 => if x13 < x12 then (if 0 ≤ x13 then (if x13 < (x0.length : Int) then (if x13 < (x1.length : Int) then (if ((rd_T54 x0 x13).f0) = ((rd_T74 x1 x13).f0) then ((marlineref01_Equal.f k ((rd_T54 x0 x13).f1) ((rd_T74 x1 x13).f1)).bind fun t376 => (if t376 = true then (marlinelaw07_Same.l0 k x0 x1 x12 (wrap64 (x13 + 1))) else (some false))) else (some false)) else (none)) else (none)) else (none)) else (some true)
def marlinelaw07_Same.f (k : Nat) (l0 : List (S54)) (l1 : List (S74)) : Option (Bool) := if (l0.length : Int) = (l1.length : Int) then (marlinelaw07_Same.l0 k l0 l1 (l0.length : Int) 0) else (some false)
theorem marlinelaw07_Same.mono_l : ∀ k, (∀ y0 y1 y2 y3, LeO (marlinelaw07_Same.l0 k y0 y1 y2 y3) (marlinelaw07_Same.l0 (k + 1) y0 y1 y2 y3))
  | 0 => fun _ _ _ _ r h => by simp [marlinelaw07_Same.l0] at h
  | k + 1 => by
    have ih0 := marlinelaw07_Same.mono_l k
    · intro y0 y1 y2 y3
      unfold marlinelaw07_Same.l0
      repeat' first
      | (with_reducible exact ih0 _ _ _ _)
      | (with_reducible exact marlineref01_Equal.mono _ _ _)
      | (with_reducible exact LeO.refl _)
      | (with_reducible exact LeO.none _)
      | (with_reducible refine LeO.ite ?_ ?_)
      | (with_reducible refine LeO.bind ?_ (fun _ => ?_))
      | exact ih0 _ _ _ _
      | exact marlineref01_Equal.mono _ _ _
      | exact LeO.none _
      | refine LeO.ite ?_ ?_
      | refine LeO.bind ?_ (fun _ => ?_)
theorem marlinelaw07_Same.mono : ∀ a0 a1 k, LeO (marlinelaw07_Same.f k a0 a1) (marlinelaw07_Same.f (k + 1) a0 a1) := by
  intro a0 a1 k
  have ih0 := marlinelaw07_Same.mono_l k
  unfold marlinelaw07_Same.f
  repeat' first
      | (with_reducible exact ih0 _ _ _ _)
      | (with_reducible exact marlineref01_Equal.mono _ _ _)
      | (with_reducible exact LeO.refl _)
      | (with_reducible exact LeO.none _)
      | (with_reducible refine LeO.ite ?_ ?_)
      | (with_reducible refine LeO.bind ?_ (fun _ => ?_))
      | exact ih0 _ _ _ _
      | exact marlineref01_Equal.mono _ _ _
      | exact LeO.none _
      | refine LeO.ite ?_ ?_
      | refine LeO.bind ?_ (fun _ => ?_)
set_option maxHeartbeats 8000000 in
set_option maxRecDepth 100000 in
theorem marlinelaw07_Same.calls (k : Nat) (A0 : Option Addr) (c0 : Nat) (l0 : List (S54)) (A1 : Option Addr) (c1 : Nat) (l1 : List (S74)) (r : Bool) (w : World) (hr0 : Kd.C k54 w A0 l0.length l0) (hc0 : l0.length ≤ c0) (hr1 : Kd.C k74 w A1 l1.length l1) (hc1 : l1.length ≤ c1) (h : marlinelaw07_Same.f k l0 l1 = some r) :
    Calls Try.prog 30 #[.slice A0 l0.length c0, .slice A1 l1.length c1] w fun e w' => e = .returned (.bool r) ∧ Drawn0 w w' := by
  have HR0 := Aside0.mk hr0
  have HC0 := Aside0.mk hc0
  clear hr0 hc0
  have HR1 := Aside0.mk hr1
  have HC1 := Aside0.mk hc1
  clear hr1 hc1
  have H : (if (l0.length : Int) = (l1.length : Int) then (marlinelaw07_Same.l0 k l0 l1 (l0.length : Int) 0) else (some false)) = some r := h
  clear h
  by_cases c3 : (l0.length : Int) = (l1.length : Int)
  · rw [if_pos c3] at H
    have c3b0 : ((l0.length : Int) == (l1.length : Int)) = true := beq_iff_eq.mpr c3
    have c3b1 : ((l0.length : Int) != (l1.length : Int)) = false := bne_eq_false_iff_eq.mpr c3
    have c3b2 : (l0.length == l1.length) = true := by first | simpa using c3 | (simp at c3 ⊢; omega)
    clear c3
    have H' := Aside0.mk H
    clear H
    go_enter Try.func30, Try.ntmps30
    go_wp2
    repeat (go_quiet (fail); try go_wp2)
    go_loopg [13] k (fun kq v13 w' => ∃ (x13_1 : Int), v13 = .int .i64 x13_1 ∧ Aside0 (marlinelaw07_Same.l0 kq l0 l1 (l0.length : Int) x13_1 = some r) ∧ Aside0 (kq ≤ k) ∧ Drawn0 w w')
    case atStart => exact ⟨(0), (by first | rfl | (simp; done) | (simp [*]; done)), H', ⟨Nat.le_refl _⟩, by repeat (first | exact Drawn0.refl _ | apply Drawn0.step)⟩
    case round =>
      clear H'
      try clear c1
      try clear p2
      try clear c3
      try clear c3b0
      try clear c3b1
      try clear c3b2
      obtain ⟨x13_1, rfl, HA, HK1, ⟨m1, rfl⟩⟩ := hrel
      cases gk with
      | zero => exact absurd HA.out (by simp [marlinelaw07_Same.l0])
      | succ k1 =>
        have H := HA.out
        clear HA
        simp only [marlinelaw07_Same.l0] at H
        by_cases c4 : x13_1 < (l0.length : Int)
        · rw [if_pos c4] at H
          have c4b0 : decide (x13_1 < (l0.length : Int)) = true := decide_eq_true c4
          clear c4
          by_cases c5 : 0 ≤ x13_1
          · rw [if_pos c5] at H
            have c5b0 : decide (0 ≤ x13_1) = true := decide_eq_true c5
            clear c5
            by_cases c6 : x13_1 < (l0.length : Int)
            · rw [if_pos c6] at H
              have c6b0 : decide (x13_1 < (l0.length : Int)) = true := decide_eq_true c6
              clear c6
              by_cases c7 : x13_1 < (l1.length : Int)
              · rw [if_pos c7] at H
                have c7b0 : decide (x13_1 < (l1.length : Int)) = true := decide_eq_true c7
                clear c7
                by_cases c8 : ((rd_T54 l0 x13_1).f0) = ((rd_T74 l1 x13_1).f0)
                · rw [if_pos c8] at H
                  have c8b0 : (((rd_T54 l0 x13_1).f0) == ((rd_T74 l1 x13_1).f0)) = true := beq_iff_eq.mpr c8
                  have c8b1 : (((rd_T54 l0 x13_1).f0) != ((rd_T74 l1 x13_1).f0)) = false := bne_eq_false_iff_eq.mpr c8
                  clear c8
                  replace H := Option.bind_eq_some_iff.mp H
                  obtain ⟨t376, A90, H⟩ := H
                  replace H : (if t376 = true then (marlinelaw07_Same.l0 k1 l0 l1 (l0.length : Int) (wrap64 (x13_1 + 1))) else (some false)) = some r := H
                  have A9 := Aside0.mk A90
                  clear A90
                  by_cases c10 : t376 = true
                  · subst c10
                    have H1 : (marlinelaw07_Same.l0 k1 l0 l1 (l0.length : Int) (wrap64 (x13_1 + 1))) = some r := by rw [if_pos rfl] at H; exact H
                    clear H
                    have H := H1
                    clear H1
                    have H' := Aside0.mk H
                    clear H
                    have p372 : 0 ≤ (x13_1 : Int) := of_decide_eq_true (by first | (with_reducible assumption) | assumption)
                    have q372 : x13_1 < (l0.length : Int) := of_decide_eq_true (by first | (with_reducible assumption) | assumption)
                    (try clear hHeld)
                    obtain ⟨ad372, A372_1, c372_1, e372, hx372_0, hx372_1, hl372_1, hi372_1⟩ := at_T54 HR0.out x13_1 p372 q372
                    cases e372
                    have HR372_1 := Aside0.mk hi372_1
                    have HC372_1 := Aside0.mk hl372_1
                    clear hi372_1 hl372_1
                    replace p372 := eq_true p372
                    replace q372 := eq_true q372
                    have p373 : 0 ≤ (x13_1 : Int) := of_decide_eq_true (by first | (with_reducible assumption) | assumption)
                    have q373 : x13_1 < (l1.length : Int) := of_decide_eq_true (by first | (with_reducible assumption) | assumption)
                    (try clear hHeld)
                    obtain ⟨ad373, A373_1, c373_1, e373, hx373_0, hx373_1, hl373_1, hi373_1⟩ := at_T74 HR1.out x13_1 p373 q373
                    cases e373
                    have HR373_1 := Aside0.mk hi373_1
                    have HC373_1 := Aside0.mk hl373_1
                    clear hi373_1 hl373_1
                    replace p373 := eq_true p373
                    replace q373 := eq_true q373
                    have p374 : 0 ≤ (x13_1 : Int) := of_decide_eq_true (by first | (with_reducible assumption) | assumption)
                    have q374 : x13_1 < (l0.length : Int) := of_decide_eq_true (by first | (with_reducible assumption) | assumption)
                    (try clear hHeld)
                    obtain ⟨ad374, A374_1, c374_1, e374, hx374_0, hx374_1, hl374_1, hi374_1⟩ := at_T54 HR0.out x13_1 p374 q374
                    obtain rfl : ad372 = ad374 := (by injection e374)
                    have HR374_1 := Aside0.mk hi374_1
                    have HC374_1 := Aside0.mk hl374_1
                    clear hi374_1 hl374_1
                    replace p374 := eq_true p374
                    replace q374 := eq_true q374
                    have ea_ := Option.some.inj (hx372_1.symm.trans hx374_1)
                    injection ea_ with ea_ en_ ec_
                    subst ea_
                    subst ec_
                    clear en_
                    have p375 : 0 ≤ (x13_1 : Int) := of_decide_eq_true (by first | (with_reducible assumption) | assumption)
                    have q375 : x13_1 < (l1.length : Int) := of_decide_eq_true (by first | (with_reducible assumption) | assumption)
                    (try clear hHeld)
                    obtain ⟨ad375, A375_1, c375_1, e375, hx375_0, hx375_1, hl375_1, hi375_1⟩ := at_T74 HR1.out x13_1 p375 q375
                    obtain rfl : ad373 = ad375 := (by injection e375)
                    have HR375_1 := Aside0.mk hi375_1
                    have HC375_1 := Aside0.mk hl375_1
                    clear hi375_1 hl375_1
                    replace p375 := eq_true p375
                    replace q375 := eq_true q375
                    have ea_ := Option.some.inj (hx373_1.symm.trans hx375_1)
                    injection ea_ with ea_ en_ ec_
                    subst ea_
                    subst ec_
                    clear en_
                    go_wp2_with (first | (go_at_call 17; (with_reducible refine (marlineref01_Equal.calls k1 _ _ ((rd_T54 l0 x13_1).f1) _ _ ((rd_T74 l1 x13_1).f1) true _ ?side1 ?side2 ?side3 ?side4 A9.out).mono ?_); (case side1 => repeat (first | exact HR374_1.out | (with_reducible refine Kd.C_alloc ?_ _) | (with_reducible refine Kd.C_drewN ?_ _) | (with_reducible refine Kd.C_drew ?_))); (case side2 => exact HC374_1.out); (case side3 => repeat (first | exact HR375_1.out | (with_reducible refine Kd.C_alloc ?_ _) | (with_reducible refine Kd.C_drewN ?_ _) | (with_reducible refine Kd.C_drew ?_))); (case side4 => exact HC375_1.out); rintro e w' ⟨rfl, ⟨nd, rfl⟩⟩; (try first | exact ⟨rfl, _, World.drewN_drewN _ _ _⟩ | exact ⟨rfl, _, Eq.trans (World.drewN_drewN _ _ _) (congrArg (World.drewN _) (Nat.add_assoc _ _ _))⟩)))
                    repeat (go_quiet (first | (go_at_call 17; (with_reducible refine (marlineref01_Equal.calls k1 _ _ ((rd_T54 l0 x13_1).f1) _ _ ((rd_T74 l1 x13_1).f1) true _ ?side1 ?side2 ?side3 ?side4 A9.out).mono ?_); (case side1 => repeat (first | exact HR374_1.out | (with_reducible refine Kd.C_alloc ?_ _) | (with_reducible refine Kd.C_drewN ?_ _) | (with_reducible refine Kd.C_drew ?_))); (case side2 => exact HC374_1.out); (case side3 => repeat (first | exact HR375_1.out | (with_reducible refine Kd.C_alloc ?_ _) | (with_reducible refine Kd.C_drewN ?_ _) | (with_reducible refine Kd.C_drew ?_))); (case side4 => exact HC375_1.out); rintro e w' ⟨rfl, ⟨nd, rfl⟩⟩; (try first | exact ⟨rfl, _, World.drewN_drewN _ _ _⟩ | exact ⟨rfl, _, Eq.trans (World.drewN_drewN _ _ _) (congrArg (World.drewN _) (Nat.add_assoc _ _ _))⟩))); try go_wp2_with (first | (go_at_call 17; (with_reducible refine (marlineref01_Equal.calls k1 _ _ ((rd_T54 l0 x13_1).f1) _ _ ((rd_T74 l1 x13_1).f1) true _ ?side1 ?side2 ?side3 ?side4 A9.out).mono ?_); (case side1 => repeat (first | exact HR374_1.out | (with_reducible refine Kd.C_alloc ?_ _) | (with_reducible refine Kd.C_drewN ?_ _) | (with_reducible refine Kd.C_drew ?_))); (case side2 => exact HC374_1.out); (case side3 => repeat (first | exact HR375_1.out | (with_reducible refine Kd.C_alloc ?_ _) | (with_reducible refine Kd.C_drewN ?_ _) | (with_reducible refine Kd.C_drew ?_))); (case side4 => exact HC375_1.out); rintro e w' ⟨rfl, ⟨nd, rfl⟩⟩; (try first | exact ⟨rfl, _, World.drewN_drewN _ _ _⟩ | exact ⟨rfl, _, Eq.trans (World.drewN_drewN _ _ _) (congrArg (World.drewN _) (Nat.add_assoc _ _ _))⟩))))
                    go_roundg k1
                    case measure => have := HK1.out; omega
                    case rel => exact ⟨(wrap64 (x13_1 + 1)), (by first | rfl | (simp; done) | (simp [*]; done)), H', ⟨by have := HK1.out; omega⟩, by repeat (first | exact Drawn0.refl _ | apply Drawn0.step)⟩
                  · replace c10 := Bool.eq_false_iff.mpr c10
                    subst c10
                    have H1 : (some false) = some r := by rw [if_neg (show ¬ (false = true) by decide)] at H; exact H
                    clear H
                    have H := H1
                    clear H1
                    obtain rfl := Option.some.inj H
                    have p372 : 0 ≤ (x13_1 : Int) := of_decide_eq_true (by first | (with_reducible assumption) | assumption)
                    have q372 : x13_1 < (l0.length : Int) := of_decide_eq_true (by first | (with_reducible assumption) | assumption)
                    (try clear hHeld)
                    obtain ⟨ad372, A372_1, c372_1, e372, hx372_0, hx372_1, hl372_1, hi372_1⟩ := at_T54 HR0.out x13_1 p372 q372
                    cases e372
                    have HR372_1 := Aside0.mk hi372_1
                    have HC372_1 := Aside0.mk hl372_1
                    clear hi372_1 hl372_1
                    replace p372 := eq_true p372
                    replace q372 := eq_true q372
                    have p373 : 0 ≤ (x13_1 : Int) := of_decide_eq_true (by first | (with_reducible assumption) | assumption)
                    have q373 : x13_1 < (l1.length : Int) := of_decide_eq_true (by first | (with_reducible assumption) | assumption)
                    (try clear hHeld)
                    obtain ⟨ad373, A373_1, c373_1, e373, hx373_0, hx373_1, hl373_1, hi373_1⟩ := at_T74 HR1.out x13_1 p373 q373
                    cases e373
                    have HR373_1 := Aside0.mk hi373_1
                    have HC373_1 := Aside0.mk hl373_1
                    clear hi373_1 hl373_1
                    replace p373 := eq_true p373
                    replace q373 := eq_true q373
                    have p374 : 0 ≤ (x13_1 : Int) := of_decide_eq_true (by first | (with_reducible assumption) | assumption)
                    have q374 : x13_1 < (l0.length : Int) := of_decide_eq_true (by first | (with_reducible assumption) | assumption)
                    (try clear hHeld)
                    obtain ⟨ad374, A374_1, c374_1, e374, hx374_0, hx374_1, hl374_1, hi374_1⟩ := at_T54 HR0.out x13_1 p374 q374
                    obtain rfl : ad372 = ad374 := (by injection e374)
                    have HR374_1 := Aside0.mk hi374_1
                    have HC374_1 := Aside0.mk hl374_1
                    clear hi374_1 hl374_1
                    replace p374 := eq_true p374
                    replace q374 := eq_true q374
                    have ea_ := Option.some.inj (hx372_1.symm.trans hx374_1)
                    injection ea_ with ea_ en_ ec_
                    subst ea_
                    subst ec_
                    clear en_
                    have p375 : 0 ≤ (x13_1 : Int) := of_decide_eq_true (by first | (with_reducible assumption) | assumption)
                    have q375 : x13_1 < (l1.length : Int) := of_decide_eq_true (by first | (with_reducible assumption) | assumption)
                    (try clear hHeld)
                    obtain ⟨ad375, A375_1, c375_1, e375, hx375_0, hx375_1, hl375_1, hi375_1⟩ := at_T74 HR1.out x13_1 p375 q375
                    obtain rfl : ad373 = ad375 := (by injection e375)
                    have HR375_1 := Aside0.mk hi375_1
                    have HC375_1 := Aside0.mk hl375_1
                    clear hi375_1 hl375_1
                    replace p375 := eq_true p375
                    replace q375 := eq_true q375
                    have ea_ := Option.some.inj (hx373_1.symm.trans hx375_1)
                    injection ea_ with ea_ en_ ec_
                    subst ea_
                    subst ec_
                    clear en_
                    go_wp2_with (first | (go_at_call 17; (with_reducible refine (marlineref01_Equal.calls k1 _ _ ((rd_T54 l0 x13_1).f1) _ _ ((rd_T74 l1 x13_1).f1) false _ ?side1 ?side2 ?side3 ?side4 A9.out).mono ?_); (case side1 => repeat (first | exact HR374_1.out | (with_reducible refine Kd.C_alloc ?_ _) | (with_reducible refine Kd.C_drewN ?_ _) | (with_reducible refine Kd.C_drew ?_))); (case side2 => exact HC374_1.out); (case side3 => repeat (first | exact HR375_1.out | (with_reducible refine Kd.C_alloc ?_ _) | (with_reducible refine Kd.C_drewN ?_ _) | (with_reducible refine Kd.C_drew ?_))); (case side4 => exact HC375_1.out); rintro e w' ⟨rfl, ⟨nd, rfl⟩⟩; (try first | exact ⟨rfl, _, World.drewN_drewN _ _ _⟩ | exact ⟨rfl, _, Eq.trans (World.drewN_drewN _ _ _) (congrArg (World.drewN _) (Nat.add_assoc _ _ _))⟩)))
                    repeat (go_quiet (first | (go_at_call 17; (with_reducible refine (marlineref01_Equal.calls k1 _ _ ((rd_T54 l0 x13_1).f1) _ _ ((rd_T74 l1 x13_1).f1) false _ ?side1 ?side2 ?side3 ?side4 A9.out).mono ?_); (case side1 => repeat (first | exact HR374_1.out | (with_reducible refine Kd.C_alloc ?_ _) | (with_reducible refine Kd.C_drewN ?_ _) | (with_reducible refine Kd.C_drew ?_))); (case side2 => exact HC374_1.out); (case side3 => repeat (first | exact HR375_1.out | (with_reducible refine Kd.C_alloc ?_ _) | (with_reducible refine Kd.C_drewN ?_ _) | (with_reducible refine Kd.C_drew ?_))); (case side4 => exact HC375_1.out); rintro e w' ⟨rfl, ⟨nd, rfl⟩⟩; (try first | exact ⟨rfl, _, World.drewN_drewN _ _ _⟩ | exact ⟨rfl, _, Eq.trans (World.drewN_drewN _ _ _) (congrArg (World.drewN _) (Nat.add_assoc _ _ _))⟩))); try go_wp2_with (first | (go_at_call 17; (with_reducible refine (marlineref01_Equal.calls k1 _ _ ((rd_T54 l0 x13_1).f1) _ _ ((rd_T74 l1 x13_1).f1) false _ ?side1 ?side2 ?side3 ?side4 A9.out).mono ?_); (case side1 => repeat (first | exact HR374_1.out | (with_reducible refine Kd.C_alloc ?_ _) | (with_reducible refine Kd.C_drewN ?_ _) | (with_reducible refine Kd.C_drew ?_))); (case side2 => exact HC374_1.out); (case side3 => repeat (first | exact HR375_1.out | (with_reducible refine Kd.C_alloc ?_ _) | (with_reducible refine Kd.C_drewN ?_ _) | (with_reducible refine Kd.C_drew ?_))); (case side4 => exact HC375_1.out); rintro e w' ⟨rfl, ⟨nd, rfl⟩⟩; (try first | exact ⟨rfl, _, World.drewN_drewN _ _ _⟩ | exact ⟨rfl, _, Eq.trans (World.drewN_drewN _ _ _) (congrArg (World.drewN _) (Nat.add_assoc _ _ _))⟩))))
                    go_ret
                    exact ⟨by first | rfl | (simp; done) | (simp [*]; done), by repeat (first | exact Drawn0.refl _ | apply Drawn0.step)⟩
                · rw [if_neg c8] at H
                  have c8b0 : (((rd_T54 l0 x13_1).f0) == ((rd_T74 l1 x13_1).f0)) = false := beq_eq_false_iff_ne.mpr c8
                  have c8b1 : (((rd_T54 l0 x13_1).f0) != ((rd_T74 l1 x13_1).f0)) = true := bne_iff_ne.mpr c8
                  obtain rfl := Option.some.inj H
                  have p372 : 0 ≤ (x13_1 : Int) := of_decide_eq_true (by first | (with_reducible assumption) | assumption)
                  have q372 : x13_1 < (l0.length : Int) := of_decide_eq_true (by first | (with_reducible assumption) | assumption)
                  (try clear hHeld)
                  obtain ⟨ad372, A372_1, c372_1, e372, hx372_0, hx372_1, hl372_1, hi372_1⟩ := at_T54 HR0.out x13_1 p372 q372
                  cases e372
                  have HR372_1 := Aside0.mk hi372_1
                  have HC372_1 := Aside0.mk hl372_1
                  clear hi372_1 hl372_1
                  replace p372 := eq_true p372
                  replace q372 := eq_true q372
                  have p373 : 0 ≤ (x13_1 : Int) := of_decide_eq_true (by first | (with_reducible assumption) | assumption)
                  have q373 : x13_1 < (l1.length : Int) := of_decide_eq_true (by first | (with_reducible assumption) | assumption)
                  (try clear hHeld)
                  obtain ⟨ad373, A373_1, c373_1, e373, hx373_0, hx373_1, hl373_1, hi373_1⟩ := at_T74 HR1.out x13_1 p373 q373
                  cases e373
                  have HR373_1 := Aside0.mk hi373_1
                  have HC373_1 := Aside0.mk hl373_1
                  clear hi373_1 hl373_1
                  replace p373 := eq_true p373
                  replace q373 := eq_true q373
                  go_wp2
                  repeat (go_quiet (fail); try go_wp2)
                  go_ret
                  exact ⟨by first | rfl | (simp; done) | (simp [*]; done), by repeat (first | exact Drawn0.refl _ | apply Drawn0.step)⟩
              · rw [if_neg c7] at H
                exact absurd H (by simp)
            · rw [if_neg c6] at H
              exact absurd H (by simp)
          · rw [if_neg c5] at H
            exact absurd H (by simp)
        · rw [if_neg c4] at H
          have c4b0 : decide (x13_1 < (l0.length : Int)) = false := decide_eq_false c4
          clear c4
          obtain rfl := Option.some.inj H
          go_wp2
          repeat (go_quiet (fail); try go_wp2)
          go_ret
          exact ⟨by first | rfl | (simp; done) | (simp [*]; done), by repeat (first | exact Drawn0.refl _ | apply Drawn0.step)⟩
  · rw [if_neg c3] at H
    have c3b0 : ((l0.length : Int) == (l1.length : Int)) = false := beq_eq_false_iff_ne.mpr c3
    have c3b1 : ((l0.length : Int) != (l1.length : Int)) = true := bne_iff_ne.mpr c3
    have c3b2 : (l0.length == l1.length) = false := by first | simpa using c3 | (simp at c3 ⊢; omega)
    obtain rfl := Option.some.inj H
    go_enter Try.func30, Try.ntmps30
    go_wp2
    repeat (go_quiet (fail); try go_wp2)
    go_ret
    exact ⟨by first | rfl | (simp; done) | (simp [*]; done), by repeat (first | exact Drawn0.refl _ | apply Drawn0.step)⟩

end Go.Proofs.Ytjmclghjhnbafaa.Print

/- What lives while the synchronous deframer works: its variable, its row of bits, what is told so far; and what bits that are left come to (put). No condition but the row's length. -/
namespace Go.Proofs.Ytjmclghjhnbafaa.Print
open Go.RowKit Go.Proofs.YtjmclghjhnbafaaW.PrintWords Go.Proofs.YtjmclghjhnbafaaW.PrintLast Go.Proofs.YtjmclghjhnbafaaW.PrintMore
attribute [local go_sem] max2_int min2_int max_two min_two max_three min_three max_four min_four
set_option linter.unusedVariables false
set_option linter.unusedSimpArgs false
/-- What a synchronous deframer keeps. -/
structure Sst where
  bits : List Int
  many : Int
  any : Bool
  broken : Bool
  ones : Int
  zero : Bool
  stuff : Bool
def scells (most : Int) (u : Value) (s : Sst) : Array Value := #[.int .i64 most, u, .int .i64 s.many, .bool s.any, .bool s.broken, .int .i64 s.ones, .bool s.zero, .bool s.stuff]
def sput1 (most b : Int) (s : Sst) : Sst := { s with bits := if (s.bits.length : Int) < wrap64 (8 * most) then s.bits ++ [b] else s.bits, many := wrap64 (s.many + 1) }
def sput (most b : Int) : Nat → Sst → Sst
  | 0, s => s
  | n + 1, s => sput1 most b (sput most b n s)
theorem sput_len (most b : Int) : ∀ (n : Nat) (s : Sst), (sput most b n s).bits.length ≤ s.bits.length + n
  | 0, s => by simp [sput]
  | n + 1, s => by
    have ih := sput_len most b n s
    simp only [sput, sput1]
    split
    · rw [List.length_append]; simp; omega
    · omega
theorem R_sharp {k : IntKind} {e base : Nat} {W : World} {ok ok' : Nat → Prop} {v : Value} {xs : List Int} (h : Kd.R (Kd.int k) e W base ok v xs) (h2 : ∀ j, v.ownBlock = some j → ok' j) : Kd.R (Kd.int k) e W base ok' v xs :=
  ⟨h2, h.2.imp_ (fun _ _ hp => hp)⟩
theorem R_ownlt {α : Type} {d : Kd α} {e base : Nat} {W : World} {ok : Nat → Prop} {v : Value} {xs : List α} (h : d.R e W base ok v xs) : ∀ j, v.ownBlock = some j → j < W.heap.size := fun j hj => (Kd.R_bound h).1 j hj |>.2.2.1
/-- What lives while a chunk is gone through: the deframer's variable, its row, and what is told so far. -/
structure Lives (w0 w : World) (P0_ : Nat → Prop) (g : Nat) (most : Int) (s : Sst) (u vo : Value) (outs : List S54) (W : World) : Prop where
  cell : W.heap[g]? = some (.cells (scells most u s) 70 (0, 0))
  row : Kd.R (Kd.int .u8) 5 W w0.heap.size (fun k_ => P0_ k_ ∨ w.heap.size ≤ k_) u s.bits
  out : Kd.S k54 54 W w0.heap.size (fun k_ => w.heap.size ≤ k_ ∧ some k_ ≠ u.ownBlock) vo outs
  bel : Below w0.heap.size w0 W
  kept : Kept w W (fun k_ => P0_ k_ ∨ k_ = g)
section
variable {w0 w W W' : World} {P0_ : Nat → Prop} {g : Nat} {most : Int} {s s' : Sst} {u u' vo : Value} {outs : List S54}
theorem Lives.below (h : Lives w0 w P0_ g most s u vo outs W) (hb : Below W.heap.size W W') : Lives w0 w P0_ g most s u vo outs W' :=
  ⟨blk_below h.cell hb, Kd.R_below h.row hb, Kd.S_below h.out hb, below_step h.bel hb, h.kept.below hb⟩
theorem Lives.start (hB : Below w0.heap.size w0 w) (hg : w.heap[g]? = some (.cells (scells most u s) 70 (0, 0))) (ho : Kd.R (Kd.int .u8) 5 w w0.heap.size P0_ u s.bits) : Lives w0 w P0_ g most s u (.slice none 0 0) [] w :=
  ⟨hg, Kd.R_mono ho (fun _ hk => .inl hk), Kd.S_nil _ _ _ _ _, hB, Kept.refl _ _⟩
/-- The row's blocks as a call takes them. -/
def own (P0_ : Nat → Prop) (w : World) (u : Value) : Nat → Prop := fun k_ => (P0_ k_ ∨ w.heap.size ≤ k_) ∧ some k_ = u.ownBlock
theorem Lives.ownP (h : Lives w0 w P0_ g most s u vo outs W) : Kd.R (Kd.int .u8) 5 W w0.heap.size (own P0_ w u) u s.bits :=
  R_sharp h.row (fun j hj => ⟨h.row.1 j hj, hj.symm⟩)
theorem own_not (hP : ¬ P0_ g) (hg : g < w.heap.size) : ¬ own P0_ w u g := fun h => h.1.elim hP (fun h1 => by omega)
/-- The row, held apart from a variable of the world's. -/
theorem Lives.rowNe (h : Lives w0 w P0_ g most s u vo outs W) (hP : ¬ P0_ g) (hg : g < w.heap.size) : Kd.R (Kd.int .u8) 5 W w0.heap.size (fun k_ => (P0_ k_ ∨ w.heap.size ≤ k_) ∧ k_ ≠ g) u s.bits :=
  Kd.R_mono h.row (fun k hk => ⟨hk, fun e => hk.elim (fun h1 => hP (e ▸ h1)) (fun h1 => by omega)⟩)
/-- A call that writes the variable and the row, and hands back a row that is the old one or new. -/
theorem Lives.next {s' : Sst} {u' : Value} (h : Lives w0 w P0_ g most s u vo outs W) (hg : g < w.heap.size) (hge : w0.heap.size ≤ g)
    (hc : W'.heap[g]? = some (.cells (scells most u' s') 70 (0, 0))) (hr : Kd.R (Kd.int .u8) 5 W' w0.heap.size (fun k_ => own P0_ w u k_ ∨ W.heap.size ≤ k_) u' s'.bits)
    (hb : Below w0.heap.size w0 W') (hk : Kept W W' (fun k_ => own P0_ w u k_ ∨ k_ = g)) : Lives w0 w P0_ g most s' u' vo outs W' := by
  refine ⟨hc, Kd.R_mono hr (fun k hk => hk.elim (fun h1 => h1.1) (fun h1 => .inr (Nat.le_trans h.kept.1 h1))), ?_, hb, h.kept.then_ hk (fun k hk => ?_)⟩
  · have h1 := Kd.S_kept (Kd.S_bound h.out) hk (fun k ho hs => hs.elim (fun h2 => ho.1.2 h2.2) (fun h2 => by have := ho.1.1; omega))
    refine Kd.S_mono h1 (fun k ho => ⟨ho.1.1, fun he => ?_⟩)
    rcases hr.1 k he.symm with h2 | h2
    · exact ho.1.2 h2.2
    · have := ho.2.2.1
      omega
  · rcases hk with h2 | h2
    · exact h2.1.elim (fun h3 => .inl (.inl h3)) .inr
    · exact .inl (.inr h2)
theorem Lives.then_ (h : Lives w0 w P0_ g most s u vo outs W) (hg : g < w.heap.size) (hge : w0.heap.size ≤ g) {vo' : Value} {outs' : List S54} (h' : Lives w0 W (own P0_ w u) g most s' u' vo' outs' W') : Lives w0 w P0_ g most s' u' vo outs W' :=
  h.next hg hge h'.cell h'.row h'.bel h'.kept
theorem Lives.nextOld {xs' : List Int} {u' : Value} (h : Lives w0 w P0_ g most s u vo outs W) (hg : g < w.heap.size)
    (hr : Kd.R (Kd.int .u8) 5 W' w0.heap.size (fun k_ => own P0_ w u k_ ∨ W.heap.size ≤ k_) u' xs')
    (hk : Kept W W' (fun k_ => own P0_ w u k_ ∨ k_ = g)) : Kd.S k54 54 W' w0.heap.size (fun k_ => (w.heap.size ≤ k_ ∧ some k_ ≠ u'.ownBlock) ∧ k_ < W.heap.size) vo outs := by
  have h1 := Kd.S_kept (Kd.S_bound h.out) hk (fun k ho hs => hs.elim (fun h2 => ho.1.2 h2.2) (fun h2 => by have := ho.1.1; omega))
  refine Kd.S_mono h1 (fun k ho => ⟨⟨ho.1.1, fun he => ?_⟩, ho.2.2.1⟩)
  rcases hr.1 k he.symm with h2 | h2
  · exact ho.1.2 h2.2
  · have := ho.2.2.1
    omega
/-- A store into the variable, of what is no row. -/
theorem Lives.set (h : Lives w0 w P0_ g most s u vo outs W) (hg : g < w.heap.size) (hge : w0.heap.size ≤ g) (hP : ¬ P0_ g) {s' : Sst} (i : Nat) (v : Value) (hd : s'.bits = s.bits) (e : (scells most u s).setIfInBounds i v = scells most u s') :
    Lives w0 w P0_ g most s' u vo outs (W.setCell ⟨g, i, none⟩ v) := by
  refine ⟨blk_put h.cell i _ e, ?_, ?_, below_set h.bel hge, h.kept.setCell (.inl (.inr rfl)) _⟩
  · rw [hd]
    exact Kd.R_far h.row (fun k hk he => hk.elim (fun h1 => hP (by rw [← show k = g from he]; exact h1)) (fun h1 => by have : k = g := he; omega)) _
  · exact Kd.S_far h.out (fun k hk he => by have : k = g := he; have := hk.1; omega) _
/-- The variable's cells. -/
theorem Lives.facts (h : Lives w0 w P0_ g most s u vo outs W) : W.cell? ⟨g, 0, none⟩ = some (.int .i64 most) ∧ W.cell? ⟨g, 1, none⟩ = some u ∧ W.cell? ⟨g, 2, none⟩ = some (.int .i64 s.many) ∧ W.cell? ⟨g, 3, none⟩ = some (.bool s.any) ∧ W.cell? ⟨g, 4, none⟩ = some (.bool s.broken) ∧
    W.cell? ⟨g, 5, none⟩ = some (.int .i64 s.ones) ∧ W.cell? ⟨g, 6, none⟩ = some (.bool s.zero) ∧ W.cell? ⟨g, 7, none⟩ = some (.bool s.stuff) ∧ W.frozen? ⟨g, 0, none⟩ = false ∧ W.frozen? ⟨g, 1, none⟩ = false ∧ W.frozen? ⟨g, 2, none⟩ = false ∧ W.frozen? ⟨g, 3, none⟩ = false ∧ W.frozen? ⟨g, 4, none⟩ = false ∧
    W.frozen? ⟨g, 5, none⟩ = false ∧ W.frozen? ⟨g, 6, none⟩ = false ∧ W.frozen? ⟨g, 7, none⟩ = false :=
  ⟨(blk_cell h.cell 0).trans rfl, (blk_cell h.cell 1).trans rfl, (blk_cell h.cell 2).trans rfl, (blk_cell h.cell 3).trans rfl, (blk_cell h.cell 4).trans rfl, (blk_cell h.cell 5).trans rfl, (blk_cell h.cell 6).trans rfl, (blk_cell h.cell 7).trans rfl,
    blk_frozen h.cell 0, blk_frozen h.cell 1, blk_frozen h.cell 2, blk_frozen h.cell 3, blk_frozen h.cell 4, blk_frozen h.cell 5, blk_frozen h.cell 6, blk_frozen h.cell 7⟩
/-- The row, grown, and stored. -/
theorem Lives.appended {xs' : List Int} (h : Lives w0 w P0_ g most s u vo [] W) (hg : g < w.heap.size) (hge : w0.heap.size ≤ g) (hP : ¬ P0_ g) (ho : Kd.R (Kd.int .u8) 5 W' w0.heap.size (fun k_ => P0_ k_ ∨ w.heap.size ≤ k_) u' xs') (hb : Below w0.heap.size w0 W')
    (hgr : W.grownBy W' u.ownBlock) (e : (scells most u s).setIfInBounds 1 u' = scells most u' s') (hx : xs' = s'.bits) : Lives w0 w P0_ g most s' u' (.slice none 0 0) [] (W'.setCell ⟨g, 1, none⟩ u') := by
  subst hx
  refine ⟨blk_put (blk_grown h.cell hgr (fun he => (h.row.1 g he.symm).elim hP (fun h1 => by omega))) 1 _ e, ?_, Kd.S_nil _ _ _ _ _, below_set hb hge, (Kept.of_grown hgr h.kept (fun k hk => (h.row.1 k hk).elim (fun a => .inl (.inl a)) .inr)).setCell (.inl (.inr rfl)) _⟩
  exact Kd.R_far ho (fun k hk he => hk.elim (fun h1 => hP (by rw [← show k = g from he]; exact h1)) (fun h1 => by have : k = g := he; omega)) _
end
set_option maxHeartbeats 16000000 in
set_option maxRecDepth 100000 in
theorem sf_put (P0_ : Nat → Prop) (g : Nat) (u : Value) (most b : Int) (s : Sst) (n : Nat) (w0 w : World) (hB : Below w0.heap.size w0 w)
    (hg : w.heap[g]? = some (.cells (scells most u s) 70 (0, 0))) (hge : w0.heap.size ≤ g) (hP : ¬ P0_ g) (ho : Kd.R (Kd.int .u8) 5 w w0.heap.size P0_ u s.bits) (hl : s.bits.length + n < 1000000000) :
    Calls Try.prog 53 #[.pointer (some ⟨g, 0, none⟩), .int .u8 b, .int .i64 n] w fun x w' => x = .returned (.tuple #[]) ∧ ∃ u' : Value, Lives w0 w P0_ g most (sput most b n s) u' (.slice none 0 0) [] w' := by
  have hu70 := Try.underlying70
  have HGL := Aside0.mk (blk_lt hg)
  have HGE := Aside0.mk hge
  have HP := Aside0.mk hP
  have HLL := Aside0.mk hl
  have L0 := Aside0.mk (Lives.start hB hg ho)
  clear hB hg hge hP ho hl
  go_enter Try.func53, Try.ntmps53
  go_wp2
  go_loopg [7] (n + 1) (fun kq v7 w' => ∃ (x : Int) (u' : Value), v7 = .int .i64 x ∧ Aside0 (0 ≤ x ∧ x.toNat + kq = n + 1 ∧ x.toNat ≤ n) ∧ Aside0 (Lives w0 w P0_ g most (sput most b x.toNat s) u' (.slice none 0 0) [] w'))
  case atStart => exact ⟨0, u, rfl, ⟨Int.le_refl _, by simp, by simp⟩, L0⟩
  case round =>
    obtain ⟨x, u', rfl, hk, HL⟩ := hrel
    by_cases hi : x < (n : Int)
    · have hi0 : decide (x < (n : Int)) = true := decide_eq_true hi
      have p0 : 0 ≤ x := hk.out.1
      have hx1 : wrap64 (x + 1) = x + 1 := by have := HLL.out; unfold wrap64; omega
      have hx2 : (x + 1).toNat = x.toNat + 1 := by omega
      have hlen := sput_len most b x.toNat s
      have hs2 : sput most b (x + 1).toNat s = sput1 most b (sput most b x.toNat s) := by rw [hx2]; rfl
      generalize hF : sput most b x.toNat s = F at HL hlen hs2
      obtain ⟨bits, many, any, broken, ones, zero, stuff⟩ := F
      simp only at hlen
      have LEN := Aside0.mk (show bits.length < 1000000000 from by have := HLL.out; omega)
      have HS := Aside0.mk hs2
      have HI := Aside0.mk hi
      have PX := Aside0.mk p0
      clear hlen hx2 hs2 hF
      have HO := Aside0.mk HL.out.row
      obtain ⟨A, c0, rfl⟩ := Kd.R_slice HO.out
      have hz0 : wr.cell? ⟨g, 0, none⟩ = some (.int .i64 most) := (blk_cell HL.out.cell 0).trans rfl
      have hz2 : wr.cell? ⟨g, 2, none⟩ = some (.int .i64 many) := (blk_cell HL.out.cell 2).trans rfl
      have hf2 := blk_frozen HL.out.cell 2
      have hz1 : wr.cell? ⟨g, 1, none⟩ = some (.slice A bits.length c0) := (blk_cell HL.out.cell 1).trans rfl
      cases gk with
      | zero =>
        have := hk.out.2
        have := HI.out
        omega
      | succ k1 =>
        have HL1 := Aside0.mk (HL.out.set HGL.out HGE.out HP.out (s' := ⟨bits, wrap64 (many + 1), any, broken, ones, zero, stuff⟩) 2 (.int .i64 (wrap64 (many + 1))) rfl rfl)
        by_cases hm : (bits.length : Int) < wrap64 (8 * most)
        · have hm0 : decide ((bits.length : Int) < wrap64 (8 * most)) = true := decide_eq_true hm
          have ed : sput1 most b ⟨bits, many, any, broken, ones, zero, stuff⟩ = ⟨bits ++ [b], wrap64 (many + 1), any, broken, ones, zero, stuff⟩ := by unfold sput1; simp only; rw [if_pos hm]
          have ED := Aside0.mk ed
          clear hm ed
          go_wp2
          go_quiet (fail)
          go_wp2_with (first | ((with_reducible refine gate_dst (N := 33) rfl ?_); refine Kd.R_lit (Kd.int .u8) _ 5 ?hg (N := 33) ?hd (xs := ([b] : List Int)) (inner := [.int .u8 b]) (ok := fun _ => True) (okp := fun _ => True) ?hr ?hp (fun _ hk => hk) trivial (Below.refl _ _) (Nat.le_refl _) (by simp) ?_; (case hd => rfl); (case hg => rfl); (case hr => first | (go_simp; done) | (go_simp; rfl)); (case hp => exact (Reps.one (show Kd.M (Kd.int .u8) _ _ _ b [.int .u8 b] from rfl) (Reps.none _ _))); intro v1 w1 ho7 hb hg_ hnew_; clear hg_ hnew_; have HN := Aside0.mk ho7; have HL2 := Aside0.mk (Lives.below (Lives.below HL1.out (by repeat (first | exact Below.refl _ _ | apply pw_below_drewN | apply below_drew1))) hb); clear ho7 hb; obtain ⟨A1, c1, e1⟩ := Kd.R_slice HN.out; subst e1) | ((with_reducible refine gate_builtin (b := .append) (xs := #[.tmp 31, .tmp 33]) rfl ?_); at_builtin; refine Kd.R_append_rows (Kd.int .u8) (w0 := w0) w0.heap.size rfl (.tmp 31) (.tmp 33) 28 5 (.int .u8 0) 1 rfl Try.underlying28 info5 rfl (by decide) (by omega) (.slice A bits.length c0) bits [b] _ _ _ (fun k_ => P0_ k_ ∨ w.heap.size ≤ k_) (fun _ => False) rfl rfl ?aO ?aR (fun _ _ h => h) (fun _ h => h.elim) ?aF ?aB ?aS ?aL ?_; (case aR => exact (Kd.R_reads' HN.out).2.2); (case aB => exact HL2.out.bel); (case aF => exact (fun k_ hk => .inr (Nat.le_trans HL2.out.kept.1 hk))); (case aO => exact HL2.out.row); (case aS => exact below_size HL2.out.bel); (case aL => have := LEN.out; simp; omega); intro v2 w2 ho hb hg2 hat; have HO2 := Aside0.mk ho; have HB2 := Aside0.mk hb; have HK2 := Aside0.mk hg2; clear ho hb hg2 hat; obtain ⟨A2, c2, e2⟩ := Kd.R_slice HO2.out; subst e2; have HG2 := Aside0.mk (blk_grown HL2.out.cell HK2.out (fun h => (HL2.out.row.1 g h.symm).elim HP.out (fun h1 => by have := HGL.out; omega))); have hcy2 : w2.cell? ⟨g, 1, none⟩ = some (.slice A bits.length c0) := (blk_cell HG2.out 1).trans rfl; have hfy2 := blk_frozen HG2.out 1))
          have HO3 := Aside0.mk (HL2.out.appended HGL.out HGE.out HP.out HO2.out HB2.out HK2.out (s' := ⟨bits ++ [b], wrap64 (many + 1), any, broken, ones, zero, stuff⟩) rfl rfl)
          rw [show (bits ++ [b]).length = bits.length + 1 by simp] at HO3
          go_roundg k1
          case measure => have := hk.out.2; have := HI.out; omega
          case rel => exact ⟨x + 1, _, (by first | rfl | (rw [hx1]; done) | (simp [hx1]; done)), ⟨by have := PX.out; have := hk.out; have := HI.out; omega⟩, ⟨by rw [HS.out, ED.out]; exact HO3.out⟩⟩
        · have hm0 : decide ((bits.length : Int) < wrap64 (8 * most)) = false := decide_eq_false hm
          have ed : sput1 most b ⟨bits, many, any, broken, ones, zero, stuff⟩ = ⟨bits, wrap64 (many + 1), any, broken, ones, zero, stuff⟩ := by unfold sput1; simp only; rw [if_neg hm]
          have ED := Aside0.mk ed
          clear hm ed
          go_wp2
          repeat (go_quiet (fail); try go_wp2)
          go_roundg k1
          case measure => have := hk.out.2; have := HI.out; omega
          case rel => exact ⟨x + 1, _, (by first | rfl | (rw [hx1]; done) | (simp [hx1]; done)), ⟨by have := PX.out; have := hk.out; have := HI.out; omega⟩, ⟨by rw [HS.out, ED.out]; exact HL1.out.below (by repeat (first | exact Below.refl _ _ | apply pw_below_drewN | apply below_drew1))⟩⟩
    · have hi0 : decide (x < (n : Int)) = false := decide_eq_false hi
      have e1 : x.toNat = n := by have := hk.out; omega
      have HLF := HL
      rw [e1] at HLF
      go_wp2
      refine bodyPost_end (results_list (rs := []) (vs := []) rfl (by decide) Vals.nil) rfl ?_
      exact ⟨rfl, u', HLF.out⟩
end Go.Proofs.Ytjmclghjhnbafaa.Print

/- What the synchronous deframer's 0 that was kept back, and the end of a row, come to (settle, row). No condition but the row's length. -/
namespace Go.Proofs.Ytjmclghjhnbafaa.Print
open Go.RowKit Go.Proofs.YtjmclghjhnbafaaW.PrintWords Go.Proofs.YtjmclghjhnbafaaW.PrintLast Go.Proofs.YtjmclghjhnbafaaW.PrintMore
attribute [local go_sem] max2_int min2_int max_two min_two max_three min_three max_four min_four
set_option linter.unusedVariables false
set_option linter.unusedSimpArgs false
def ssettle (most : Int) (s : Sst) : Sst :=
  if s.zero = true then (if s.stuff = true then { s with any := true, zero := false } else { sput most 0 1 { s with any := true } with zero := false }) else s
theorem ssettle_len (most : Int) (s : Sst) : (ssettle most s).bits.length ≤ s.bits.length + 1 := by
  unfold ssettle
  split
  · split
    · exact Nat.le_succ _
    · exact sput_len most 0 1 { s with any := true }
  · exact Nat.le_succ _
theorem ssettle_ones (most : Int) (s : Sst) : (ssettle most s).ones = s.ones := by
  unfold ssettle
  split
  · split
    · rfl
    · rfl
  · rfl
set_option maxHeartbeats 16000000 in
set_option maxRecDepth 100000 in
theorem sf_settle (P0_ : Nat → Prop) (g : Nat) (u : Value) (most : Int) (s : Sst) (w0 w : World) (hB : Below w0.heap.size w0 w)
    (hg : w.heap[g]? = some (.cells (scells most u s) 70 (0, 0))) (hge : w0.heap.size ≤ g) (hP : ¬ P0_ g) (ho : Kd.R (Kd.int .u8) 5 w w0.heap.size P0_ u s.bits) (hl : s.bits.length + 1 < 1000000000) :
    Calls Try.prog 52 #[.pointer (some ⟨g, 0, none⟩)] w fun x w' => x = .returned (.tuple #[]) ∧ ∃ u' : Value, Lives w0 w P0_ g most (ssettle most s) u' (.slice none 0 0) [] w' := by
  have hu70 := Try.underlying70
  have HGL := Aside0.mk (blk_lt hg)
  have HGE := Aside0.mk hge
  have HP := Aside0.mk hP
  have HLL := Aside0.mk hl
  have HL := Aside0.mk (Lives.start hB hg ho)
  clear hB hg hge hP ho hl
  obtain ⟨bits, many, any, broken, ones, zero, stuff⟩ := s
  obtain ⟨hz0, hz1, hz2, hz3, hz4, hz5, hz6, hz7, hf0, hf1, hf2, hf3, hf4, hf5, hf6, hf7⟩ := HL.out.facts
  simp only at hz0 hz1 hz2 hz3 hz4 hz5 hz6 hz7
  cases zero with
  | false =>
    go_enter Try.func52, Try.ntmps52
    go_wp2
    refine bodyPost_ret (results_list (rs := []) (vs := []) rfl (by decide) Vals.nil) rfl ?_
    exact ⟨rfl, u, HL.out⟩
  | true =>
    have HL1 := Aside0.mk (HL.out.set HGL.out HGE.out HP.out (s' := ⟨bits, many, true, broken, ones, true, stuff⟩) 3 (.bool true) rfl rfl)
    cases stuff with
    | true =>
      go_enter Try.func52, Try.ntmps52
      go_wp2
      refine bodyPost_end (results_list (rs := []) (vs := []) rfl (by decide) Vals.nil) rfl ?_
      exact ⟨rfl, u, HL1.out.set HGL.out HGE.out HP.out (s' := ⟨bits, many, true, broken, ones, false, true⟩) 6 (.bool false) rfl rfl⟩
    | false =>
      go_enter Try.func52, Try.ntmps52
      go_wp2_with (first | (go_at_call 53; refine (sf_put (own P0_ w u) g u most 0 ⟨bits, many, true, broken, ones, true, false⟩ 1 w0 _ HL1.out.bel HL1.out.cell HGE.out (own_not HP.out HGL.out) HL1.out.ownP HLL.out).mono ?_; rintro x_ w2 ⟨rfl, u2, hl2⟩; have HL2 := Aside0.mk (HL1.out.then_ HGL.out HGE.out hl2); clear hl2; obtain ⟨gz0, gz1, gz2, gz3, gz4, gz5, gz6, gz7, gf0, gf1, gf2, gf3, gf4, gf5, gf6, gf7⟩ := HL2.out.facts))
      refine bodyPost_end (results_list (rs := []) (vs := []) rfl (by decide) Vals.nil) rfl ?_
      exact ⟨rfl, u2, HL2.out.set HGL.out HGE.out HP.out (s' := ssettle most ⟨bits, many, any, broken, ones, true, false⟩) 6 (.bool false) rfl rfl⟩
def srow1 (s : Sst) : Sst := { s with any := if s.ones > 0 then true else s.any, broken := if s.ones > 6 then true else s.broken }
def srow (most : Int) (s : Sst) : Sst := sput most 1 (min s.ones 5).toNat (srow1 (ssettle most s))
theorem srow_len (most : Int) (s : Sst) : (srow most s).bits.length ≤ s.bits.length + 6 := by
  have h1 := ssettle_len most s
  have h2 := sput_len most 1 (min s.ones 5).toNat (srow1 (ssettle most s))
  have h3 : (srow1 (ssettle most s)).bits = (ssettle most s).bits := rfl
  rw [h3] at h2
  unfold srow
  omega
set_option maxHeartbeats 16000000 in
set_option maxRecDepth 100000 in
theorem sf_row (P0_ : Nat → Prop) (g : Nat) (u : Value) (most : Int) (s : Sst) (w0 w : World) (hB : Below w0.heap.size w0 w)
    (hg : w.heap[g]? = some (.cells (scells most u s) 70 (0, 0))) (hge : w0.heap.size ≤ g) (hP : ¬ P0_ g) (ho : Kd.R (Kd.int .u8) 5 w w0.heap.size P0_ u s.bits) (hl : s.bits.length + 10 < 1000000000) (h0 : 0 ≤ s.ones) :
    Calls Try.prog 41 #[.pointer (some ⟨g, 0, none⟩)] w fun x w' => x = .returned (.tuple #[]) ∧ ∃ u' : Value, Lives w0 w P0_ g most (srow most s) u' (.slice none 0 0) [] w' := by
  have hu70 := Try.underlying70
  have HGL := Aside0.mk (blk_lt hg)
  have HGE := Aside0.mk hge
  have HP := Aside0.mk hP
  have HLL := Aside0.mk hl
  have HSL := Aside0.mk (ssettle_len most s)
  have HON := Aside0.mk h0
  have HL := Aside0.mk (Lives.start hB hg ho)
  have hm5 := Aside0.mk (show min s.ones 5 = (((min s.ones 5).toNat : Nat) : Int) by omega)
  have eo := ssettle_ones most s
  clear hB hg hge hP ho hl h0
  obtain ⟨n, hn⟩ := Int.eq_ofNat_of_zero_le HON.out
  by_cases c0 : (0 : Int) < (n : Int)
  · have hc0 : decide ((0 : Int) < (n : Int)) = true := decide_eq_true c0
    by_cases c6 : (6 : Int) < (n : Int)
    · have hc6 : decide ((6 : Int) < (n : Int)) = true := decide_eq_true c6
      have c5 : ¬ (n : Int) < 5 := by omega
      have c5' : (5 : Int) < (n : Int) := by omega
      have e1 : srow1 (ssettle most s) = { ssettle most s with any := true, broken := true } := by
        have eo' := eo.trans hn
        unfold srow1
        generalize ssettle most s = z at eo' ⊢
        cases z
        simp only at eo'
        subst eo'
        simp only [if_pos (show (n : Int) > 0 from c0), if_pos (show (n : Int) > 6 from c6)]
      have E1 := Aside0.mk e1
      clear e1
      go_enter Try.func41, Try.ntmps41
      go_wp2_with (first | (go_at_call 52; refine (sf_settle (own P0_ w u) g u most s w0 _ HL.out.bel HL.out.cell HGE.out (own_not HP.out HGL.out) HL.out.ownP (by have := HLL.out; omega)).mono ?_; rintro x_ w2 ⟨rfl, u2, hl2⟩; have HL2 := Aside0.mk (HL.out.then_ HGL.out HGE.out hl2); clear hl2; obtain ⟨gz0, gz1, gz2, gz3, gz4, gz5, gz6, gz7, gf0, gf1, gf2, gf3, gf4, gf5, gf6, gf7⟩ := HL2.out.facts; rw [eo, hn] at gz5; clear gz0 gz1 gz2 gz6 gz7 gf0 gf1 gf2 gf5 gf6 gf7) | (go_at_call 53; have HL3 := Aside0.mk (show Lives w0 w P0_ g most (srow1 (ssettle most s)) u2 (.slice none 0 0) [] _ from E1.out ▸ (HL2.out.set HGL.out HGE.out HP.out (s' := { ssettle most s with any := true }) 3 (.bool true) rfl rfl).set HGL.out HGE.out HP.out (s' := { ssettle most s with any := true, broken := true }) 4 (.bool true) rfl rfl); refine (sf_put (own P0_ w u2) g u2 most 1 (srow1 (ssettle most s)) 5 w0 _ HL3.out.bel HL3.out.cell HGE.out (own_not HP.out HGL.out) HL3.out.ownP (by have := HLL.out; have := HSL.out; have e_ : (srow1 (ssettle most s)).bits = (ssettle most s).bits := rfl; rw [e_]; omega)).mono ?_; rintro x_ w4 ⟨rfl, u4, hl4⟩; have HL4 := Aside0.mk (HL3.out.then_ HGL.out HGE.out hl4); clear hl4))
      refine bodyPost_end (results_list (rs := []) (vs := []) rfl (by decide) Vals.nil) rfl ?_
      refine ⟨rfl, u4, ?_⟩
      unfold srow
      rw [show (min s.ones 5).toNat = 5 by omega]
      exact HL4.out
    · have hc6 : decide ((6 : Int) < (n : Int)) = false := decide_eq_false c6
      by_cases c5' : (5 : Int) < (n : Int)
      · have c5 : ¬ (n : Int) < 5 := by omega
        have e1 : srow1 (ssettle most s) = { ssettle most s with any := true } := by
          have eo' := eo.trans hn
          unfold srow1
          generalize ssettle most s = z at eo' ⊢
          cases z
          simp only at eo'
          subst eo'
          simp only [if_pos (show (n : Int) > 0 from c0), if_neg (show ¬ (n : Int) > 6 from c6)]
        have E1 := Aside0.mk e1
        clear e1
        go_enter Try.func41, Try.ntmps41
        go_wp2_with (first | (go_at_call 52; refine (sf_settle (own P0_ w u) g u most s w0 _ HL.out.bel HL.out.cell HGE.out (own_not HP.out HGL.out) HL.out.ownP (by have := HLL.out; omega)).mono ?_; rintro x_ w2 ⟨rfl, u2, hl2⟩; have HL2 := Aside0.mk (HL.out.then_ HGL.out HGE.out hl2); clear hl2; obtain ⟨gz0, gz1, gz2, gz3, gz4, gz5, gz6, gz7, gf0, gf1, gf2, gf3, gf4, gf5, gf6, gf7⟩ := HL2.out.facts; rw [eo, hn] at gz5; clear gz0 gz1 gz2 gz6 gz7 gf0 gf1 gf2 gf5 gf6 gf7) | (go_at_call 53; have HL3 := Aside0.mk (show Lives w0 w P0_ g most (srow1 (ssettle most s)) u2 (.slice none 0 0) [] _ from E1.out ▸ HL2.out.set HGL.out HGE.out HP.out (s' := { ssettle most s with any := true }) 3 (.bool true) rfl rfl); refine (sf_put (own P0_ w u2) g u2 most 1 (srow1 (ssettle most s)) 5 w0 _ HL3.out.bel HL3.out.cell HGE.out (own_not HP.out HGL.out) HL3.out.ownP (by have := HLL.out; have := HSL.out; have e_ : (srow1 (ssettle most s)).bits = (ssettle most s).bits := rfl; rw [e_]; omega)).mono ?_; rintro x_ w4 ⟨rfl, u4, hl4⟩; have HL4 := Aside0.mk (HL3.out.then_ HGL.out HGE.out hl4); clear hl4))
        refine bodyPost_end (results_list (rs := []) (vs := []) rfl (by decide) Vals.nil) rfl ?_
        refine ⟨rfl, u4, ?_⟩
        unfold srow
        rw [show (min s.ones 5).toNat = 5 by omega]
        exact HL4.out
      · have c5 : (n : Int) ≤ 5 := by omega
        have e1 : srow1 (ssettle most s) = { ssettle most s with any := true } := by
          have eo' := eo.trans hn
          unfold srow1
          generalize ssettle most s = z at eo' ⊢
          cases z
          simp only at eo'
          subst eo'
          simp only [if_pos (show (n : Int) > 0 from c0), if_neg (show ¬ (n : Int) > 6 from c6)]
        have E1 := Aside0.mk e1
        clear e1
        go_enter Try.func41, Try.ntmps41
        go_wp2_with (first | (go_at_call 52; refine (sf_settle (own P0_ w u) g u most s w0 _ HL.out.bel HL.out.cell HGE.out (own_not HP.out HGL.out) HL.out.ownP (by have := HLL.out; omega)).mono ?_; rintro x_ w2 ⟨rfl, u2, hl2⟩; have HL2 := Aside0.mk (HL.out.then_ HGL.out HGE.out hl2); clear hl2; obtain ⟨gz0, gz1, gz2, gz3, gz4, gz5, gz6, gz7, gf0, gf1, gf2, gf3, gf4, gf5, gf6, gf7⟩ := HL2.out.facts; rw [eo, hn] at gz5; clear gz0 gz1 gz2 gz6 gz7 gf0 gf1 gf2 gf5 gf6 gf7) | (go_at_call 53; have HL3 := Aside0.mk (show Lives w0 w P0_ g most (srow1 (ssettle most s)) u2 (.slice none 0 0) [] _ from E1.out ▸ HL2.out.set HGL.out HGE.out HP.out (s' := { ssettle most s with any := true }) 3 (.bool true) rfl rfl); refine (sf_put (own P0_ w u2) g u2 most 1 (srow1 (ssettle most s)) n w0 _ HL3.out.bel HL3.out.cell HGE.out (own_not HP.out HGL.out) HL3.out.ownP (by have := HLL.out; have := HSL.out; have e_ : (srow1 (ssettle most s)).bits = (ssettle most s).bits := rfl; rw [e_]; omega)).mono ?_; rintro x_ w4 ⟨rfl, u4, hl4⟩; have HL4 := Aside0.mk (HL3.out.then_ HGL.out HGE.out hl4); clear hl4))
        refine bodyPost_end (results_list (rs := []) (vs := []) rfl (by decide) Vals.nil) rfl ?_
        refine ⟨rfl, u4, ?_⟩
        unfold srow
        rw [show (min s.ones 5).toNat = n by omega]
        exact HL4.out
  · have hc0 : decide ((0 : Int) < (n : Int)) = false := decide_eq_false c0
    have c6 : ¬ (6 : Int) < (n : Int) := by omega
    have hc6 : decide ((6 : Int) < (n : Int)) = false := decide_eq_false c6
    have c5 : (n : Int) ≤ 5 := by omega
    have e1 : srow1 (ssettle most s) = ssettle most s := by
      have eo' := eo.trans hn
      unfold srow1
      generalize ssettle most s = z at eo' ⊢
      cases z
      simp only at eo'
      subst eo'
      simp only [if_neg (show ¬ (n : Int) > 0 from c0), if_neg (show ¬ (n : Int) > 6 from c6)]
    have E1 := Aside0.mk e1
    clear e1
    go_enter Try.func41, Try.ntmps41
    go_wp2_with (first | (go_at_call 52; refine (sf_settle (own P0_ w u) g u most s w0 _ HL.out.bel HL.out.cell HGE.out (own_not HP.out HGL.out) HL.out.ownP (by have := HLL.out; omega)).mono ?_; rintro x_ w2 ⟨rfl, u2, hl2⟩; have HL2 := Aside0.mk (HL.out.then_ HGL.out HGE.out hl2); clear hl2; obtain ⟨gz0, gz1, gz2, gz3, gz4, gz5, gz6, gz7, gf0, gf1, gf2, gf3, gf4, gf5, gf6, gf7⟩ := HL2.out.facts; rw [eo, hn] at gz5; clear gz0 gz1 gz2 gz6 gz7 gf0 gf1 gf2 gf5 gf6 gf7) | (go_at_call 53; have HL3 := Aside0.mk (show Lives w0 w P0_ g most (srow1 (ssettle most s)) u2 (.slice none 0 0) [] _ from E1.out ▸ HL2.out); refine (sf_put (own P0_ w u2) g u2 most 1 (srow1 (ssettle most s)) n w0 _ HL3.out.bel HL3.out.cell HGE.out (own_not HP.out HGL.out) HL3.out.ownP (by have := HLL.out; have := HSL.out; have e_ : (srow1 (ssettle most s)).bits = (ssettle most s).bits := rfl; rw [e_]; omega)).mono ?_; rintro x_ w4 ⟨rfl, u4, hl4⟩; have HL4 := Aside0.mk (HL3.out.then_ HGL.out HGE.out hl4); clear hl4))
    refine bodyPost_end (results_list (rs := []) (vs := []) rfl (by decide) Vals.nil) rfl ?_
    refine ⟨rfl, u4, ?_⟩
    unfold srow
    rw [show (min s.ones 5).toNat = n by omega]
    exact HL4.out
end Go.Proofs.Ytjmclghjhnbafaa.Print

/- A text that a program of this claim (wip/x) laid out of the translation: what Go functions come to, and that they come to it. Lean checks it. -/
namespace Go.Proofs.Ytjmclghjhnbafaa.Print
open Go.RowKit Go.Proofs.YtjmclghjhnbafaaW.PrintWords Go.Proofs.YtjmclghjhnbafaaW.PrintLast Go.Proofs.YtjmclghjhnbafaaW.PrintMore
attribute [local go_sem] max2_int min2_int max_two min_two max_three min_three max_four min_four   -- for this text's walks alone
set_option linter.unusedVariables false
set_option linter.unusedSimpArgs false

/-! ### bits_Octets: function 51 -/
def bits_Octets.l0 : Nat → List Int → List Int → Int → Int → Option (List Int × Bool)
  | 0, _, _, _, _ => none
  | k + 1, x4, x15, x16, x17 => if x17 < x16 then (if 0 ≤ x17 then (if x17 < (x15.length : Int) then (if 0 ≤ (wrap64 (Int.tdiv x17 8)) then (if (wrap64 (Int.tdiv x17 8)) < (x4.length : Int) then (if 0 ≤ (Int.tmod x17 8) then (bits_Octets.l0 k (x4.set ((wrap64 (Int.tdiv x17 8)) : Int).toNat (Go.bits .or .u8 (rd x4 (wrap64 (Int.tdiv x17 8))) (shl .u8 (Go.bits .and .u8 (rd x15 x17) 1) (Int.tmod x17 8)))) x15 x16 (wrap64 (x17 + 1))) else (none)) else (none)) else (none)) else (none)) else (none)) else (some (x4, true))
def bits_Octets.f (k : Nat) (l0 : List Int) : Option (List Int × Bool) := if ((l0.length : Int) % 8) = 0 then (if 0 ≤ (wrap64 ((l0.length : Int) / 8)) then (if (wrap64 ((l0.length : Int) / 8) : Int).toNat ≤ 281474976710656 then (bits_Octets.l0 k (List.replicate (wrap64 ((l0.length : Int) / 8) : Int).toNat 0) l0 (l0.length : Int) 0) else (none)) else (none)) else (some (([] : List Int), false))
theorem bits_Octets.mono_l : ∀ k, (∀ y0 y1 y2 y3, LeO (bits_Octets.l0 k y0 y1 y2 y3) (bits_Octets.l0 (k + 1) y0 y1 y2 y3))
  | 0 => fun _ _ _ _ r h => by simp [bits_Octets.l0] at h
  | k + 1 => by
    have ih0 := bits_Octets.mono_l k
    · intro y0 y1 y2 y3
      unfold bits_Octets.l0
      repeat' first
      | (with_reducible exact ih0 _ _ _ _)
      | (with_reducible exact LeO.refl _)
      | (with_reducible exact LeO.none _)
      | (with_reducible refine LeO.ite ?_ ?_)
      | (with_reducible refine LeO.bind ?_ (fun _ => ?_))
      | exact ih0 _ _ _ _
      | exact LeO.none _
      | refine LeO.ite ?_ ?_
      | refine LeO.bind ?_ (fun _ => ?_)
theorem bits_Octets.mono : ∀ a0 k, LeO (bits_Octets.f k a0) (bits_Octets.f (k + 1) a0) := by
  intro a0 k
  have ih0 := bits_Octets.mono_l k
  unfold bits_Octets.f
  repeat' first
      | (with_reducible exact ih0 _ _ _ _)
      | (with_reducible exact LeO.refl _)
      | (with_reducible exact LeO.none _)
      | (with_reducible refine LeO.ite ?_ ?_)
      | (with_reducible refine LeO.bind ?_ (fun _ => ?_))
      | exact ih0 _ _ _ _
      | exact LeO.none _
      | refine LeO.ite ?_ ?_
      | refine LeO.bind ?_ (fun _ => ?_)
def bits_Octets.T7 : Bool × List (List Nat × List Nat) := (true, [([], []), ([], []), ([1], [1]), ([0, 2], [0, 2]), ([3], [3]), ([], []), ([5], [5]), ([], []), ([7], [7]), ([6, 8], [6, 8]), ([4, 9], [4, 9]), ([0, 2, 0, 1, 2, 3, 4, 5, 6, 7, 8, 9, 10], [0, 2]), ([11, 10, 0, 1, 2, 3, 4, 5, 6, 7, 8, 9, 10], [10, 11])])
def bits_Octets.B7 : List Nat := [0, 0, 2, 7, 15, 0, 32, 0, 128, 480, 1023, 2047, 4095]
theorem bits_Octets.tab7 : rtab .any (opsOf Try.f51 7) = bits_Octets.T7 := by kernel_rfl
theorem bits_Octets.bits7 : waitsOk bits_Octets.T7.2 bits_Octets.B7 = true := by kernel_rfl
set_option maxHeartbeats 8000000 in
set_option maxRecDepth 100000 in
theorem bits_Octets.calls (k : Nat) (A0 : Option Addr) (c0 : Nat) (l0 : List Int) (r1 : List Int) (r2 : Bool) (w : World) (hr0 : Kd.C (Kd.int .u8) w A0 l0.length l0) (hc0 : l0.length ≤ c0) (h : bits_Octets.f k l0 = some (r1, r2)) :
    Calls Try.prog 51 #[.slice A0 l0.length c0] w fun e w' => ∃ v0_ : Value, e = .returned (.tuple #[v0_, .bool r2]) ∧ Kd.R (Kd.int .u8) 5 w' w.heap.size (fun _ => True) v0_ r1 ∧ Below w.heap.size w w' := by
  have HR0 := Aside0.mk hr0
  have HC0 := Aside0.mk hc0
  clear hr0 hc0
  have HB := Aside0.mk (Below.refl w.heap.size w)
  have H : (if ((l0.length : Int) % 8) = 0 then (if 0 ≤ (wrap64 ((l0.length : Int) / 8)) then (if (wrap64 ((l0.length : Int) / 8) : Int).toNat ≤ 281474976710656 then (bits_Octets.l0 k (List.replicate (wrap64 ((l0.length : Int) / 8) : Int).toNat 0) l0 (l0.length : Int) 0) else (none)) else (none)) else (some (([] : List Int), false))) = some (r1, r2) := h
  clear h
  by_cases c2 : ((l0.length : Int) % 8) = 0
  · rw [if_pos c2] at H
    have c2b0 : (((l0.length : Int) % 8) == 0) = true := beq_iff_eq.mpr c2
    have c2b1 : (((l0.length : Int) % 8) != 0) = false := bne_eq_false_iff_eq.mpr c2
    clear c2
    obtain ⟨ji3, hji3⟩ : ∃ j_ : Int, (wrap64 ((l0.length : Int) / 8)) = j_ := ⟨_, rfl⟩
    replace H : (if 0 ≤ (ji3) then (if (ji3 : Int).toNat ≤ 281474976710656 then (bits_Octets.l0 k (List.replicate (ji3 : Int).toNat 0) l0 (l0.length : Int) 0) else (none)) else (none)) = some (r1, r2) := by first | (rw [hji3] at H; exact H) | (simp only [hji3] at H ⊢; exact H)
    have hji3w : (IntKind.i64.wrap ((l0.length : Int) / 8)) = ji3 := (i64_w _).trans hji3
    by_cases c4 : 0 ≤ (ji3)
    · rw [if_pos c4] at H
      have c4b0 := eq_true c4
      have c4b1 : decide (0 ≤ (ji3)) = true := decide_eq_true c4
      clear c4
      by_cases c5 : (ji3 : Int).toNat ≤ 281474976710656
      · rw [if_pos c5] at H
        have c5b0 := eq_true c5
        have c5b1 : decide ((ji3 : Int).toNat ≤ 281474976710656) = true := decide_eq_true c5
        clear c5
        obtain ⟨y235, hy235⟩ : ∃ y_ : List Int, y_ = (List.replicate (ji3 : Int).toNat 0) := ⟨_, rfl⟩
        replace H : (bits_Octets.l0 k y235 l0 (l0.length : Int) 0) = some (r1, r2) := by first | (rw [hy235]; with_reducible exact H) | (have H2_ := (Option.bind_some _ _).symm.trans H; rw [hy235]; with_reducible exact H2_) | (have H2_ := (Option.bind_some _ _).symm.trans H; with_reducible exact H2_) | with_reducible exact H | (rw [hy235]; exact H) | exact H
        have Ny235 := Aside0.mk hy235
        clear hy235
        have H' := Aside0.mk H
        clear H
        go_enter Try.func51, Try.ntmps51
        go_wp2_with (first | ((with_reducible refine gate_dst (N := 14) rfl ?_); refine Kd.R_make (Kd.int .u8) _ 5 rfl (N := 14) rfl 28 _ _ rfl ji3 rfl rfl Try.underlying28 (.int .u8 0) 1 info5 rfl (by decide) (by omega) 0 (ok := fun _ => True) (okp := fun _ => True) rfl (fun _ hk => hk) trivial (of_decide_eq_true (by first | (with_reducible assumption) | assumption)) (Nat.le_trans (Nat.mul_le_mul_right _ (of_decide_eq_true (by first | (with_reducible assumption) | assumption) : ji3.toNat ≤ 281474976710656)) (by omega)) (Below.refl _ _) (Nat.le_refl _) ?_; intro v236 w6 ho7 hb hg_ hnew_; clear hg_ hnew_; (first | rw [← Ny235.out] at ho7 | (simp only [Int.reduceToNat] at ho7; rw [← Ny235.out] at ho7)); have n0_ := Aside0.mk (Kd.R_lower ho7 (below_size (by repeat (first | (with_reducible first | exact HB.out | apply below_alloc | apply pw_below_drewN | apply below_drew1) | exact HB.out)))); have n1_ := Aside0.mk (below_step (by repeat (first | (with_reducible first | exact HB.out | apply below_alloc | apply pw_below_drewN | apply below_drew1) | exact HB.out)) hb); clear HB; have HO237 := n0_; have HB := n1_; clear n0_ n1_; clear hb ho7))
        go_loopg [17] k (fun kq v17 w' => ∃ (x4_1 : List Int) (x17_1 : Int), v17 = .int .i64 x17_1 ∧ Aside0 (bits_Octets.l0 kq x4_1 l0 (l0.length : Int) x17_1 = some (r1, r2)) ∧ Aside0 (kq ≤ k) ∧ Aside0 (Kd.R (Kd.int .u8) 5 w' w.heap.size (fun _ => True) v236 x4_1) ∧ Aside0 (Below w.heap.size w w'))
        case atStart => exact ⟨(y235), (0), (by first | rfl | (simp; done) | (simp [*]; done)), (by first | exact H' | (simp only [hji3]; exact H')), ⟨Nat.le_refl _⟩, ⟨by (with_reducible repeat (first | apply Kd.R_alloc | apply Kd.R_drewN | apply Kd.R_drew)); exact HO237.out⟩, ⟨by repeat (first | (with_reducible first | exact HB.out | apply below_alloc | apply pw_below_drewN | apply below_drew1) | exact HB.out)⟩⟩
        case round =>
          clear H'
          try clear c2
          try clear c2b0
          try clear c2b1
          try clear p2
          try clear c4
          try clear c4b0
          try clear c4b1
          try clear c5
          try clear c5b0
          try clear c5b1
          try clear p6
          obtain ⟨x4_1, x17_1, rfl, HA, HK1, HO_4, HB⟩ := hrel
          cases gk with
          | zero => exact absurd HA.out (by simp [bits_Octets.l0])
          | succ k1 =>
            have H := HA.out
            clear HA
            simp only [bits_Octets.l0] at H
            by_cases c8 : x17_1 < (l0.length : Int)
            · rw [if_pos c8] at H
              have c8b0 : decide (x17_1 < (l0.length : Int)) = true := decide_eq_true c8
              clear c8
              by_cases c9 : 0 ≤ x17_1
              · rw [if_pos c9] at H
                have c9b0 : decide (0 ≤ x17_1) = true := decide_eq_true c9
                clear c9
                by_cases c10 : x17_1 < (l0.length : Int)
                · rw [if_pos c10] at H
                  have c10b0 : decide (x17_1 < (l0.length : Int)) = true := decide_eq_true c10
                  clear c10
                  obtain ⟨ji11, hji11⟩ : ∃ j_ : Int, (wrap64 (Int.tdiv x17_1 8)) = j_ := ⟨_, rfl⟩
                  replace H : (if 0 ≤ (ji11) then (if (ji11) < (x4_1.length : Int) then (if 0 ≤ (Int.tmod x17_1 8) then (bits_Octets.l0 k1 (x4_1.set ((ji11) : Int).toNat (Go.bits .or .u8 (rd x4_1 (ji11)) (shl .u8 (Go.bits .and .u8 (rd l0 x17_1) 1) (Int.tmod x17_1 8)))) l0 (l0.length : Int) (wrap64 (x17_1 + 1))) else (none)) else (none)) else (none)) = some (r1, r2) := by first | (rw [hji11] at H; exact H) | (simp only [hji11] at H ⊢; exact H)
                  have hji11w : (IntKind.i64.wrap (Int.tdiv x17_1 8)) = ji11 := (i64_w _).trans hji11
                  by_cases c12 : 0 ≤ (ji11)
                  · rw [if_pos c12] at H
                    have c12b0 : decide (0 ≤ (ji11)) = true := decide_eq_true c12
                    clear c12
                    by_cases c13 : (ji11) < (x4_1.length : Int)
                    · rw [if_pos c13] at H
                      have c13b0 : decide ((ji11) < (x4_1.length : Int)) = true := decide_eq_true c13
                      clear c13
                      obtain ⟨ji14, hji14⟩ : ∃ j_ : Int, (Int.tmod x17_1 8) = j_ := ⟨_, rfl⟩
                      replace H : (if 0 ≤ (ji14) then (bits_Octets.l0 k1 (x4_1.set ((ji11) : Int).toNat (Go.bits .or .u8 (rd x4_1 (ji11)) (shl .u8 (Go.bits .and .u8 (rd l0 x17_1) 1) (ji14)))) l0 (l0.length : Int) (wrap64 (x17_1 + 1))) else (none)) = some (r1, r2) := by first | (rw [hji14] at H; exact H) | (simp only [hji14] at H ⊢; exact H)
                      by_cases c15 : 0 ≤ (ji14)
                      · rw [if_pos c15] at H
                        have c15b0 := eq_true c15
                        have c15b1 : decide (0 ≤ (ji14)) = true := decide_eq_true c15
                        clear c15
                        obtain ⟨ji16, hji16⟩ : ∃ j_ : Int, (shl .u8 (Go.bits .and .u8 (rd l0 x17_1) 1) (ji14)) = j_ := ⟨_, rfl⟩
                        replace H : (bits_Octets.l0 k1 (x4_1.set ((ji11) : Int).toNat (Go.bits .or .u8 (rd x4_1 (ji11)) (ji16))) l0 (l0.length : Int) (wrap64 (x17_1 + 1))) = some (r1, r2) := by first | (rw [hji16] at H; exact H) | (simp only [hji16] at H ⊢; exact H)
                        have hji16_ : (IntKind.u8.wrap ((Go.bits .and .u8 (rd l0 x17_1) 1) * 2 ^ min (ji14).toNat 8)) = ji16 := hji16
                        have hji16z : (ji14) ≤ 8 → (IntKind.u8.wrap ((Go.bits .and .u8 (rd l0 x17_1) 1) * 2 ^ (ji14).toNat)) = ji16 := shl_small hji16
                        obtain ⟨y240, hy240⟩ : ∃ y_ : List Int, y_ = (x4_1.set ((ji11) : Int).toNat (Go.bits .or .u8 (rd x4_1 (ji11)) (ji16))) := ⟨_, rfl⟩
                        replace H : (bits_Octets.l0 k1 y240 l0 (l0.length : Int) (wrap64 (x17_1 + 1))) = some (r1, r2) := by first | (rw [hy240]; with_reducible exact H) | (have H2_ := (Option.bind_some _ _).symm.trans H; rw [hy240]; with_reducible exact H2_) | (have H2_ := (Option.bind_some _ _).symm.trans H; with_reducible exact H2_) | with_reducible exact H | (rw [hy240]; exact H) | exact H
                        have Ny240 := Aside0.mk hy240
                        clear hy240
                        have H' := Aside0.mk H
                        clear H
                        have p238 : 0 ≤ (x17_1 : Int) := of_decide_eq_true (by first | (with_reducible assumption) | assumption)
                        have q238 : x17_1 < (l0.length : Int) := of_decide_eq_true (by first | (with_reducible assumption) | assumption)
                        obtain ⟨ad238, e238, hx238_0⟩ := Kd.at_int HR0.out x17_1 p238 q238
                        cases e238
                        replace hx238_0 := (HB.out.cell (World.block_lt_of_cell? w _ hx238_0)).trans hx238_0
                        replace p238 := eq_true p238
                        replace q238 := eq_true q238
                        try go_wp2
                        have n0_ := Aside0.mk (Kd.R_drew HO_4.out)
                        have n1_ := Aside0.mk (below_drew1 HB.out)
                        clear HO_4
                        clear HB
                        have HO_4 := n0_
                        have HB := n1_
                        clear n0_ n1_
                        obtain ⟨Ao19, co19, eo19⟩ := Kd.R_slice HO_4.out
                        (first | subst eo19 | (injection eo19 with f1_ f2_ f3_; have f4_ := f1_.symm; have f5_ := f3_.symm; clear f1_ f2_ f3_; subst f4_; subst f5_))
                        have p239 : 0 ≤ ((ji11) : Int) := of_decide_eq_true (by first | (with_reducible assumption) | assumption)
                        have q239 : (ji11) < (x4_1.length : Int) := of_decide_eq_true (by first | (with_reducible assumption) | assumption)
                        obtain ⟨ad239, e239, hx239_0⟩ := Kd.at_int (Kd.R_reads' HO_4.out).2.2 (ji11) p239 q239
                        cases e239
                        replace p239 := eq_true p239
                        replace q239 := eq_true q239
                        have p17 : 0 ≤ ((ji11) : Int) := of_decide_eq_true (by first | (with_reducible assumption) | assumption)
                        have q17 : ((ji11) : Int) < ((x4_1.length : Int) : Int) := of_decide_eq_true (by first | (with_reducible assumption) | assumption)
                        obtain ⟨go17, co17, eo17, gb17, gl17, cl17, HG17⟩ := Kd.R_form HO_4.out (by omega)
                        (first | cases eo17 | (injection eo17 with ea_ en_ ec_; (first | subst ea_ | (injection ea_ with ea_; subst ea_)); subst ec_; clear en_))
                        have GB17 := Aside0.mk gb17
                        have GG17 := Aside0.mk HG17
                        clear gb17 gl17 HG17
                        (first | simp only [add_plain] at hx239_0 | skip)
                        obtain ⟨hx17_0, hf17_0⟩ := Kd.R_celln 0 HO_4.out ((ji11) : Int) p17 q17
                        replace p17 := eq_true p17
                        replace q17 := eq_true q17
                        have HP20 := Kd.R_putn HO_4.out ((ji11) : Int) (Go.bits .or .u8 (rd x4_1 (ji11)) (ji16))
                        rw [← Ny240.out] at HP20
                        have HQ20 := Aside0.mk HP20
                        clear HP20
                        refine start_ (n := 13) (S := fun w' => w'.cell? ⟨go17, ((ji11)).toNat, none⟩ = some (.int .u8 (rd x4_1 (ji11)))) (ds := [12]) #[false, false, false, false, false, false, false, false, false, false, false, false, false] (by kernel_rfl) rfl rfl (hx239_0) (fun hHeld => ?_); refine with_tabW bits_Octets.tab7 bits_Octets.bits7 (fun HT_ HW_ => ?_)
                        generalize wr.drew = w18 at HO_4 HB GG17 HQ20 hf17_0 hx17_0 hx239_0 hHeld ⊢
                        refine pure_ (i := 0) (N := some 22) (v := ?_) (a' := ?_) #[true, false, false, false, false, false, false, false, false, false, false, false, false] rfl rfl (any_of HT_.out (by kernel_rfl)) (fun _ _ _ h => h) (Or.inl ⟨by rfl, ?_⟩) ?_ ?_
                        rotate_left
                        · intro w'
                          go_simp
                          with_reducible rfl
                        rotate_left
                        · simp only [Act.put, List.setIfInBounds_toArray, List.set_cons_zero, List.set_cons_succ, i64_w, i32_w]
                          rfl
                        refine pure_ (i := 1) (N := some 23) (v := ?_) (a' := ?_) #[true, true, false, false, false, false, false, false, false, false, false, false, false] rfl rfl (any_of HT_.out (by kernel_rfl)) (fun _ _ _ h => h) (Or.inl ⟨by rfl, ?_⟩) ?_ ?_
                        rotate_left
                        · intro w'
                          go_simp
                          with_reducible rfl
                        rotate_left
                        · simp only [Act.put, List.setIfInBounds_toArray, List.set_cons_zero, List.set_cons_succ, i64_w, i32_w]
                          rfl
                        refine pure_ (i := 2) (N := some 24) (v := ?_) (a' := ?_) #[true, true, true, false, false, false, false, false, false, false, false, false, false] rfl rfl (any_of HT_.out (by kernel_rfl)) (fun _ _ _ h => h) (Or.inl ⟨by rfl, ?_⟩) ?_ ?_
                        rotate_left
                        · intro w'
                          go_simp
                          with_reducible rfl
                        rotate_left
                        · simp only [Act.put, List.setIfInBounds_toArray, List.set_cons_zero, List.set_cons_succ, i64_w, i32_w]
                          rfl
                        refine pure_ (i := 3) (N := some 25) (v := ?_) (a' := ?_) #[true, true, true, true, false, false, false, false, false, false, false, false, false] rfl rfl (any_of HT_.out (by kernel_rfl)) (fun _ _ _ h => h) (Or.inl ⟨by rfl, ?_⟩) ?_ ?_
                        rotate_left
                        · intro w'
                          go_simp
                          with_reducible rfl
                        rotate_left
                        · simp only [Act.put, List.setIfInBounds_toArray, List.set_cons_zero, List.set_cons_succ, i64_w, i32_w]
                          rfl
                        refine pure_ (i := 5) (N := some 27) (v := ?_) (a' := ?_) #[true, true, true, true, false, true, false, false, false, false, false, false, false] rfl rfl (any_of HT_.out (by kernel_rfl)) (fun _ _ _ h => h) (Or.inl ⟨by rfl, ?_⟩) ?_ ?_
                        rotate_left
                        · intro w'
                          go_simp
                          with_reducible rfl
                        rotate_left
                        · simp only [Act.put, List.setIfInBounds_toArray, List.set_cons_zero, List.set_cons_succ, i64_w, i32_w]
                          rfl
                        refine pure_ (i := 6) (N := some 28) (v := ?_) (a' := ?_) #[true, true, true, true, false, true, true, false, false, false, false, false, false] rfl rfl (any_of HT_.out (by kernel_rfl)) (fun _ _ _ h => h) (Or.inl ⟨by rfl, ?_⟩) ?_ ?_
                        rotate_left
                        · intro w'
                          go_simp
                          with_reducible rfl
                        rotate_left
                        · simp only [Act.put, List.setIfInBounds_toArray, List.set_cons_zero, List.set_cons_succ, i64_w, i32_w]
                          rfl
                        refine pure_ (i := 7) (N := some 29) (v := ?_) (a' := ?_) #[true, true, true, true, false, true, true, true, false, false, false, false, false] rfl rfl (any_of HT_.out (by kernel_rfl)) (fun _ _ _ h => h) (Or.inl ⟨by rfl, ?_⟩) ?_ ?_
                        rotate_left
                        · intro w'
                          go_simp
                          with_reducible rfl
                        rotate_left
                        · simp only [Act.put, List.setIfInBounds_toArray, List.set_cons_zero, List.set_cons_succ, i64_w, i32_w]
                          rfl
                        refine pure_ (i := 8) (N := some 30) (v := ?_) (a' := ?_) #[true, true, true, true, false, true, true, true, true, false, false, false, false] rfl rfl (any_of HT_.out (by kernel_rfl)) (fun _ _ _ h => h) (Or.inl ⟨by rfl, ?_⟩) ?_ ?_
                        rotate_left
                        · intro w'
                          go_simp
                          with_reducible rfl
                        rotate_left
                        · simp only [Act.put, List.setIfInBounds_toArray, List.set_cons_zero, List.set_cons_succ, i64_w, i32_w]
                          rfl
                        refine pure_ (i := 9) (N := some 31) (v := ?_) (a' := ?_) #[true, true, true, true, false, true, true, true, true, true, false, false, false] rfl rfl (any_of HT_.out (by kernel_rfl)) (fun _ _ _ h => h) (Or.inl ⟨by rfl, ?_⟩) ?_ ?_
                        rotate_left
                        · intro w'
                          go_simp
                          with_reducible rfl
                        rotate_left
                        · simp only [Act.put, List.setIfInBounds_toArray, List.set_cons_zero, List.set_cons_succ, i64_w, i32_w]
                          rfl
                        refine take_ (i := 4) (N := some 26) (v := ?_) (a' := ?_) #[true, true, true, true, true, true, true, true, true, true, false, false, false] rfl rfl (take_ofW HT_.out HW_.out (by kernel_rfl)) (fun _ _ _ h => h) (Or.inl ⟨by rfl, ?_⟩) hHeld ?_ ?_
                        rotate_left
                        · intro w' s0
                          go_simp
                          with_reducible rfl
                        rotate_left
                        · simp only [Act.put, List.setIfInBounds_toArray, List.set_cons_zero, List.set_cons_succ, i64_w, i32_w]
                          rfl
                        refine pure_ (i := 10) (N := some 32) (v := ?_) (a' := ?_) #[true, true, true, true, true, true, true, true, true, true, true, false, false] rfl rfl (any_of HT_.out (by kernel_rfl)) (fun _ _ _ h => h) (Or.inl ⟨by rfl, ?_⟩) ?_ ?_
                        rotate_left
                        · intro w'
                          go_simp
                          with_reducible rfl
                        rotate_left
                        · simp only [Act.put, List.setIfInBounds_toArray, List.set_cons_zero, List.set_cons_succ, i64_w, i32_w]
                          rfl
                        refine pure_ (i := 11) (N := some 33) (v := ?_) (a' := ?_) #[true, true, true, true, true, true, true, true, true, true, true, true, false] rfl rfl (any_of HT_.out (by kernel_rfl)) (fun _ _ _ h => h) (Or.inl ⟨by rfl, ?_⟩) ?_ ?_
                        rotate_left
                        · intro w'
                          go_simp
                          with_reducible rfl
                        rotate_left
                        · simp only [Act.put, List.setIfInBounds_toArray, List.set_cons_zero, List.set_cons_succ, i64_w, i32_w]
                          rfl
                        refine last_ (i := 12) (N := none) #[true, true, true, true, true, true, true, true, true, true, true, true, true] rfl rfl (one_of HT_.out (by kernel_rfl)) (by decide) (fun K hK => ?_)
                        refine skip_ (w1 := ?_) (by rfl) rfl ?_ ?_
                        rotate_left
                        · go_simp
                          rfl
                        refine hK.out _ _ ?_
                        clear hK K
                        refine done_ (done_of HT_.out (by kernel_rfl)) ?_
                        try go_wp2
                        go_roundg k1
                        case measure => have := HK1.out; omega
                        case rel => exact ⟨(y240), (wrap64 (x17_1 + 1)), (by first | rfl | (simp; done) | (simp [*]; done)), (by first | exact H' | (simp only [hji3, hji11, hji14, hji16]; exact H')), ⟨by have := HK1.out; omega⟩, ⟨by (with_reducible repeat (first | apply Kd.R_alloc | apply Kd.R_drewN | apply Kd.R_drew)); exact HQ20.out⟩, ⟨by repeat (first | (with_reducible first | exact HB.out | apply below_alloc | apply pw_below_drewN | apply below_drew1 | refine below_set ?_ GB17.out) | exact HB.out)⟩⟩
                      · rw [if_neg c15] at H
                        exact absurd H (by simp)
                    · rw [if_neg c13] at H
                      exact absurd H (by simp)
                  · rw [if_neg c12] at H
                    exact absurd H (by simp)
                · rw [if_neg c10] at H
                  exact absurd H (by simp)
              · rw [if_neg c9] at H
                exact absurd H (by simp)
            · rw [if_neg c8] at H
              have c8b0 : decide (x17_1 < (l0.length : Int)) = false := decide_eq_false c8
              clear c8
              simp only [Option.some.injEq, Prod.mk.injEq] at H
              obtain ⟨rfl, rfl⟩ := H
              go_wp2
              go_ret2
              exact ⟨_, by first | rfl | (simp [errW_none, errW_some] <;> rfl) | (simp only [← hji3]; first | rfl | (simp [errW_none, errW_some] <;> rfl)) | (simp [*, errW_none, errW_some] <;> rfl), by (with_reducible repeat (first | apply Kd.R_alloc | apply Kd.R_drewN | apply Kd.R_drew)); exact HO_4.out, by repeat (first | (with_reducible first | exact HB.out | apply below_alloc | apply pw_below_drewN | apply below_drew1) | exact HB.out)⟩
      · rw [if_neg c5] at H
        exact absurd H (by simp)
    · rw [if_neg c4] at H
      exact absurd H (by simp)
  · rw [if_neg c2] at H
    have c2b0 : (((l0.length : Int) % 8) == 0) = false := beq_eq_false_iff_ne.mpr c2
    have c2b1 : (((l0.length : Int) % 8) != 0) = true := bne_iff_ne.mpr c2
    simp only [Option.some.injEq, Prod.mk.injEq] at H
    obtain ⟨rfl, rfl⟩ := H
    go_enter Try.func51, Try.ntmps51
    go_wp2
    go_ret2
    exact ⟨_, by first | rfl | (simp [errW_none, errW_some] <;> rfl) | (simp [*, errW_none, errW_some] <;> rfl), by first | exact Kd.R_nil _ _ _ _ _ | exact Kd.N_nil _ _ _ _ _ | exact Kd.V_nil _ _ _ _ _ | exact Kd.Q_nil _ _ _ _ _ | exact Kd.S_nil _ _ _ _ _, by repeat (first | (with_reducible first | exact HB.out | apply below_alloc | apply pw_below_drewN | apply below_drew1) | exact HB.out)⟩

end Go.Proofs.Ytjmclghjhnbafaa.Print

/- What ends a segment of the synchronous deframer. No condition but the row's length. -/
namespace Go.Proofs.Ytjmclghjhnbafaa.Print
open Go.RowKit Go.Proofs.YtjmclghjhnbafaaW.PrintWords Go.Proofs.YtjmclghjhnbafaaW.PrintLast Go.Proofs.YtjmclghjhnbafaaW.PrintMore
attribute [local go_sem] max2_int min2_int max_two min_two max_three min_three max_four min_four
set_option linter.unusedVariables false
set_option linter.unusedSimpArgs false
/-- What a segment tells, as it ends. -/
def skind (most : Int) (s : Sst) : Int := if s.broken = true then 2 else if s.many.tmod 8 ≠ 0 then 3 else if s.many > wrap64 (8 * most) then 4 else 0
def sseg (most : Int) (s : Sst) (ys : List Int) : List Int := if skind most s = 0 then ys else []
set_option maxHeartbeats 16000000 in
set_option maxRecDepth 100000 in
theorem sf_end (P0_ : Nat → Prop) (g : Nat) (u : Value) (most : Int) (s : Sst) (ks : Nat) (ys : List Int) (bo : Bool) (w0 w : World) (hB : Below w0.heap.size w0 w)
    (hg : w.heap[g]? = some (.cells (scells most u s) 70 (0, 0))) (hge : w0.heap.size ≤ g) (hP : ¬ P0_ g) (ho : Kd.R (Kd.int .u8) 5 w w0.heap.size P0_ u s.bits) (hl : s.bits.length < 1000000000) (hoc : bits_Octets.f ks s.bits = some (ys, bo)) :
    Calls Try.prog 40 #[.pointer (some ⟨g, 0, none⟩)] w fun x w' => ∃ v u' : Value, x = .returned (.tuple #[.agg #[.int .i64 (skind most s), v], .bool s.any]) ∧
      Kd.R (Kd.int .u8) 5 w' w.heap.size (fun _ => True) v (sseg most s ys) ∧ Kd.R (Kd.int .u8) 5 w' w0.heap.size P0_ u' [] ∧ w'.heap[g]? = some (.cells (scells most u' ⟨[], 0, false, false, 0, false, false⟩) 70 (0, 0)) ∧ Below w0.heap.size w0 w' ∧ Kept w w' (fun k_ => k_ = g) := by
  have hu70 := Try.underlying70
  have hu54 := Try.underlying54
  have HO := Aside0.mk ho
  have HB0 := Aside0.mk hB
  have HG := Aside0.mk hg
  have HGE := Aside0.mk hge
  have HLL := Aside0.mk hl
  have HOC := Aside0.mk hoc
  have GL := Aside0.mk (blk_lt hg)
  obtain ⟨bits, many, any, broken, ones, zero, stuff⟩ := s
  obtain ⟨A, c0, rfl⟩ := Kd.R_slice ho
  clear ho hB hge hl hg hoc hP
  go_enter Try.func40, Try.ntmps40
  go_wp2_with (first | ((with_reducible refine gate_dst (N := 2) rfl ?_); refine box_event ?hg (N := 2) ?hd (cs := #[.int .i64 0, .slice none 0 0]) (t := 54) ?hr ?_; (case hd => rfl); (case hg => rfl); (case hr => first | (go_simp; done) | (go_simp; rfl)); intro gr hgr w1 hbox hb; have BR := Aside0.mk hbox; have GR := Aside0.mk ((by rw [hgr]; exact Nat.le_refl _) : w.heap.size ≤ gr); have HBW := Aside0.mk hb; clear hbox hb hgr))
  have n0_ := Aside0.mk (blk_drew BR.out)
  have n1_ := Aside0.mk (below_drew1 HBW.out)
  clear BR HBW
  have BR := n0_
  have HBW := n1_
  clear n0_ n1_
  have hcd3 : w1.drew.cell? ⟨g, 3, none⟩ = some (.bool any) := (blk_cell (blk_below HG.out HBW.out) 3).trans rfl
  refine start_ (n := 8) (S := fun w' => w'.cell? ⟨g, 3, none⟩ = some (.bool any)) (ds := []) #[false, false, false, false, false, false, false, false] (by kernel_rfl) rfl rfl (hcd3) (fun hHeld => ?_)
  clear hcd3
  generalize w1.drew = w7 at BR HBW hHeld ⊢
  refine pure_ (i := 0) (N := some 6) (v := ?_) (a' := ?_) #[true, false, false, false, false, false, false, false] rfl rfl (by kernel_rfl) (fun _ _ _ h => h) (Or.inl ⟨by rfl, ?_⟩) ?_ ?_
  rotate_left
  · intro w'
    go_simp
    with_reducible rfl
  rotate_left
  · simp only [Act.put, List.setIfInBounds_toArray, List.set_cons_zero, List.set_cons_succ, i64_w, i32_w]
    rfl
  refine pure_ (i := 1) (N := some 7) (v := ?_) (a' := ?_) #[true, true, false, false, false, false, false, false] rfl rfl (by kernel_rfl) (fun _ _ _ h => h) (Or.inl ⟨by rfl, ?_⟩) ?_ ?_
  rotate_left
  · intro w'
    go_simp
    with_reducible rfl
  rotate_left
  · simp only [Act.put, List.setIfInBounds_toArray, List.set_cons_zero, List.set_cons_succ, i64_w, i32_w]
    rfl
  refine pure_ (i := 2) (N := some 8) (v := ?_) (a' := ?_) #[true, true, true, false, false, false, false, false] rfl rfl (by kernel_rfl) (fun _ _ _ h => h) (Or.inl ⟨by rfl, ?_⟩) ?_ ?_
  rotate_left
  · intro w'
    go_simp
    with_reducible rfl
  rotate_left
  · simp only [Act.put, List.setIfInBounds_toArray, List.set_cons_zero, List.set_cons_succ, i64_w, i32_w]
    rfl
  refine pure_ (i := 3) (N := some 9) (v := ?_) (a' := ?_) #[true, true, true, true, false, false, false, false] rfl rfl (by kernel_rfl) (fun _ _ _ h => h) (Or.inl ⟨by rfl, ?_⟩) ?_ ?_
  rotate_left
  · intro w'
    go_simp
    with_reducible rfl
  rotate_left
  · simp only [Act.put, List.setIfInBounds_toArray, List.set_cons_zero, List.set_cons_succ, i64_w, i32_w]
    rfl
  refine take_ (i := 4) (N := some 10) (v := ?_) (a' := ?_) #[true, true, true, true, true, false, false, false] rfl rfl (by kernel_rfl) (fun _ _ _ h => h) (Or.inl ⟨by rfl, ?_⟩) hHeld ?_ ?_
  rotate_left
  · intro w' s0
    go_simp
    with_reducible rfl
  rotate_left
  · simp only [Act.put, List.setIfInBounds_toArray, List.set_cons_zero, List.set_cons_succ, i64_w, i32_w]
    rfl
  refine one_ (i := 5) (N := some 4) #[true, true, true, true, true, true, false, false] rfl rfl (by kernel_rfl) (by decide) (fun K hK => ?_)
  refine value_ (w1 := ?_) (v := ?_) (by rfl) rfl ?_ ?_
  rotate_left 2
  · go_simp
    constructor
    · rfl
    · rfl
  have hbx := blk_new w7 (.cells #[.int .i64 0, .slice none 0 0] 54 (0, 0))
  have hbl := below_alloc (Below.refl w7.heap.size w7) (.cells #[.int .i64 0, .slice none 0 0] 54 (0, 0))
  obtain ⟨gs, hgs⟩ : ∃ gs, gs = w7.heap.size := ⟨_, rfl⟩
  rw [← hgs] at hbx
  try rw [← hgs]
  generalize w7.alloc (.cells #[.int .i64 0, .slice none 0 0] 54 (0, 0)) = w8 at hbx hbl ⊢
  have BS := Aside0.mk hbx
  have NS := Aside0.mk (show gr ≠ gs from by rw [hgs]; exact Nat.ne_of_lt (blk_lt BR.out))
  have GS := Aside0.mk (show w.heap.size ≤ gs from by rw [hgs]; exact HBW.out.size)
  have n0_ := Aside0.mk (below_step HBW.out hbl)
  have n1_ := Aside0.mk (blk_below BR.out hbl)
  clear HBW BR hbx hbl hgs hHeld
  have HBW := n0_
  have BR := n1_
  clear n0_ n1_
  have hs0 : w8.cell? ⟨gs, 0, none⟩ = some (.int .i64 0) := (blk_cell BS.out 0).trans rfl
  have hs1 : w8.cell? ⟨gs, 1, none⟩ = some (.slice none 0 0) := (blk_cell BS.out 1).trans rfl
  have hfs0 := blk_frozen BS.out 0
  have hfs1 := blk_frozen BS.out 1
  refine hK.out _ _ ((blk_cell (blk_below HG.out HBW.out) 3).trans rfl) (fun hHeld => ?_)
  clear hK K
  refine norm_ (a' := ?_) ?_ ?_
  rotate_left
  · show Act.put _ (some 4) _ = _
    simp only [Act.put, List.setIfInBounds_toArray, List.set_cons_zero, List.set_cons_succ, i64_w, i32_w]
    rfl
  refine one_ (i := 6) (N := none) #[true, true, true, true, true, true, true, false] rfl rfl (by kernel_rfl) (by decide) (fun K hK => ?_)
  refine skip_ (w1 := ?_) (by rfl) rfl ?_ ?_
  rotate_left
  · go_simp
    rfl
  have HBS := Aside0.mk (show Below w.heap.size w ((w8.setCell ⟨gs, 0, none⟩ (.int .i64 0)).setCell ⟨gs, 1, none⟩ (.slice none 0 0)) from below_set (below_set HBW.out GS.out) GS.out)
  refine hK.out _ _ ((blk_cell (blk_below HG.out HBS.out) 3).trans rfl) (fun hHeld => ?_)
  clear hK K
  refine pure_ (i := 7) (N := some 5) (v := ?_) (a' := ?_) #[true, true, true, true, true, true, true, true] rfl rfl (by kernel_rfl) (fun _ _ _ h => h) (Or.inl ⟨by rfl, ?_⟩) ?_ ?_
  rotate_left
  · intro w'
    go_simp
    with_reducible rfl
  rotate_left
  · simp only [Act.put, List.setIfInBounds_toArray, List.set_cons_zero, List.set_cons_succ, i64_w, i32_w]
    rfl
  refine done_ (by kernel_rfl) ?_

  clear hHeld hs0 hs1 hfs0 hfs1
  have BS9 := Aside0.mk (show ((w8.setCell ⟨gs, 0, none⟩ (.int .i64 0)).setCell ⟨gs, 1, none⟩ (.slice none 0 0)).heap[gs]? = some (.cells #[.int .i64 0, .slice none 0 0] 54 (0, 0)) from blk_put (blk_put BS.out 0 _ rfl) 1 _ rfl)
  have BR9 := Aside0.mk (show ((w8.setCell ⟨gs, 0, none⟩ (.int .i64 0)).setCell ⟨gs, 1, none⟩ (.slice none 0 0)).heap[gr]? = some (.cells #[.int .i64 0, .slice none 0 0] 54 (0, 0)) from blk_far (blk_far BR.out NS.out _) NS.out _)
  clear BS BR HBW
  generalize ((w8.setCell ⟨gs, 0, none⟩ (.int .i64 0)).setCell ⟨gs, 1, none⟩ (.slice none 0 0)) = w9 at HBS BS9 BR9 ⊢
  have NG := Aside0.mk (show g ≠ gs from by have := GL.out; have := GS.out; omega)
  have NR := Aside0.mk (show g ≠ gr from by have := GL.out; have := GR.out; omega)
  have hne := NG.out
  have hne' := hne.symm
  have HG9 := Aside0.mk (blk_below HG.out HBS.out)
  have hz0 : w9.cell? ⟨g, 0, none⟩ = some (.int .i64 most) := (blk_cell HG9.out 0).trans rfl
  have hz1 : w9.cell? ⟨g, 1, none⟩ = some (.slice A bits.length c0) := (blk_cell HG9.out 1).trans rfl
  have hz2 : w9.cell? ⟨g, 2, none⟩ = some (.int .i64 many) := (blk_cell HG9.out 2).trans rfl
  have hz4 : w9.cell? ⟨g, 4, none⟩ = some (.bool broken) := (blk_cell HG9.out 4).trans rfl
  have hs0 : w9.cell? ⟨gs, 0, none⟩ = some (.int .i64 0) := (blk_cell BS9.out 0).trans rfl
  have hs1 : w9.cell? ⟨gs, 1, none⟩ = some (.slice none 0 0) := (blk_cell BS9.out 1).trans rfl
  have hfs0 := blk_frozen BS9.out 0
  have hfs1 := blk_frozen BS9.out 1
  go_upto_block 0 with (fail)
  go_cut [4, 5] (fun v4 v5 wc => ∃ (Av : Option Addr) (cv : Nat), v4 = .pointer (some ⟨gs, 0, none⟩) ∧ v5 = .bool any ∧ Aside0 (wc.heap[g]? = some (.cells (scells most (.slice A bits.length c0) ⟨bits, many, any, broken, ones, zero, stuff⟩) 70 (0, 0))) ∧ Aside0 (wc.heap[gr]? = some (.cells #[.int .i64 0, .slice none 0 0] 54 (0, 0))) ∧ Aside0 (wc.heap[gs]? = some (.cells #[.int .i64 (skind most ⟨bits, many, any, broken, ones, zero, stuff⟩), .slice Av (sseg most ⟨bits, many, any, broken, ones, zero, stuff⟩ ys).length cv] 54 (0, 0))) ∧ Aside0 (Kd.R (Kd.int .u8) 5 wc w.heap.size (fun _ => True) (.slice Av (sseg most ⟨bits, many, any, broken, ones, zero, stuff⟩ ys).length cv) (sseg most ⟨bits, many, any, broken, ones, zero, stuff⟩ ys)) ∧ Aside0 (Kd.R (Kd.int .u8) 5 wc w0.heap.size P0_ (.slice A bits.length c0) bits) ∧ Aside0 (Below w.heap.size w wc))
  case first =>
    cases broken with
    | true =>
      have hk : skind most ⟨bits, many, any, true, ones, zero, stuff⟩ = 2 := rfl
      have HK := Aside0.mk hk
      clear hk
      go_wp2
      go_meet
      case rel => unfold sseg; rw [HK.out, if_neg (by decide)]; exact ⟨none, 0, rfl, rfl, ⟨blk_below HG.out (below_set HBS.out GS.out)⟩, ⟨blk_far BR9.out NS.out _⟩, ⟨blk_put BS9.out 0 _ rfl⟩, ⟨Kd.R_nil _ _ _ _ _⟩, ⟨Kd.R_below HO.out (below_set HBS.out GS.out)⟩, ⟨below_set HBS.out GS.out⟩⟩
    | false =>
      by_cases hm : many.tmod 8 ≠ 0
      · have hm0 : (many.tmod 8 != 0) = true := by simp [hm]
        have hk : skind most ⟨bits, many, any, false, ones, zero, stuff⟩ = 3 := by unfold skind; rw [if_neg (by simp), if_pos hm]
        have HK := Aside0.mk hk
        clear hk
        go_wp2
        go_meet
        case rel => unfold sseg; rw [HK.out, if_neg (by decide)]; exact ⟨none, 0, rfl, rfl, ⟨blk_below HG.out (below_set HBS.out GS.out)⟩, ⟨blk_far BR9.out NS.out _⟩, ⟨blk_put BS9.out 0 _ rfl⟩, ⟨Kd.R_nil _ _ _ _ _⟩, ⟨Kd.R_below HO.out (below_set HBS.out GS.out)⟩, ⟨below_set HBS.out GS.out⟩⟩
      · have hm0 : (many.tmod 8 != 0) = false := by simpa using hm
        by_cases hb : many > wrap64 (8 * most)
        · have hb0 : decide (wrap64 (8 * most) < many) = true := decide_eq_true hb
          have hk : skind most ⟨bits, many, any, false, ones, zero, stuff⟩ = 4 := by unfold skind; rw [if_neg (by simp), if_neg hm, if_pos hb]
          have HK := Aside0.mk hk
          clear hk
          go_wp2
          repeat (go_quiet (fail); try go_wp2)
          go_meet
          case rel => unfold sseg; rw [HK.out, if_neg (by decide)]; exact ⟨none, 0, rfl, rfl, ⟨blk_below HG.out (below_set (by repeat (first | exact HBS.out | apply pw_below_drewN | apply below_drew1)) GS.out)⟩, ⟨blk_far (blk_drewN BR9.out _) NS.out _⟩, ⟨blk_put (blk_drewN BS9.out _) 0 _ rfl⟩, ⟨Kd.R_nil _ _ _ _ _⟩, ⟨Kd.R_below HO.out (below_set (by repeat (first | exact HBS.out | apply pw_below_drewN | apply below_drew1)) GS.out)⟩, ⟨below_set (by repeat (first | exact HBS.out | apply pw_below_drewN | apply below_drew1)) GS.out⟩⟩
        · have hb0 : decide (wrap64 (8 * most) < many) = false := decide_eq_false hb
          have hk : skind most ⟨bits, many, any, false, ones, zero, stuff⟩ = 0 := by unfold skind; rw [if_neg (by simp), if_neg hm, if_neg hb]
          have HK := Aside0.mk hk
          clear hk
          go_wp2
          go_quiet (fail)
          go_wp2_with (first | (go_at_call 51; have HBD := Aside0.mk (show Below w.heap.size w (w9.drewN nq) from (by repeat (first | exact HBS.out | apply pw_below_drewN | apply below_drew1))); refine (bits_Octets.calls ks A c0 bits ys bo _ ?s1 ?s2 HOC.out).mono ?_; (case s1 => exact (Kd.R_reads' (Kd.R_below HO.out HBD.out)).2.2); (case s2 => exact (Kd.R_reads' HO.out).2.1); rintro x w10 ⟨v, rfl, hv, hb⟩; have HV := Aside0.mk (Kd.R_lower hv HBD.out.size); have HB10 := Aside0.mk (below_step HBD.out hb); have BS10 := Aside0.mk (blk_below (blk_drewN BS9.out nq) hb); have BR10 := Aside0.mk (blk_below (blk_drewN BR9.out nq) hb); clear hv hb; obtain ⟨Av, cv, ev⟩ := Kd.R_slice HV.out; subst ev; have gs1 : w10.cell? ⟨gs, 1, none⟩ = some (.slice none 0 0) := (blk_cell BS10.out 1).trans rfl; have gfs1 := blk_frozen BS10.out 1))
          go_meet
          case rel => unfold sseg; rw [HK.out, if_pos rfl]; exact ⟨Av, cv, rfl, rfl, ⟨blk_below HG.out (below_set HB10.out GS.out)⟩, ⟨blk_far BR10.out NS.out _⟩, ⟨blk_put BS10.out 1 _ rfl⟩, ⟨Kd.R_set HV.out BS10.out (by decide) 1 _⟩, ⟨Kd.R_below HO.out (below_set HB10.out GS.out)⟩, ⟨below_set HB10.out GS.out⟩⟩
  case rest =>
    clear hz0 hz1 hz2 hz4 hs0 hs1 hfs0 hfs1 hne hne' HBS HG9 BS9 BR9
    obtain ⟨Av, cv, rfl, rfl, BG, BR, BS, HV, HO, HB⟩ := hcut
    have hq0 : wc.cell? ⟨g, 0, none⟩ = some (.int .i64 most) := (blk_cell BG.out 0).trans rfl
    have hq1 : wc.cell? ⟨g, 1, none⟩ = some (.slice A bits.length c0) := (blk_cell BG.out 1).trans rfl
    have hroom : (0 : Int) ≤ (c0 : Int) := by omega
    go_wp2
    have n0_ := Aside0.mk (blk_drew BG.out)
    have n1_ := Aside0.mk (blk_drew BR.out)
    have n2_ := Aside0.mk (blk_drew BS.out)
    have n3_ := Aside0.mk (Kd.R_drew HV.out)
    have n4_ := Aside0.mk (Kd.R_drew HO.out)
    have n5_ := Aside0.mk (below_drew1 HB.out)
    have HK := Aside0.mk (Kept.of_below n5_.out (fun k_ => k_ = g))
    clear BG BR BS HV HO HB
    have BG := n0_
    have BR := n1_
    have BS := n2_
    have HV := n3_
    have HO := n4_
    have HB := n5_
    clear n0_ n1_ n2_ n3_ n4_ n5_
    refine start_ (n := 13) (S := fun w' => w'.cell? ⟨g, 0, none⟩ = some (.int .i64 most) ∧ w'.cell? ⟨g, 1, none⟩ = some (.slice A bits.length c0)) (ds := [12]) #[false, false, false, false, false, false, false, false, false, false, false, false, false] (by kernel_rfl) rfl rfl ⟨hq0, hq1⟩ (fun hHeld => ?_)
    generalize wc.drew = w7 at BG BR BS HV HO HB HK hHeld ⊢
    have hz0 : w7.cell? ⟨g, 0, none⟩ = some (.int .i64 most) := (blk_cell BG.out 0).trans rfl
    have hfz0 := blk_frozen BG.out 0
    have hz1 : w7.cell? ⟨g, 1, none⟩ = some (.slice A bits.length c0) := (blk_cell BG.out 1).trans rfl
    have hfz1 := blk_frozen BG.out 1
    have hz2 : w7.cell? ⟨g, 2, none⟩ = some (.int .i64 many) := (blk_cell BG.out 2).trans rfl
    have hfz2 := blk_frozen BG.out 2
    have hz3 : w7.cell? ⟨g, 3, none⟩ = some (.bool any) := (blk_cell BG.out 3).trans rfl
    have hfz3 := blk_frozen BG.out 3
    have hz4 : w7.cell? ⟨g, 4, none⟩ = some (.bool broken) := (blk_cell BG.out 4).trans rfl
    have hfz4 := blk_frozen BG.out 4
    have hz5 : w7.cell? ⟨g, 5, none⟩ = some (.int .i64 ones) := (blk_cell BG.out 5).trans rfl
    have hfz5 := blk_frozen BG.out 5
    have hz6 : w7.cell? ⟨g, 6, none⟩ = some (.bool zero) := (blk_cell BG.out 6).trans rfl
    have hfz6 := blk_frozen BG.out 6
    have hz7 : w7.cell? ⟨g, 7, none⟩ = some (.bool stuff) := (blk_cell BG.out 7).trans rfl
    have hfz7 := blk_frozen BG.out 7
    refine pure_ (i := 0) (N := some 46) (v := ?_) (a' := ?_) #[true, false, false, false, false, false, false, false, false, false, false, false, false] rfl rfl (by kernel_rfl) (fun _ _ _ h => h) (Or.inl ⟨by rfl, ?_⟩) ?_ ?_
    rotate_left
    · intro w'
      go_simp
      with_reducible rfl
    rotate_left
    · simp only [Act.put, List.setIfInBounds_toArray, List.set_cons_zero, List.set_cons_succ, i64_w, i32_w]
      rfl
    refine pure_ (i := 1) (N := some 47) (v := ?_) (a' := ?_) #[true, true, false, false, false, false, false, false, false, false, false, false, false] rfl rfl (by kernel_rfl) (fun _ _ _ h => h) (Or.inl ⟨by rfl, ?_⟩) ?_ ?_
    rotate_left
    · intro w'
      go_simp
      with_reducible rfl
    rotate_left
    · simp only [Act.put, List.setIfInBounds_toArray, List.set_cons_zero, List.set_cons_succ, i64_w, i32_w]
      rfl
    refine pure_ (i := 2) (N := some 48) (v := ?_) (a' := ?_) #[true, true, true, false, false, false, false, false, false, false, false, false, false] rfl rfl (by kernel_rfl) (fun _ _ _ h => h) (Or.inl ⟨by rfl, ?_⟩) ?_ ?_
    rotate_left
    · intro w'
      go_simp
      with_reducible rfl
    rotate_left
    · simp only [Act.put, List.setIfInBounds_toArray, List.set_cons_zero, List.set_cons_succ, i64_w, i32_w]
      rfl
    refine pure_ (i := 3) (N := some 49) (v := ?_) (a' := ?_) #[true, true, true, true, false, false, false, false, false, false, false, false, false] rfl rfl (by kernel_rfl) (fun _ _ _ h => h) (Or.inl ⟨by rfl, ?_⟩) ?_ ?_
    rotate_left
    · intro w'
      go_simp
      with_reducible rfl
    rotate_left
    · simp only [Act.put, List.setIfInBounds_toArray, List.set_cons_zero, List.set_cons_succ, i64_w, i32_w]
      rfl
    refine pure_ (i := 5) (N := some 51) (v := ?_) (a' := ?_) #[true, true, true, true, false, true, false, false, false, false, false, false, false] rfl rfl (by kernel_rfl) (fun _ _ _ h => h) (Or.inl ⟨by rfl, ?_⟩) ?_ ?_
    rotate_left
    · intro w'
      go_simp
      with_reducible rfl
    rotate_left
    · simp only [Act.put, List.setIfInBounds_toArray, List.set_cons_zero, List.set_cons_succ, i64_w, i32_w]
      rfl
    refine pure_ (i := 6) (N := some 52) (v := ?_) (a' := ?_) #[true, true, true, true, false, true, true, false, false, false, false, false, false] rfl rfl (by kernel_rfl) (fun _ _ _ h => h) (Or.inl ⟨by rfl, ?_⟩) ?_ ?_
    rotate_left
    · intro w'
      go_simp
      with_reducible rfl
    rotate_left
    · simp only [Act.put, List.setIfInBounds_toArray, List.set_cons_zero, List.set_cons_succ, i64_w, i32_w]
      rfl
    refine pure_ (i := 7) (N := some 53) (v := ?_) (a' := ?_) #[true, true, true, true, false, true, true, true, false, false, false, false, false] rfl rfl (by kernel_rfl) (fun _ _ _ h => h) (Or.inl ⟨by rfl, ?_⟩) ?_ ?_
    rotate_left
    · intro w'
      go_simp
      with_reducible rfl
    rotate_left
    · simp only [Act.put, List.setIfInBounds_toArray, List.set_cons_zero, List.set_cons_succ, i64_w, i32_w]
      rfl
    refine take_ (i := 4) (N := some 50) (v := ?_) (a' := ?_) #[true, true, true, true, true, true, true, true, false, false, false, false, false] rfl rfl (by kernel_rfl) (fun _ _ _ h => h) (Or.inl ⟨by rfl, ?_⟩) hHeld ?_ ?_
    rotate_left
    · rintro w' ⟨s0, s1⟩
      go_simp
      with_reducible rfl
    rotate_left
    · simp only [Act.put, List.setIfInBounds_toArray, List.set_cons_zero, List.set_cons_succ, i64_w, i32_w]
      rfl
    refine take_ (i := 8) (N := some 54) (v := ?_) (a' := ?_) #[true, true, true, true, true, true, true, true, true, false, false, false, false] rfl rfl (by kernel_rfl) (fun _ _ _ h => h) (Or.inl ⟨by rfl, ?_⟩) hHeld ?_ ?_
    rotate_left
    · rintro w' ⟨s0, s1⟩
      go_simp
      with_reducible rfl
    rotate_left
    · simp only [Act.put, List.setIfInBounds_toArray, List.set_cons_zero, List.set_cons_succ, i64_w, i32_w]
      rfl
    refine pure_ (i := 9) (N := some 55) (v := ?_) (a' := ?_) #[true, true, true, true, true, true, true, true, true, true, false, false, false] rfl rfl (by kernel_rfl) (fun _ _ _ h => h) (Or.inl ⟨by rfl, ?_⟩) ?_ ?_
    rotate_left
    · intro w'
      go_simp
      with_reducible rfl
    rotate_left
    · simp only [Act.put, List.setIfInBounds_toArray, List.set_cons_zero, List.set_cons_succ, i64_w, i32_w]
      rfl
    refine pure_ (i := 10) (N := some 56) (v := ?_) (a' := ?_) #[true, true, true, true, true, true, true, true, true, true, true, false, false] rfl rfl (by kernel_rfl) (fun _ _ _ h => h) (Or.inl ⟨by rfl, ?_⟩) ?_ ?_
    rotate_left
    · intro w'
      go_simp
      with_reducible rfl
    rotate_left
    · simp only [Act.put, List.setIfInBounds_toArray, List.set_cons_zero, List.set_cons_succ, i64_w, i32_w]
      rfl
    refine pure_ (i := 11) (N := some 57) (v := ?_) (a' := ?_) #[true, true, true, true, true, true, true, true, true, true, true, true, false] rfl rfl (by kernel_rfl) (fun _ _ _ h => h) (Or.inl ⟨by rfl, ?_⟩) ?_ ?_
    rotate_left
    · intro w'
      go_simp
      with_reducible rfl
    rotate_left
    · simp only [Act.put, List.setIfInBounds_toArray, List.set_cons_zero, List.set_cons_succ, i64_w, i32_w]
      rfl
    refine last_ (i := 12) (N := none) #[true, true, true, true, true, true, true, true, true, true, true, true, true] rfl rfl (by kernel_rfl) (by decide) (fun K hK => ?_)
    refine skip_ (w1 := ?_) (by rfl) rfl ?_ ?_
    rotate_left
    · go_simp
      rfl
    refine hK.out _ _ ?_
    clear hK K
    refine done_ (by kernel_rfl) ?_

    have hs0 : w7.cell? ⟨gs, 0, none⟩ = some (.int .i64 (skind most ⟨bits, many, any, broken, ones, zero, stuff⟩)) := (blk_cell BS.out 0).trans rfl
    have hs1 : w7.cell? ⟨gs, 1, none⟩ = some (.slice Av (sseg most ⟨bits, many, any, broken, ones, zero, stuff⟩ ys).length cv) := (blk_cell BS.out 1).trans rfl
    have hr0 : w7.cell? ⟨gr, 0, none⟩ = some (.int .i64 0) := (blk_cell BR.out 0).trans rfl
    have hr1 : w7.cell? ⟨gr, 1, none⟩ = some (.slice none 0 0) := (blk_cell BR.out 1).trans rfl
    have hfr0 := blk_frozen BR.out 0
    have hfr1 := blk_frozen BR.out 1
    have m0 := NG.out
    have m0' := m0.symm
    have m1 := NR.out
    have m1' := m1.symm
    have m2 := NS.out
    have m2' := m2.symm
    go_wp2
    refine bodyPost_ret (results_ct rfl _ _ gr 54 #[.int .i64 (skind most ⟨bits, many, any, broken, ones, zero, stuff⟩), .slice Av (sseg most ⟨bits, many, any, broken, ones, zero, stuff⟩ ys).length cv] (0, 0) _ rfl (blk_put (blk_put (blk_far (blk_far (blk_far (blk_far (blk_far (blk_far (blk_far (blk_far (BR.out) NR.out.symm _) NR.out.symm _) NR.out.symm _) NR.out.symm _) NR.out.symm _) NR.out.symm _) NR.out.symm _) NR.out.symm _) 0 _ rfl) 1 _ rfl) hu54 rfl (by kernel_rfl)) rfl ?_
    refine ⟨_, _, rfl, Kd.R_mono (Kd.R_far (p := ⟨gr, 1, none⟩) (Kd.R_far (p := ⟨gr, 0, none⟩) (Kd.R_far (p := ⟨g, 7, none⟩) (Kd.R_far (p := ⟨g, 6, none⟩) (Kd.R_far (p := ⟨g, 5, none⟩) (Kd.R_far (p := ⟨g, 4, none⟩) (Kd.R_far (p := ⟨g, 3, none⟩) (Kd.R_far (p := ⟨g, 2, none⟩) (Kd.R_far (p := ⟨g, 1, none⟩) (Kd.R_far (p := ⟨g, 0, none⟩) (Kd.R_types (Kd.R_types (HV.out) BG.out (by decide)) BR.out (by decide)) (fun _ hk => hk.1.2) _) (fun _ hk => hk.1.2) _) (fun _ hk => hk.1.2) _) (fun _ hk => hk.1.2) _) (fun _ hk => hk.1.2) _) (fun _ hk => hk.1.2) _) (fun _ hk => hk.1.2) _) (fun _ hk => hk.1.2) _) (fun _ hk => hk.2) _) (fun _ hk => hk.2) _) (fun _ hk => hk.1.1), ?_, blk_far (blk_far (blk_put (blk_put (blk_put (blk_put (blk_put (blk_put (blk_put (blk_put (BG.out) 0 _ rfl) 1 _ rfl) 2 _ rfl) 3 _ rfl) 4 _ rfl) 5 _ rfl) 6 _ rfl) 7 _ rfl) NR.out _) NR.out _, below_set (below_set (below_set (below_set (below_set (below_set (below_set (below_set (below_set (below_set (below_step HB0.out HB.out) HGE.out) HGE.out) HGE.out) HGE.out) HGE.out) HGE.out) HGE.out) HGE.out) (Nat.le_trans HB0.out.size GR.out)) (Nat.le_trans HB0.out.size GR.out), (((((((((((HK.out).setCell (.inl rfl) _).setCell (.inl rfl) _).setCell (.inl rfl) _).setCell (.inl rfl) _).setCell (.inl rfl) _).setCell (.inl rfl) _).setCell (.inl rfl) _).setCell (.inl rfl) _).setCell (.inr GR.out) _).setCell (.inr GR.out) _)⟩
    exact Kd.R_mono (Kd.R_far (p := ⟨gr, 1, none⟩) (Kd.R_far (p := ⟨gr, 0, none⟩) (Kd.R_far (p := ⟨g, 7, none⟩) (Kd.R_far (p := ⟨g, 6, none⟩) (Kd.R_far (p := ⟨g, 5, none⟩) (Kd.R_far (p := ⟨g, 4, none⟩) (Kd.R_far (p := ⟨g, 3, none⟩) (Kd.R_far (p := ⟨g, 2, none⟩) (Kd.R_far (p := ⟨g, 1, none⟩) (Kd.R_far (p := ⟨g, 0, none⟩) (Kd.R_types (Kd.R_types (Kd.R_take HO.out (Nat.zero_le _)) BG.out (by decide)) BR.out (by decide)) (fun _ hk => hk.1.2) _) (fun _ hk => hk.1.2) _) (fun _ hk => hk.1.2) _) (fun _ hk => hk.1.2) _) (fun _ hk => hk.1.2) _) (fun _ hk => hk.1.2) _) (fun _ hk => hk.1.2) _) (fun _ hk => hk.1.2) _) (fun _ hk => hk.2) _) (fun _ hk => hk.2) _) (fun _ hk => hk.1.1)
end Go.Proofs.Ytjmclghjhnbafaa.Print

/- Plain words on lists of whole numbers: octets, bits, rows of 1s. No condition; no program in sight. -/
namespace Go.Proofs.Ytjmclghjhnbafaa.Pl
open Go.RowKit Go.Proofs.YtjmclghjhnbafaaW.PrintWords
set_option linter.unusedVariables false

/-! ### numbers -/
theorem u8_of_wf {x : Int} (h : (Lit.int .u8 x).wf = true) : 0 ≤ x ∧ x < 256 := by
  simp [Lit.wf, IntKind.min, IntKind.max, IntKind.bits, IntKind.signed] at h
  omega
theorem u16_of_wf {x : Int} (h : (Lit.int .u16 x).wf = true) : 0 ≤ x ∧ x < 65536 := by
  simp [Lit.wf, IntKind.min, IntKind.max, IntKind.bits, IntKind.signed] at h
  omega
theorem u32_of_wf {x : Int} (h : (Lit.int .u32 x).wf = true) : 0 ≤ x ∧ x < 4294967296 := by
  simp [Lit.wf, IntKind.min, IntKind.max, IntKind.bits, IntKind.signed] at h
  omega
theorem w64 {x : Int} (h0 : -9223372036854775808 ≤ x) (h1 : x ≤ 9223372036854775807) : wrap64 x = x := by unfold wrap64; omega
theorem wu64 {x : Int} (h0 : 0 ≤ x) (h1 : x < 18446744073709551616) : IntKind.u64.wrap x = x := by rw [IntKind.wrap_u64]; omega
def Byte (x : Int) : Prop := 0 ≤ x ∧ x < 256
def Bytes (l : List Int) : Prop := ∀ x ∈ l, Byte x
theorem bytes_of_wf {l : List Int} (h : ∀ x ∈ l, (Lit.int .u8 x).wf = true) : Bytes l := fun x hx => u8_of_wf (h x hx)
theorem Bytes.take {l : List Int} (h : Bytes l) (n : Nat) : Bytes (l.take n) := fun x hx => h x (List.mem_of_mem_take hx)
theorem Bytes.drop {l : List Int} (h : Bytes l) (n : Nat) : Bytes (l.drop n) := fun x hx => h x (List.mem_of_mem_drop hx)
theorem Bytes.append {l m : List Int} (h : Bytes l) (k : Bytes m) : Bytes (l ++ m) := fun x hx => by rcases List.mem_append.1 hx with hx | hx; exact h x hx; exact k x hx
theorem Bytes.cons {x : Int} {l : List Int} (h : Byte x) (k : Bytes l) : Bytes (x :: l) := fun y hy => by rcases List.mem_cons.1 hy with rfl | hy; exact h; exact k y hy
theorem Bytes.nil : Bytes [] := fun x hx => by simp at hx
theorem Bytes.head {x : Int} {l : List Int} (h : Bytes (x :: l)) : Byte x := h x (by simp)
theorem Bytes.tail {x : Int} {l : List Int} (h : Bytes (x :: l)) : Bytes l := fun y hy => h y (by simp [hy])
theorem bytes_lit {l : List Int} (h : (l.all fun x => decide (0 ≤ x ∧ x < 256)) = true) : Bytes l := by
  intro x hx
  have := List.all_eq_true.1 h x hx
  simpa [Byte] using this
theorem and1 {x : Int} (h : Byte x) : Go.bits .and .u8 x 1 = x % 2 := by
  obtain ⟨n, rfl⟩ := Int.eq_ofNat_of_zero_le h.1
  have h2 := h.2
  have h3 := u8_and_nat n 1 (by omega) (by omega)
  rw [Nat.and_one_is_mod] at h3
  rw [show ((1 : Nat) : Int) = 1 from rfl] at h3
  rw [h3]
  omega
theorem shr_lt {x : Int} (h : Byte x) (j : Nat) (hj : j ≤ 8) : shr .u8 x j = x / 2 ^ j := by
  unfold shr
  rw [Int.toNat_natCast, Nat.min_eq_left (by simpa [IntKind.bits] using hj)]
theorem byte_div {x : Int} (h : Byte x) (j : Nat) : Byte (x / 2 ^ j) := by
  have hp : (0 : Int) < 2 ^ j := Int.pow_pos (by omega)
  refine ⟨Int.ediv_nonneg h.1 (by omega), ?_⟩
  have := Int.ediv_le_self (2 ^ j) h.1
  have := h.2
  omega
theorem bit_at {x : Int} (h : Byte x) (j : Nat) (hj : j ≤ 8) : Go.bits .and .u8 (shr .u8 x j) 1 = x / 2 ^ j % 2 := by
  rw [shr_lt h j hj, and1 (byte_div h j)]

/-! ### reading a list by places -/
theorem rd_drop {xs : List Int} {i : Nat} {b : Int} {t : List Int} (h : xs.drop i = b :: t) : rd xs (i : Int) = b ∧ xs.drop (i + 1) = t ∧ i < xs.length := by
  have hlt : i < xs.length := by
    rcases Nat.lt_or_ge i xs.length with h1 | h1
    · exact h1
    · rw [List.drop_eq_nil_of_le h1] at h; cases h
  rw [List.drop_eq_getElem_cons hlt] at h
  injection h with h1 h2
  refine ⟨?_, h2, hlt⟩
  unfold rd
  rw [Int.toNat_natCast, List.getD_eq_getElem?_getD, List.getElem?_eq_getElem hlt]
  exact h1
theorem drop_nil_len {xs : List Int} {i : Nat} (h : xs.drop i = []) : xs.length ≤ i := by
  rcases Nat.lt_or_ge i xs.length with h1 | h1
  · rw [List.drop_eq_getElem_cons h1] at h; cases h
  · exact h1
theorem drop_len {xs t : List Int} {i : Nat} (h : xs.drop i = t) : t.length = xs.length - i := by rw [← h, List.length_drop]

/-! ### octets as bits -/
def eight (c : Int) : List Int := [c % 2, c / 2 % 2, c / 4 % 2, c / 8 % 2, c / 16 % 2, c / 32 % 2, c / 64 % 2, c / 128 % 2]
def ofOct : List Int → List Int
  | [] => []
  | c :: t => eight c ++ ofOct t
theorem ofOct_append (a b : List Int) : ofOct (a ++ b) = ofOct a ++ ofOct b := by
  induction a with
  | nil => rfl
  | cons c t ih => simp [ofOct, ih]
theorem ofOct_length (a : List Int) : (ofOct a).length = 8 * a.length := by
  induction a with
  | nil => rfl
  | cons c t ih => simp [ofOct, eight, ih]; omega
def clean (l : List Int) : List Int := l.map (· % 2)
theorem clean_length (l : List Int) : (clean l).length = l.length := by simp [clean]
theorem clean_append (a b : List Int) : clean (a ++ b) = clean a ++ clean b := by simp [clean]
def oct8 (a0 a1 a2 a3 a4 a5 a6 a7 : Int) : Int := a0 % 2 + 2 * (a1 % 2) + 4 * (a2 % 2) + 8 * (a3 % 2) + 16 * (a4 % 2) + 32 * (a5 % 2) + 64 * (a6 % 2) + 128 * (a7 % 2)
def octs : List Int → List Int
  | a0 :: a1 :: a2 :: a3 :: a4 :: a5 :: a6 :: a7 :: t => oct8 a0 a1 a2 a3 a4 a5 a6 a7 :: octs t
  | _ => []
theorem octs_length : ∀ l : List Int, (octs l).length = l.length / 8
  | a0 :: a1 :: a2 :: a3 :: a4 :: a5 :: a6 :: a7 :: t => by
    have := octs_length t
    simp only [octs, List.length_cons, this]
    omega
  | [] | [_] | [_, _] | [_, _, _] | [_, _, _, _] | [_, _, _, _, _] | [_, _, _, _, _, _] | [_, _, _, _, _, _, _] => by simp [octs]
theorem bytes_octs : ∀ l : List Int, Bytes (octs l)
  | a0 :: a1 :: a2 :: a3 :: a4 :: a5 :: a6 :: a7 :: t => by
    simp only [octs]
    exact Bytes.cons (by unfold oct8; constructor <;> omega) (bytes_octs t)
  | [] | [_] | [_, _] | [_, _, _] | [_, _, _, _] | [_, _, _, _, _] | [_, _, _, _, _, _] | [_, _, _, _, _, _, _] => by simp [octs, Bytes]
theorem octs_of : ∀ b : List Int, Bytes b → octs (ofOct b) = b
  | [], _ => rfl
  | c :: t, h => by
    have ih := octs_of t h.tail
    have hc := h.head
    simp only [ofOct, eight, List.cons_append, List.nil_append, octs, ih]
    congr 1
    unfold oct8
    have := hc.1; have := hc.2
    omega
theorem of_octs : ∀ l : List Int, l.length % 8 = 0 → ofOct (octs l) = clean l
  | a0 :: a1 :: a2 :: a3 :: a4 :: a5 :: a6 :: a7 :: t, h => by
    have ih := of_octs t (by simp at h; omega)
    simp only [octs, ofOct, ih, eight, clean, List.map_cons, List.cons_append, List.nil_append, List.cons.injEq, and_true]
    unfold oct8
    refine ⟨?_, ?_, ?_, ?_, ?_, ?_, ?_, ?_⟩ <;> omega
  | [], _ => rfl
  | [_], h | [_, _], h | [_, _, _], h | [_, _, _, _], h | [_, _, _, _, _], h | [_, _, _, _, _, _], h | [_, _, _, _, _, _, _], h => by simp at h
theorem bytes_clean (l : List Int) : Bytes (clean l) := by
  intro x hx
  simp only [clean, List.mem_map] at hx
  obtain ⟨y, _, rfl⟩ := hx
  constructor <;> omega
theorem bit_clean {l : List Int} {x : Int} (hx : x ∈ clean l) : x = 0 ∨ x = 1 := by
  simp only [clean, List.mem_map] at hx
  obtain ⟨y, _, rfl⟩ := hx
  omega
theorem clean_clean (l : List Int) : clean (clean l) = clean l := by simp [clean]
theorem clean_ofOct (l : List Int) : clean (ofOct l) = ofOct l := by
  induction l with
  | nil => rfl
  | cons c t ih => rw [ofOct, clean_append, ih]; simp [clean, eight]

/-! ### 1s in a row -/
/-- The most 1s in a row, n of them standing ahead. -/
def peak : Int → List Int → Int
  | _, [] => 0
  | n, b :: t => max ((n + 1) * (b % 2)) (peak ((n + 1) * (b % 2)) t)
/-- How many 1s the list ends with, n of them standing ahead. -/
def last : Int → List Int → Int
  | n, [] => n
  | n, b :: t => last ((n + 1) * (b % 2)) t
def run (l : List Int) : Int := peak 0 l
theorem bitmul (n b : Int) (h0 : 0 ≤ n) : b % 2 = 0 ∧ (n + 1) * (b % 2) = 0 ∨ b % 2 = 1 ∧ (n + 1) * (b % 2) = n + 1 := by
  rcases Int.emod_two_eq b with h | h
  · left; rw [h]; simp
  · right; rw [h]; simp
theorem peak_nonneg (n : Int) (l : List Int) (h0 : 0 ≤ n) : 0 ≤ peak n l := by
  induction l generalizing n with
  | nil => simp [peak]
  | cons b t ih =>
    rcases bitmul n b h0 with ⟨_, h⟩ | ⟨_, h⟩ <;> rw [peak, h]
    · omega
    · omega
theorem peak_le (n : Int) (l : List Int) (h0 : 0 ≤ n) : peak n l ≤ n + l.length := by
  induction l generalizing n with
  | nil => simp [peak]; omega
  | cons b t ih =>
    simp only [List.length_cons]
    rcases bitmul n b h0 with ⟨_, h⟩ | ⟨_, h⟩ <;> rw [peak, h]
    · have := ih 0 (by omega); omega
    · have := ih (n + 1) (by omega); omega
theorem last_nonneg (n : Int) (l : List Int) (h0 : 0 ≤ n) : 0 ≤ last n l := by
  induction l generalizing n with
  | nil => simpa [last]
  | cons b t ih =>
    rcases bitmul n b h0 with ⟨_, h⟩ | ⟨_, h⟩ <;> rw [last, h]
    · exact ih 0 (by omega)
    · exact ih _ (by omega)
theorem last_le_peak (n : Int) (l : List Int) (h0 : 0 ≤ n) : last n l ≤ max n (peak n l) := by
  induction l generalizing n with
  | nil => simp [last]; omega
  | cons b t ih =>
    rcases bitmul n b h0 with ⟨_, h⟩ | ⟨_, h⟩ <;> rw [last, peak, h]
    · have := ih 0 (by omega); omega
    · have := ih (n + 1) (by omega); omega
theorem peak_append (n : Int) (a b : List Int) (h0 : 0 ≤ n) : peak n (a ++ b) = max (peak n a) (peak (last n a) b) := by
  induction a generalizing n with
  | nil => simp only [List.nil_append, peak, last]; have := peak_nonneg n b h0; omega
  | cons c t ih =>
    rcases bitmul n c h0 with ⟨_, h⟩ | ⟨_, h⟩ <;> simp only [List.cons_append, peak, last, h]
    · rw [ih 0 (by omega)]; omega
    · rw [ih (n + 1) (by omega)]; omega
theorem peak_mono (n m : Int) (l : List Int) (h0 : 0 ≤ n) (h : n ≤ m) : peak n l ≤ peak m l ∧ peak m l ≤ peak n l + (m - n) := by
  induction l generalizing n m with
  | nil => simp [peak]; omega
  | cons b t ih =>
    rcases bitmul n b h0 with ⟨e, h1⟩ | ⟨e, h1⟩ <;> rcases bitmul m b (by omega) with ⟨e', h2⟩ | ⟨e', h2⟩ <;> first | omega | skip
    · simp only [peak, h1, h2]; omega
    · simp only [peak, h1, h2]
      have := ih (n + 1) (m + 1) (by omega) (by omega)
      omega
theorem run_nonneg (l : List Int) : 0 ≤ run l := peak_nonneg 0 l (by omega)
theorem run_le (l : List Int) : run l ≤ l.length := by have := peak_le 0 l (by omega); unfold run; omega
theorem run_parts (a b : List Int) : run a ≤ run (a ++ b) ∧ run b ≤ run (a ++ b) ∧ run (a ++ b) ≤ run a + run b := by
  unfold run
  have h0 := last_nonneg 0 a (by omega)
  have h1 := last_le_peak 0 a (by omega)
  have h2 := peak_mono 0 (last 0 a) b (by omega) h0
  have h3 := peak_nonneg 0 a (by omega)
  have h4 := peak_nonneg 0 b (by omega)
  rw [peak_append 0 a b (by omega)]
  omega
theorem peak_clean (n : Int) (l : List Int) : peak n (clean l) = peak n l := by
  induction l generalizing n with
  | nil => rfl
  | cons b t ih =>
    show peak n (b % 2 :: clean t) = _
    simp only [peak, Int.emod_emod_of_dvd b (Int.dvd_refl 2), ih]
theorem run_clean (l : List Int) : run (clean l) = run l := peak_clean 0 l
/-- How many 1s the list begins with. -/
def lead : List Int → Int
  | [] => 0
  | b :: t => if b % 2 = 1 then 1 + lead t else 0
/-- The most that any end of the list begins with. -/
def best : List Int → Int
  | [] => 0
  | b :: t => max (lead (b :: t)) (best t)
theorem lead_nonneg (l : List Int) : 0 ≤ lead l := by
  induction l with
  | nil => simp [lead]
  | cons b t ih => unfold lead; split <;> omega
theorem lead_le (l : List Int) : lead l ≤ l.length := by
  induction l with
  | nil => simp [lead]
  | cons b t ih => unfold lead; simp only [List.length_cons]; split <;> omega
theorem lead_le_best (l : List Int) : lead l ≤ best l := by
  cases l with
  | nil => simp [lead, best]
  | cons b t => unfold best; omega
theorem peak_best (n : Int) (l : List Int) (h0 : 0 ≤ n) : peak n l = max (if 0 < lead l then n + lead l else 0) (best l) := by
  induction l generalizing n with
  | nil => simp [peak, lead, best]
  | cons b t ih =>
    have hn := lead_nonneg t
    have hb := lead_le_best t
    rcases bitmul n b h0 with ⟨e, h1⟩ | ⟨e, h1⟩
    · have hl : lead (b :: t) = 0 := by rw [lead, if_neg (by omega)]
      rw [peak, h1, ih 0 (by omega), best, hl]
      split <;> omega
    · have hl : lead (b :: t) = 1 + lead t := by rw [lead, if_pos e]
      rw [peak, h1, ih (n + 1) (by omega), best, hl, if_pos (by omega : (0 : Int) < 1 + lead t)]
      split <;> omega
theorem run_best (l : List Int) : run l = best l := by
  unfold run
  rw [peak_best 0 l (by omega)]
  have := lead_le_best l
  have := lead_nonneg l
  split <;> omega
end Go.Proofs.Ytjmclghjhnbafaa.Pl

/- Words for plain texts over printed functions: a list that a loop may go through, a test that is decided, and what the reference's comparing comes to. No condition. -/
namespace Go.Proofs.Ytjmclghjhnbafaa.Sp
open Go.RowKit Go.Proofs.Ytjmclghjhnbafaa.Print Go.Proofs.YtjmclghjhnbafaaW.PrintWords Go.Proofs.YtjmclghjhnbafaaW.PrintLast Go.Proofs.Ytjmclghjhnbafaa.Pl
set_option linter.unusedVariables false
theorem Ev.pos {α : Type} {c : Prop} [Decidable c] {g h : Nat → Option α} {r : α} (hc : c) (k : Ev g r) : Ev (fun n => if c then g n else h n) r :=
  Ev.congr (fun n => if_pos hc) k
theorem Ev.neg {α : Type} {c : Prop} [Decidable c] {g h : Nat → Option α} {r : α} (hc : ¬ c) (k : Ev h r) : Ev (fun n => if c then g n else h n) r :=
  Ev.congr (fun n => if_neg hc) k
theorem Ev.end_ {α : Type} {x r : α} (h : x = r) : Ev (fun _ => some x) r := h ▸ Ev.now _
theorem Ev.name {α β : Type} {x : β} {g : Nat → β → Option α} {r : α} (h : Ev (fun n => g n x) r) : Ev (fun n => (some x).bind (g n)) r := Ev.congr (fun n => Option.bind_some _ _) h
/-- A list that a loop may go through. -/
def Lim (l : List Int) : Prop := l.length ≤ 1000000
theorem suc (i : Nat) (h : i ≤ 2000000) : wrap64 ((i : Int) + 1) = ((i + 1 : Nat) : Int) := by rw [w64 (by omega) (by omega)]; omega

theorem Equal_l0 (a b : List Int) (hl : a.length = b.length) (ha : Lim a) : ∀ (t u : List Int) (i : Nat), a.drop i = t → b.drop i = u → Ev (fun k => marlineref01_Equal.l0 k a b i) (decide (t = u))
  | [], u, i, h1, h2 => by
    have h3 := drop_nil_len h1
    have h4 := drop_len h2
    obtain rfl : u = [] := List.eq_nil_of_length_eq_zero (by omega)
    exact Ev.step (fun k => by simp only [marlineref01_Equal.l0]; rw [if_neg (by omega)]; rfl) (Ev.now _)
  | x :: t, u, i, h1, h2 => by
    obtain ⟨e1, e2, e3⟩ := rd_drop h1
    cases u with
    | nil => have := drop_nil_len h2; omega
    | cons y u =>
      obtain ⟨f1, f2, f3⟩ := rd_drop h2
      unfold Lim at ha
      by_cases hxy : x = y
      · subst hxy
        have ih := Equal_l0 a b hl ha t u (i + 1) e2 f2
        rw [show decide (x :: t = x :: u) = decide (t = u) by simp]
        exact Ev.step (fun k => by simp only [marlineref01_Equal.l0]; rw [if_pos (by omega), if_pos (by omega), if_pos (by omega), e1, f1, if_pos rfl, suc i (by omega)]) ih
      · rw [show decide (x :: t = y :: u) = false by simp [hxy]]
        exact Ev.step (fun k => by simp only [marlineref01_Equal.l0]; rw [if_pos (by omega), if_pos (by omega), if_pos (by omega), e1, f1, if_neg hxy]) (Ev.now _)
theorem Equal (a b : List Int) (ha : Lim a) : Ev (fun k => marlineref01_Equal.f k a b) (decide (a = b)) := by
  by_cases hl : a.length = b.length
  · exact Ev.congr (fun k => by unfold marlineref01_Equal.f; rw [if_pos (by omega)]; rfl) (Equal_l0 a b hl ha a b 0 rfl rfl)
  · rw [show decide (a = b) = false by simp; rintro rfl; exact hl rfl]
    exact Ev.congr (fun k => by unfold marlineref01_Equal.f; rw [if_neg (by omega)]) (Ev.now _)

end Go.Proofs.Ytjmclghjhnbafaa.Sp

/- A text that a program of this claim (wip/x) laid out of the translation: what Go functions come to, and that they come to it. Lean checks it. -/
namespace Go.Proofs.Ytjmclghjhnbafaa.Print
open Go.RowKit Go.Proofs.YtjmclghjhnbafaaW.PrintWords Go.Proofs.YtjmclghjhnbafaaW.PrintLast Go.Proofs.YtjmclghjhnbafaaW.PrintMore
attribute [local go_sem] max2_int min2_int max_two min_two max_three min_three max_four min_four   -- for this text's walks alone
set_option linter.unusedVariables false
set_option linter.unusedSimpArgs false

/-! ### bits_Of: function 44 -/
mutual
def bits_Of.l0 : Nat → List Int → List Int → Int → Int → Option (List Int)
  | 0, _, _, _, _ => none
  | k + 1, x3, x11, x12, x13 => if x13 < x12 then (if 0 ≤ x13 then (if x13 < (x11.length : Int) then (bits_Of.l1 k x3 (rd x11 x13) x11 x12 x13 0) else (none)) else (none)) else (some x3)
def bits_Of.l1 : Nat → List Int → Int → List Int → Int → Int → Int → Option (List Int)
  | 0, _, _, _, _, _, _ => none
  | k + 1, x3, x5, x11, x12, x13, x17 => if x17 < 8 then (if 0 ≤ x17 then (if x3.length < 140737488355328 then (bits_Of.l1 k (x3 ++ [Go.bits .and .u8 (shr .u8 x5 x17) 1]) x5 x11 x12 x13 (wrap64 (x17 + 1))) else (none)) else (none)) else (bits_Of.l0 k x3 x11 x12 (wrap64 (x13 + 1)))
end
def bits_Of.f (k : Nat) (l0 : List Int) : Option (List Int) := if 0 ≤ (wrap64 (8 * (l0.length : Int))) then (if (wrap64 (8 * (l0.length : Int)) : Int).toNat ≤ 281474976710656 then (bits_Of.l0 k (([] : List Int)) l0 (l0.length : Int) 0) else (none)) else (none)
theorem bits_Of.mono_l : ∀ k, (∀ y0 y1 y2 y3, LeO (bits_Of.l0 k y0 y1 y2 y3) (bits_Of.l0 (k + 1) y0 y1 y2 y3)) ∧ (∀ y0 y1 y2 y3 y4 y5, LeO (bits_Of.l1 k y0 y1 y2 y3 y4 y5) (bits_Of.l1 (k + 1) y0 y1 y2 y3 y4 y5))
  | 0 => ⟨fun _ _ _ _ r h => by simp [bits_Of.l0] at h, fun _ _ _ _ _ _ r h => by simp [bits_Of.l1] at h⟩
  | k + 1 => by
    obtain ⟨ih0, ih1⟩ := bits_Of.mono_l k
    refine ⟨?_, ?_⟩
    · intro y0 y1 y2 y3
      unfold bits_Of.l0
      repeat' first
      | (with_reducible exact ih0 _ _ _ _)
      | (with_reducible exact ih1 _ _ _ _ _ _)
      | (with_reducible exact LeO.refl _)
      | (with_reducible exact LeO.none _)
      | (with_reducible refine LeO.ite ?_ ?_)
      | (with_reducible refine LeO.bind ?_ (fun _ => ?_))
      | exact ih0 _ _ _ _
      | exact ih1 _ _ _ _ _ _
      | exact LeO.none _
      | refine LeO.ite ?_ ?_
      | refine LeO.bind ?_ (fun _ => ?_)
    · intro y0 y1 y2 y3 y4 y5
      unfold bits_Of.l1
      repeat' first
      | (with_reducible exact ih0 _ _ _ _)
      | (with_reducible exact ih1 _ _ _ _ _ _)
      | (with_reducible exact LeO.refl _)
      | (with_reducible exact LeO.none _)
      | (with_reducible refine LeO.ite ?_ ?_)
      | (with_reducible refine LeO.bind ?_ (fun _ => ?_))
      | exact ih0 _ _ _ _
      | exact ih1 _ _ _ _ _ _
      | exact LeO.none _
      | refine LeO.ite ?_ ?_
      | refine LeO.bind ?_ (fun _ => ?_)
theorem bits_Of.mono : ∀ a0 k, LeO (bits_Of.f k a0) (bits_Of.f (k + 1) a0) := by
  intro a0 k
  obtain ⟨ih0, ih1⟩ := bits_Of.mono_l k
  unfold bits_Of.f
  repeat' first
      | (with_reducible exact ih0 _ _ _ _)
      | (with_reducible exact ih1 _ _ _ _ _ _)
      | (with_reducible exact LeO.refl _)
      | (with_reducible exact LeO.none _)
      | (with_reducible refine LeO.ite ?_ ?_)
      | (with_reducible refine LeO.bind ?_ (fun _ => ?_))
      | exact ih0 _ _ _ _
      | exact ih1 _ _ _ _ _ _
      | exact LeO.none _
      | refine LeO.ite ?_ ?_
      | refine LeO.bind ?_ (fun _ => ?_)
set_option maxHeartbeats 8000000 in
set_option maxRecDepth 100000 in
theorem bits_Of.calls (k : Nat) (A0 : Option Addr) (c0 : Nat) (l0 : List Int) (r : List Int) (w : World) (hr0 : Kd.C (Kd.int .u8) w A0 l0.length l0) (hc0 : l0.length ≤ c0) (h : bits_Of.f k l0 = some r) :
    Calls Try.prog 44 #[.slice A0 l0.length c0] w fun e w' => ∃ v0_ : Value, e = .returned (v0_) ∧ Kd.R (Kd.int .u8) 5 w' w.heap.size (fun _ => True) v0_ r ∧ Below w.heap.size w w' := by
  have HR0 := Aside0.mk hr0
  have HC0 := Aside0.mk hc0
  clear hr0 hc0
  have HB := Aside0.mk (Below.refl w.heap.size w)
  have H : (if 0 ≤ (wrap64 (8 * (l0.length : Int))) then (if (wrap64 (8 * (l0.length : Int)) : Int).toNat ≤ 281474976710656 then (bits_Of.l0 k (([] : List Int)) l0 (l0.length : Int) 0) else (none)) else (none)) = some r := h
  clear h
  obtain ⟨ji2, hji2⟩ : ∃ j_ : Int, (wrap64 (8 * (l0.length : Int))) = j_ := ⟨_, rfl⟩
  replace H : (if 0 ≤ (ji2) then (if (ji2 : Int).toNat ≤ 281474976710656 then (bits_Of.l0 k (([] : List Int)) l0 (l0.length : Int) 0) else (none)) else (none)) = some r := by first | (rw [hji2] at H; exact H) | (simp only [hji2] at H ⊢; exact H)
  have hji2w : (IntKind.i64.wrap (8 * (l0.length : Int))) = ji2 := (i64_w _).trans hji2
  by_cases c3 : 0 ≤ (ji2)
  · rw [if_pos c3] at H
    have c3b0 := eq_true c3
    have c3b1 : decide (0 ≤ (ji2)) = true := decide_eq_true c3
    clear c3
    by_cases c4 : (ji2 : Int).toNat ≤ 281474976710656
    · rw [if_pos c4] at H
      have c4b0 := eq_true c4
      have c4b1 : decide ((ji2 : Int).toNat ≤ 281474976710656) = true := decide_eq_true c4
      clear c4
      obtain ⟨y244, hy244⟩ : ∃ y_ : List Int, y_ = (([] : List Int)) := ⟨_, rfl⟩
      replace H : (bits_Of.l0 k y244 l0 (l0.length : Int) 0) = some r := by first | (rw [hy244]; with_reducible exact H) | (have H2_ := (Option.bind_some _ _).symm.trans H; rw [hy244]; with_reducible exact H2_) | (have H2_ := (Option.bind_some _ _).symm.trans H; with_reducible exact H2_) | with_reducible exact H | (rw [hy244]; exact H) | exact H
      have Ny244 := Aside0.mk hy244
      clear hy244
      have H' := Aside0.mk H
      clear H
      go_enter Try.func44, Try.ntmps44
      go_wp2_with (first | ((with_reducible refine gate_dst (N := 10) rfl ?_); refine R_makecap (Kd.int .u8) _ 5 rfl (N := 10) rfl 28 _ _ rfl ji2 rfl rfl Try.underlying28 (.int .u8 0) 1 info5 rfl (by decide) (by omega) 0 (ok := fun _ => True) (okp := fun _ => True) rfl (fun _ hk => hk) trivial (of_decide_eq_true (by first | (with_reducible assumption) | assumption)) (Nat.le_trans (Nat.mul_le_mul_right _ (of_decide_eq_true (by first | (with_reducible assumption) | assumption) : ji2.toNat ≤ 281474976710656)) (by omega)) (Below.refl _ _) (Nat.le_refl _) ?_; intro v245 w5 ho6 hb hg_ hnew_; clear hg_ hnew_; (first | rw [← Ny244.out] at ho6 | (simp only [Int.reduceToNat] at ho6; rw [← Ny244.out] at ho6)); have n0_ := Aside0.mk (Kd.R_lower ho6 (below_size (by repeat (first | (with_reducible first | exact HB.out | apply below_alloc | apply pw_below_drewN | apply below_drew1) | exact HB.out)))); have n1_ := Aside0.mk (below_step (by repeat (first | (with_reducible first | exact HB.out | apply below_alloc | apply pw_below_drewN | apply below_drew1) | exact HB.out)) hb); clear HB; have HO246 := n0_; have HB := n1_; clear n0_ n1_; clear hb ho6))
      go_loopg [3, 13] k (fun kq v3 v13 w' => ∃ (x3_1 : List Int) (x13_1 : Int), v13 = .int .i64 x13_1 ∧ Aside0 (bits_Of.l0 kq x3_1 l0 (l0.length : Int) x13_1 = some r) ∧ Aside0 (kq ≤ k) ∧ Aside0 (Kd.R (Kd.int .u8) 5 w' w.heap.size (fun _ => True) v3 x3_1) ∧ Aside0 (Below w.heap.size w w'))
      case atStart => exact ⟨(y244), (0), (by first | rfl | (simp; done) | (simp [*]; done)), (by first | exact H' | (simp only [hji2]; exact H')), ⟨Nat.le_refl _⟩, ⟨by (with_reducible repeat (first | apply Kd.R_alloc | apply Kd.R_drewN | apply Kd.R_drew)); exact HO246.out⟩, ⟨by repeat (first | (with_reducible first | exact HB.out | apply below_alloc | apply pw_below_drewN | apply below_drew1) | exact HB.out)⟩⟩
      case round =>
        clear H'
        try clear p2
        try clear c3
        try clear c3b0
        try clear c3b1
        try clear c4
        try clear c4b0
        try clear c4b1
        try clear p6
        obtain ⟨x3_1, x13_1, rfl, HA, HK1, HO_3, HB⟩ := hrel
        cases gk with
        | zero => exact absurd HA.out (by simp [bits_Of.l0])
        | succ k1 =>
          have H := HA.out
          clear HA
          simp only [bits_Of.l0] at H
          by_cases c7 : x13_1 < (l0.length : Int)
          · rw [if_pos c7] at H
            have c7b0 : decide (x13_1 < (l0.length : Int)) = true := decide_eq_true c7
            clear c7
            by_cases c8 : 0 ≤ x13_1
            · rw [if_pos c8] at H
              have c8b0 : decide (0 ≤ x13_1) = true := decide_eq_true c8
              clear c8
              by_cases c9 : x13_1 < (l0.length : Int)
              · rw [if_pos c9] at H
                have c9b0 : decide (x13_1 < (l0.length : Int)) = true := decide_eq_true c9
                clear c9
                have H' := Aside0.mk H
                clear H
                have p247 : 0 ≤ (x13_1 : Int) := of_decide_eq_true (by first | (with_reducible assumption) | assumption)
                have q247 : x13_1 < (l0.length : Int) := of_decide_eq_true (by first | (with_reducible assumption) | assumption)
                obtain ⟨ad247, e247, hx247_0⟩ := Kd.at_int HR0.out x13_1 p247 q247
                cases e247
                replace hx247_0 := (HB.out.cell (World.block_lt_of_cell? w _ hx247_0)).trans hx247_0
                replace p247 := eq_true p247
                replace q247 := eq_true q247
                go_wp2
                go_loopg [3, 17] k1 (fun kq v3 v17 w' => ∃ (x3_2 : List Int) (x17_2 : Int), v17 = .int .i64 x17_2 ∧ Aside0 (bits_Of.l1 kq x3_2 (rd l0 x13_1) l0 (l0.length : Int) x13_1 x17_2 = some r) ∧ Aside0 (kq ≤ k1) ∧ Aside0 (Kd.R (Kd.int .u8) 5 w' w.heap.size (fun _ => True) v3 x3_2) ∧ Aside0 (Below w.heap.size w w'))
                case atStart => exact ⟨(x3_1), (0), (by first | rfl | (simp; done) | (simp [*]; done)), (by first | exact H' | (simp only [hji2]; exact H')), ⟨Nat.le_refl _⟩, ⟨by (with_reducible repeat (first | apply Kd.R_alloc | apply Kd.R_drewN | apply Kd.R_drew)); exact HO_3.out⟩, ⟨by repeat (first | (with_reducible first | exact HB.out | apply below_alloc | apply pw_below_drewN | apply below_drew1) | exact HB.out)⟩⟩
                case round =>
                  clear H'
                  try clear p2
                  try clear q2
                  try clear hx2
                  try clear c3
                  try clear c3b0
                  try clear c3b1
                  try clear c4
                  try clear c4b0
                  try clear c4b1
                  try clear p6
                  try clear c7
                  try clear c7b0
                  try clear c8
                  try clear c8b0
                  try clear c9
                  try clear c9b0
                  try clear hx247_0
                  try clear p2
                  try clear p247
                  try clear p6
                  try clear q247
                  obtain ⟨x3_2, x17_2, rfl, HA, HK2, HO_3, HB⟩ := hrel
                  cases gk with
                  | zero => exact absurd HA.out (by simp [bits_Of.l1])
                  | succ k2 =>
                    have H := HA.out
                    clear HA
                    simp only [bits_Of.l1] at H
                    by_cases c10 : x17_2 < 8
                    · rw [if_pos c10] at H
                      have c10b0 : decide (x17_2 < 8) = true := decide_eq_true c10
                      clear c10
                      by_cases c11 : 0 ≤ x17_2
                      · rw [if_pos c11] at H
                        have c11b0 := eq_true c11
                        have c11b1 : decide (0 ≤ x17_2) = true := decide_eq_true c11
                        clear c11
                        obtain ⟨ji12, hji12⟩ : ∃ j_ : Int, (shr .u8 (rd l0 x13_1) x17_2) = j_ := ⟨_, rfl⟩
                        replace H : (if x3_2.length < 140737488355328 then (bits_Of.l1 k2 (x3_2 ++ [Go.bits .and .u8 (ji12) 1]) (rd l0 x13_1) l0 (l0.length : Int) x13_1 (wrap64 (x17_2 + 1))) else (none)) = some r := by first | (rw [hji12] at H; exact H) | (simp only [hji12] at H ⊢; exact H)
                        have hji12_ : ((rd l0 x13_1) / 2 ^ min x17_2.toNat 8) = ji12 := hji12
                        have hji12z : x17_2 ≤ 8 → ((rd l0 x13_1) / 2 ^ x17_2.toNat) = ji12 := shr_small hji12
                        by_cases c13 : x3_2.length < 140737488355328
                        · rw [if_pos c13] at H
                          have LMc13 := Aside0.mk c13
                          clear c13
                          obtain ⟨y248, hy248⟩ : ∃ y_ : List Int, y_ = (x3_2 ++ [Go.bits .and .u8 (ji12) 1]) := ⟨_, rfl⟩
                          replace H : (bits_Of.l1 k2 y248 (rd l0 x13_1) l0 (l0.length : Int) x13_1 (wrap64 (x17_2 + 1))) = some r := by first | (rw [hy248]; with_reducible exact H) | (have H2_ := (Option.bind_some _ _).symm.trans H; rw [hy248]; with_reducible exact H2_) | (have H2_ := (Option.bind_some _ _).symm.trans H; with_reducible exact H2_) | with_reducible exact H | (rw [hy248]; exact H) | exact H
                          have Ny248 := Aside0.mk hy248
                          clear hy248
                          have H' := Aside0.mk H
                          clear H
                          go_wp2_with (first | ((with_reducible refine gate_builtin (b := .append) (xs := #[.tmp 20, .tmp 25]) rfl ?_); at_builtin; refine Kd.R_append (Kd.int .u8) (w0 := w) w.heap.size rfl (.tmp 20) (.tmp 25) 28 5 (.int .u8 0) 1 rfl Try.underlying28 info5 rfl (by decide) (by omega) u3 x3_2 (Go.bits .and .u8 (ji12) 1) [.int .u8 (Go.bits .and .u8 (ji12) 1)] (fun _ => True) (fun _ => False) rfl rfl ?aP (fun _ hk => hk.elim) ?aF ?aO ?aB ?aS ?aL ?_; (case aP => exact rfl); (case aB => exact (by repeat (first | (with_reducible first | exact HB.out | apply below_alloc | apply pw_below_drewN | apply below_drew1) | exact HB.out))); (case aF => exact (fun _ _ => trivial)); (case aO => exact (by (with_reducible repeat (first | apply Kd.R_alloc | apply Kd.R_drewN | apply Kd.R_drew)); exact HO_3.out)); (case aS => exact (below_size (by repeat (first | (with_reducible first | exact HB.out | apply below_alloc | apply pw_below_drewN | apply below_drew1) | exact HB.out)))); (case aL => have := LMc13.out; omega); intro v249 w14 ho hb hg hat; rw [← Ny248.out] at ho; have n0_ := Aside0.mk (hb); have n1_ := Aside0.mk (ho); clear HB; clear HO_3; have HB := n0_; have HO250 := n1_; clear n0_ n1_; clear ho hb hg hat))
                          go_roundg k2
                          case measure => have := HK1.out; have := HK2.out; omega
                          case rel => exact ⟨(y248), (wrap64 (x17_2 + 1)), (by first | rfl | (simp; done) | (simp [*]; done)), (by first | exact H' | (simp only [hji2, hji12]; exact H')), ⟨by have := HK1.out; have := HK2.out; omega⟩, ⟨by (with_reducible repeat (first | apply Kd.R_alloc | apply Kd.R_drewN | apply Kd.R_drew)); exact HO250.out⟩, ⟨by repeat (first | (with_reducible first | exact HB.out | apply below_alloc | apply pw_below_drewN | apply below_drew1) | exact HB.out)⟩⟩
                        · rw [if_neg c13] at H
                          exact absurd H (by simp)
                      · rw [if_neg c11] at H
                        exact absurd H (by simp)
                    · rw [if_neg c10] at H
                      have c10b0 : decide (x17_2 < 8) = false := decide_eq_false c10
                      clear c10
                      have H' := Aside0.mk H
                      clear H
                      go_wp2
                      go_roundg k2
                      case measure => have := HK1.out; have := HK2.out; omega
                      case rel => exact ⟨(x3_2), (wrap64 (x13_1 + 1)), (by first | rfl | (simp; done) | (simp [*]; done)), (by first | exact H' | (simp only [hji2]; exact H')), ⟨by have := HK1.out; have := HK2.out; omega⟩, ⟨by (with_reducible repeat (first | apply Kd.R_alloc | apply Kd.R_drewN | apply Kd.R_drew)); exact HO_3.out⟩, ⟨by repeat (first | (with_reducible first | exact HB.out | apply below_alloc | apply pw_below_drewN | apply below_drew1) | exact HB.out)⟩⟩
              · rw [if_neg c9] at H
                exact absurd H (by simp)
            · rw [if_neg c8] at H
              exact absurd H (by simp)
          · rw [if_neg c7] at H
            have c7b0 : decide (x13_1 < (l0.length : Int)) = false := decide_eq_false c7
            clear c7
            obtain rfl := Option.some.inj H
            go_wp2
            go_ret
            exact ⟨_, by first | rfl | (simp [errW_none, errW_some] <;> rfl) | (simp only [← hji2]; first | rfl | (simp [errW_none, errW_some] <;> rfl)) | (simp [*, errW_none, errW_some] <;> rfl), by (with_reducible repeat (first | apply Kd.R_alloc | apply Kd.R_drewN | apply Kd.R_drew)); exact HO_3.out, by repeat (first | (with_reducible first | exact HB.out | apply below_alloc | apply pw_below_drewN | apply below_drew1) | exact HB.out)⟩
    · rw [if_neg c4] at H
      exact absurd H (by simp)
  · rw [if_neg c3] at H
    exact absurd H (by simp)

end Go.Proofs.Ytjmclghjhnbafaa.Print

/- A text that a program of this claim (wip/x) laid out of the translation: what Go functions come to, and that they come to it. Lean checks it. -/
namespace Go.Proofs.Ytjmclghjhnbafaa.Print
open Go.RowKit Go.Proofs.YtjmclghjhnbafaaW.PrintWords Go.Proofs.YtjmclghjhnbafaaW.PrintLast Go.Proofs.YtjmclghjhnbafaaW.PrintMore
attribute [local go_sem] max2_int min2_int max_two min_two max_three min_three max_four min_four   -- for this text's walks alone
set_option linter.unusedVariables false
set_option linter.unusedSimpArgs false

/-! ### bits_Clean: function 57 -/
def bits_Clean.l0 : Nat → List Int → List Int → Int → Int → Option (List Int)
  | 0, _, _, _, _ => none
  | k + 1, x3, x9, x10, x11 => if x11 < x10 then (if 0 ≤ x11 then (if x11 < (x9.length : Int) then (if x11 < (x3.length : Int) then (bits_Clean.l0 k (x3.set (x11 : Int).toNat (Go.bits .and .u8 (rd x9 x11) 1)) x9 x10 (wrap64 (x11 + 1))) else (none)) else (none)) else (none)) else (some x3)
def bits_Clean.f (k : Nat) (l0 : List Int) : Option (List Int) := if 0 ≤ (l0.length : Int) then (if ((l0.length : Int) : Int).toNat ≤ 281474976710656 then (bits_Clean.l0 k (List.replicate ((l0.length : Int) : Int).toNat 0) l0 (l0.length : Int) 0) else (none)) else (none)
theorem bits_Clean.mono_l : ∀ k, (∀ y0 y1 y2 y3, LeO (bits_Clean.l0 k y0 y1 y2 y3) (bits_Clean.l0 (k + 1) y0 y1 y2 y3))
  | 0 => fun _ _ _ _ r h => by simp [bits_Clean.l0] at h
  | k + 1 => by
    have ih0 := bits_Clean.mono_l k
    · intro y0 y1 y2 y3
      unfold bits_Clean.l0
      repeat' first
      | (with_reducible exact ih0 _ _ _ _)
      | (with_reducible exact LeO.refl _)
      | (with_reducible exact LeO.none _)
      | (with_reducible refine LeO.ite ?_ ?_)
      | (with_reducible refine LeO.bind ?_ (fun _ => ?_))
      | exact ih0 _ _ _ _
      | exact LeO.none _
      | refine LeO.ite ?_ ?_
      | refine LeO.bind ?_ (fun _ => ?_)
theorem bits_Clean.mono : ∀ a0 k, LeO (bits_Clean.f k a0) (bits_Clean.f (k + 1) a0) := by
  intro a0 k
  have ih0 := bits_Clean.mono_l k
  unfold bits_Clean.f
  repeat' first
      | (with_reducible exact ih0 _ _ _ _)
      | (with_reducible exact LeO.refl _)
      | (with_reducible exact LeO.none _)
      | (with_reducible refine LeO.ite ?_ ?_)
      | (with_reducible refine LeO.bind ?_ (fun _ => ?_))
      | exact ih0 _ _ _ _
      | exact LeO.none _
      | refine LeO.ite ?_ ?_
      | refine LeO.bind ?_ (fun _ => ?_)
set_option maxHeartbeats 8000000 in
set_option maxRecDepth 100000 in
theorem bits_Clean.calls (k : Nat) (A0 : Option Addr) (c0 : Nat) (l0 : List Int) (r : List Int) (w : World) (hr0 : Kd.C (Kd.int .u8) w A0 l0.length l0) (hc0 : l0.length ≤ c0) (h : bits_Clean.f k l0 = some r) :
    Calls Try.prog 57 #[.slice A0 l0.length c0] w fun e w' => ∃ v0_ : Value, e = .returned (v0_) ∧ Kd.R (Kd.int .u8) 5 w' w.heap.size (fun _ => True) v0_ r ∧ Below w.heap.size w w' := by
  have HR0 := Aside0.mk hr0
  have HC0 := Aside0.mk hc0
  clear hr0 hc0
  have HB := Aside0.mk (Below.refl w.heap.size w)
  have H : (if 0 ≤ (l0.length : Int) then (if ((l0.length : Int) : Int).toNat ≤ 281474976710656 then (bits_Clean.l0 k (List.replicate ((l0.length : Int) : Int).toNat 0) l0 (l0.length : Int) 0) else (none)) else (none)) = some r := h
  clear h
  by_cases c2 : 0 ≤ (l0.length : Int)
  · rw [if_pos c2] at H
    have c2b0 := eq_true c2
    have c2b1 : decide (0 ≤ (l0.length : Int)) = true := decide_eq_true c2
    clear c2
    by_cases c3 : ((l0.length : Int) : Int).toNat ≤ 281474976710656
    · rw [if_pos c3] at H
      have c3b0 := eq_true c3
      have c3b1 : decide (((l0.length : Int) : Int).toNat ≤ 281474976710656) = true := decide_eq_true c3
      clear c3
      obtain ⟨y257, hy257⟩ : ∃ y_ : List Int, y_ = (List.replicate ((l0.length : Int) : Int).toNat 0) := ⟨_, rfl⟩
      replace H : (bits_Clean.l0 k y257 l0 (l0.length : Int) 0) = some r := by first | (rw [hy257]; with_reducible exact H) | (have H2_ := (Option.bind_some _ _).symm.trans H; rw [hy257]; with_reducible exact H2_) | (have H2_ := (Option.bind_some _ _).symm.trans H; with_reducible exact H2_) | with_reducible exact H | (rw [hy257]; exact H) | exact H
      have Ny257 := Aside0.mk hy257
      clear hy257
      have H' := Aside0.mk H
      clear H
      go_enter Try.func57, Try.ntmps57
      go_wp2_with (first | ((with_reducible refine gate_dst (N := 8) rfl ?_); refine Kd.R_make (Kd.int .u8) _ 5 rfl (N := 8) rfl 28 _ _ rfl (l0.length : Int) rfl rfl Try.underlying28 (.int .u8 0) 1 info5 rfl (by decide) (by omega) 0 (ok := fun _ => True) (okp := fun _ => True) rfl (fun _ hk => hk) trivial (of_decide_eq_true (by first | (with_reducible assumption) | assumption)) (Nat.le_trans (Nat.mul_le_mul_right _ (of_decide_eq_true (by first | (with_reducible assumption) | assumption) : (l0.length : Int).toNat ≤ 281474976710656)) (by omega)) (Below.refl _ _) (Nat.le_refl _) ?_; intro v258 w4 ho5 hb hg_ hnew_; clear hg_ hnew_; (first | rw [← Ny257.out] at ho5 | (simp only [Int.reduceToNat] at ho5; rw [← Ny257.out] at ho5)); have n0_ := Aside0.mk (Kd.R_lower ho5 (below_size (by repeat (first | (with_reducible first | exact HB.out | apply below_alloc | apply pw_below_drewN | apply below_drew1) | exact HB.out)))); have n1_ := Aside0.mk (below_step (by repeat (first | (with_reducible first | exact HB.out | apply below_alloc | apply pw_below_drewN | apply below_drew1) | exact HB.out)) hb); clear HB; have HO259 := n0_; have HB := n1_; clear n0_ n1_; clear hb ho5))
      go_loopg [11] k (fun kq v11 w' => ∃ (x3_1 : List Int) (x11_1 : Int), v11 = .int .i64 x11_1 ∧ Aside0 (bits_Clean.l0 kq x3_1 l0 (l0.length : Int) x11_1 = some r) ∧ Aside0 (kq ≤ k) ∧ Aside0 (Kd.R (Kd.int .u8) 5 w' w.heap.size (fun _ => True) v258 x3_1) ∧ Aside0 (Below w.heap.size w w'))
      case atStart => exact ⟨(y257), (0), (by first | rfl | (simp; done) | (simp [*]; done)), H', ⟨Nat.le_refl _⟩, ⟨by (with_reducible repeat (first | apply Kd.R_alloc | apply Kd.R_drewN | apply Kd.R_drew)); exact HO259.out⟩, ⟨by repeat (first | (with_reducible first | exact HB.out | apply below_alloc | apply pw_below_drewN | apply below_drew1) | exact HB.out)⟩⟩
      case round =>
        clear H'
        try clear c2
        try clear c2b0
        try clear c2b1
        try clear p2
        try clear c3
        try clear c3b0
        try clear c3b1
        try clear c5
        obtain ⟨x3_1, x11_1, rfl, HA, HK1, HO_3, HB⟩ := hrel
        cases gk with
        | zero => exact absurd HA.out (by simp [bits_Clean.l0])
        | succ k1 =>
          have H := HA.out
          clear HA
          simp only [bits_Clean.l0] at H
          by_cases c6 : x11_1 < (l0.length : Int)
          · rw [if_pos c6] at H
            have c6b0 : decide (x11_1 < (l0.length : Int)) = true := decide_eq_true c6
            clear c6
            by_cases c7 : 0 ≤ x11_1
            · rw [if_pos c7] at H
              have c7b0 : decide (0 ≤ x11_1) = true := decide_eq_true c7
              clear c7
              by_cases c8 : x11_1 < (l0.length : Int)
              · rw [if_pos c8] at H
                have c8b0 : decide (x11_1 < (l0.length : Int)) = true := decide_eq_true c8
                clear c8
                by_cases c9 : x11_1 < (x3_1.length : Int)
                · rw [if_pos c9] at H
                  have c9b0 : decide (x11_1 < (x3_1.length : Int)) = true := decide_eq_true c9
                  clear c9
                  obtain ⟨y261, hy261⟩ : ∃ y_ : List Int, y_ = (x3_1.set (x11_1 : Int).toNat (Go.bits .and .u8 (rd l0 x11_1) 1)) := ⟨_, rfl⟩
                  replace H : (bits_Clean.l0 k1 y261 l0 (l0.length : Int) (wrap64 (x11_1 + 1))) = some r := by first | (rw [hy261]; with_reducible exact H) | (have H2_ := (Option.bind_some _ _).symm.trans H; rw [hy261]; with_reducible exact H2_) | (have H2_ := (Option.bind_some _ _).symm.trans H; with_reducible exact H2_) | with_reducible exact H | (rw [hy261]; exact H) | exact H
                  have Ny261 := Aside0.mk hy261
                  clear hy261
                  have H' := Aside0.mk H
                  clear H
                  have p260 : 0 ≤ (x11_1 : Int) := of_decide_eq_true (by first | (with_reducible assumption) | assumption)
                  have q260 : x11_1 < (l0.length : Int) := of_decide_eq_true (by first | (with_reducible assumption) | assumption)
                  obtain ⟨ad260, e260, hx260_0⟩ := Kd.at_int HR0.out x11_1 p260 q260
                  cases e260
                  replace hx260_0 := (HB.out.cell (World.block_lt_of_cell? w _ hx260_0)).trans hx260_0
                  replace p260 := eq_true p260
                  replace q260 := eq_true q260
                  have p10 : 0 ≤ (x11_1 : Int) := of_decide_eq_true (by first | (with_reducible assumption) | assumption)
                  have q10 : (x11_1 : Int) < ((x3_1.length : Int) : Int) := of_decide_eq_true (by first | (with_reducible assumption) | assumption)
                  obtain ⟨go10, co10, eo10, gb10, gl10, cl10, HG10⟩ := Kd.R_form HO_3.out (by omega)
                  (first | cases eo10 | (injection eo10 with ea_ en_ ec_; (first | subst ea_ | (injection ea_ with ea_; subst ea_)); subst ec_; clear en_))
                  have GB10 := Aside0.mk gb10
                  have GG10 := Aside0.mk HG10
                  clear gb10 gl10 HG10
                  obtain ⟨hx10_0, hf10_0⟩ := Kd.R_celln 0 HO_3.out (x11_1 : Int) p10 q10
                  replace p10 := eq_true p10
                  replace q10 := eq_true q10
                  have HP11 := Kd.R_putg HO_3.out (x11_1 : Int) (Go.bits .and .u8 (rd l0 x11_1) 1)
                  go_wp2_with (first | ((with_reducible refine gate_store (t := 5) (p := 20) rfl ?_); refine store_event (t := 5) (p := 20) (v := ?vo_w12) (w1 := (wr.setCell ⟨go10, (x11_1 : Int).toNat, none⟩ (.int .u8 (Go.bits .and .u8 (rd l0 x11_1) 1)))) ?hg ?ho ?hn ?hr ?_; (case ho => rfl); (case hg => rfl); (case hn => rfl); (case hr => first | (go_simp; done) | (go_simp; simp only [IntKind.wrap_u8, IntKind.wrap_u16, IntKind.wrap_u32, IntKind.wrap_u64]; done) | (go_simp; simp only [IntKind.wrap_u8, IntKind.wrap_u16, IntKind.wrap_u32, IntKind.wrap_u64, Int.tmod_eq_emod_of_nonneg (Int.natCast_nonneg _), Int.emod_emod]; done) | (go_simp; rfl)); intro w12 hw; have hg : wr.grownBy w12 (some go10) := (by rw [hw]; exact HP11.2); have hp_ : Kd.R (Kd.int .u8) 5 w12 w.heap.size (fun _ => True) (.slice (some ⟨go10, 0, none⟩) x3_1.length co10) y261 := (by rw [hw, Ny261.out]; exact HP11.1); clear HP11; have n0_ := Aside0.mk (hp_); have n1_ := Aside0.mk ((by rw [hw]; exact below_set (HB.out) GB10.out : Below w.heap.size w w12)); clear HO_3; clear HB; have HO_3 := n0_; have HB := n1_; clear n0_ n1_; clear hg hw hp_))
                  go_roundg k1
                  case measure => have := HK1.out; omega
                  case rel => exact ⟨(y261), (wrap64 (x11_1 + 1)), (by first | rfl | (simp; done) | (simp [*]; done)), H', ⟨by have := HK1.out; omega⟩, ⟨by (with_reducible repeat (first | apply Kd.R_alloc | apply Kd.R_drewN | apply Kd.R_drew)); exact HO_3.out⟩, ⟨by repeat (first | (with_reducible first | exact HB.out | apply below_alloc | apply pw_below_drewN | apply below_drew1) | exact HB.out)⟩⟩
                · rw [if_neg c9] at H
                  exact absurd H (by simp)
              · rw [if_neg c8] at H
                exact absurd H (by simp)
            · rw [if_neg c7] at H
              exact absurd H (by simp)
          · rw [if_neg c6] at H
            have c6b0 : decide (x11_1 < (l0.length : Int)) = false := decide_eq_false c6
            clear c6
            obtain rfl := Option.some.inj H
            go_wp2
            go_ret
            exact ⟨_, by first | rfl | (simp [errW_none, errW_some] <;> rfl) | (simp [*, errW_none, errW_some] <;> rfl), by (with_reducible repeat (first | apply Kd.R_alloc | apply Kd.R_drewN | apply Kd.R_drew)); exact HO_3.out, by repeat (first | (with_reducible first | exact HB.out | apply below_alloc | apply pw_below_drewN | apply below_drew1) | exact HB.out)⟩
    · rw [if_neg c3] at H
      exact absurd H (by simp)
  · rw [if_neg c2] at H
    exact absurd H (by simp)

end Go.Proofs.Ytjmclghjhnbafaa.Print

/- A text that a program of this claim (wip/x) laid out of the translation: what Go functions come to, and that they come to it. Lean checks it. -/
namespace Go.Proofs.Ytjmclghjhnbafaa.Print
open Go.RowKit Go.Proofs.YtjmclghjhnbafaaW.PrintWords Go.Proofs.YtjmclghjhnbafaaW.PrintLast Go.Proofs.YtjmclghjhnbafaaW.PrintMore
attribute [local go_sem] max2_int min2_int max_two min_two max_three min_three max_four min_four   -- for this text's walks alone
set_option linter.unusedVariables false
set_option linter.unusedSimpArgs false

/-! ### marlineref01_Octets: function 56 -/
mutual
def marlineref01_Octets.l0 : Nat → List Int → List Int → Int → Option (List Int × Bool)
  | 0, _, _, _ => none
  | k + 1, x0, x4, x5 => if x5 < (x0.length : Int) then (marlineref01_Octets.l1 k x0 x4 x5 0 7) else (some (x4, true))
def marlineref01_Octets.l1 : Nat → List Int → List Int → Int → Int → Int → Option (List Int × Bool)
  | 0, _, _, _, _, _ => none
  | k + 1, x0, x4, x5, x6, x7 => if x7 ≥ 0 then (if 0 ≤ (wrap64 (x5 + x7)) then (if (wrap64 (x5 + x7)) < (x0.length : Int) then (marlineref01_Octets.l1 k x0 x4 x5 (wrap64 ((wrap64 (2 * x6)) + (Int.tmod (wrap64 (rd x0 (wrap64 (x5 + x7)))) 2))) (wrap64 (x7 - 1))) else (none)) else (none)) else (if x4.length < 140737488355328 then (marlineref01_Octets.l0 k x0 (x4 ++ [(x6) % 256]) (wrap64 (x5 + 8))) else (none))
end
def marlineref01_Octets.f (k : Nat) (l0 : List Int) : Option (List Int × Bool) := if ((l0.length : Int) % 8) = 0 then (marlineref01_Octets.l0 k l0 (([] : List Int)) 0) else (some (([] : List Int), false))
theorem marlineref01_Octets.mono_l : ∀ k, (∀ y0 y1 y2, LeO (marlineref01_Octets.l0 k y0 y1 y2) (marlineref01_Octets.l0 (k + 1) y0 y1 y2)) ∧ (∀ y0 y1 y2 y3 y4, LeO (marlineref01_Octets.l1 k y0 y1 y2 y3 y4) (marlineref01_Octets.l1 (k + 1) y0 y1 y2 y3 y4))
  | 0 => ⟨fun _ _ _ r h => by simp [marlineref01_Octets.l0] at h, fun _ _ _ _ _ r h => by simp [marlineref01_Octets.l1] at h⟩
  | k + 1 => by
    obtain ⟨ih0, ih1⟩ := marlineref01_Octets.mono_l k
    refine ⟨?_, ?_⟩
    · intro y0 y1 y2
      unfold marlineref01_Octets.l0
      repeat' first
      | (with_reducible exact ih0 _ _ _)
      | (with_reducible exact ih1 _ _ _ _ _)
      | (with_reducible exact LeO.refl _)
      | (with_reducible exact LeO.none _)
      | (with_reducible refine LeO.ite ?_ ?_)
      | (with_reducible refine LeO.bind ?_ (fun _ => ?_))
      | exact ih0 _ _ _
      | exact ih1 _ _ _ _ _
      | exact LeO.none _
      | refine LeO.ite ?_ ?_
      | refine LeO.bind ?_ (fun _ => ?_)
    · intro y0 y1 y2 y3 y4
      unfold marlineref01_Octets.l1
      repeat' first
      | (with_reducible exact ih0 _ _ _)
      | (with_reducible exact ih1 _ _ _ _ _)
      | (with_reducible exact LeO.refl _)
      | (with_reducible exact LeO.none _)
      | (with_reducible refine LeO.ite ?_ ?_)
      | (with_reducible refine LeO.bind ?_ (fun _ => ?_))
      | exact ih0 _ _ _
      | exact ih1 _ _ _ _ _
      | exact LeO.none _
      | refine LeO.ite ?_ ?_
      | refine LeO.bind ?_ (fun _ => ?_)
theorem marlineref01_Octets.mono : ∀ a0 k, LeO (marlineref01_Octets.f k a0) (marlineref01_Octets.f (k + 1) a0) := by
  intro a0 k
  obtain ⟨ih0, ih1⟩ := marlineref01_Octets.mono_l k
  unfold marlineref01_Octets.f
  repeat' first
      | (with_reducible exact ih0 _ _ _)
      | (with_reducible exact ih1 _ _ _ _ _)
      | (with_reducible exact LeO.refl _)
      | (with_reducible exact LeO.none _)
      | (with_reducible refine LeO.ite ?_ ?_)
      | (with_reducible refine LeO.bind ?_ (fun _ => ?_))
      | exact ih0 _ _ _
      | exact ih1 _ _ _ _ _
      | exact LeO.none _
      | refine LeO.ite ?_ ?_
      | refine LeO.bind ?_ (fun _ => ?_)
set_option maxHeartbeats 8000000 in
set_option maxRecDepth 100000 in
theorem marlineref01_Octets.calls (k : Nat) (A0 : Option Addr) (c0 : Nat) (l0 : List Int) (r1 : List Int) (r2 : Bool) (w : World) (hr0 : Kd.C (Kd.int .u8) w A0 l0.length l0) (hc0 : l0.length ≤ c0) (h : marlineref01_Octets.f k l0 = some (r1, r2)) :
    Calls Try.prog 56 #[.slice A0 l0.length c0] w fun e w' => ∃ v0_ : Value, e = .returned (.tuple #[v0_, .bool r2]) ∧ Kd.R (Kd.int .u8) 5 w' w.heap.size (fun _ => True) v0_ r1 ∧ Below w.heap.size w w' := by
  have HR0 := Aside0.mk hr0
  have HC0 := Aside0.mk hc0
  clear hr0 hc0
  have HB := Aside0.mk (Below.refl w.heap.size w)
  have H : (if ((l0.length : Int) % 8) = 0 then (marlineref01_Octets.l0 k l0 (([] : List Int)) 0) else (some (([] : List Int), false))) = some (r1, r2) := h
  clear h
  by_cases c2 : ((l0.length : Int) % 8) = 0
  · rw [if_pos c2] at H
    have c2b0 : (((l0.length : Int) % 8) == 0) = true := beq_iff_eq.mpr c2
    have c2b1 : (((l0.length : Int) % 8) != 0) = false := bne_eq_false_iff_eq.mpr c2
    clear c2
    obtain ⟨y340, hy340⟩ : ∃ y_ : List Int, y_ = (([] : List Int)) := ⟨_, rfl⟩
    replace H : (marlineref01_Octets.l0 k l0 y340 0) = some (r1, r2) := by first | (rw [hy340]; with_reducible exact H) | (have H2_ := (Option.bind_some _ _).symm.trans H; rw [hy340]; with_reducible exact H2_) | (have H2_ := (Option.bind_some _ _).symm.trans H; with_reducible exact H2_) | with_reducible exact H | (rw [hy340]; exact H) | exact H
    have Ny340 := Aside0.mk hy340
    clear hy340
    have H' := Aside0.mk H
    clear H
    go_enter Try.func56, Try.ntmps56
    go_wp2_with (first | ((with_reducible refine gate_dst (N := 12) rfl ?_); refine Kd.R_lit (Kd.int .u8) _ 5 ?hg (N := 12) ?hd (xs := ([] : List Int)) (inner := []) (ok := fun _ => True) (okp := fun _ => True) ?hr ?hp (fun _ hk => hk) trivial (Below.refl _ _) (Nat.le_refl _) (by simp) ?_; (case hd => rfl); (case hg => rfl); (case hr => first | (go_simp; done) | (go_simp; simp only [IntKind.wrap_u8, IntKind.wrap_u16, IntKind.wrap_u32, IntKind.wrap_u64]; done) | (go_simp; simp only [IntKind.wrap_u8, IntKind.wrap_u16, IntKind.wrap_u32, IntKind.wrap_u64, Int.tmod_eq_emod_of_nonneg (Int.natCast_nonneg _), Int.emod_emod]; done) | (go_simp; rfl)); (case hp => exact (Reps.none _ _)); intro v341 w3 ho4 hb hg_ hnew_; clear hg_ hnew_; (first | rw [← Ny340.out] at ho4 | (simp only [Int.reduceToNat] at ho4; rw [← Ny340.out] at ho4)); have n0_ := Aside0.mk (Kd.R_lower ho4 (below_size (by repeat (first | (with_reducible first | exact HB.out | apply below_alloc | apply pw_below_drewN | apply below_drew1) | exact HB.out)))); have n1_ := Aside0.mk (below_step (by repeat (first | (with_reducible first | exact HB.out | apply below_alloc | apply pw_below_drewN | apply below_drew1) | exact HB.out)) hb); clear HB; have HO342 := n0_; have HB := n1_; clear n0_ n1_; clear hb ho4))
    go_loopg [4, 5] k (fun kq v4 v5 w' => ∃ (x4_1 : List Int) (x5_1 : Int), v5 = .int .i64 x5_1 ∧ Aside0 (marlineref01_Octets.l0 kq l0 x4_1 x5_1 = some (r1, r2)) ∧ Aside0 (kq ≤ k) ∧ Aside0 (Kd.R (Kd.int .u8) 5 w' w.heap.size (fun _ => True) v4 x4_1) ∧ Aside0 (Below w.heap.size w w'))
    case atStart => exact ⟨(y340), (0), (by first | rfl | (simp; done) | (simp [*]; done)), H', ⟨Nat.le_refl _⟩, ⟨by (with_reducible repeat (first | apply Kd.R_alloc | apply Kd.R_drewN | apply Kd.R_drew)); exact HO342.out⟩, ⟨by repeat (first | (with_reducible first | exact HB.out | apply below_alloc | apply pw_below_drewN | apply below_drew1) | exact HB.out)⟩⟩
    case round =>
      clear H'
      try clear c2
      try clear c2b0
      try clear c2b1
      try clear p2
      obtain ⟨x4_1, x5_1, rfl, HA, HK1, HO_4, HB⟩ := hrel
      cases gk with
      | zero => exact absurd HA.out (by simp [marlineref01_Octets.l0])
      | succ k1 =>
        have H := HA.out
        clear HA
        simp only [marlineref01_Octets.l0] at H
        by_cases c5 : x5_1 < (l0.length : Int)
        · rw [if_pos c5] at H
          have c5b0 : decide (x5_1 < (l0.length : Int)) = true := decide_eq_true c5
          clear c5
          have H' := Aside0.mk H
          clear H
          go_wp2
          go_loopg [6, 7] k1 (fun kq v6 v7 w' => ∃ (x6_2 : Int) (x7_2 : Int), v6 = .int .i64 x6_2 ∧ v7 = .int .i64 x7_2 ∧ Aside0 (marlineref01_Octets.l1 kq l0 x4_1 x5_1 x6_2 x7_2 = some (r1, r2)) ∧ Aside0 (kq ≤ k1) ∧ Aside0 (Kd.R (Kd.int .u8) 5 w' w.heap.size (fun _ => True) u4 x4_1) ∧ Aside0 (Below w.heap.size w w'))
          case atStart => exact ⟨(0), (7), (by first | rfl | (simp; done) | (simp [*]; done)), (by first | rfl | (simp; done) | (simp [*]; done)), H', ⟨Nat.le_refl _⟩, ⟨by (with_reducible repeat (first | apply Kd.R_alloc | apply Kd.R_drewN | apply Kd.R_drew)); exact HO_4.out⟩, ⟨by repeat (first | (with_reducible first | exact HB.out | apply below_alloc | apply pw_below_drewN | apply below_drew1) | exact HB.out)⟩⟩
          case round =>
            clear H'
            try clear c2
            try clear c2b0
            try clear c2b1
            try clear p2
            try clear c5
            try clear c5b0
            try clear p2
            obtain ⟨x6_2, x7_2, rfl, rfl, HA, HK2, HO_4, HB⟩ := hrel
            cases gk with
            | zero => exact absurd HA.out (by simp [marlineref01_Octets.l1])
            | succ k2 =>
              have H := HA.out
              clear HA
              simp only [marlineref01_Octets.l1] at H
              by_cases c6 : x7_2 ≥ 0
              · rw [if_pos c6] at H
                have c6b0 : decide (0 ≤ x7_2) = true := decide_eq_true c6
                clear c6
                obtain ⟨ji7, hji7⟩ : ∃ j_ : Int, (wrap64 (x5_1 + x7_2)) = j_ := ⟨_, rfl⟩
                replace H : (if 0 ≤ (ji7) then (if (ji7) < (l0.length : Int) then (marlineref01_Octets.l1 k2 l0 x4_1 x5_1 (wrap64 ((wrap64 (2 * x6_2)) + (Int.tmod (wrap64 (rd l0 (ji7))) 2))) (wrap64 (x7_2 - 1))) else (none)) else (none)) = some (r1, r2) := by first | (rw [hji7] at H; exact H) | (simp only [hji7] at H ⊢; exact H)
                have hji7w : (IntKind.i64.wrap (x5_1 + x7_2)) = ji7 := (i64_w _).trans hji7
                by_cases c8 : 0 ≤ (ji7)
                · rw [if_pos c8] at H
                  have c8b0 : decide (0 ≤ (ji7)) = true := decide_eq_true c8
                  clear c8
                  by_cases c9 : (ji7) < (l0.length : Int)
                  · rw [if_pos c9] at H
                    have c9b0 : decide ((ji7) < (l0.length : Int)) = true := decide_eq_true c9
                    clear c9
                    have H' := Aside0.mk H
                    clear H
                    have p343 : 0 ≤ ((ji7) : Int) := of_decide_eq_true (by first | (with_reducible assumption) | assumption)
                    have q343 : (ji7) < (l0.length : Int) := of_decide_eq_true (by first | (with_reducible assumption) | assumption)
                    obtain ⟨ad343, e343, hx343_0⟩ := Kd.at_int HR0.out (ji7) p343 q343
                    cases e343
                    replace hx343_0 := (HB.out.cell (World.block_lt_of_cell? w _ hx343_0)).trans hx343_0
                    replace p343 := eq_true p343
                    replace q343 := eq_true q343
                    go_wp2
                    go_roundg k2
                    case measure => have := HK1.out; have := HK2.out; omega
                    case rel => exact ⟨(wrap64 ((wrap64 (2 * x6_2)) + (Int.tmod (wrap64 (rd l0 (ji7))) 2))), (wrap64 (x7_2 - 1)), (by first | rfl | (simp; done) | (simp only [← hji7] <;> (first | rfl | simp)) | (simp [*]; done)), (by first | rfl | (simp; done) | (simp [*]; done)), (by first | exact H' | (simp only [hji7]; exact H')), ⟨by have := HK1.out; have := HK2.out; omega⟩, ⟨by (with_reducible repeat (first | apply Kd.R_alloc | apply Kd.R_drewN | apply Kd.R_drew)); exact HO_4.out⟩, ⟨by repeat (first | (with_reducible first | exact HB.out | apply below_alloc | apply pw_below_drewN | apply below_drew1) | exact HB.out)⟩⟩
                  · rw [if_neg c9] at H
                    exact absurd H (by simp)
                · rw [if_neg c8] at H
                  exact absurd H (by simp)
              · rw [if_neg c6] at H
                have c6b0 : decide (0 ≤ x7_2) = false := decide_eq_false c6
                clear c6
                by_cases c10 : x4_1.length < 140737488355328
                · rw [if_pos c10] at H
                  have LMc10 := Aside0.mk c10
                  clear c10
                  obtain ⟨y344, hy344⟩ : ∃ y_ : List Int, y_ = (x4_1 ++ [(x6_2) % 256]) := ⟨_, rfl⟩
                  replace H : (marlineref01_Octets.l0 k2 l0 y344 (wrap64 (x5_1 + 8))) = some (r1, r2) := by first | (rw [hy344]; with_reducible exact H) | (have H2_ := (Option.bind_some _ _).symm.trans H; rw [hy344]; with_reducible exact H2_) | (have H2_ := (Option.bind_some _ _).symm.trans H; with_reducible exact H2_) | with_reducible exact H | (rw [hy344]; exact H) | exact H
                  have Ny344 := Aside0.mk hy344
                  clear hy344
                  have H' := Aside0.mk H
                  clear H
                  go_wp2_with (first | ((with_reducible refine gate_builtin (b := .append) (xs := #[.tmp 34, .tmp 37]) rfl ?_); at_builtin; refine Kd.R_append (Kd.int .u8) (w0 := w) w.heap.size rfl (.tmp 34) (.tmp 37) 28 5 (.int .u8 0) 1 rfl Try.underlying28 info5 rfl (by decide) (by omega) u4 x4_1 ((x6_2) % 256) [.int .u8 ((x6_2) % 256)] (fun _ => True) (fun _ => False) rfl rfl ?aP (fun _ hk => hk.elim) ?aF ?aO ?aB ?aS ?aL ?_; (case aP => exact rfl); (case aB => exact (by repeat (first | (with_reducible first | exact HB.out | apply below_alloc | apply pw_below_drewN | apply below_drew1) | exact HB.out))); (case aF => exact (fun _ _ => trivial)); (case aO => exact (by (with_reducible repeat (first | apply Kd.R_alloc | apply Kd.R_drewN | apply Kd.R_drew)); exact HO_4.out)); (case aS => exact (below_size (by repeat (first | (with_reducible first | exact HB.out | apply below_alloc | apply pw_below_drewN | apply below_drew1) | exact HB.out)))); (case aL => have := LMc10.out; omega); intro v345 w11 ho hb hg hat; rw [← Ny344.out] at ho; have n0_ := Aside0.mk (hb); have n1_ := Aside0.mk (ho); clear HB; clear HO_4; have HB := n0_; have HO346 := n1_; clear n0_ n1_; clear ho hb hg hat))
                  go_roundg k2
                  case measure => have := HK1.out; have := HK2.out; omega
                  case rel => exact ⟨(y344), (wrap64 (x5_1 + 8)), (by first | rfl | (simp; done) | (simp [*]; done)), H', ⟨by have := HK1.out; have := HK2.out; omega⟩, ⟨by (with_reducible repeat (first | apply Kd.R_alloc | apply Kd.R_drewN | apply Kd.R_drew)); exact HO346.out⟩, ⟨by repeat (first | (with_reducible first | exact HB.out | apply below_alloc | apply pw_below_drewN | apply below_drew1) | exact HB.out)⟩⟩
                · rw [if_neg c10] at H
                  exact absurd H (by simp)
        · rw [if_neg c5] at H
          have c5b0 : decide (x5_1 < (l0.length : Int)) = false := decide_eq_false c5
          clear c5
          simp only [Option.some.injEq, Prod.mk.injEq] at H
          obtain ⟨rfl, rfl⟩ := H
          go_wp2
          go_ret2
          exact ⟨_, by first | rfl | (simp [errW_none, errW_some] <;> rfl) | (simp [*, errW_none, errW_some] <;> rfl), by (with_reducible repeat (first | apply Kd.R_alloc | apply Kd.R_drewN | apply Kd.R_drew)); exact HO_4.out, by repeat (first | (with_reducible first | exact HB.out | apply below_alloc | apply pw_below_drewN | apply below_drew1) | exact HB.out)⟩
  · rw [if_neg c2] at H
    have c2b0 : (((l0.length : Int) % 8) == 0) = false := beq_eq_false_iff_ne.mpr c2
    have c2b1 : (((l0.length : Int) % 8) != 0) = true := bne_iff_ne.mpr c2
    simp only [Option.some.injEq, Prod.mk.injEq] at H
    obtain ⟨rfl, rfl⟩ := H
    go_enter Try.func56, Try.ntmps56
    go_wp2
    go_ret2
    exact ⟨_, by first | rfl | (simp [errW_none, errW_some] <;> rfl) | (simp [*, errW_none, errW_some] <;> rfl), by first | exact Kd.R_nil _ _ _ _ _ | exact Kd.N_nil _ _ _ _ _ | exact Kd.V_nil _ _ _ _ _ | exact Kd.Q_nil _ _ _ _ _ | exact Kd.S_nil _ _ _ _ _, by repeat (first | (with_reducible first | exact HB.out | apply below_alloc | apply pw_below_drewN | apply below_drew1) | exact HB.out)⟩

end Go.Proofs.Ytjmclghjhnbafaa.Print

/- What the printed functions of the layers 1 and 6 and their references come to, in plain words. -/
namespace Go.Proofs.Ytjmclghjhnbafaa.Sp
open Go.RowKit Go.Proofs.Ytjmclghjhnbafaa.Print Go.Proofs.YtjmclghjhnbafaaW.PrintWords Go.Proofs.YtjmclghjhnbafaaW.PrintLast Go.Proofs.Ytjmclghjhnbafaa.Pl
set_option linter.unusedVariables false
theorem Of_l1 (l : List Int) (x : List Int) (c : Int) (hc : Byte c) (hx : x.length ≤ 9000000) (i : Nat) (r : List Int) (h : Ev (fun k => bits_Of.l0 k (x ++ eight c) l (l.length : Int) (wrap64 ((i : Int) + 1))) r) : Ev (fun k => bits_Of.l1 k x c l (l.length : Int) i 0) r := by
  have b0 : Go.bits .and .u8 (shr .u8 c 0) 1 = c % 2 := (bit_at hc 0 (by omega)).trans (by simp)
  have b1 : Go.bits .and .u8 (shr .u8 c 1) 1 = c / 2 % 2 := bit_at hc 1 (by omega)
  have b2 : Go.bits .and .u8 (shr .u8 c 2) 1 = c / 4 % 2 := bit_at hc 2 (by omega)
  have b3 : Go.bits .and .u8 (shr .u8 c 3) 1 = c / 8 % 2 := bit_at hc 3 (by omega)
  have b4 : Go.bits .and .u8 (shr .u8 c 4) 1 = c / 16 % 2 := bit_at hc 4 (by omega)
  have b5 : Go.bits .and .u8 (shr .u8 c 5) 1 = c / 32 % 2 := bit_at hc 5 (by omega)
  have b6 : Go.bits .and .u8 (shr .u8 c 6) 1 = c / 64 % 2 := bit_at hc 6 (by omega)
  have b7 : Go.bits .and .u8 (shr .u8 c 7) 1 = c / 128 % 2 := bit_at hc 7 (by omega)
  have s : ∀ j : Int, 0 ≤ j → j < 8 → wrap64 (j + 1) = j + 1 := fun j h0 h1 => w64 (by omega) (by omega)
  have e : x ++ eight c = (((((((x ++ [c % 2]) ++ [c / 2 % 2]) ++ [c / 4 % 2]) ++ [c / 8 % 2]) ++ [c / 16 % 2]) ++ [c / 32 % 2]) ++ [c / 64 % 2]) ++ [c / 128 % 2] := by simp [eight]
  rw [e] at h
  refine Ev.step (f := fun k => bits_Of.l1 k (x ++ [c % 2]) c l (l.length : Int) i 1) (fun k => by simp only [bits_Of.l1]; rw [if_pos (by omega), if_pos (by omega), if_pos (by omega), b0, s 0 (by omega) (by omega)]; rfl) ?_
  refine Ev.step (f := fun k => bits_Of.l1 k _ c l (l.length : Int) i 2) (fun k => by simp only [bits_Of.l1]; rw [if_pos (by omega), if_pos (by omega), if_pos (by simp; omega), b1, s 1 (by omega) (by omega)]; rfl) ?_
  refine Ev.step (f := fun k => bits_Of.l1 k _ c l (l.length : Int) i 3) (fun k => by simp only [bits_Of.l1]; rw [if_pos (by omega), if_pos (by omega), if_pos (by simp; omega), b2, s 2 (by omega) (by omega)]; rfl) ?_
  refine Ev.step (f := fun k => bits_Of.l1 k _ c l (l.length : Int) i 4) (fun k => by simp only [bits_Of.l1]; rw [if_pos (by omega), if_pos (by omega), if_pos (by simp; omega), b3, s 3 (by omega) (by omega)]; rfl) ?_
  refine Ev.step (f := fun k => bits_Of.l1 k _ c l (l.length : Int) i 5) (fun k => by simp only [bits_Of.l1]; rw [if_pos (by omega), if_pos (by omega), if_pos (by simp; omega), b4, s 4 (by omega) (by omega)]; rfl) ?_
  refine Ev.step (f := fun k => bits_Of.l1 k _ c l (l.length : Int) i 6) (fun k => by simp only [bits_Of.l1]; rw [if_pos (by omega), if_pos (by omega), if_pos (by simp; omega), b5, s 5 (by omega) (by omega)]; rfl) ?_
  refine Ev.step (f := fun k => bits_Of.l1 k _ c l (l.length : Int) i 7) (fun k => by simp only [bits_Of.l1]; rw [if_pos (by omega), if_pos (by omega), if_pos (by simp; omega), b6, s 6 (by omega) (by omega)]; rfl) ?_
  refine Ev.step (f := fun k => bits_Of.l1 k _ c l (l.length : Int) i 8) (fun k => by simp only [bits_Of.l1]; rw [if_pos (by omega), if_pos (by omega), if_pos (by simp; omega), b7, s 7 (by omega) (by omega)]; rfl) ?_
  exact Ev.step (fun k => by simp only [bits_Of.l1]; rw [if_neg (by omega)]) h
theorem Of_l0 (l : List Int) (hl : Lim l) (hb : Bytes l) : ∀ (t : List Int) (i : Nat) (x : List Int), l.drop i = t → x.length ≤ 8 * i → Ev (fun k => bits_Of.l0 k x l (l.length : Int) i) (x ++ ofOct t)
  | [], i, x, h1, hx => by
    have h3 := drop_nil_len h1
    rw [ofOct, List.append_nil]
    exact Ev.step (fun k => by simp only [bits_Of.l0]; rw [if_neg (by omega)]) (Ev.now _)
  | c :: t, i, x, h1, hx => by
    obtain ⟨e1, e2, e3⟩ := rd_drop h1
    unfold Lim at hl
    have ih := Of_l0 l hl hb t (i + 1) (x ++ eight c) e2 (by simp [eight]; omega)
    rw [ofOct, ← List.append_assoc]
    have hc : Byte c := by
      have h4 := hb.drop i
      rw [h1] at h4
      exact h4.head
    refine Ev.step (fun k => by simp only [bits_Of.l0]; rw [if_pos (by omega), if_pos (by omega), if_pos (by omega), e1]) (Of_l1 l x c hc (by omega) i _ ?_)
    rw [suc i (by omega)]
    exact ih
theorem Of (l : List Int) (hl : Lim l) (hb : Bytes l) : Ev (fun k => bits_Of.f k l) (ofOct l) := by
  have h := Of_l0 l hl hb l 0 [] rfl (by simp)
  unfold Lim at hl
  refine Ev.congr (fun k => by unfold bits_Of.f; rw [w64 (by omega) (by omega), if_pos (by omega), if_pos (by omega)]; rfl) h
theorem Clean_l0 (l : List Int) (hl : Lim l) (hb : Bytes l) : ∀ (t : List Int) (i : Nat) (d : List Int), l.drop i = t → d.length = i → Ev (fun k => bits_Clean.l0 k (d ++ List.replicate t.length 0) l (l.length : Int) i) (d ++ clean t)
  | [], i, d, h1, hd => by
    have h3 := drop_nil_len h1
    exact Ev.step (fun k => by simp only [bits_Clean.l0]; rw [if_neg (by omega)]; rfl) (Ev.now _)
  | c :: t, i, d, h1, hd => by
    obtain ⟨e1, e2, e3⟩ := rd_drop h1
    unfold Lim at hl
    have hc : Byte c := by
      have h4 := hb.drop i
      rw [h1] at h4
      exact h4.head
    have ih := Clean_l0 l hl hb t (i + 1) (d ++ [c % 2]) e2 (by simp [hd])
    have e : d ++ clean (c :: t) = (d ++ [c % 2]) ++ clean t := by simp [clean]
    rw [e]
    refine Ev.step (fun k => ?_) ih
    simp only [bits_Clean.l0]
    rw [if_pos (by omega), if_pos (by omega), if_pos (by omega), if_pos (by simp [hd]; omega), e1, and1 hc, suc i (by omega), Int.toNat_natCast, List.length_cons, List.replicate_succ, List.set_append_right _ _ (by omega), hd, Nat.sub_self, List.set_cons_zero]
    simp
theorem Clean (l : List Int) (hl : Lim l) (hb : Bytes l) : Ev (fun k => bits_Clean.f k l) (clean l) := by
  have h := Clean_l0 l hl hb l 0 [] rfl rfl
  unfold Lim at hl
  refine Ev.congr (fun k => ?_) h
  unfold bits_Clean.f
  rw [if_pos (by omega), if_pos (by omega), Int.toNat_natCast]
  rfl
theorem or_bit {x b : Int} (j : Nat) (hj : j < 8) (hx : 0 ≤ x ∧ x < 2 ^ j) (hb : b = 0 ∨ b = 1) : Go.bits .or .u8 x (shl .u8 b j) = x + 2 ^ j * b := by
  have hp : (2 : Int) ^ j ≤ 2 ^ 7 := by
    have : (2 : Nat) ^ j ≤ 2 ^ 7 := Nat.pow_le_pow_right (by omega) (by omega)
    exact_mod_cast this
  have hp0 : (0 : Int) < 2 ^ j := Int.pow_pos (by omega)
  have e7 : (2 : Int) ^ 7 = 128 := by decide
  have hs : shl .u8 b j = b * 2 ^ j := by
    unfold shl
    rw [Int.toNat_natCast, Nat.min_eq_left (by simp [IntKind.bits]; omega), IntKind.wrap_u8]
    rcases hb with rfl | rfl <;> simp <;> omega
  rw [hs]
  have hbits := bits_join .u8 8 (by decide) wraps_u8 j
  have hx1 := hx.1; have hx2 := hx.2
  rcases hb with rfl | rfl
  · obtain ⟨n, rfl⟩ := Int.eq_ofNat_of_zero_le hx.1
    have h := u8_or_nat n 0 (by omega) (by omega)
    simp at h ⊢
    exact h
  · obtain ⟨n, rfl⟩ := Int.eq_ofNat_of_zero_le hx.1
    have hn : n < 2 ^ j := by exact_mod_cast hx2
    have e : (2 : Int) ^ j = ((2 ^ j : Nat) : Int) := by simp
    have h := u8_or_nat n (2 ^ j) (by omega) (by omega)
    have h5 := nat_join j (2 ^ j) n (by simp) hn
    rw [Int.one_mul, Int.mul_one, e, h, Nat.or_comm, h5]
    omega

/-- One round: the bit at place 8 q + j. -/
theorem Octets_round (l : List Int) (hl : Lim l) (q j : Nat) (hj : j < 8) (b : Int) (hb : Byte b) (hq : 8 * q + j < l.length) (hr : rd l ((8 * q + j : Nat) : Int) = b) (d : List Int) (hd : d.length = q) (z : List Int) (x : Int) (hx : 0 ≤ x ∧ x < 2 ^ j) (k : Nat) :
    bits_Octets.l0 (k + 1) (d ++ x :: z) l (l.length : Int) ((8 * q + j : Nat) : Int) = bits_Octets.l0 k (d ++ (x + 2 ^ j * (b % 2)) :: z) l (l.length : Int) ((8 * q + (j + 1) : Nat) : Int) := by
  unfold Lim at hl
  have e1 : Int.tdiv ((8 * q + j : Nat) : Int) 8 = (q : Int) := by rw [Int.tdiv_eq_ediv_of_nonneg (by omega)]; omega
  have e2 : Int.tmod ((8 * q + j : Nat) : Int) 8 = (j : Int) := by rw [Int.tmod_eq_emod_of_nonneg (by omega)]; omega
  have e3 : rd (d ++ x :: z) (q : Int) = x := (rd_drop (t := z) (by rw [List.drop_append_of_le_length (by omega), List.drop_eq_nil_of_le (by omega), List.nil_append])).1
  simp only [bits_Octets.l0]
  rw [e1, e2, w64 (x := (q : Int)) (by omega) (by omega), if_pos (by omega), if_pos (by omega), if_pos (by omega), if_pos (by omega), if_pos (by simp [hd]; omega), if_pos (by omega), e3, hr, and1 hb, or_bit j hj hx (by omega), suc _ (by omega), Int.toNat_natCast, List.set_append_right _ _ (by omega), hd, Nat.sub_self, List.set_cons_zero]
  rfl
theorem Octets_l0 (l : List Int) (hl : Lim l) (hb : Bytes l) : ∀ (t : List Int) (q : Nat) (d : List Int), l.drop (8 * q) = t → t.length % 8 = 0 → d.length = q → Ev (fun k => bits_Octets.l0 k (d ++ List.replicate (t.length / 8) 0) l (l.length : Int) ((8 * q : Nat) : Int)) (d ++ octs t, true)
  | [], q, d, h1, h0, hd => by
    have h3 := drop_nil_len h1
    exact Ev.step (fun k => by simp only [bits_Octets.l0]; rw [if_neg (by omega)]; rfl) (Ev.now _)
  | a0 :: a1 :: a2 :: a3 :: a4 :: a5 :: a6 :: a7 :: t, q, d, h1, h0, hd => by
    obtain ⟨r0, g1, lt0⟩ := rd_drop h1
    obtain ⟨r1, g2, lt1⟩ := rd_drop g1
    obtain ⟨r2, g3, lt2⟩ := rd_drop g2
    obtain ⟨r3, g4, lt3⟩ := rd_drop g3
    obtain ⟨r4, g5, lt4⟩ := rd_drop g4
    obtain ⟨r5, g6, lt5⟩ := rd_drop g5
    obtain ⟨r6, g7, lt6⟩ := rd_drop g6
    obtain ⟨r7, g8, lt7⟩ := rd_drop g7
    have hbt : Bytes (a0 :: a1 :: a2 :: a3 :: a4 :: a5 :: a6 :: a7 :: t) := by rw [← h1]; exact hb.drop _
    have b0 := hbt.head; have b1 := hbt.tail.head; have b2 := hbt.tail.tail.head; have b3 := hbt.tail.tail.tail.head; have b4 := hbt.tail.tail.tail.tail.head; have b5 := hbt.tail.tail.tail.tail.tail.head; have b6 := hbt.tail.tail.tail.tail.tail.tail.head; have b7 := hbt.tail.tail.tail.tail.tail.tail.tail.head
    simp only [List.length_cons] at h0
    have ih := Octets_l0 l hl hb t (q + 1) (d ++ [oct8 a0 a1 a2 a3 a4 a5 a6 a7]) g8 (by omega) (by simp [hd])
    have e : (d ++ octs (a0 :: a1 :: a2 :: a3 :: a4 :: a5 :: a6 :: a7 :: t)) = (d ++ [oct8 a0 a1 a2 a3 a4 a5 a6 a7]) ++ octs t := by simp [octs]
    have el : (a0 :: a1 :: a2 :: a3 :: a4 :: a5 :: a6 :: a7 :: t).length / 8 = t.length / 8 + 1 := by simp only [List.length_cons]; omega
    rw [e, el, List.replicate_succ]
    have R := fun j hj b hb hq hr x hx k => Octets_round l hl q j hj b hb hq hr d hd (List.replicate (t.length / 8) 0) x hx k
    refine Ev.step (fun k => R 0 (by omega) a0 b0 lt0 r0 0 (by omega) k) ?_
    refine Ev.step (fun k => R 1 (by omega) a1 b1 lt1 r1 _ (by simp only [Int.pow_zero, Int.pow_one]; omega) k) ?_
    refine Ev.step (fun k => R 2 (by omega) a2 b2 lt2 r2 _ (by simp only [Int.pow_zero, Int.pow_one, Int.reducePow]; omega) k) ?_
    refine Ev.step (fun k => R 3 (by omega) a3 b3 lt3 r3 _ (by simp only [Int.pow_zero, Int.pow_one, Int.reducePow]; omega) k) ?_
    refine Ev.step (fun k => R 4 (by omega) a4 b4 lt4 r4 _ (by simp only [Int.pow_zero, Int.pow_one, Int.reducePow]; omega) k) ?_
    refine Ev.step (fun k => R 5 (by omega) a5 b5 lt5 r5 _ (by simp only [Int.pow_zero, Int.pow_one, Int.reducePow]; omega) k) ?_
    refine Ev.step (fun k => R 6 (by omega) a6 b6 lt6 r6 _ (by simp only [Int.pow_zero, Int.pow_one, Int.reducePow]; omega) k) ?_
    refine Ev.step (fun k => R 7 (by omega) a7 b7 lt7 r7 _ (by simp only [Int.pow_zero, Int.pow_one, Int.reducePow]; omega) k) ?_
    have ev : 0 + 2 ^ 0 * (a0 % 2) + 2 ^ 1 * (a1 % 2) + 2 ^ 2 * (a2 % 2) + 2 ^ 3 * (a3 % 2) + 2 ^ 4 * (a4 % 2) + 2 ^ 5 * (a5 % 2) + 2 ^ 6 * (a6 % 2) + 2 ^ 7 * (a7 % 2) = oct8 a0 a1 a2 a3 a4 a5 a6 a7 := by
      unfold oct8; simp only [Int.pow_zero, Int.pow_one, Int.reducePow]; omega
    rw [ev]
    rw [List.append_assoc] at ih
    exact ih
  | [_], q, d, h1, h0, hd | [_, _], q, d, h1, h0, hd | [_, _, _], q, d, h1, h0, hd | [_, _, _, _], q, d, h1, h0, hd | [_, _, _, _, _], q, d, h1, h0, hd | [_, _, _, _, _, _], q, d, h1, h0, hd | [_, _, _, _, _, _, _], q, d, h1, h0, hd => by simp at h0
theorem Octets (l : List Int) (hl : Lim l) (hb : Bytes l) : Ev (fun k => bits_Octets.f k l) (if l.length % 8 = 0 then (octs l, true) else ([], false)) := by
  by_cases h : l.length % 8 = 0
  · rw [if_pos h]
    have h2 := Octets_l0 l hl hb l 0 [] rfl h rfl
    unfold Lim at hl
    refine Ev.congr (fun k => ?_) h2
    unfold bits_Octets.f
    rw [if_pos (by omega), w64 (by omega) (by omega), if_pos (by omega), if_pos (by omega)]
    rw [show ((l.length : Int) / 8).toNat = l.length / 8 by omega]
    rfl
  · rw [if_neg h]
    exact Ev.congr (fun k => by unfold bits_Octets.f; rw [if_neg (by omega)]) (Ev.now _)

theorem rOctets_l1 (l : List Int) (hl : Lim l) (hb : Bytes l) (i : Nat) (a0 a1 a2 a3 a4 a5 a6 a7 : Int) (t : List Int) (h : l.drop i = a0 :: a1 :: a2 :: a3 :: a4 :: a5 :: a6 :: a7 :: t) (x : List Int) (hx : x.length ≤ 1000000) {r : List Int × Bool}
    (hr : Ev (fun k => marlineref01_Octets.l0 k l (x ++ [oct8 a0 a1 a2 a3 a4 a5 a6 a7]) ((i + 8 : Nat) : Int)) r) : Ev (fun k => marlineref01_Octets.l1 k l x i 0 7) r := by
  obtain ⟨r0, g1, lt0⟩ := rd_drop h
  obtain ⟨r1, g2, lt1⟩ := rd_drop g1
  obtain ⟨r2, g3, lt2⟩ := rd_drop g2
  obtain ⟨r3, g4, lt3⟩ := rd_drop g3
  obtain ⟨r4, g5, lt4⟩ := rd_drop g4
  obtain ⟨r5, g6, lt5⟩ := rd_drop g5
  obtain ⟨r6, g7, lt6⟩ := rd_drop g6
  obtain ⟨r7, g8, lt7⟩ := rd_drop g7
  have hbt : Bytes (a0 :: a1 :: a2 :: a3 :: a4 :: a5 :: a6 :: a7 :: t) := by rw [← h]; exact hb.drop _
  have b0 := hbt.head; have b1 := hbt.tail.head; have b2 := hbt.tail.tail.head; have b3 := hbt.tail.tail.tail.head; have b4 := hbt.tail.tail.tail.tail.head; have b5 := hbt.tail.tail.tail.tail.tail.head; have b6 := hbt.tail.tail.tail.tail.tail.tail.head; have b7 := hbt.tail.tail.tail.tail.tail.tail.tail.head
  unfold Lim at hl
  have step : ∀ (j : Nat) (b n : Int), rd l ((i + j : Nat) : Int) = b → Byte b → i + j < l.length → j ≤ 7 → 0 ≤ n → n ≤ 1000 → ∀ k, marlineref01_Octets.l1 (k + 1) l x i n j = marlineref01_Octets.l1 k l x i (2 * n + b % 2) ((j : Int) - 1) := by
    intro j b n h1 h2 h3 h4 h5 h6 k
    have := h2.1; have := h2.2
    simp only [marlineref01_Octets.l1]
    rw [w64 (x := (i : Int) + j) (by omega) (by omega), if_pos (by omega), if_pos (by omega), if_pos (by omega), show (i : Int) + j = ((i + j : Nat) : Int) by omega, h1, w64 (x := 2 * n) (by omega) (by omega), w64 (x := b) (by omega) (by omega), Int.tmod_eq_emod_of_nonneg (by omega), w64 (x := 2 * n + b % 2) (by omega) (by omega), w64 (x := (j : Int) - 1) (by omega) (by omega)]
  have e : ∀ (n : Int), n = oct8 a0 a1 a2 a3 a4 a5 a6 a7 → Ev (fun k => marlineref01_Octets.l1 k l x i n (-1)) r := by
    rintro n rfl
    refine Ev.step (fun k => ?_) hr
    simp only [marlineref01_Octets.l1]
    rw [if_neg (by omega), if_pos (by omega), w64 (by omega) (by omega), Int.emod_eq_of_lt (by unfold oct8; omega) (by unfold oct8; omega)]
    rfl
  refine Ev.step (fun k => step 7 a7 0 r7 b7 lt7 (by omega) (by omega) (by omega) k) ?_
  refine Ev.step (fun k => step 6 a6 _ r6 b6 lt6 (by omega) (by omega) (by omega) k) ?_
  refine Ev.step (fun k => step 5 a5 _ r5 b5 lt5 (by omega) (by omega) (by omega) k) ?_
  refine Ev.step (fun k => step 4 a4 _ r4 b4 lt4 (by omega) (by omega) (by omega) k) ?_
  refine Ev.step (fun k => step 3 a3 _ r3 b3 lt3 (by omega) (by omega) (by omega) k) ?_
  refine Ev.step (fun k => step 2 a2 _ r2 b2 lt2 (by omega) (by omega) (by omega) k) ?_
  refine Ev.step (fun k => step 1 a1 _ r1 b1 lt1 (by omega) (by omega) (by omega) k) ?_
  refine Ev.step (fun k => step 0 a0 _ r0 b0 lt0 (by omega) (by omega) (by omega) k) ?_
  exact e _ (by unfold oct8; omega)
theorem rOctets_l0 (l : List Int) (hl : Lim l) (hb : Bytes l) : ∀ (t : List Int) (i : Nat) (d : List Int), l.drop i = t → t.length % 8 = 0 → d.length ≤ i → Ev (fun k => marlineref01_Octets.l0 k l d (i : Int)) (d ++ octs t, true)
  | [], i, d, h1, h0, hd => by
    have h3 := drop_nil_len h1
    rw [octs, List.append_nil]
    exact Ev.step (fun k => by simp only [marlineref01_Octets.l0]; rw [if_neg (by omega)]) (Ev.now _)
    all_goals simp
  | a0 :: a1 :: a2 :: a3 :: a4 :: a5 :: a6 :: a7 :: t, i, d, h1, h0, hd => by
    have hlen := drop_len h1
    simp only [List.length_cons] at h0 hlen
    have g8 : l.drop (i + 8) = t := by
      have := congrArg (List.drop 8) h1
      rw [List.drop_drop] at this
      simpa using this
    have ih := rOctets_l0 l hl hb t (i + 8) (d ++ [oct8 a0 a1 a2 a3 a4 a5 a6 a7]) g8 (by omega) (by simp; omega)
    have e : (d ++ octs (a0 :: a1 :: a2 :: a3 :: a4 :: a5 :: a6 :: a7 :: t)) = (d ++ [oct8 a0 a1 a2 a3 a4 a5 a6 a7]) ++ octs t := by simp [octs]
    rw [e]
    have hll := hl
    unfold Lim at hll
    exact Ev.step (fun k => by simp only [marlineref01_Octets.l0]; rw [if_pos (by omega)]) (rOctets_l1 l hl hb i a0 a1 a2 a3 a4 a5 a6 a7 t h1 d (by omega) ih)
  | [_], i, d, h1, h0, hd | [_, _], i, d, h1, h0, hd | [_, _, _], i, d, h1, h0, hd | [_, _, _, _], i, d, h1, h0, hd | [_, _, _, _, _], i, d, h1, h0, hd | [_, _, _, _, _, _], i, d, h1, h0, hd | [_, _, _, _, _, _, _], i, d, h1, h0, hd => by simp at h0
theorem rOctets (l : List Int) (hl : Lim l) (hb : Bytes l) : Ev (fun k => marlineref01_Octets.f k l) (if l.length % 8 = 0 then (octs l, true) else ([], false)) := by
  by_cases h : l.length % 8 = 0
  · rw [if_pos h]
    refine Ev.congr (fun k => ?_) (rOctets_l0 l hl hb l 0 [] rfl h (by simp))
    unfold marlineref01_Octets.f
    rw [if_pos (by omega)]
    rfl
  · rw [if_neg h]
    exact Ev.congr (fun k => by unfold marlineref01_Octets.f; rw [if_neg (by omega)]) (Ev.now _)
end Go.Proofs.Ytjmclghjhnbafaa.Sp

/- What the synchronous deframer tells of a chunk of bits, in plain words; what it keeps is small. No condition but the rows' lengths. -/
namespace Go.Proofs.Ytjmclghjhnbafaa.Print
open Go.RowKit Go.Proofs.YtjmclghjhnbafaaW.PrintWords Go.Proofs.YtjmclghjhnbafaaW.PrintLast Go.Proofs.YtjmclghjhnbafaaW.PrintMore
set_option linter.unusedVariables false
set_option linter.unusedSimpArgs false
/-- The octets that bits are; none where they are no whole octets. -/
def soc (l : List Int) : List Int := if l.length % 8 = 0 then Go.Proofs.Ytjmclghjhnbafaa.Pl.octs l else []
theorem soc_f (l : List Int) (hl : l.length ≤ 1000000) (hb : Go.Proofs.Ytjmclghjhnbafaa.Pl.Bytes l) : ∃ (k : Nat) (bo : Bool), bits_Octets.f k l = some (soc l, bo) := by
  obtain ⟨k, hk⟩ := Ev.rounds (Go.Proofs.Ytjmclghjhnbafaa.Sp.Octets l hl hb)
  unfold soc
  split at hk
  · rename_i h
    rw [if_pos h]
    exact ⟨k, _, hk⟩
  · rename_i h
    rw [if_neg h]
    exact ⟨k, _, hk⟩
def sbit (b : Int) : Bool := Go.bits .and .u8 b 1 == 1
def s00 : Sst := ⟨[], 0, false, false, 0, false, false⟩
def sstep (most : Int) (p : List S54 × Sst) (b : Int) : List S54 × Sst :=
  if sbit b = true then (p.1, { p.2 with ones := wrap64 (p.2.ones + 1) })
  else if p.2.ones = 6 then (if p.2.any = true then p.1 ++ [⟨skind most p.2, sseg most p.2 (soc p.2.bits)⟩] else p.1, s00)
  else (p.1, { srow most p.2 with zero := true, stuff := (p.2.ones == 5), ones := 0 })
def sfeed (most : Int) (s : Sst) (l : List Int) : List S54 × Sst := l.foldl (sstep most) ([], s)
theorem sfold_take (most : Int) (s : Sst) (l : List Int) (i : Nat) (h : i < l.length) : sfeed most s (l.take (i + 1)) = sstep most (sfeed most s (l.take i)) l[i] := by
  unfold sfeed
  rw [List.take_succ_eq_append_getElem h, List.foldl_append]
  rfl
theorem sput_bytes (most b : Int) (hb : 0 ≤ b ∧ b < 256) : ∀ (n : Nat) (s : Sst), Go.Proofs.Ytjmclghjhnbafaa.Pl.Bytes s.bits → Go.Proofs.Ytjmclghjhnbafaa.Pl.Bytes (sput most b n s).bits
  | 0, s, h => h
  | n + 1, s, h => by
    have ih := sput_bytes most b hb n s h
    simp only [sput, sput1]
    split
    · exact Go.Proofs.Ytjmclghjhnbafaa.Pl.Bytes.append ih (Go.Proofs.Ytjmclghjhnbafaa.Pl.Bytes.cons hb Go.Proofs.Ytjmclghjhnbafaa.Pl.Bytes.nil)
    · exact ih
theorem ssettle_bytes (most : Int) (s : Sst) (h : Go.Proofs.Ytjmclghjhnbafaa.Pl.Bytes s.bits) : Go.Proofs.Ytjmclghjhnbafaa.Pl.Bytes (ssettle most s).bits := by
  unfold ssettle
  split
  · split
    · exact h
    · exact sput_bytes most 0 (by omega) 1 { s with any := true } h
  · exact h
theorem srow_bytes (most : Int) (s : Sst) (h : Go.Proofs.Ytjmclghjhnbafaa.Pl.Bytes s.bits) : Go.Proofs.Ytjmclghjhnbafaa.Pl.Bytes (srow most s).bits :=
  sput_bytes most 1 (by omega) _ _ (show Go.Proofs.Ytjmclghjhnbafaa.Pl.Bytes (srow1 (ssettle most s)).bits from ssettle_bytes most s h)
theorem sput_ones (most b : Int) : ∀ (n : Nat) (s : Sst), (sput most b n s).ones = s.ones
  | 0, s => rfl
  | n + 1, s => sput_ones most b n s
theorem srow_ones (most : Int) (s : Sst) : (srow most s).ones = s.ones := by
  unfold srow
  rw [sput_ones]
  exact ssettle_ones most s
/-- What is kept is small enough for n bits more. -/
structure Sok (s : Sst) (n : Nat) : Prop where
  len : s.bits.length + 6 * n ≤ 1000000
  byt : Go.Proofs.Ytjmclghjhnbafaa.Pl.Bytes s.bits
  on0 : 0 ≤ s.ones
  on1 : s.ones + n ≤ 1000000000
theorem Sok.step {most : Int} {p : List S54 × Sst} {n : Nat} (h : Sok p.2 (n + 1)) (b : Int) : Sok (sstep most p b).2 n ∧ (sstep most p b).1.length ≤ p.1.length + 1 := by
  obtain ⟨h1, h2, h3, h4⟩ := h
  unfold sstep
  split
  · have w : wrap64 (p.2.ones + 1) = p.2.ones + 1 := by unfold wrap64; omega
    refine ⟨⟨?_, ?_, ?_, ?_⟩, ?_⟩
    · simp only; omega
    · exact h2
    · simp only; rw [w]; omega
    · simp only; rw [w]; omega
    · simp
  · split
    · refine ⟨⟨?_, ?_, ?_, ?_⟩, ?_⟩
      · simp only [s00, List.length_nil]; omega
      · exact Go.Proofs.Ytjmclghjhnbafaa.Pl.Bytes.nil
      · simp only [s00]; omega
      · simp only [s00]; omega
      · simp only; split
        · simp
        · omega
    · have hr := srow_len most p.2
      refine ⟨⟨?_, ?_, ?_, ?_⟩, ?_⟩
      · simp only; omega
      · exact srow_bytes most p.2 h2
      · simp only; omega
      · simp only; omega
      · simp
theorem Sok.fold (most : Int) : ∀ (l : List Int) (p : List S54 × Sst) (n : Nat), Sok p.2 (n + l.length) → Sok (l.foldl (sstep most) p).2 n ∧ (l.foldl (sstep most) p).1.length ≤ p.1.length + l.length
  | [], p, n, h => ⟨h, by simp⟩
  | c :: t, p, n, h => by
    have h1 := Sok.step (most := most) (p := p) (n := n + t.length) (by simpa [Nat.add_assoc] using h) c
    have ih := Sok.fold most t (sstep most p c) n h1.1
    rw [List.foldl_cons]
    refine ⟨ih.1, ?_⟩
    have := ih.2
    have := h1.2
    simp only [List.length_cons]
    omega
theorem Sok.feed {most : Int} {s : Sst} {l : List Int} (h : Sok s l.length) (i : Nat) (hi : i ≤ l.length) : Sok (sfeed most s (l.take i)).2 (l.length - i) ∧ (sfeed most s (l.take i)).1.length ≤ i := by
  have e : (l.take i).length = i := by rw [List.length_take]; omega
  have h2 := Sok.fold most (l.take i) ([], s) (l.length - i) (by rw [e, show l.length - i + i = l.length by omega]; exact h)
  rw [e] at h2
  simpa [sfeed] using h2
end Go.Proofs.Ytjmclghjhnbafaa.Print

/- The walk of the synchronous deframer's Feed: what it tells and keeps is what the plain words say. No condition but the rows' lengths. -/
namespace Go.Proofs.Ytjmclghjhnbafaa.Print
open Go.RowKit Go.Proofs.YtjmclghjhnbafaaW.PrintWords Go.Proofs.YtjmclghjhnbafaaW.PrintLast Go.Proofs.YtjmclghjhnbafaaW.PrintMore
attribute [local go_sem] max2_int min2_int max_two min_two max_three min_three max_four min_four
set_option linter.unusedVariables false
set_option linter.unusedSimpArgs false
theorem info54 : (Try.prog.info? 54).map (fun i => (i.zero, i.size, i.bytes)) = some (some (.agg #[.int .i64 0, .slice none 0 0]), 2, 32) := by kernel_rfl
theorem Lives.grow {w0 w W W' : World} {P0_ : Nat → Prop} {g : Nat} {most : Int} {s : Sst} {u vo vo' : Value} {outs outs' : List S54} (h : Lives w0 w P0_ g most s u vo outs W) (hg : g < w.heap.size)
    (ho : Kd.S k54 54 W' w0.heap.size (fun k_ => w.heap.size ≤ k_ ∧ some k_ ≠ u.ownBlock) vo' outs') (hb : Below w0.heap.size w0 W') (hgr : W.grownBy W' vo.ownBlock) : Lives w0 w P0_ g most s u vo' outs' W' := by
  refine ⟨blk_grown h.cell hgr (fun he => ?_), ?_, ho, hb, Kept.of_grown hgr h.kept (fun k hk => .inr ((Kd.S_R h.out).1 k hk).1)⟩
  · have := ((Kd.S_R h.out).1 g he.symm).1
    omega
  · have h1 := Kd.R_grown (ok := own P0_ w u) h.ownP hgr (fun k hk he => ((Kd.S_R h.out).1 k he.symm).2 hk.2)
    exact Kd.R_mono h1 (fun k hk => hk.1)
set_option maxHeartbeats 16000000 in
set_option maxRecDepth 100000 in
theorem sf_feed (P0_ : Nat → Prop) (g : Nat) (u : Value) (most : Int) (s : Sst) (A : Option Addr) (c0 : Nat) (l : List Int) (w0 w : World) (hB : Below w0.heap.size w0 w)
    (hg : w.heap[g]? = some (.cells (scells most u s) 70 (0, 0))) (hge : w0.heap.size ≤ g) (hP : ¬ P0_ g) (ho : Kd.R (Kd.int .u8) 5 w w0.heap.size P0_ u s.bits)
    (hC : ∀ W', Kept w W' (fun k_ => P0_ k_ ∨ k_ = g) → Kd.C (Kd.int .u8) W' A l.length l) (hs : Sok s l.length) :
    Calls Try.prog 25 #[.pointer (some ⟨g, 0, none⟩), .slice A l.length c0] w fun x_ w' => ∃ vo u' : Value, x_ = .returned vo ∧ Lives w0 w P0_ g most (sfeed most s l).2 u' vo (sfeed most s l).1 w' := by
  have hu70 := Try.underlying70
  have hu54 := Try.underlying54
  have HGL := Aside0.mk (blk_lt hg)
  have HGE := Aside0.mk hge
  have HP := Aside0.mk hP
  have HC := Aside0.mk hC
  have HLL := Aside0.mk (show l.length ≤ 200000 from by have := hs.len; omega)
  have HSK := Aside0.mk hs
  have L0 := Aside0.mk (Lives.start hB hg ho)
  clear hB hg hge hP ho hC hs
  go_enter Try.func25, Try.ntmps25
  go_wp2
  go_loopg [5, 12] (l.length + 1) (fun kq v5 v12 w' => ∃ (x : Int) (u' : Value), v12 = .int .i64 x ∧ Aside0 (0 ≤ x ∧ x.toNat + kq = l.length + 1) ∧ Aside0 (Lives w0 w P0_ g most (sfeed most s (l.take x.toNat)).2 u' v5 (sfeed most s (l.take x.toNat)).1 w'))
  case atStart => exact ⟨0, u, rfl, ⟨Int.le_refl _, by simp⟩, L0⟩
  case round =>
    obtain ⟨x, u', rfl, hk, HL⟩ := hrel
    by_cases hi : x < (l.length : Int)
    · have hi0 : decide (x < (l.length : Int)) = true := decide_eq_true hi
      have p0 : 0 ≤ x := hk.out.1
      obtain ⟨ad, eA, hx0⟩ := Kd.at_int (HC.out wr HL.out.kept) x p0 hi
      subst eA
      have hcx : rd l x = l[x.toNat]'(by omega) := by
        unfold rd
        rw [List.getD_eq_getElem?_getD, List.getElem?_eq_getElem (by omega)]
        rfl
      have hstep := sfold_take most s l x.toNat (by omega)
      rw [← hcx] at hstep
      have hsk := HSK.out.feed (most := most) x.toNat (by omega)
      generalize rd l x = c at hx0 hstep
      generalize sfeed most s (l.take x.toNat) = F at HL hstep hsk
      obtain ⟨outs, bits, many, any, broken, ones, zero, stuff⟩ := F
      obtain ⟨⟨hk1, hk2, hk3, hk4⟩, hk5⟩ := hsk
      simp only at hk1 hk2 hk3 hk4 hk5
      obtain ⟨ks, bo, hoc⟩ := soc_f bits (by omega) hk2
      have LEN := Aside0.mk (show outs.length ≤ 200000 ∧ bits.length < 1000000000 from by have := HLL.out; omega)
      have LEN10 := Aside0.mk (show bits.length + 10 < 1000000000 from by omega)
      have ON0 := Aside0.mk hk3
      have HOC := Aside0.mk hoc
      have HS := Aside0.mk hstep
      have HI := Aside0.mk hi
      have PX := Aside0.mk p0
      have hx1 : wrap64 (x + 1) = x + 1 := by have := HLL.out; unfold wrap64; omega
      have hx2 : (x + 1).toNat = x.toNat + 1 := by omega
      have HX2 := Aside0.mk hx2
      clear hcx hstep hx2 hk1 hk2 hk3 hk4 hk5 hoc
      replace p0 := eq_true p0
      replace hi := eq_true hi
      have hz5 : wr.cell? ⟨g, 5, none⟩ = some (.int .i64 ones) := (blk_cell HL.out.cell 5).trans rfl
      have hf5 := blk_frozen HL.out.cell 5
      cases gk with
      | zero =>
        have := hk.out.2
        have := HI.out
        omega
      | succ k1 =>
        have done_ : ∀ (u2 vo2 : Value) (W2 : World) (p : List S54 × Sst), sstep most (outs, ⟨bits, many, any, broken, ones, zero, stuff⟩) c = p → Lives w0 w P0_ g most p.2 u2 vo2 p.1 W2 → Lives w0 w P0_ g most (sfeed most s (l.take (x + 1).toNat)).2 u2 vo2 (sfeed most s (l.take (x + 1).toNat)).1 W2 := by
          intro u2 vo2 W2 p hp h
          rw [HX2.out, HS.out, hp]
          exact h
        have DN := Aside0.mk done_
        clear done_
        cases hsb : sbit c with
        | true =>
          have cb : (Go.bits .and .u8 c 1 == 1) = true := hsb
          have SB := Aside0.mk hsb
          clear hsb
          go_wp2
          have HL1 := Aside0.mk (HL.out.set HGL.out HGE.out HP.out (s' := ⟨bits, many, any, broken, wrap64 (ones + 1), zero, stuff⟩) 5 (.int .i64 (wrap64 (ones + 1))) rfl rfl)
          go_roundg k1
          case measure => have := hk.out.2; have := HI.out; omega
          case rel => exact ⟨x + 1, u', (by first | rfl | (rw [hx1]; done) | (simp [hx1]; done)), ⟨by have := PX.out; have := hk.out; omega⟩, ⟨DN.out u' _ _ (outs, ⟨bits, many, any, broken, wrap64 (ones + 1), zero, stuff⟩) (by simp [sstep, SB.out]) (HL1.out)⟩⟩
        | false =>
          have cb : (Go.bits .and .u8 c 1 == 1) = false := hsb
          have SB := Aside0.mk hsb
          clear hsb
          by_cases h6 : ones = 6
          · subst h6
            cases any with
            | true =>
              go_wp2_with (first | (go_at_call 40; refine (sf_end (own P0_ w u') g u' most ⟨bits, many, true, broken, 6, zero, stuff⟩ ks (soc bits) bo w0 wr HL.out.bel HL.out.cell HGE.out (own_not HP.out HGL.out) HL.out.ownP LEN.out.2 HOC.out).mono ?_; rintro x_ w2 ⟨v, u2, rfl, hv, hu2, hc2, hb2, hk2⟩; have HL2 := Aside0.mk (HL.out.next (s' := s00) HGL.out HGE.out hc2 (Kd.R_mono hu2 (fun _ h => .inl h)) hb2 (hk2.mono (fun _ h => .inr h))); have HSO := Aside0.mk (HL.out.nextOld HGL.out (Kd.R_mono hu2 (fun _ h => .inl h)) (hk2.mono (fun _ h => .inr h))); have HV2 := Aside0.mk hv; have HU2 := Aside0.mk hu2; have HSZ := Aside0.mk hk2.1; clear hc2 hv hu2 hb2 hk2; obtain ⟨Av, cv, ev⟩ := Kd.R_slice HV2.out; subst ev) | ((with_reducible refine gate_dst (N := 8) rfl ?_); refine box_event ?hg (N := 8) ?hd (cs := #[.int .i64 0, .slice none 0 0]) (t := 54) ?hr ?_; (case hd => rfl); (case hg => rfl); (case hr => first | (go_simp; done) | (go_simp; rfl)); intro gs hgs w3 hbox hb; have BS := Aside0.mk hbox; have GS := Aside0.mk ((by rw [hgs]; exact Nat.le_refl _) : w2.heap.size ≤ gs); have HBX := Aside0.mk hb; clear hbox hb hgs; have hs0 : w3.cell? ⟨gs, 0, none⟩ = some (.int .i64 0) := (blk_cell BS.out 0).trans rfl; have hs1 : w3.cell? ⟨gs, 1, none⟩ = some (.slice none 0 0) := (blk_cell BS.out 1).trans rfl; have hfs0 := blk_frozen BS.out 0; have hfs1 := blk_frozen BS.out 1) | ((with_reducible refine gate_builtin (b := .append) (xs := #[.tmp 37, .tmp 39]) rfl ?_); at_builtin; have HW := Aside0.mk (show Below w2.heap.size w2 ((w3.setCell ⟨gs, 0, none⟩ (.int .i64 (skind most ⟨bits, many, true, broken, 6, zero, stuff⟩))).setCell ⟨gs, 1, none⟩ (.slice Av (sseg most ⟨bits, many, true, broken, 6, zero, stuff⟩ (soc bits)).length cv)) from below_set (below_set HBX.out GS.out) GS.out); refine Kd.S_append k54 (w0 := w0) w0.heap.size rfl (.tmp 37) (.tmp 39) 46 54 (.agg #[.int .i64 0, .slice none 0 0]) 32 rfl Try.underlying46 info54 rfl (by decide) (by omega) _ outs (⟨skind most ⟨bits, many, true, broken, 6, zero, stuff⟩, sseg most ⟨bits, many, true, broken, 6, zero, stuff⟩ (soc bits)⟩ : S54) [.int .i64 (skind most ⟨bits, many, true, broken, 6, zero, stuff⟩), .slice Av (sseg most ⟨bits, many, true, broken, 6, zero, stuff⟩ (soc bits)).length cv] (fun k_ => w.heap.size ≤ k_ ∧ some k_ ≠ u2.ownBlock) (fun k_ => wr.heap.size ≤ k_) rfl (by first | rfl | (simp; done) | (simp; rfl) | (go_simp; done)) ?aP ?aK ?aF ?aO ?aB ?aS ?aL ?_; (case aP => exact k54_mkM _ _ _ (⟨skind most ⟨bits, many, true, broken, 6, zero, stuff⟩, sseg most ⟨bits, many, true, broken, 6, zero, stuff⟩ (soc bits)⟩ : S54) (Kd.R_mono (Kd.R_lower (Kd.R_bound (Kd.R_below HV2.out HW.out)) HL.out.bel.size) (fun _ hk => hk.2.1))); (case aK => exact (fun k hk => ⟨⟨Nat.le_trans HL.out.kept.1 hk, fun he => by have := R_ownlt HL.out.row k (HU2.out.1 k he.symm).2.symm; omega⟩, fun he => by have := Kd.S_lt HL.out.out k he.symm; omega⟩)); (case aF => exact (fun k hk => ⟨Nat.le_trans HL.out.kept.1 (Nat.le_trans HSZ.out (Nat.le_trans HW.out.size hk)), fun he => by have := R_ownlt HL2.out.row k he.symm; have := HW.out.size; omega⟩)); (case aO => exact Kd.S_mono (Kd.S_below HSO.out HW.out) (fun k hk => ⟨hk.1, by have := hk.2; omega⟩)); (case aB => exact (HL2.out.below HW.out).bel); (case aS => exact (HL2.out.below HW.out).bel.size); (case aL => have := LEN.out.1; omega); intro vo2 w4 ho4 hb4 hg4 hat4; have HL5 := Aside0.mk ((HL2.out.below HW.out).grow HGL.out ho4 hb4 hg4); clear ho4 hb4 hg4 hat4))
              go_roundg k1
              case measure => have := hk.out.2; have := HI.out; omega
              case rel => exact ⟨x + 1, u2, (by first | rfl | (rw [hx1]; done) | (simp [hx1]; done)), ⟨by have := PX.out; have := hk.out; omega⟩, ⟨DN.out u2 _ _ (outs ++ [⟨skind most ⟨bits, many, true, broken, 6, zero, stuff⟩, sseg most ⟨bits, many, true, broken, 6, zero, stuff⟩ (soc bits)⟩], s00) (by simp [sstep, SB.out]) (HL5.out)⟩⟩
            | false =>
              go_wp2_with (first | (go_at_call 40; refine (sf_end (own P0_ w u') g u' most ⟨bits, many, false, broken, 6, zero, stuff⟩ ks (soc bits) bo w0 wr HL.out.bel HL.out.cell HGE.out (own_not HP.out HGL.out) HL.out.ownP LEN.out.2 HOC.out).mono ?_; rintro x_ w2 ⟨v, u2, rfl, hv, hu2, hc2, hb2, hk2⟩; have HL2 := Aside0.mk (HL.out.next (s' := s00) HGL.out HGE.out hc2 (Kd.R_mono hu2 (fun _ h => .inl h)) hb2 (hk2.mono (fun _ h => .inr h))); have HSO := Aside0.mk (HL.out.nextOld HGL.out (Kd.R_mono hu2 (fun _ h => .inl h)) (hk2.mono (fun _ h => .inr h))); have HV2 := Aside0.mk hv; have HU2 := Aside0.mk hu2; have HSZ := Aside0.mk hk2.1; clear hc2 hv hu2 hb2 hk2; obtain ⟨Av, cv, ev⟩ := Kd.R_slice HV2.out; subst ev) | ((with_reducible refine gate_dst (N := 8) rfl ?_); refine box_event ?hg (N := 8) ?hd (cs := #[.int .i64 0, .slice none 0 0]) (t := 54) ?hr ?_; (case hd => rfl); (case hg => rfl); (case hr => first | (go_simp; done) | (go_simp; rfl)); intro gs hgs w3 hbox hb; have BS := Aside0.mk hbox; have GS := Aside0.mk ((by rw [hgs]; exact Nat.le_refl _) : w2.heap.size ≤ gs); have HBX := Aside0.mk hb; clear hbox hb hgs; have hs0 : w3.cell? ⟨gs, 0, none⟩ = some (.int .i64 0) := (blk_cell BS.out 0).trans rfl; have hs1 : w3.cell? ⟨gs, 1, none⟩ = some (.slice none 0 0) := (blk_cell BS.out 1).trans rfl; have hfs0 := blk_frozen BS.out 0; have hfs1 := blk_frozen BS.out 1))
              have HW := Aside0.mk (show Below w2.heap.size w2 ((w3.setCell ⟨gs, 0, none⟩ (.int .i64 (skind most ⟨bits, many, false, broken, 6, zero, stuff⟩))).setCell ⟨gs, 1, none⟩ (.slice Av (sseg most ⟨bits, many, false, broken, 6, zero, stuff⟩ (soc bits)).length cv)) from below_set (below_set HBX.out GS.out) GS.out)
              go_roundg k1
              case measure => have := hk.out.2; have := HI.out; omega
              case rel => exact ⟨x + 1, u2, (by first | rfl | (rw [hx1]; done) | (simp [hx1]; done)), ⟨by have := PX.out; have := hk.out; omega⟩, ⟨DN.out u2 _ _ (outs, s00) (by simp [sstep, SB.out]) (HL2.out.below HW.out)⟩⟩
          · have h60 : (ones == 6) = false := beq_eq_false_iff_ne.mpr h6
            have H6 := Aside0.mk h6
            clear h6
            go_wp2_with (first | (go_at_call 41; refine (sf_row (own P0_ w u') g u' most ⟨bits, many, any, broken, ones, zero, stuff⟩ w0 wr HL.out.bel HL.out.cell HGE.out (own_not HP.out HGL.out) HL.out.ownP LEN10.out ON0.out).mono ?_; rintro x_ w2 ⟨rfl, u2, hl2⟩; have HL2 := Aside0.mk (HL.out.then_ HGL.out HGE.out hl2); clear hl2; obtain ⟨gz0, gz1, gz2, gz3, gz4, gz5, gz6, gz7, gf0, gf1, gf2, gf3, gf4, gf5, gf6, gf7⟩ := HL2.out.facts; rw [srow_ones] at gz5; simp only at gz5; clear gz0 gz1 gz2 gz3 gz4 gf0 gf1 gf2 gf3 gf4))
            have HL3 := Aside0.mk (((HL2.out.set HGL.out HGE.out HP.out (s' := { srow most ⟨bits, many, any, broken, ones, zero, stuff⟩ with zero := true }) 6 (.bool true) rfl rfl).set HGL.out HGE.out HP.out (s' := { srow most ⟨bits, many, any, broken, ones, zero, stuff⟩ with zero := true, stuff := (ones == 5) }) 7 (.bool (ones == 5)) rfl rfl).set HGL.out HGE.out HP.out (s' := { srow most ⟨bits, many, any, broken, ones, zero, stuff⟩ with zero := true, stuff := (ones == 5), ones := 0 }) 5 (.int .i64 0) rfl rfl)
            go_roundg k1
            case measure => have := hk.out.2; have := HI.out; omega
            case rel => exact ⟨x + 1, u2, (by first | rfl | (rw [hx1]; done) | (simp [hx1]; done)), ⟨by have := PX.out; have := hk.out; omega⟩, ⟨DN.out u2 _ _ (outs, { srow most ⟨bits, many, any, broken, ones, zero, stuff⟩ with zero := true, stuff := (ones == 5), ones := 0 }) (by simp only [sstep]; rw [if_neg (by rw [SB.out]; decide), if_neg H6.out]) (HL3.out)⟩⟩
    · have hi0 : decide (x < (l.length : Int)) = false := decide_eq_false hi
      have e1 : l.take x.toNat = l := List.take_of_length_le (by have := hk.out.1; omega)
      have HLF := HL
      rw [e1] at HLF
      go_wp2
      go_ret
      exact ⟨_, rfl, u', HLF.out⟩
end Go.Proofs.Ytjmclghjhnbafaa.Print
